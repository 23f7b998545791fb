/-
 Part of the proof.
-/
import Derived.Test.YteogojgnkjegmaaGreatDoorXb
set_option linter.all false
set_option maxRecDepth 8000
set_option maxHeartbeats 8000000
namespace Go.ay
open Go
variable{rec:LoopState->aQ Code->Loop}
section
variable{P:bF}{r:aQ Nat}{W:aY}{D:ab Nat}{n:c7}{Q:cE}{am G:bv}{an J N:ab ax}{M:Array bS}{Z:ab bS}{w:aY}
def CI(P:bF)(b:eg)(o:ab aj){Y y:Type}(Z:Y->ab ax)(f:y->ab aj)(step:Nat->y->Y->Y->Prop)(stop:Nat->Y->Prop)(R u:ab ax)(K:Y):Prop:=
 ∀(l:Nat) (i:Type) (b4:i->Y) (G X:Nat->i->Prop) (S:i->ax) (p:i),b4 p=K->G 0 p->
  (∀k i c q,G k c->step k i (b4 c) q->jG P l (f i) (S c::Z q) (λv J=>∃a t,v=.bool t/\(t=true->G (k+1) a)/\(t=false->X (k+1) a)/\J=S a::Z (b4 a)))->
  ar P b (.func (.yield l) #[] #[]::o) (S p::R) (λ_ J=>∃a k,((G k a/\stop k (b4 a))\/X k a)/\J=S a::(Z (b4 a)++u))
def tk{i:Type}(G:Nat->i->Prop)(X:dj->Nat->i->Prop)(k:Nat)(e:dj)(c:i):Prop:=
 match e with
 |.normal=>G k c
 |e=>X e k c
def ah.Ww{Y km t:Type}{g:bd}{aU:ab Tmp}{assign body:Code}{iO:eg}{d:ab aj}{Z:Y->ab ax}{f:km->ab aj}{step:Nat->km->Y->Y->Prop}{stop:Nat->Y->Prop}{z u T:ab ax}{gN:Y}(hV:CI P iO d Z f step stop z u gN)(b4:t->Y)(S:t->ab ax)(G:Nat->t->Prop)(X:dj->Nat->t->Prop)(y:t)(Yk:b4 y=gN)(ep:G 0 y)(round:∀k i c q l rec,G k c->step k i (b4 c) q->o1 rec->∀(eh:aY) (iP:ab Nat) (K:cE),(∀e m,fv e=true->tk G X (k+1) e m->∀a w,H eh iP (iN l rec::(S m++Z (b4 m))) w->K e a w)->ah P (some l) eh iP ⟨n.n,[]⟩ (Exit.then (pU P l body K) qQ) assign (o2 aU (f i) am) (bZ l rec .normal::(S c++Z q)))(done:∀k c b,G k c->stop k (b4 c)->Out W D ⟨n.n,b::n.ds⟩ Q .normal am (fC b::(S c++(Z (b4 c)++(u++T)))))(left:∀k c b e,fv e=true->eL e=false->X e k c->Out W D ⟨n.n,b::n.ds⟩ Q e am (fC b::(S c++(Z (b4 c)++(u++T)))))(bU:aO am g=some (.func (.func iO) #[] d.toArray):=by exact rfl)(Ye:jE P iO=true:=by kernel_rfl)(Yg:ak an (S y++z) T:=by(repeat(first|exact ak.nil|exact al.here|apply ak.cons|apply al.there)))(dO:∀x,aU.length=(f x).length:=by intro _;rfl)(ei:(aU.all λp=>Nat.blt p n.n)=true:=by exact rfl):ah P none W D n Q (.rangeFunc g aU.toArray assign body) am an:=by
 have Yh:∀(l:ab ax) (s:ax),ak (s::(l++T)) (s::l) T:=by
  intro l s;refine ak.cons al.here ?_;induction l with
  |nil=>exact ak.nil
  |cons x l la=>exact ak.cons al.here la
 have Yj:∀{e:dj} {k:Nat} {c:t},fv e=true->tk G X k e c->(eL e=true/\G k c)\/(eL e=false/\X e k c):=by
  intro e k c o h;cases e with
  |normal=>exact .inl ⟨rfl,h⟩
  |ret=>exact .inr ⟨rfl,h⟩
  |exit id=>exact .inr ⟨rfl,h⟩
  |_=>cases o
 have Yc:ah P none W D n Q (.rangeFunc g aU.toArray assign body) am (aI (S y)::(z++T)):=by
  refine ah.Te (km:={p:Nat×km×t×Y//G p.1 p.2.2.1/\step p.1 p.2.1 (b4 p.2.2.1) p.2.2.2}) (d:=z) (t:=T) (λi=>f i.1.2.1) (aI (S y)) (λi=>aI (aI (S i.1.2.2.1)::Z i.1.2.2.2)) (λi e cn=>∃m,cn=aI (aI (S m)::Z (b4 m))/\tk G X (i.1.1+1) e m)
   (λe L=>∃m k,L=aI (S m)::(Z (b4 m)++u)/\((e=.normal/\G k m/\stop k (b4 m))\/(eL e=false/\X e k m))) bU Ye (Yh _ _) (λi=>dO _) ei ?_ ?_ ?_
  .rintro⟨⟨k,i,c,q⟩,dT,cf⟩ l rec e6 eh K cu;have E:∀(c:t) (b:Y) (e:ax),aL [e,aI (aI (S c)::Z b)] (e::(S c++Z b)):=λc b e=>
    aL.cons e (aL.aI.trans (aL.append (an:=[aI (S c)]) aL.aI (aL.refl (Z b))))
   have:=round k i c q l rec dT cf e6 eh (bg [bZ l rec .normal,aI (aI (S c)::Z q)]) K (λe m o dW a w cM=>cu e _ o ⟨m,rfl,dW⟩ a w (cM.eqv (E m (b4 m) _).symm));exact ah.eqv (E c q _) this
  .intro l rec e7;have eJ:=hV l (dj×t) (λp=>b4 p.2) (λk p=>p.1=.normal/\G k p.2) (λk p=>fv p.1=true/\eL p.1=false/\X p.1 k p.2) (λp=>aI [bZ l rec p.1,aI (S p.2)]) (.normal,y) Yk ⟨rfl,ep⟩ ?_
   .refine eJ.eqv (an:=bZ l rec .normal::aI (S y)::z) ?_ ?_
    .exact(aL.append (an:=[aI [bZ l rec .normal,aI (S y)]]) aL.aI (aL.refl z)).symm
    .rintro v J⟨⟨e,m⟩,k,bY,rfl⟩;refine⟨bZ l rec e::aI (S m)::(Z (b4 m)++u),⟨e,_,?_,⟨m,k,rfl,?_⟩,rfl⟩,aL.append (an:=[aI [bZ l rec e,aI (S m)]]) aL.aI (aL.refl _)⟩
     .rcases bY with⟨⟨h,_⟩,_⟩|⟨h,_⟩
      exact ZI
      .exact h
     .rcases bY with⟨⟨h,j⟩,cp⟩|⟨_,cp,fZ⟩
      .exact .inl ⟨h,j,cp⟩
      .exact .inr ⟨cp,fZ⟩
   .rintro k i⟨e,c⟩ q⟨ea,dT⟩ cf;simp only at ea dT cf;subst ea;refine(e7 ⟨(k,i,c,q),dT,cf⟩).eqv (an:=aI [bZ l rec .normal,aI (S c)]::Z q) ?_ ?_
    .exact O0
    .rintro v J⟨e,cn,rfl,o,⟨m,rfl,dW⟩,rfl⟩;refine⟨aI [bZ l rec e,aI (S m)]::Z (b4 m),⟨(e,m),eL e,rfl,λh=>?_,λh=>?_,rfl⟩,?_⟩
     .rcases Yj o dW with⟨R,j⟩|⟨R,j⟩
      .refine⟨?_,j⟩;cases e<;>first|rfl|cases R
      .rw[R]at h;cases h
     .rcases Yj o dW with⟨R,j⟩|⟨R,j⟩
      .rw[R]at h;cases h
      .exact⟨o,R,j⟩
     .exact H9
  .rintro b e L o⟨m,k,rfl,bY⟩;have conv:∀{e:dj},Out W D ⟨n.n,b::n.ds⟩ Q e am (fC b::(S m++(Z (b4 m)++(u++T))))->Out W D ⟨n.n,b::n.ds⟩ Q e am (fC b::(aI (S m)::(Z (b4 m)++u)++T)):=λh=>
    Out.eqv (aL.cons _ Q0) h
   rcases bY with⟨rfl,dT,Yf⟩|⟨Yi,hW⟩
   .exact conv (done k m b dT Yf)
   .exact conv (left k m b e o Yi hW)
 refine ah.eqv (bc:=aI (S y)::(z++T)) ?_ Yc;refine(aL.RS Yg.perm).trans ?_;rw[cd];exact(aL.append (an:=[aI (S y)]) aL.aI (aL.refl (z++T))).symm
def Out.Wx{Y i:Type}{l:Nat}{T:dj->i->Prop}{S:i->ab ax}{Z:Y->ab ax}{b4:i->Y}{K:cE}{e:dj}{X:ab ax}(p:∀e c,fv e=true->T e c->∀a w,H W D (iN l rec::(S c++Z (b4 c))) w->K e a w)(c:i)(R:T e c)(u:ak an (iN l rec::(S c++Z (b4 c))) X:=by(repeat(first|exact ak.nil|exact al.here|apply ak.cons|apply al.there)))(m:fv e=true:=by exact rfl):Out W D n K e am an:=Out.of λa w _ f=>p e c m R a w (f.gB u)
end
end Go.ay
namespace Go.ay
open Go
variable{b:Nat}{aW:aQ (Nat×Bool)}{C:bv->ab ax->Prop}{U:aZ}{a7:Array Edge}
section keys
variable{P:bF}{F:Type}[DecidableEq F]
structure gO(P:bF)(U:aZ)(bN:F->aj):Prop where
 check:∀e a w,(Instr.checkKey e 10000 U (bN a)).run P w=.ok () w
 eq:∀a b w,(Op.equal U (bN a) (bN b)).run P w=.ok (decide (a=b)) w
 wP:∃d,P.underlying U=some d/\((∀a b,Instr.sameNow d (bN a) (bN b)=some (decide (a=b)))\/(∀a b,Instr.sameNow d (bN a) (bN b)=none))
 bits:∀a,Instr.sameBits 10000 (bN a) (bN a)=true
def bytes_beq(a b:ab aP):(({data:=a.toArray}:ByteArray)=={data:=b.toArray})=decide (a=b):=by rw[pL];rw[show((({data:=a.toArray}:ByteArray)=={data:=b.toArray})=true↔({data:=a.toArray}:ByteArray)={data:=b.toArray})from MapKept.bytes_beq _ _];simp only[ByteArray.mk.injEq,da];exact⟨λh=>by have:=db Array.toList h;exact this,λh=>by rw[h]⟩
def gO.int{k:IntKind}(h:P.underlying U=some (.int k)):gO P U (λn:Int=>.int k n) where
 check e a w:=MapKept.run_checkKey h Z6 e 9999
 eq a b w:=by have:=cS.int (P:=P) (d:=9999) (k:=k) (p:=a) (q:=b) h;unfold cS at this;exact this w
 wP:=⟨_,h,.inl λa b=>by simp only[Instr.sameNow,hA];rw[er,pL];simp⟩
 bits a:=MapKept.sameBits_self (d:=.int k) Z6 10000
def gO.str(h:P.underlying U=some .string):gO P U (λl:ab aP=>S l) where
 check e a w:=MapKept.run_checkKey h Z6 e 9999
 eq a b w:=by have:=cS.str (P:=P) (d:=9999) (p:=a) (q:=b) h;unfold cS at this;exact this w
 wP:=⟨_,h,.inl λa b=>by simp only[Instr.sameNow,bytes_beq]⟩
 bits a:=MapKept.sameBits_self (d:=.string) Z6 10000
end keys
section
variable{F Y:Type}[DecidableEq F]
def ga(k:F):ab (F×Y)->Nat->aQ (Nat×Y)
 |[],_=>none
 |p::l,i=>if k=p.1 then some (i,p.2)else ga k l (i+1)
def br(l:ab (F×Y))(k:F):aQ Y:=(ga k l 0).map (·.2)
def bw(l:ab (F×Y))(k:F)(v:Y):ab (F×Y):=
 match ga k l 0 with
 |some (i,_)=>l.set i (k,v)
 |none=>l++[(k,v)]
def eC(l:ab (F×Y))(k:F):ab (F×Y):=
 match ga k l 0 with
 |some (i,_)=>l.eraseIdx i
 |none=>l
def uY{k:F}:∀{l:ab (F×Y)} {i:Nat} {j:Nat} {v:Y},ga k l i=some (j,v)->i<=j/\l[j-i]?=some (k,v)
 |[],_,_,_,h=>XT
 |p::l,i,j,v,h=>by
  simp only[ga]at h;split at h
  .rename_i e;simp only[er,md]at h;obtain⟨rfl,rfl⟩:=h;subst e;exact⟨cl _,XE⟩
  .obtain⟨K,R⟩:=uY h;refine⟨ac,?_⟩;rw[show j-i=(j-(i+1))+1 by omega,qJ];exact R
variable{P:bF}{bN:F->aj}{aR:Y->aj}
def CJ(K:gO P U bN)(k:F)(w:aY):∀(s:ab MapEntry) (l:ab (F×Y)) (i:Nat),s.map (λe=>(e.key,e.val))=l.map (λp=>(bN p.1,aR p.2))->(Instr.findAsking U (bN k) s i).run P w=.ok ((ga k l i).map λp=>(p.1,aR p.2)) w
 |[],[],i,_=>by simp[Instr.findAsking,ga]
 |[],_::_,_,h=>XU
 |_::_,[],_,h=>XU
 |e::s,p::l,i,h=>by
  simp only[eK,pP,md]at h;obtain⟨⟨R,X⟩,g⟩:=h;unfold Instr.findAsking;rw[ct,R,K.eq k p.1 w];simp only[dv,ga];by_cases z:k=p.1
  .simp[z,X]
  .simp only[z,uZ,hr,ii];exact CJ K k w s l (i+1) g
def CK{d:TypeDesc}{k:F}(h:∀a b,Instr.sameNow d (bN a) (bN b)=some (decide (a=b))):∀(s:ab MapEntry) (l:ab (F×Y)) (i:Nat),s.map (λe=>(e.key,e.val))=l.map (λp=>(bN p.1,aR p.2))->Instr.findNow d (bN k) s i=some ((ga k l i).map λp=>(p.1,aR p.2))
 |[],[],i,_=>by simp[Instr.findNow,ga]
 |[],_::_,_,h=>XU
 |_::_,[],_,h=>XU
 |e::s,p::l,i,d=>by
  simp only[eK,pP,md]at d;obtain⟨⟨K,R⟩,g⟩:=d;unfold Instr.findNow;rw[K,h k p.1];by_cases z:k=p.1
  .simp[z,ga,R]
  .simp only[z,uZ,ga,ii];exact CK h s l (i+1) g
def tl(K:gO P U bN)(k:F)(w:aY){i:ab MapEntry}{l:ab (F×Y)}(h:i.map (λe=>(e.key,e.val))=l.map (λp=>(bN p.1,aR p.2))):(Instr.findKey U (bN k) i).run P w=.ok ((ga k l 0).map λp=>(p.1,aR p.2)) w:=by
 obtain⟨d,b,u⟩:=K.wP;unfold Instr.findKey;rw[ct,dN b];simp only[dv];rcases u with u|u
 .rw[CK u i l 0 h];simp
 .cases i with
  |nil=>
   cases l with
   |nil=>simp[Instr.findNow,ga]
   |cons _ _=>simp at h
  |cons e i=>
   cases l with
   |nil=>simp at h
   |cons p l=>
    have v:=h;simp only[eK,pP,md]at v;have:Instr.findNow d (bN k) (e::i) 0=none:=by unfold Instr.findNow;rw[v.1.1,u k p.1]
    rw[this];exact CJ K k w (e::i) (p::l) 0 h
def pX(w:aY)(b:Nat)(l:ab (aj×aj)):Prop:=
 ∃i R,w.heap[b]?=some (.map i R)/\i.toList.map (λe=>(e.key,e.val))=l/\(∀e,e∈i.toList->e.born<R)/\(i.toList.map (·.born)).Nodup
@[irreducible] def u0(b:Nat)(l:List (Value×Value)):ax where
 fB:=[b]
 holds w:=pX w b l
 loc w h9 h cB:=by obtain⟨es,qX,bY,Z⟩:=cB;exact⟨es,qX,I1,Z⟩
 lt w h x cr:=by
  have:x=b:=X8
  subst this;exact PT
def rZ(b l):(u0 b l).fB=[b]:=by unfold u0;rfl
def oc(b l w):(u0 b l).holds w↔pX w b l:=by unfold u0;rfl
def bn(bN:F->aj)(aR:Y->aj)(b:Nat)(l:ab (F×Y)):ax:=u0 b (l.map λp=>(bN p.1,aR p.2))
variable{r:aQ Nat}{W:aY}{D:ab Nat}{n:c7}{am:bv}{an J:ab ax}{w:aY}{l:ab (F×Y)}
variable{dst:Nat}{a1:aZ}{a6:String}
def g1(P:bF)(t k e:Nat):Bool:=match P.underlying t with|some (.map y c)=>k==y&&e==c|_=>false
def qY{t k e:Nat}(h:g1 P t k e=true):P.underlying t=some (.map k e):=by
 unfold g1 at h;split at h
 .rename_i y c d;simp only[cZ,cH]at h;rw[d,h.1,h.2]
 .cases h
def aK.look{t e:aZ}{x y:bd}{k:F}{u:aj}(p:gO P U bN)(j:g1 P t U e=true)(c:∀w,(zeroValue e).run P w=.ok u w)(K:aO am x=some (.map (some b)))(R:aO am y=some (bN k))(X:bn bN aR b l∈an):aK P n am an ⟨some dst,.lookup t x y false,a1,a6,a7,aW⟩ (match br l k with|some v=>aR v|none=>u):=aK.of λa w L f=>by
 have h:=f.get _ X;unfold bn at h;rw[oc]at h;obtain⟨i,u,X,E,_⟩:=h;simp only[execOp,L.eval K,L.eval R];unfold Instr.lookup;simp only[ct,dN (qY j),dv,r0 X,ed,p.check,tl p k w E];unfold br;cases ga k l 0 with
 |none=>simp[c w]
 |some p=>simp
def aK.Wy{t e:aZ}{x y:bd}{k:F}{u:aj}(p:gO P U bN)(j:g1 P t U e=true)(c:∀w,(zeroValue e).run P w=.ok u w)(K:aO am x=some (.map (some b)))(R:aO am y=some (bN k))(X:bn bN aR b l∈an):aK P n am an ⟨some dst,.lookup t x y true,a1,a6,a7,aW⟩ (match br l k with|some v=>.tuple #[aR v,.bool true]|none=>.tuple #[u,.bool false]):=aK.of λa w L f=>by
 have h:=f.get _ X;unfold bn at h;rw[oc]at h;obtain⟨i,u,X,E,_⟩:=h;simp only[execOp,L.eval K,L.eval R];unfold Instr.lookup;simp only[ct,dN (qY j),dv,r0 X,ed,p.check,tl p k w E];unfold br;cases ga k l 0 with
 |none=>simp[c w]
 |some p=>simp
omit[DecidableEq F]in
def aK.UU{t e:aZ}{x:bd}(j:g1 P t U e=true)(K:aO am x=some (.map (some b)))(R:bn bN aR b l∈an):aK P n am an ⟨some dst,.call ⟨.builtin .len,#[x],#[t]⟩,a1,a6,a7,aW⟩ (I (l.length:Int)):=aK.of λa w L f=>by
 have h:=f.get _ R;unfold bn at h;rw[oc]at h;obtain⟨i,X,R,E,_⟩:=h;have d:i.size=l.length:=Z7
 simp[execOp,resolve,invoke,builtin,Builtin.len_,L.eval K,dN (qY j),goInt,r0 R,ct,d]
omit[DecidableEq F]in
def H.allocMap(h:H W D an w):H W D (bn bN aR w.heap.size []::an) (w.alloc (.map #[] 0)):=by
 have:H w [] [bn bN aR w.heap.size []] (w.alloc (.map #[] 0)):=by
  refine⟨λe d=>?_,by simp[bg,bn,rZ],λb R=>?_,λb R _=>rI _ _ R,XE,rfl,rfl,rfl,cl _⟩
  .obtain rfl:e=_:=by simpa using d
   unfold bn;rw[oc];exact⟨#[],0,Cy _ _,XE,XE,XE⟩
  .obtain rfl:b=w.heap.size:=by simpa[bg,bn,rZ]using R
   exact .inr (cl _)
 exact h.new this
omit[DecidableEq F]in
def aw.mkMap{t:aZ}(bN:F->aj)(aR:Y->aj)(i:Nat.blt dst n.n=true)(R:∀b,C ((dst,.map (some b))::am) (bn bN aR b []::an)):aw P r W D n ⟨some dst,.makeMap t none,a1,a6,a7,aW⟩ am an C:=aw.of λK Q p a w L f=>by
 have a:(Instr.makeMap t none).run P w=.ok (.map (some w.heap.size)) (w.alloc (.map #[] 0)):=by simp[Instr.makeMap]
 refine iK rfl ?_ (p _ _ (R w.heap.size) _ _ (L.put i _) f.allocMap);simp only[execOp,Option.map_none,ct,a,dv,ed]
omit[DecidableEq F]in
def H.UV{l E:ab (F×Y)}{o:Obj}(h:H W D an w)(u:az an (bn bN aR b l) (bn bN aR b E) J)(X:pX (w.putObj b o) b (E.map λp=>(bN p.1,aR p.2))):H W D J (w.putObj b o):=by
 have R:bn bN aR b l∈an:=by obtain⟨p,q,rfl,_⟩:=u.split;simp
 refine h.mN u ⟨λe d=>?_,by simp[bg,bn,rZ],λx K=>?_,λk T v=>?_,XE,rfl,rfl,rfl,cl _⟩
 .obtain rfl:e=_:=by simpa using d
  unfold bn;rw[oc];exact X
 .left;simpa[bg,bn,rZ]using K
 .exact s3 (by simpa[bn,rZ]using v)
def o8{k:Type}(s:Array k)(i:Nat)(f:k->k):(s.modify i f).toList=s.toList.modify i f:=XE
def aaD{t e:aZ}(c:gO P U bN)(a:g1 P t U e=true){k:F}{v:Y}(h:pX w b (l.map λp=>(bN p.1,aR p.2))):∃o,(Instr.mapUpdate t (.map (some b)) (bN k) (aR v)).run P w=.ok () (w.putObj b o)/\pX (w.putObj b o) b ((bw l k v).map λp=>(bN p.1,aR p.2)):=by
 obtain⟨f,Yc,T,E,K,u⟩:=h;have d:=(ny.1 T).1;have Ye:∀o,(setObj b o).run P w=.ok () (w.putObj b o):=λo=>by simp[setObj,Sem.run,T,World.putObj]
 unfold Instr.mapUpdate bw;simp only[ct,dN (qY a),dv,r0 T,c.check,tl c k w E];cases L:ga k l 0 with
 |none=>
  refine⟨.map (f.push {key:=bN k,val:=aR v,born:=Yc}) (Yc+1),by simp[Ye],?_⟩;refine⟨_,_,qR d,by simp[E],?_,?_⟩
  .intro x R;simp only[wQ,eN,iz]at R;rcases R with R|rfl
   .have:=K x R;omega
   .simp
  .simp only[wQ,iA,eK,kE];rw[gV];refine⟨u,XE,?_⟩;intro x R y X;simp only[iz]at X;subst X;obtain⟨z,s,rfl⟩:=fh.1 R;have:=K z s;omega
 |some q=>
  obtain⟨i,v0⟩:=q;have ao:=(uY L).2;simp only[y2]at ao;have Yf:=(cI.1 ao).1;have Yg:f.toList.length=l.length:=Z7
  have Yh:i<f.size:=by rw[<-mV,Yg];exact Yf
  have Yi:((f[i]?).map (·.key)).getD (bN k)=bN k:=by
   have g:(f.toList.map (λe=>(e.key,e.val)))[i]?=some (bN k,aR v0):=by rw[E];simp[ao]
   rw[ho]at g;cases bb:f[i]? with
   |none=>rfl
   |some x=>
    have:f.toList[i]?=some x:=by simpa using bb
    rw[this]at g;simp at g;simp[g.1]
  refine⟨.map (f.modify i λe=>{e with key:=bN k,val:=aR v}) Yc,?_,?_⟩
  .simp[Yi,Instr.keyThatStays,c.bits k,Ye]
  .refine⟨_,_,qR d,?_,?_,?_⟩
   .rw[o8];apply mX;intro j;have m:(f.toList.map (λe=>(e.key,e.val)))[j]?=(l.map λp=>(bN p.1,aR p.2))[j]?:=by rw[E]
    simp only[ho,pY,kq]at m⊢;by_cases e:i=j
    .subst e;have:∃x,f.toList[i]?=some x:=⟨_,gM (by rw[Yg];exact Yf)⟩
     obtain⟨x,R⟩:=this;simp[R,Yf]
    .simp only[e,ii];cases bb:f.toList[j]? with
     |none=>rw[bb]at m;simpa using m
     |some x=>rw[bb]at m;simpa using m
   .intro x R;rw[o8]at R;obtain⟨j,m⟩:=qZ R;rw[pY]at m;cases bb:f.toList[j]? with
    |none=>rw[bb]at m;simp at m
    |some y=>
     rw[bb]at m;have X:=K y (j5 bb);split at m<;>(simp only[CL,nI,er]at m;subst m;exact X)
   .have:(f.modify i λe=>{e with key:=bN k,val:=aR v}).toList.map (·.born)=f.toList.map (·.born):=by
     rw[o8];apply mX;intro j;simp only[ho,pY];cases f.toList[j]? with
     |none=>rfl
     |some y=>split<;>rfl
    rw[this];exact u
def aw.R1{t e:aZ}{x y z:bd}{k:F}{v:Y}{l:ab (F×Y)}(p:gO P U bN)(j:g1 P t U e=true)(R:aO am x=some (.map (some b)))(X:aO am y=some (bN k))(c:aO am z=some (aR v))(u:az an (bn bN aR b l) (bn bN aR b (bw l k v)) J)(T:C am J):aw P r W D n ⟨none,.mapUpdate t x y z,a1,a6,a7,aW⟩ am an C:=aw.of λK Q s a w L f=>by
 have m:bn bN aR b l∈an:=by obtain⟨l,r,rfl,_⟩:=u.split;simp
 have h:=f.mem m;unfold bn at h;rw[oc]at h;obtain⟨o,a,K⟩:=aaD (k:=k) (v:=v) p j h;refine rM rfl ?_ (s _ _ T _ _ (L.SB undef) (f.UV u K));simp only[execOp,L.eval R,L.eval X,L.eval c,ct,a,dv,ed]
end
end Go.ay
namespace Go.ay
open Go
section
variable{P:bF}{r:aQ Nat}{W:aY}{D:ab Nat}{n:c7}{J:bv}{G U:ab ax}
variable{F:Nat}{M:aZ}{Y:String}{N:Array Edge}{Z:aQ (Nat×Bool)}{C:bv->ab ax->Prop}
@[irreducible] def bT(g:Nat):ax where
 fB:=[g]
 holds w:=g<w.heap.size
 loc w h9 h cB:=by
  have:=h g XE;have cm:w.heap[g]?≠none:=by simp[cB]
  rw[<-this]at cm;simpa using cm
 lt w h x cr:=by
  have:x=g:=X8
  subst this;exact h
end
end Go.ay
namespace Go.ay
open Go
section
variable{P:bF}{r:aQ Nat}{W:aY}{D:ab Nat}{n:c7}{J:bv}{G U:ab ax}
variable{F:Nat}{M:aZ}{Y:String}{N:Array Edge}{Z:aQ (Nat×Bool)}{C:bv->ab ax->Prop}
end
end Go.ay
namespace Go.ay
open Go
variable{a:aQ Addr}{X:Nat}{hU:ab aj}{C:bv->ab ax->Prop}{G:aQ (Nat×Bool)}{b:IntKind}{M:Array Edge}
section
variable{P:bF}{r:aQ Nat}{W:aY}{D:ab Nat}{n:c7}{Y:bv}{U Z:ab ax}{R:Type}{f:R->ab aj}
variable{F:Nat}{N:aZ}{J:String}
def partAt(a:aQ Addr)(K i X:Nat):aQ Addr:=if K=i then a else a.map (·.add (i*X))
def V.UW(ad:bV P){t E T i j K u:Nat}{q:IntKind}{x L ao:bd}(X:aO Y x=some (.slice a K u))(o:aO Y L=some (.int b (i:Int)))(y:aO Y ao=some (.int q (j:Int)))(K:i<=j)(Q:j<=u)(v:bA ad.eO t=some E:=by exact rfl)(q:bA ad.gp E=some T:=by exact rfl):aK P n Y U ⟨some F,.slice t x (some L) (some ao) none,N,J,M,G⟩ (.slice (partAt a u i T) (j-i) (u-i)):=aK.of λp w L _=>by
 have k:(0:Int)<=(i:Int):=ac
 have u:(0:Int)<=(j:Int):=ac
 simp only[execOp,Instr.sliceAt,nI,L.eval X,L.eval o,L.eval y];simp[Instr.slice,Instr.sliceBounds,Instr.sliceBound,asIntOf,dN (fM (ad.RM v)),K,Q,k,u,n8 (ad.Sw q),partAt]
def V.Sf(ad:bV P){t E u i o Q:Nat}{x L:bd}(X:aO Y x=some (.slice a o Q))(q:aO Y L=some (.int b (i:Int)))(K:i<=o)(j:bA ad.eO t=some E:=by exact rfl)(T:bA ad.gp E=some u:=by exact rfl):aK P n Y U ⟨some F,.slice t x (some L) none none,N,J,M,G⟩ (.slice (partAt a Q i u) (o-i) (Q-i)):=aK.of λp w L _=>by
 have k:(0:Int)<=(i:Int):=ac
 simp only[execOp,Instr.sliceAt,nI,L.eval X,L.eval q];simp[Instr.slice,Instr.sliceBounds,Instr.sliceBound,asIntOf,dN (fM (ad.RM j)),K,k,n8 (ad.Sw T),partAt]
def V.SW(ad:bV P){t E u j q Q:Nat}{o:IntKind}{x ao:bd}(K:aO Y x=some (.slice a q Q))(y:aO Y ao=some (.int o (j:Int)))(X:j<=Q)(v:bA ad.eO t=some E:=by exact rfl)(T:bA ad.gp E=some u:=by exact rfl):aK P n Y U ⟨some F,.slice t x none (some ao) none,N,J,M,G⟩ (.slice a j Q):=aK.of λp w L _=>by
 have d:(0:Int)<=(j:Int):=ac
 have e:(a.map λx=>x.add 0)=a:=by cases a<;>simp[Addr.add]
 simp only[execOp,Instr.sliceAt,nI,L.eval K,L.eval y];simp[Instr.slice,Instr.sliceBounds,Instr.sliceBound,asIntOf,dN (fM (ad.RM v)),X,d,n8 (ad.Sw T),e]
def V.UX(ad:bV P){t E q i j m K u:Nat}{d g:IntKind}{x L ao jK:bd}(X:aO Y x=some (.slice a K u))(o:aO Y L=some (.int b (i:Int)))(y:aO Y ao=some (.int d (j:Int)))(T:aO Y jK=some (.int g (m:Int)))(K:i<=j)(Q:j<=m)(g:m<=u)(v:bA ad.eO t=some E:=by exact rfl)(u:bA ad.gp E=some q:=by exact rfl):aK P n Y U ⟨some F,.slice t x (some L) (some ao) (some jK),N,J,M,G⟩ (.slice (partAt a m i q) (j-i) (m-i)):=aK.of λp w L _=>by
 have k:(0:Int)<=(i:Int):=ac
 have E:(0:Int)<=(j:Int):=ac
 have q:(0:Int)<=(m:Int):=ac
 simp only[execOp,Instr.sliceAt,nI,L.eval X,L.eval o,L.eval y,L.eval T];simp[Instr.slice,Instr.sliceBounds,Instr.sliceBound,asIntOf,dN (fM (ad.RM v)),K,Q,g,k,E,q,n8 (ad.Sw u),partAt]
def q0{X:Nat}(w:∀x,(f x).length=X):∀(l:ab R) (k:Nat),k<=l.length->(l.flatMap f).take (k*X)=(l.take k).flatMap f
 |[],k,h=>XE
 |x::l,0,_=>XE
 |x::l,k+1,h=>by have y:=w x;have u:=q0 w l k XV;rw[tm,fG,fG,qO,y,show(k+1)*X=X+k*X by rw[eZ];omega,show X+k*X-X=k*X by omega,u];rw[j4 ac]
def tn{X:Nat}(w:∀x,(f x).length=X):∀(l:ab R) (k:Nat),k<=l.length->(l.flatMap f).drop (k*X)=(l.drop k).flatMap f
 |[],k,h=>XE
 |x::l,0,_=>XE
 |x::l,k+1,h=>by have y:=w x;have u:=tn w l k XV;rw[y3,fG,uV,y,show(k+1)*X=X+k*X by rw[eZ];omega,show X+k*X-X=k*X by omega,u];rw[qN ac];simp
def H.TF{w:aY}{g E u o z:Nat}{l t:ab R}{cs:Array aj}(j:H W D U w)(Q:az U (rows f (.slice (some ⟨g,0,none⟩) o X) E u l) (rows f (.slice (some ⟨g,0,none⟩) z X) E u t) Z)(q:z=t.length)(T:(w.setRow g cs).ownsRow 0 E u (.slice (some ⟨g,0,none⟩) t.length X) t.length (t.flatMap f)):H W D Z (w.setRow g cs):=by
 subst q;refine j.mN Q ⟨λe d=>?_,?_,λy K=>?_,λb m v=>uF w g b _ (λe=>v ?_),XE,rfl,rfl,rfl,cl _⟩
 .obtain rfl:e=_:=by simpa only[iz]using d
  rw[e1,hz];exact T
 exact My
 .left;rw[hS,e1,hl]at K;rw[e1,hl];simpa[bg,Value.ownBlock]using K
 .rw[e1,hl];simp[Value.ownBlock,e]
def O.UY(ad:bV P){t E T fN g o i j:Nat}{x y:bd}{l:ab R}(cr:aO Y x=some (.slice (some ⟨g,0,none⟩) i X))(e7:aO Y y=some (.slice (partAt (some ⟨g,0,none⟩) X j T) (o-j) (X-j)))(fF:az U (rows f (.slice (some ⟨g,0,none⟩) o X) E T l) (rows f (.slice (some ⟨g,0,none⟩) (i+(o-j)) X) E T (l.take i++l.drop j)) Z)(fE:l.length=o)(Yt:i<=j)(eB:j<=o)(e0:∀x,(f x).length=T)(cm:iv f)(ee:C ((F,.slice (some ⟨g,0,none⟩) (i+(o-j)) X)::Y) Z)(ef:Nat.blt F n.n=true:=by exact rfl)(c8:bA ad.eO t=some E:=by exact rfl)(Yc:bA ad.gp E=some T:=by exact rfl)(Ym:bA ad.kD E=some fN:=by exact rfl)(Yo:hT ad.ia E=some hU:=by exact rfl):aw P r W D n ⟨some F,.call ⟨.builtin .append,#[x,y],#[t,t]⟩,N,J,M,G⟩ Y U C:=aw.of λK Q cu a w cT cM=>by
 obtain⟨q1,z,ao,Yg,Yf,Yl,Yp⟩:=ad.info Yc Ym Yo;subst fE;have Yj:rows f (.slice (some ⟨g,0,none⟩) l.length X) E T l∈U:=Z8
 have d:=cM.mem Yj;rw[e1,hz]at d;rcases d.2 with⟨ea,_⟩|⟨tf,Ye,h,ea,_,bU,Yn,Yh,Yk,s⟩
 .cases ea
 .simp only[pQ,er,uS]at ea;obtain⟨⟨rfl,_⟩,_,rfl⟩:=ea;have Yi:h.toList.length=X*T:=by simpa using Yk
  obtain⟨m,v⟩:∃m,m=(l.drop j).flatMap f:=⟨_,rfl⟩
  have c:m.length=(l.length-j)*T:=by rw[v,jF e0];simp
  have Yu:i*T+(l.length-j)*T<=X*T:=H7
  have b:∀u∈m,u.oneCell'=true:=Pl
  have Yq:Src P T t (.slice (partAt (some ⟨g,0,none⟩) X j T) (l.length-j) (X-j)) (l.length-j) m w:=by
   unfold partAt;split
   .rename_i Yv;have ep:l.length-j=0:=by omega
    have Yr:m=[]:=kk (by rw[c,ep,pN]);rw[Yr,ep];exact tc w (fM (ad.RM c8)) _ _ _ _ XE (λj u L=>by simp at L) (λu L=>by cases L)
   .refine tc w (fM (ad.RM c8)) _ _ _ _ c (λk u L=>?_) b;have ef:m=(l.flatMap f).drop (j*T):=by rw[v,tn e0 l j eB]
    have cc:k<m.length:=(cI.1 L).1;rw[ef,lL,<-s,kC]at L;split at L
    .have Ys:h[j*T+k]?=some u:=by simpa using L
     simp only[ta,hm,World.cell?,bU];simpa using Ys
    .cases L
  have k:=rL P g (i*T) E m 0 h w bU (by simp only[gJ,c];omega) b;simp only[gJ]at k;have o:(Builtin.append_ #[t,t] N #[.slice (some ⟨g,0,none⟩) i X,.slice (partAt (some ⟨g,0,none⟩) X j T) (l.length-j) (X-j)]).run P w=
    .ok (.slice (some ⟨g,0,none⟩) (i+(l.length-j)) X) (w.setRow g (h.toList.take (i*T)++m++h.toList.drop (i*T+m.length)).toArray):=by
   have x:i+(l.length-j)<=X:=ac
   have y:=Yq
   rw[<-Yf]at y k⊢
   simp[Builtin.append_,dN (fM (ad.RM c8)),sizeOf,typeInfo,ao,y.len,x,y.cells,ta,k]
  have d:(l.take i++l.drop j).length=i+(l.length-j):=XM
  have K:(l.take i++l.drop j).flatMap f=(l.take i).flatMap f++m:=by rw[lP,v]
  have q:h.toList.take (i*T)=(l.take i).flatMap f:=by rw[<-q0 e0 l i ac,<-s,r1,pS (jn _ ac)]
  have s:((l.take i).flatMap f).length=i*T:=by rw[jF e0];congr 1;simp;omega
  have x:H W D Z (w.setRow g (h.toList.take (i*T)++m++h.toList.drop (i*T+m.length)).toArray):=by
   refine H.TF cM fF d.symm ⟨by rw[d,K,bM,s,c,eZ],.inr ⟨g,X,_,rfl,cw _,pH w g h _ E _ bU,ac,Yh,?_,?_⟩⟩
   .simp only[nA,bM,eX,j6,Yi];omega
   .rw[q,K,d,eZ,<-c,<-s,<-bM];exact o0
  refine iK (v:=.slice (some ⟨g,0,none⟩) (i+(l.length-j)) X) rfl ?_ (cu _ _ ee _ _ (cT.put ef _) x);simp only[execOp,resolve,invoke,builtin,q2,eK,kE,cT.eval cr,cT.eval e7,ct,ed,dv,o]
def O.T0(ad:bV P){t E fN g j T o m c:Nat}{x:bd}{l:ab R}(cr:aO Y x=some (.slice (partAt (some ⟨g,0,none⟩) T o X) m c))(fF:az U (rows f (.slice (some ⟨g,0,none⟩) j T) E X l) (rows f (.slice (some ⟨g,0,none⟩) j T) E X l) Z)(fE:l.length=j)(dz:j<=o)(YA:o+m<=T)(ee:C Y Z)(c8:bA ad.eO t=some E:=by exact rfl)(Yf:bA ad.gp E=some X:=by exact rfl)(Yp:bA ad.kD E=some fN:=by exact rfl)(Yt:hT ad.ia E=some hU:=by exact rfl)(Yu:hU.length=X:=by exact rfl)(Yy:hU.all (·.oneCell')=true:=by exact rfl):aw P r W D n ⟨none,.call ⟨.builtin .clear,#[x],#[t]⟩,N,J,M,G⟩ Y U C:=aw.of λK Q cu a w cT cM=>by
 obtain⟨q1,z,ao,Yi,Yh,Yo,Ys⟩:=ad.info Yf Yp Yt;subst fE;have Ym:rows f (.slice (some ⟨g,0,none⟩) l.length T) E X l∈U:=Z8
 have Yj:Z=U:=by obtain⟨p,q,rfl,rfl⟩:=fF.split;rfl
 by_cases Yv:m=0
 .subst Yv;refine iK (v:=.tuple #[]) rfl ?_ (cu _ _ ee _ _ (cT.SB _) (by rw[Yj];exact cM));have:(Builtin.clear_ #[t] N #[.slice (partAt (some ⟨g,0,none⟩) T o X) 0 c]).run P w=.ok (.tuple #[]) w:=by simp only[partAt];split<;>simp[Builtin.clear_,dN (fM (ad.RM c8))]
  simp[execOp,resolve,invoke,builtin,cT.eval cr,this]
 .have L:=cM.mem Ym;rw[e1,hz]at L;rcases L.2 with⟨ea,_⟩|⟨tf,Yg,k,ea,_,bU,Yq,Yk,Yn,s⟩
  .cases ea
  .simp only[pQ,er,uS]at ea;obtain⟨⟨rfl,_⟩,_,rfl⟩:=ea;have Yl:k.toList.length=T*X:=by simpa using Yn
   have Yw:(zeroValue E).run P w=.ok z w:=by simp[zeroValue,typeInfo,ao,Yi]
   have Yr:z.cells.size=X:=by rw[<-mV,Ys,Yu]
   obtain⟨d,y⟩:∃d,d=(Builtin.zeroCells z.cells m).toList:=⟨_,rfl⟩
   have b:d.length=m*X:=by rw[y];simp[Builtin.zeroCells,Yr]
   have Yx:∀u∈d,u.oneCell'=true:=by
    intro u hu;rw[y]at hu;have YB:X≠0:=by intro h;rw[h]at b;have:d=[]:=kk (by simpa using b);rw[<-y,this]at hu;cases hu
    simp only[Builtin.zeroCells,Array.toList_map,Array.toList_range,fh,qD]at hu;obtain⟨q,_,rfl⟩:=hu;have Yc:q%z.cells.size<z.cells.size:=Nat.mod_lt _ ac;rw[getElem!_pos z.cells _ Yc];exact gX.1 Yy _ (by rw[<-Ys];simp)
   have Yz:o*X+m*X<=T*X:=by rw[<-eZ];exact jn _ YA
   have i:l.length*X<=o*X:=jn _ dz;have Ye:=rL P g (o*X) E d 0 k w bU (by simp only[gJ,b];omega) Yx;simp only[gJ]at Ye;have YC:partAt (some ⟨g,0,none⟩) T o X=some ⟨g,o*X,none⟩:=Ij
   have e6:(Builtin.clear_ #[t] N #[.slice (some ⟨g,o*X,none⟩) m c]).run P w=.ok (.tuple #[]) (w.setRow g (k.toList.take (o*X)++d++k.toList.drop (o*X+d.length)).toArray):=by
    obtain⟨r2,rfl⟩:∃r2,m=r2+1:=⟨m-1,ac⟩
    simp[Builtin.clear_,dN (fM (ad.RM c8)),Yw,<-y,Ye]
   have h:H W D Z (w.setRow g (k.toList.take (o*X)++d++k.toList.drop (o*X+d.length)).toArray):=by
    refine H.TF cM fF rfl ⟨L.1,.inr ⟨g,T,_,rfl,cw _,pH w g k _ E _ bU,Yq,Yk,?_,?_⟩⟩
    .simp only[nA,bM,eX,j6,Yl];omega
    .rw[cd,nB (by simp only[eX,Yl];omega),r1,pS i];exact s
   refine iK (v:=.tuple #[]) rfl ?_ (cu _ _ ee _ _ (cT.SB _) h);simp only[execOp,resolve,invoke,builtin,q2,eK,kE,cT.eval cr,YC,ct,ed,dv,e6]
def O.UZ(ad:bV P){t cg E L fN:Nat}{x y:bd}{Ym:aQ Addr}{u:aj}{l:ab R}(X:aO Y x=some (.slice Ym 0 0))(T:aO Y y=some u)(d:ce P U f L cg u l)(s:l≠[])(e0:∀x,(f x).length=L)(ee:∀g q,C ((F,.slice (some ⟨g,0,none⟩) l.length q)::Y) (rows f (.slice (some ⟨g,0,none⟩) l.length q) E L l::U))(ef:Nat.blt F n.n=true:=by exact rfl)(h:bA ad.eO t=some E:=by exact rfl)(Yc:bA ad.gp E=some L:=by exact rfl)(Yl:bA ad.kD E=some fN:=by exact rfl)(Yo:hT ad.ia E=some hU:=by exact rfl)(Yp:hU.length=L:=by exact rfl)(Yt:l.length<=9223372036854775807:=by omega)(Yr:l.length*fN<=140737488355328:=by omega):aw P r W D n ⟨some F,.call ⟨.builtin .append,#[x,y],#[t,cg]⟩,N,J,M,G⟩ Y U C:=aw.of λK Q cu a w c m=>by
 obtain⟨i,z,ao,Yg,Ye,Yj,Yq⟩:=ad.info Yc Yl Yo;have Yu:Src P L cg u l.length (l.flatMap f) w:=d w m.hold;have Yf:0<l.length:=od.2 s;have Yn:z.cells.size=L:=by rw[<-mV,Yq,Yp]
 have Yv:(Builtin.firstCells i.size 0 (.slice Ym 0 0)).run P w.drew=.ok (#[]:Array aj) w.drew:=by
  cases Ym with
  |none=>rfl
  |some b=>exact tb w.drew i.size 0 b 0 0 [] XE XE
 have Yk:(l.flatMap f).length=l.length*L:=jF e0 l;subst Ye;subst Yj;have p:=yP (P:=P) w t cg N E i z (fM (ad.RM h)) ao Yg Ym 0 0 [] Yv u l.length (l.flatMap f) Yu ac ac (wK ac (by simpa using Yr));simp only[hm,gi]at p;have Ys:=wH w l.length 0 E;have Yi:grownCap w l.length 0 E<=maxLen:=wI w l.length 0 E Zv;have Yh:H W D (rows f (.slice (some ⟨w.heap.size,0,none⟩) l.length (grownCap w l.length 0 E)) E i.size l::U) (w.drew.alloc (.cells ((l.flatMap f).toArray++Builtin.zeroCells z.cells (grownCap w l.length 0 E-l.length)) E)):=by
  refine H.new (wq:=[rows f (.slice (some ⟨w.heap.size,0,none⟩) l.length (grownCap w l.length 0 E)) E i.size l]) m ⟨λe v=>?_,?_,λb o=>?_,λk j _=>rI w.drew _ j,XE,rfl,rfl,rfl,uQ _⟩
  .obtain rfl:e=_:=by simpa only[iz]using v
   rw[e1,hz];refine⟨Yk,.inr ⟨w.heap.size,_,_,rfl,cw _,wr w.drew _,Ys,Yi,?_,?_⟩⟩
   .simp only[wJ,nA,yN,Yn,Yk,<-eZ];congr 1;omega
   .simp only[yO];rw[<-Yk];exact o0
  exact My
  .rw[hS,e1,hl]at o;right;have:b=w.heap.size:=by simpa[bg,Value.ownBlock]using o
   omega
 refine iK (v:=.slice (some ⟨w.heap.size,0,none⟩) l.length (grownCap w l.length 0 E)) rfl ?_ (cu _ _ (ee _ _) _ _ (c.put ef _) Yh);simp only[execOp,resolve,invoke,builtin,q2,eK,kE,c.eval X,c.eval T,ct,ed,dv,p]
def V.U0(ad:bV P){t cg E T s p Q:Nat}{x y:bd}{Ye:aQ Addr}{u:aj}{b:ab aj}(K:aO Y x=some (.slice Ye p Q))(X:aO Y y=some u)(q:ce P U f T cg u [])(Yf:p<=Q)(v:bA ad.eO t=some E:=by exact rfl)(l:bA ad.gp E=some T:=by exact rfl)(Yc:bA ad.kD E=some s:=by exact rfl)(Yg:hT ad.ia E=some b:=by exact rfl):aK P n Y U ⟨some F,.call ⟨.builtin .append,#[x,y],#[t,cg]⟩,N,J,M,G⟩ (.slice Ye p Q):=aK.of λa w g j=>by
 obtain⟨i,z,ao,k,m,h,Yh⟩:=ad.info l Yc Yg;have Yi:Src P T cg u 0 [] w:=q w j;subst m;have d:(Builtin.append_ #[t,cg] N #[.slice Ye p Q,u]).run P w=.ok (.slice Ye p Q) w:=by have o:=Yi.cells;rcases Yi.kind with⟨c,L⟩|L<;>cases Ye<;>simp[Builtin.append_,dN (fM (ad.RM v)),dN L,sizeOf,typeInfo,ao,Yi.len,Yf,o,storeCells]
 simp only[execOp,resolve,invoke,builtin,q2,eK,kE,g.eval K,g.eval X,ct,ed,dv,d]
def ce.part(ad:bV P){E cg kG T g i j:Nat}{l:ab R}{c:Nat}{v:aj}(t:v=.slice (partAt (some ⟨g,0,none⟩) X i T) (j-i) c)(Q:ay.rows f (.slice (some ⟨g,0,none⟩) l.length X) E T l∈U)(Yo:i<=j)(m:j<=l.length)(y:∀x,(f x).length=T)(K:iv f)(p:bA ad.eO cg=some kG:=by exact rfl):ce P U f T cg v ((l.drop i).take (j-i)):=by
 intro w b;subst t;have Ye:=b.get _ Q;rw[e1,hz]at Ye;have z:((l.drop i).take (j-i)).length=j-i:=XM
 rw[z];rcases Ye.2 with⟨d,_⟩|⟨L,Yf,h,d,_,q,Yl,Yg,Yh,Yi⟩
 .cases d
 .simp only[pQ,er,uS]at d;obtain⟨⟨rfl,_⟩,_,rfl⟩:=d;obtain⟨Yc,Yj⟩:∃Yc,Yc=((l.drop i).take (j-i)).flatMap f:=⟨_,rfl⟩
  have Yk:Yc.length=(j-i)*T:=by rw[Yj,jF y,z]
  rw[<-Yj];unfold partAt;split
  .have a:j-i=0:=by omega
   have Ym:Yc=[]:=kk (by rw[Yk,a,pN]);rw[Ym,a];exact tc w (fM (ad.RM p)) _ _ _ _ XE (λj u o=>by simp at o) (λu o=>by cases o)
  .refine tc w (fM (ad.RM p)) _ _ _ _ Yk (λk u o=>?_) (by rw[Yj];exact gX.1 (K.flat _));have s:Yc=((l.flatMap f).drop (i*T)).take ((j-i)*T):=by rw[Yj,tn y l i ac,q0 y (l.drop i) (j-i) XM]
   rw[s,kC]at o;split at o
   .rw[lL,<-Yi,kC]at o;split at o
    .have Yn:h[i*T+k]?=some u:=by simpa using o
     simp only[ta,hm,World.cell?,q];simpa using Yn
    .cases o
   .cases o
def cS.U1{d:Nat}{t E K g Q:Nat}(h:P.underlying t=some (.slice E)):cS P (d+1) t (.slice a X K) (.slice none g Q) a.isNone:=by unfold cS;intro w;cases a<;>simp[Op.equalIn,dN h]
def V.T1(ad:bV P){t L E Q d u:Nat}{x y:bd}(K:aO Y x=some (.slice none Q X):=by exact rfl)(X:aO Y y=some (.slice none d u):=by exact rfl)(j:bA ad.eO t=some E:=by exact rfl):aK P n Y U ⟨some F,.binOp .eql t x y L,N,J,M,G⟩ (.bool true):=aK.eql K X rfl rfl (cS.U1 (d:=9999) (fM (ad.RM j)))
def V.Tk(ad:bV P){t L E Q d u:Nat}{x y:bd}{a:Addr}(K:aO Y x=some (.slice (some a) Q X):=by exact rfl)(X:aO Y y=some (.slice none d u):=by exact rfl)(j:bA ad.eO t=some E:=by exact rfl):aK P n Y U ⟨some F,.binOp .eql t x y L,N,J,M,G⟩ (.bool false):=aK.eql K X rfl rfl (cS.U1 (d:=9999) (fM (ad.RM j)))
def V.U2(ad:bV P){t m E b o:Nat}{x:bd}(K:aO Y x=some (au b o))(d:qz ad.arr t=some (m,E):=by exact rfl)(Q:(bA ad.gp E).isSome=true:=by exact rfl):aK P n Y U ⟨some F,.slice t x none none none,N,J,M,G⟩ (.slice (some ⟨b,o,none⟩) m m):=aK.of λa w L _=>by
 obtain⟨X,i⟩:=sZ.1 Q;have e:((⟨b,o,none⟩:Addr).add 0)=⟨b,o,none⟩:=by simp[Addr.add]
 simp only[execOp,Option.map_none,L.eval K];simp[Instr.sliceAt,Instr.sliceBounds,dN (ad.TU d),n8 (ad.Sw i),Instr.sureAddr,e]
def O.Wz(ad:bV P){t E fN b T o m m3:Nat}{x:bd}{c h:ab aj}{z:aj}(L:aO Y x=some (.slice (some ⟨b,o,none⟩) m m3))(g:az U (cells b T c) (cells b T h) Z)(Yn:0<m)(v:o+m<=c.length)(j:dD o (List.replicate m z) c=h)(ee:C Y Z)(k:bA ad.eO t=some E:=by exact rfl)(Ye:bA ad.gp E=some 1:=by exact rfl)(Yj:bA ad.kD E=some fN:=by exact rfl)(Yl:hT ad.ia E=some [z]:=by exact rfl)(Yq:z.oneCell'=true:=by exact rfl):aw P r W D n ⟨none,.call ⟨.builtin .clear,#[x],#[t]⟩,N,J,M,G⟩ Y U C:=aw.of λK Q cu a w l s=>by
 subst j;obtain⟨q1,z0,ao,Yg,Yf,Yi,Ym⟩:=ad.info Ye Yj Yl;have Yh:cells b T c∈U:=by obtain⟨p,q,rfl,_⟩:=g.split;simp
 have y:=s.mem Yh;rw[rH]at y;have Yp:(zeroValue E).run P w=.ok z0 w:=by simp[zeroValue,typeInfo,ao,Yg]
 have Yk:z0.cells=#[z]:=by rw[<-B5 (xs:=z0.cells),Ym]
 have Yo:(Builtin.zeroCells z0.cells m).toList=List.replicate m z:=by
  rw[Yk];simp[Builtin.zeroCells];apply List.ext_getElem
  .simp
  .intro i X d;simp[Nat.mod_one]
 have Yc:=rL P b o T (List.replicate m z) 0 c.toArray w y ZQ (λu hu=>by rw[List.eq_of_mem_replicate hu];exact Yq);simp only[gJ]at Yc;obtain⟨r2,rfl⟩:∃r2,m=r2+1:=⟨m-1,ac⟩
 have d:(Builtin.clear_ #[t] N #[.slice (some ⟨b,o,none⟩) (r2+1) m3]).run P w=.ok (.tuple #[]) (w.setRow b (dD o (List.replicate (r2+1) z) c).toArray):=by simp[Builtin.clear_,dN (fM (ad.RM k)),Yp,Yo,Yc,dD]
 refine iK (v:=.tuple #[]) rfl ?_ (cu _ _ ee _ _ (l.SB _) (s.setRow g));simp only[execOp,resolve,invoke,builtin,q2,eK,kE,l.eval L,ct,ed,dv,d]
def CM{X:Nat}{a:R}(o:(f a).length=X):∀(m i:Nat),i<m*X->((List.replicate m a).flatMap f)[i]?=(f a)[i%X]?
 |0,i,h=>XU
 |m+1,i,h=>by
  rw[yC,fG];by_cases ao:i<X
  .rw[pR ac,q3 ao]
  .rw[iu ac,o];have e:(m+1)*X=m*X+X:=by rw[eZ];omega
   rw[CM o m (i-X) ac,Nat.mod_eq_sub_mod (by omega:i≥X)]
def CN{X:Nat}{a:R}(o:(f a).length=X):∀(m:Nat),((List.replicate m a).flatMap f).length=m*X
 |0=>XE
 |m+1=>by rw[yC,fG,bM,CN o m,o,eZ];omega
end
end Go.ay
namespace Go.ay
open Go
section
variable{P:bF}{r:aQ Nat}{W:aY}{D:ab Nat}{n:c7}{Y:bv}{U N:ab ax}{Z:Type}{f:Z->ab aj}
variable{J:Nat}{R:aZ}{F:String}{M:Array Edge}{G:aQ (Nat×Bool)}{C:bv->ab ax->Prop}
def V.TG(ad:bV P){t m E u k:Nat}{q:IntKind}{x y:bd}{cs:ab aj}{v:aj}(X:aO Y x=some (A cs))(Q:aO Y y=some (.int q (k:Int)))(L:cs[k]?=some v)(T:k<m) (g:qz ad.arr t=some (m,E):=by exact rfl) (K:bA ad.one E=some u:=by exact rfl) (u:bA ad.gp E=some 1:=by exact rfl):aK P n Y U ⟨some J,.index t x y,R,F,M,G⟩ v:=aK.of λa w d _=>by
 have o:i5 P E (k*1) cs v:=i5.one (ad.V' K) (by rw[nJ];exact L);have K:(0:Int)<=(k:Int)/\(k:Int)<(m:Int):=⟨ac,ac⟩
 simp only[execOp,d.eval X,d.eval Q];have ao:(Instr.index t (A cs) (.int q (k:Int))).run P w=.ok v w:=by unfold Instr.index;simp only[asIntOf,ct,ed,dv,dN (ad.TU g),K,and_self,hA,n8 (ad.Sw u),iB,o.part w]
 simp only[ao,ct,dv,ed]
def V.SH(ad:bV P){T E t b k o q Yc Q:Nat}{x:bd}{l:ab Z}{a:Z}{c:ab aj}(X:aO Y x=some (au b (0+k*t+o)))(u:rows f (.slice (some ⟨b,0,none⟩) Yc Q) E t l∈U)(h:∀x,(f x).length=t)(p:l[k]?=some a) (K:bA ad.agg T=some q:=by exact rfl) (m:Nat.ble (o+q) t=true:=by exact rfl) (L:et o q (f a) c:=by infer_instance):aK P n Y U ⟨some J,.load T x,R,F,M,G⟩ (A c):=aK.of λgq w i s=>by
 obtain⟨d,hu,ef,ao⟩:=sT (ad.Sd K);have Yh:=nw m;have z:=L.eq;have Ye:=s.get _ u;rw[e1,hz]at Ye;simp only[execOp,i.eval X,Instr.loadAt,Instr.sureAddr,ct,ed,dv];have Yf:c.length=q:=by rw[<-z,iJ,eX,j6,h];omega
 rw[yn w b (0+k*t+o) T c d (λj v y=>?_) hu ef (by rw[ao,Yf])]
 .rfl
 .have Yg:(f a)[o+j]?=some v:=by
   rw[<-z]at y;simp only[iJ,kC,lL]at y;split at y
   .exact y
   .cases y
  have:=Ye.cells (g:=b) rfl (k*t+(o+j)) v (by
   rw[<-te h l k a p]at Yg;simp only[iJ,kC,lL]at Yg;split at Yg
   .exact Yg
   .cases Yg)
  rw[qI]at this;simpa[oX]using this
def V.SX(ad:bV P){T E u t b k o p Q:Nat}{x:bd}{l:ab Z}{a:Z}{v:aj}(X:aO Y x=some (au b (0+k*t+o)))(q:rows f (.slice (some ⟨b,0,none⟩) p Q) E t l∈U)(c:∀x,(f x).length=t)(L:l[k]?=some a) (K:bA ad.one T=some u:=by exact rfl) (d:(f a)[o]?=some v:=by exact rfl):aK P n Y U ⟨some J,.load T x,R,F,M,G⟩ v:=aK.of λm w z j=>by
 have y:=j.get _ q;rw[e1,hz]at y;simp only[execOp,z.eval X,Instr.loadAt,Instr.sureAddr,ct,ed,dv];have:=y.cells (g:=b) rfl (k*t+o) v (by
  have i:=d;rw[<-te c l k a L]at i;simp only[iJ,kC,lL]at i;split at i
  .exact i
  .cases i)
 rw[qI]at this;rw[ws (ad.V' K) (by simpa[oX]using this)];rfl
def HU(p o:Nat)(x c:ab aj){X k:Nat}(v:p=k*X+o)(E:k*X+X<=c.length)(K:o+x.length<=X):dD p x c=dD (k*X) (dD o x (iJ (k*X) X c)) c:=by
 subst v;have Q:(iJ (k*X) X c).length=X:=by rw[iJ,eX,j6];omega
 apply mX;intro j;rw[rR _ _ _ _ ac,rR _ _ _ _ ac,yQ _ _ _ (by rw[Q];exact K),Q];by_cases K:j<k*X
 .rw[aT ac,aT K]
 .rw[aN K];by_cases K:j<k*X+X
  .rw[aT K,rR _ _ _ _ (by rw[Q];omega)];by_cases g:j<k*X+o
   .rw[aT g,aT ac,iJ,kC,aT ac,lL];congr 1;omega
   .rw[aN g];by_cases g:j<k*X+o+x.length
    .rw[aT g,aN ac,aT ac];congr 1;omega
    .rw[aN g,aN ac,aN ac,iJ,kC,aT ac,lL];congr 1;omega
  .rw[aN ac,aN ac,aN K]
def O.WA(ad:bV P){T u E g k o Yc L z:Nat}{x y:bd}{l:ab Z}{a gq:Z}{v:aj}(X:aO Y x=some (au g (0+k*z+o)))(q:aO Y y=some v)(Yf:v.oneCell'=true)(ic:l[k]?=some a)(j:bq o [v] (f a) (f gq)) (d:az U (rows f (.slice (some ⟨g,0,none⟩) Yc L) E z l) (rows f (.slice (some ⟨g,0,none⟩) Yc L) E z (l.set k gq)) N) (c:l.length=Yc) (e0:∀x,(f x).length=z) (dz:Nat.blt o z=true) (ee:C Y N) (t:bA ad.one T=some u:=by exact rfl):aw P r W D n ⟨none,.store T x y,R,F,M,G⟩ Y U C:=aw.of λK Q h a0 w b s=>by
 subst c;have Ym:o<z:=by rw[lk]at dz;exact dz
 have p:k<l.length:=(cI.1 ic).1;have Yj:(k+1)*z<=l.length*z:=jn z p;rw[eZ]at Yj;have Yh:(l.flatMap f).length=l.length*z:=jF e0 l;have Yg:az U (row (.slice (some ⟨g,0,none⟩) l.length L) E z l.length (l.flatMap f)) (row (.slice (some ⟨g,0,none⟩) l.length L) E z l.length (dD (k*z+o) [v] (l.flatMap f))) N:=by have:=d;simp only[e1,b9]at this;rw[HU (k*z+o) o [v] (l.flatMap f) rfl ac (by rw[m4];omega),te e0 l k a ic,j.eq,uT e0 l k gq p];exact this
 obtain⟨eY,m,Yi⟩:=H.TY (P:=P) s Yg (by rw[Yh,m4];omega) (by simp[Yf]);refine rM rfl ?_ (h _ _ ee _ _ (b.SB undef) Yi);have Ye:(P.info? T).map (·.size)=some 1:=ad.Ty t;obtain⟨i,ao,Yk⟩:=oW.1 Ye;have Yl:v.cells=#[v]:=by cases v<;>first|rfl|(cases Yf;done)
 simp only[execOp,b.eval X,b.eval q,Instr.storeAt,Instr.sureAddr,ct,ed,dv];have h:(storeVar T ⟨g,0+k*z+o,none⟩ v).run P w=.ok () eY:=by rw[hm];simp[storeVar,sizeOf,typeInfo,ao,Yl,Yk,m]
 rw[h];rfl
end
end Go.ay
