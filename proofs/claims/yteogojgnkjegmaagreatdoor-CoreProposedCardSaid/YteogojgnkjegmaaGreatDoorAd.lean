/-
 Part of the proof.
-/
import Derived.Test.YteogojgnkjegmaaGreatDoorAb
set_option linter.all false
set_option maxRecDepth 8000
set_option maxHeartbeats 8000000
namespace Go.ay
open Go
variable{rec:LoopState->aT Code->Loop}
section
variable{P:bU}{r:aT Nat}{W:aZ}{D:ab Nat}{n:dq}{Q:cU}{am K:bC}{an N M:ab ax}{F:Array b6}{Z:ab b6}{w:aZ}
def E0(P:bU)(u:eR)(m:ab aj){Y f:Type}(Z:Y->ab ax)(t:f->ab aj)(step:Nat->f->Y->Y->Prop)(stop:Nat->Y->Prop)(E L:ab ax)(q:Y):Prop:=
 ∀(l:Nat) (T:Type) (ch:T->Y) (G X:Nat->T->Prop) (S:T->ax) (x:T),ch x=q->G 0 x->
  (∀k i c s,G k c->step k i (ch c) s->kJ P l (t i) (S c::Z s) (λv N=>∃g t,v=.bool t/\(t=true->G (k+1) g)/\(t=false->X (k+1) g)/\N=S g::Z (ch g)))->
  ar P u (.func (.yield l) #[] #[]::m) (S x::E) (λ_ N=>∃g k,((G k g/\stop k (ch g))\/X k g)/\N=S g::(Z (ch g)++L))
def vd{T:Type}(G:Nat->T->Prop)(X:dI->Nat->T->Prop)(k:Nat)(e:dI)(c:T):Prop:=
 match e with
 |.normal=>G k c
 |e=>X e k c
def ah.aaM{Y lx f:Type}{g:bf}{aY:ab Tmp}{assign body:Code}{jE:eR}{m:ab aj}{Z:Y->ab ax}{t:lx->ab aj}{step:Nat->lx->Y->Y->Prop}{stop:Nat->Y->Prop}{o L j:ab ax}{ff:Y}(ib:E0 P jE m Z t step stop o L ff)(ch:f->Y)(S:f->ab ax)(G:Nat->f->Prop)(X:dI->Nat->f->Prop)(q:f)(Yk:ch q=ff)(eE:G 0 q)(round:∀k i c u l rec,G k c->step k i (ch c) u->qm rec->∀(eI:aZ) (jk:ab Nat) (K:cU),(∀e d,ga e=true->vd G X (k+1) e d->∀a w,H eI jk (jC l rec::(S d++Z (ch d))) w->K e a w)->ah P (some l) eI jk ⟨n.n,[]⟩ (Exit.then (rl P l body K) sl) assign (qn aY (t i) am) (ce l rec .normal::(S c++Z u)))(done:∀k c b,G k c->stop k (ch c)->Out W D ⟨n.n,b::n.ds⟩ Q .normal am (gl b::(S c++(Z (ch c)++(L++j)))))(left:∀k c b e,ga e=true->fc e=false->X e k c->Out W D ⟨n.n,b::n.ds⟩ Q e am (gl b::(S c++(Z (ch c)++(L++j)))))(bF:aR am g=some (.func (.func jE) #[] m.toArray):=by exact rfl)(Ye:kF P jE=true:=by kernel_rfl)(Yg:ak an (S q++o) j:=by(repeat(first|exact ak.nil|exact al.here|apply ak.cons|apply al.there)))(dJ:∀x,aY.length=(t x).length:=by intro _;rfl)(cu:(aY.all λp=>Nat.blt p n.n)=true:=by exact rfl):ah P none W D n Q (.rangeFunc g aY.toArray assign body) am an:=by
 have Yh:∀(l:ab ax) (s:ax),ak (s::(l++j)) (s::l) j:=by
  intro l s;refine ak.cons al.here ?_;induction l with
  |nil=>exact ak.nil
  |cons x l lu=>exact ak.cons al.here lu
 have Yj:∀{e:dI} {k:Nat} {c:f},ga e=true->vd G X k e c->(fc e=true/\G k c)\/(fc e=false/\X e k c):=by
  intro e k c R h;cases e with
  |normal=>exact .inl ⟨rfl,h⟩
  |ret=>exact .inr ⟨rfl,h⟩
  |exit id=>exact .inr ⟨rfl,h⟩
  |_=>cases R
 have Yc:ah P none W D n Q (.rangeFunc g aY.toArray assign body) am (aL (S q)::(o++j)):=by
  refine ah.VZ (lx:={p:Nat×lx×f×Y//G p.1 p.2.2.1/\step p.1 p.2.1 (ch p.2.2.1) p.2.2.2}) (x:=o) (k:=j) (λi=>t i.1.2.1) (aL (S q)) (λi=>aL (aL (S i.1.2.2.1)::Z i.1.2.2.2)) (λi e cE=>∃d,cE=aL (aL (S d)::Z (ch d))/\vd G X (i.1.1+1) e d)
   (λe y=>∃d k,y=aL (S d)::(Z (ch d)++L)/\((e=.normal/\G k d/\stop k (ch d))\/(fc e=false/\X e k d))) bF Ye (Yh _ _) (λi=>dJ _) cu ?_ ?_ ?_
  .rintro⟨⟨k,i,c,u⟩,dv,b7⟩ l rec c1 eI K cA;have E:∀(c:f) (b:Y) (e:ax),aO [e,aL (aL (S c)::Z b)] (e::(S c++Z b)):=λc b e=>
    aO.cons e (aO.aL.trans (aO.append (an:=[aL (S c)]) aO.aL (aO.refl (Z b))))
   have:=round k i c u l rec dv b7 c1 eI (bn [ce l rec .normal,aL (aL (S c)::Z u)]) K (λe d R eF a w cy=>cA e _ R ⟨d,rfl,eF⟩ a w (cy.eqv (E d (ch d) _).symm));exact ah.eqv (E c u _) this
  .intro l rec fy;have dE:=ib l (dI×f) (λp=>ch p.2) (λk p=>p.1=.normal/\G k p.2) (λk p=>ga p.1=true/\fc p.1=false/\X p.1 k p.2) (λp=>aL [ce l rec p.1,aL (S p.2)]) (.normal,q) Yk ⟨rfl,eE⟩ ?_
   .refine dE.eqv (an:=ce l rec .normal::aL (S q)::o) ?_ ?_
    .exact(aO.append (an:=[aL [ce l rec .normal,aL (S q)]]) aO.aL (aO.refl o)).symm
    .rintro v N⟨⟨e,d⟩,k,bH,rfl⟩;refine⟨ce l rec e::aL (S d)::(Z (ch d)++L),⟨e,_,?_,⟨d,k,rfl,?_⟩,rfl⟩,aO.append (an:=[aL [ce l rec e,aL (S d)]]) aO.aL (aO.refl _)⟩
     .rcases bH with⟨⟨h,_⟩,_⟩|⟨h,_⟩
      exact LL
      .exact h
     .rcases bH with⟨⟨h,z⟩,cd⟩|⟨_,cd,gX⟩
      .exact .inl ⟨h,z,cd⟩
      .exact .inr ⟨cd,gX⟩
   .rintro k i⟨e,c⟩ u⟨c9,dv⟩ b7;simp only at c9 dv b7;subst c9;refine(fy ⟨(k,i,c,u),dv,b7⟩).eqv (an:=aL [ce l rec .normal,aL (S c)]::Z u) ?_ ?_
    .have T:=aO.append (an:=[aL [ce l rec .normal,aL (S c)]]) aO.aL (aO.refl (Z u));refine T.trans ?_;exact aO.cons _ (aO.aL (be:=aL (S c)::Z u)).symm
    .rintro v N⟨e,cE,rfl,R,⟨d,rfl,eF⟩,rfl⟩;refine⟨aL [ce l rec e,aL (S d)]::Z (ch d),⟨(e,d),fc e,rfl,λh=>?_,λh=>?_,rfl⟩,?_⟩
     .rcases Yj R eF with⟨T,z⟩|⟨T,z⟩
      .refine⟨?_,z⟩;cases e<;>first|rfl|cases T
      .rw[T]at h;cases h
     .rcases Yj R eF with⟨T,z⟩|⟨T,z⟩
      .rw[T]at h;cases h
      .exact⟨R,T,z⟩
     .exact Kx
  .rintro b e y R⟨d,k,rfl,bH⟩;have conv:∀{e:dI},Out W D ⟨n.n,b::n.ds⟩ Q e am (gl b::(S d++(Z (ch d)++(L++j))))->Out W D ⟨n.n,b::n.ds⟩ Q e am (gl b::(aL (S d)::(Z (ch d)++L)++j)):=λh=>
    Out.eqv (aO.cons _ Lu) h
   rcases bH with⟨rfl,dv,Yf⟩|⟨Yi,iP⟩
   .exact conv (done k d b dv Yf)
   .exact conv (left k d b e R Yi iP)
 refine ah.eqv (be:=aL (S q)::(o++j)) ?_ Yc;refine(aO.UA Yg.perm).trans ?_;rw[cn];exact(aO.append (an:=[aL (S q)]) aO.aL (aO.refl (o++j))).symm
def Out.aaN{Y X:Type}{l:Nat}{T:dI->X->Prop}{S:X->ab ax}{Z:Y->ab ax}{ch:X->Y}{K:cU}{e:dI}{R:ab ax}(b:∀e c,ga e=true->T e c->∀a w,H W D (jC l rec::(S c++Z (ch c))) w->K e a w)(c:X)(f:T e c)(q:ak an (jC l rec::(S c++Z (ch c))) R:=by(repeat(first|exact ak.nil|exact al.here|apply ak.cons|apply al.there)))(i:ga e=true:=by exact rfl):Out W D n K e am an:=Out.of λa w _ v=>b e c i f a w (v.gW q)
end
end Go.ay
namespace Go.ay
open Go
variable{b:Nat}{aV:aT (Nat×Bool)}{C:bC->ab ax->Prop}{J:a7}{bc:Array Edge}
section keys
variable{P:bU}{U:Type}[DecidableEq U]
structure ht(P:bU)(J:a7)(b1:U->aj):Prop where
 check:∀e a w,(Instr.checkKey e 10000 J (b1 a)).run P w=.ok () w
 eq:∀a b w,(Op.equal J (b1 a) (b1 b)).run P w=.ok (decide (a=b)) w
 yM:∃d,P.underlying J=some d/\((∀a b,Instr.sameNow d (b1 a) (b1 b)=some (decide (a=b)))\/(∀a b,Instr.sameNow d (b1 a) (b1 b)=none))
 bits:∀a,Instr.sameBits 10000 (b1 a) (b1 a)=true
def bytes_beq(a b:ab aS):(({data:=a.toArray}:ByteArray)=={data:=b.toArray})=decide (a=b):=by rw[q8];rw[show((({data:=a.toArray}:ByteArray)=={data:=b.toArray})=true↔({data:=a.toArray}:ByteArray)={data:=b.toArray})from MapKept.bytes_beq _ _];simp only[ByteArray.mk.injEq,dl];exact⟨λh=>by have:=dp Array.toList h;exact this,λh=>by rw[h]⟩
def ht.int{k:IntKind}(h:P.underlying J=some (.int k)):ht P J (λn:Int=>.int k n) where
 check e a w:=MapKept.run_checkKey h S1 e 9999
 eq a b w:=by have:=c6.int (P:=P) (d:=9999) (k:=k) (p:=a) (q:=b) h;unfold c6 at this;exact this w
 yM:=⟨_,h,.inl λa b=>by simp only[Instr.sameNow,h7];rw[eY,q8];simp⟩
 bits a:=MapKept.sameBits_self (d:=.int k) S1 10000
def ht.str(h:P.underlying J=some .string):ht P J (λl:ab aS=>S l) where
 check e a w:=MapKept.run_checkKey h S1 e 9999
 eq a b w:=by have:=c6.str (P:=P) (d:=9999) (p:=a) (q:=b) h;unfold c6 at this;exact this w
 yM:=⟨_,h,.inl λa b=>by simp only[Instr.sameNow,bytes_beq]⟩
 bits a:=MapKept.sameBits_self (d:=.string) S1 10000
end keys
section
variable{U Y:Type}[DecidableEq U]
def gK(k:U):ab (U×Y)->Nat->aT (Nat×Y)
 |[],_=>none
 |p::l,i=>if k=p.1 then some (i,p.2)else gK k l (i+1)
def a8(l:ab (U×Y))(k:U):aT Y:=(gK k l 0).map (·.2)
def bx(l:ab (U×Y))(k:U)(v:Y):ab (U×Y):=
 match gK k l 0 with
 |some (i,_)=>l.set i (k,v)
 |none=>l++[(k,v)]
def e9(l:ab (U×Y))(k:U):ab (U×Y):=
 match gK k l 0 with
 |some (i,_)=>l.eraseIdx i
 |none=>l
def wV{k:U}:∀{l:ab (U×Y)} {i:Nat} {j:Nat} {v:Y},gK k l i=some (j,v)->i<=j/\l[j-i]?=some (k,v)
 |[],_,_,_,h=>Ua
 |p::l,i,j,v,h=>by
  simp only[gK]at h;split at h
  .rename_i e;simp only[eY,ny]at h;obtain⟨rfl,rfl⟩:=h;subst e;exact⟨cD _,T3⟩
  .obtain⟨X,T⟩:=wV h;refine⟨ac,?_⟩;rw[show j-i=(j-(i+1))+1 by omega,sf];exact T
variable{P:bU}{b1:U->aj}{aU:Y->aj}
def E1(K:ht P J b1)(k:U)(w:aZ):∀(s:ab MapEntry) (l:ab (U×Y)) (i:Nat),s.map (λe=>(e.key,e.val))=l.map (λp=>(b1 p.1,aU p.2))->(Instr.findAsking J (b1 k) s i).run P w=.ok ((gK k l i).map λp=>(p.1,aU p.2)) w
 |[],[],i,_=>by simp[Instr.findAsking,gK]
 |[],_::_,_,h=>Uj
 |_::_,[],_,h=>Uj
 |e::s,p::l,i,h=>by
  simp only[e7,re,ny]at h;obtain⟨⟨X,T⟩,R⟩:=h;unfold Instr.findAsking;rw[cK,X,K.eq k p.1 w];simp only[dW,gK];by_cases h:k=p.1
  .simp[h,T]
  .simp only[h,tD,hM,iq];exact E1 K k w s l (i+1) R
def E2{d:TypeDesc}{k:U}(h:∀a b,Instr.sameNow d (b1 a) (b1 b)=some (decide (a=b))):∀(s:ab MapEntry) (l:ab (U×Y)) (i:Nat),s.map (λe=>(e.key,e.val))=l.map (λp=>(b1 p.1,aU p.2))->Instr.findNow d (b1 k) s i=some ((gK k l i).map λp=>(p.1,aU p.2))
 |[],[],i,_=>by simp[Instr.findNow,gK]
 |[],_::_,_,h=>Uj
 |_::_,[],_,h=>Uj
 |e::s,p::l,i,L=>by
  simp only[e7,re,ny]at L;obtain⟨⟨X,T⟩,R⟩:=L;unfold Instr.findNow;rw[X,h k p.1];by_cases x:k=p.1
  .simp[x,gK,T]
  .simp only[x,tD,gK,iq];exact E2 h s l (i+1) R
def ve(K:ht P J b1)(k:U)(w:aZ){i:ab MapEntry}{l:ab (U×Y)}(h:i.map (λe=>(e.key,e.val))=l.map (λp=>(b1 p.1,aU p.2))):(Instr.findKey J (b1 k) i).run P w=.ok ((gK k l 0).map λp=>(p.1,aU p.2)) w:=by
 obtain⟨d,a,q⟩:=K.yM;unfold Instr.findKey;rw[cK,et a];simp only[dW];rcases q with q|q
 .rw[E2 q i l 0 h];simp
 .cases i with
  |nil=>
   cases l with
   |nil=>simp[Instr.findNow,gK]
   |cons _ _=>simp at h
  |cons e i=>
   cases l with
   |nil=>simp at h
   |cons p l=>
    have L:=h;simp only[e7,re,ny]at L;have:Instr.findNow d (b1 k) (e::i) 0=none:=by unfold Instr.findNow;rw[L.1.1,q k p.1]
    rw[this];exact E1 K k w (e::i) (p::l) 0 h
def rn(w:aZ)(b:Nat)(l:ab (aj×aj)):Prop:=
 ∃i v,w.heap[b]?=some (.map i v)/\i.toList.map (λe=>(e.key,e.val))=l/\(∀e,e∈i.toList->e.born<v)/\(i.toList.map (·.born)).Nodup
@[irreducible] def wW(b:Nat)(l:List (Value×Value)):ax where
 gk:=[b]
 holds w:=rn w b l
 loc w iI h cG:=by obtain⟨es,sv,bH,Z⟩:=cG;exact⟨es,sv,Nl,Z⟩
 lt w h x b3:=by
  have:x=b:=SZ
  subst this;exact NO
def tE(b l):(wW b l).gk=[b]:=by unfold wW;rfl
def pG(b l w):(wW b l).holds w↔rn w b l:=by unfold wW;rfl
def bz(b1:U->aj)(aU:Y->aj)(b:Nat)(l:ab (U×Y)):ax:=wW b (l.map λp=>(b1 p.1,aU p.2))
variable{r:aT Nat}{W:aZ}{D:ab Nat}{n:dq}{am:bC}{an N:ab ax}{w:aZ}{l:ab (U×Y)}
variable{dst:Nat}{ba:a7}{bb:String}
def hv(P:bU)(t k e:Nat):Bool:=match P.underlying t with|some (.map X i)=>k==X&&e==i|_=>false
def sw{t k e:Nat}(h:hv P t k e=true):P.underlying t=some (.map k e):=by
 unfold hv at h;split at h
 .rename_i X i L;simp only[c5,cX]at h;rw[L,h.1,h.2]
 .cases h
def aK.look{t e:a7}{x y:bf}{k:U}{j:aj}(m:ht P J b1)(p:hv P t J e=true)(c:∀w,(zeroValue e).run P w=.ok j w)(X:aR am x=some (.map (some b)))(u:aR am y=some (b1 k))(T:bz b1 aU b l∈an):aK P n am an ⟨some dst,.lookup t x y false,ba,bb,bc,aV⟩ (match a8 l k with|some v=>aU v|none=>j):=aK.of λa w j v=>by
 have h:=v.get _ T;unfold bz at h;rw[pG]at h;obtain⟨i,v,T,E,_⟩:=h;simp only[execOp,j.eval X,j.eval u];unfold Instr.lookup;simp only[cK,et (sw p),dW,tF T,eP,m.check,ve m k w E];unfold a8;cases gK k l 0 with
 |none=>simp[c w]
 |some p=>simp
def aK.aaO{t e:a7}{x y:bf}{k:U}{j:aj}(m:ht P J b1)(p:hv P t J e=true)(c:∀w,(zeroValue e).run P w=.ok j w)(X:aR am x=some (.map (some b)))(u:aR am y=some (b1 k))(T:bz b1 aU b l∈an):aK P n am an ⟨some dst,.lookup t x y true,ba,bb,bc,aV⟩ (match a8 l k with|some v=>.tuple #[aU v,.bool true]|none=>.tuple #[j,.bool false]):=aK.of λa w j v=>by
 have h:=v.get _ T;unfold bz at h;rw[pG]at h;obtain⟨i,v,T,E,_⟩:=h;simp only[execOp,j.eval X,j.eval u];unfold Instr.lookup;simp only[cK,et (sw p),dW,tF T,eP,m.check,ve m k w E];unfold a8;cases gK k l 0 with
 |none=>simp[c w]
 |some p=>simp
omit[DecidableEq U]in
def aK.XN{t e:a7}{x:bf}(v:hv P t J e=true)(X:aR am x=some (.map (some b)))(T:bz b1 aU b l∈an):aK P n am an ⟨some dst,.call ⟨.builtin .len,#[x],#[t]⟩,ba,bb,bc,aV⟩ (I (l.length:Int)):=aK.of λa w j p=>by
 have h:=p.get _ T;unfold bz at h;rw[pG]at h;obtain⟨i,a,T,u,_⟩:=h;have a:i.size=l.length:=by have:=dp List.length u;simpa using this
 simp[execOp,resolve,invoke,builtin,Builtin.len_,j.eval X,et (sw v),goInt,tF T,cK,a]
omit[DecidableEq U]in
def H.allocMap(h:H W D an w):H W D (bz b1 aU w.heap.size []::an) (w.alloc (.map #[] 0)):=by
 have:H w [] [bz b1 aU w.heap.size []] (w.alloc (.map #[] 0)):=by
  refine⟨λe L=>?_,by simp[bn,bz,tE],λb X=>?_,λb X _=>tm _ _ X,T3,rfl,rfl,rfl,cD _⟩
  .obtain rfl:e=_:=by simpa using L
   unfold bz;rw[pG];exact⟨#[],0,EP _ _,T3,T3,T3⟩
  .obtain rfl:b=w.heap.size:=by simpa[bn,bz,tE]using X
   exact .inr (cD _)
 exact h.new this
omit[DecidableEq U]in
def av.mkMap{t:a7}(b1:U->aj)(aU:Y->aj)(p:Nat.blt dst n.n=true)(X:∀b,C ((dst,.map (some b))::am) (bz b1 aU b []::an)):av P r W D n ⟨some dst,.makeMap t none,ba,bb,bc,aV⟩ am an C:=av.of λK Q b a w j v=>by
 have a:(Instr.makeMap t none).run P w=.ok (.map (some w.heap.size)) (w.alloc (.map #[] 0)):=by simp[Instr.makeMap]
 refine jA rfl ?_ (b _ _ (X w.heap.size) _ _ (j.put p _) v.allocMap);simp only[execOp,Option.map_none,cK,a,dW,eP]
omit[DecidableEq U]in
def H.XO{l G:ab (U×Y)}{o:Obj}(h:H W D an w)(u:az an (bz b1 aU b l) (bz b1 aU b G) N)(y:rn (w.putObj b o) b (G.map λp=>(b1 p.1,aU p.2))):H W D N (w.putObj b o):=by
 have T:bz b1 aU b l∈an:=by obtain⟨p,q,rfl,_⟩:=u.split;simp
 refine h.n7 u ⟨λe L=>?_,by simp[bn,bz,tE],λx X=>?_,λk E a=>?_,T3,rfl,rfl,rfl,cD _⟩
 .obtain rfl:e=_:=by simpa using L
  unfold bz;rw[pG];exact y
 .left;simpa[bn,bz,tE]using X
 .exact uV (by simpa[bz,tE]using a)
def qs{X:Type}(s:Array X)(i:Nat)(f:X->X):(s.modify i f).toList=s.toList.modify i f:=T3
def KA{t e:a7}(s:ht P J b1)(a:hv P t J e=true){k:U}{v:Y}(h:rn w b (l.map λp=>(b1 p.1,aU p.2))):∃o,(Instr.mapUpdate t (.map (some b)) (b1 k) (aU v)).run P w=.ok () (w.putObj b o)/\rn (w.putObj b o) b ((bx l k v).map λp=>(b1 p.1,aU p.2)):=by
 obtain⟨L,Yc,G,R,X,u⟩:=h;have d:=(o4.1 G).1;have Ye:∀o,(setObj b o).run P w=.ok () (w.putObj b o):=λo=>by simp[setObj,Sem.run,G,World.putObj]
 unfold Instr.mapUpdate bx;simp only[cK,et (sw a),dW,tF G,s.check,ve s k w R];cases g:gK k l 0 with
 |none=>
  refine⟨.map (L.push {key:=b1 k,val:=aU v,born:=Yc}) (Yc+1),by simp[Ye],?_⟩;refine⟨_,_,sn d,by simp[R],?_,?_⟩
  .intro x T;simp only[yN,fd,i2]at T;rcases T with T|rfl
   .have:=X x T;omega
   .simp
  .simp only[yN,jo,e7,lU];rw[hH];refine⟨u,T3,?_⟩;intro x T y E;simp only[i2]at E;subst E;obtain⟨z,c,rfl⟩:=eS.1 T;have:=X z c;omega
 |some q=>
  obtain⟨i,v0⟩:=q;have ao:=(wV g).2;simp only[Bc]at ao;have Yf:=(cT.1 ao).1;have Yg:L.toList.length=l.length:=P8
  have Yi:i<L.size:=by rw[<-og,Yg];exact Yf
  have Yh:((L[i]?).map (·.key)).getD (b1 k)=b1 k:=by
   have f:(L.toList.map (λe=>(e.key,e.val)))[i]?=some (b1 k,aU v0):=by rw[R];simp[ao]
   rw[h9]at f;cases aW:L[i]? with
   |none=>rfl
   |some x=>
    have:L.toList[i]?=some x:=by simpa using aW
    rw[this]at f;simp at f;simp[f.1]
  refine⟨.map (L.modify i λe=>{e with key:=b1 k,val:=aU v}) Yc,?_,?_⟩
  .simp[Yh,Instr.keyThatStays,s.bits k,Ye]
  .refine⟨_,_,sn d,?_,?_,?_⟩
   .rw[qs];apply oi;intro j;have m:(L.toList.map (λe=>(e.key,e.val)))[j]?=(l.map λp=>(b1 p.1,aU p.2))[j]?:=by rw[R]
    simp only[h9,ro,l0]at m⊢;by_cases e:i=j
    .subst e;have:∃x,L.toList[i]?=some x:=⟨_,hs (by rw[Yg];exact Yf)⟩
     obtain⟨x,T⟩:=this;simp[T,Yf]
    .simp only[e,iq];cases aW:L.toList[j]? with
     |none=>rw[aW]at m;simpa using m
     |some x=>rw[aW]at m;simpa using m
   .intro x T;rw[qs]at T;obtain⟨j,m⟩:=sx T;rw[ro]at m;cases aW:L.toList[j]? with
    |none=>rw[aW]at m;simp at m
    |some y=>
     rw[aW]at m;have E:=X y (jX aW);split at m<;>(simp only[E3,pc,eY]at m;subst m;exact E)
   .have:(L.modify i λe=>{e with key:=b1 k,val:=aU v}).toList.map (·.born)=L.toList.map (·.born):=by
     rw[qs];apply oi;intro j;simp only[h9,ro];cases L.toList[j]? with
     |none=>rfl
     |some y=>split<;>rfl
    rw[this];exact u
def av.UC{t e:a7}{x y z:bf}{k:U}{v:Y}{l:ab (U×Y)}(i:ht P J b1)(p:hv P t J e=true)(X:aR am x=some (.map (some b)))(u:aR am y=some (b1 k))(m:aR am z=some (aU v))(T:az an (bz b1 aU b l) (bz b1 aU b (bx l k v)) N)(E:C am N):av P r W D n ⟨none,.mapUpdate t x y z,ba,bb,bc,aV⟩ am an C:=av.of λK Q q a w j c=>by
 have L:bz b1 aU b l∈an:=by obtain⟨l,r,rfl,_⟩:=T.split;simp
 have h:=c.mem L;unfold bz at h;rw[pG]at h;obtain⟨o,a,y⟩:=KA (k:=k) (v:=v) i p h;refine tt rfl ?_ (q _ _ E _ _ (j.Vi undef) (c.XO T y));simp only[execOp,j.eval X,j.eval u,j.eval m,cK,a,dW,eP]
end
end Go.ay
namespace Go.ay
open Go
section
variable{P:bU}{r:aT Nat}{W:aZ}{D:ab Nat}{n:dq}{Y:bC}{K U:ab ax}
variable{Z:Nat}{M:a7}{J:String}{N:Array Edge}{F:aT (Nat×Bool)}{C:bC->ab ax->Prop}
@[irreducible] def b9(g:Nat):ax where
 gk:=[g]
 holds w:=g<w.heap.size
 loc w iI h cG:=by
  have:=h g T3;have bg:w.heap[g]?≠none:=by simp[cG]
  rw[<-this]at bg;simpa using bg
 lt w h x b3:=by
  have:x=g:=SZ
  subst this;exact h
end
end Go.ay
namespace Go.ay
open Go
section
variable{P:bU}{r:aT Nat}{W:aZ}{D:ab Nat}{n:dq}{Y:bC}{K U:ab ax}
variable{Z:Nat}{M:a7}{J:String}{N:Array Edge}{F:aT (Nat×Bool)}{C:bC->ab ax->Prop}
end
end Go.ay
namespace Go.ay
open Go
variable{a:aT Addr}{G:Nat}{iM:ab aj}{C:bC->ab ax->Prop}{X:aT (Nat×Bool)}{F:Array Edge}{R:Nat}
section
variable{P:bU}{r:aT Nat}{W:aZ}{D:ab Nat}{n:dq}{Y:bC}{J N:ab ax}{T:Type}{f:T->ab aj}
variable{U:Nat}{M:a7}{Z:String}
def partAt(a:aT Addr)(E i G:Nat):aT Addr:=if E=i then a else a.map (·.add (i*G))
def V.XP(ad:ca P){t E g i j:Nat}{v Q:IntKind}{x d ao:bf}(u:aR Y x=some (.slice a R G))(q:aR Y d=some (.int v (i:Int)))(y:aR Y ao=some (.int Q (j:Int)))(K:i<=j)(Q:j<=G)(p:bM ad.fe t=some E:=by exact rfl)(R:bM ad.gV E=some g:=by exact rfl):aK P n Y J ⟨some U,.slice t x (some d) (some ao) none,M,Z,F,X⟩ (.slice (partAt a G i g) (j-i) (G-i)):=aK.of λb w v _=>by
 have a:(0:Int)<=(i:Int):=ac
 have w:(0:Int)<=(j:Int):=ac
 simp only[execOp,Instr.sliceAt,pc,v.eval u,v.eval q,v.eval y];simp[Instr.slice,Instr.sliceBounds,Instr.sliceBound,asIntOf,et (gt (ad.Uu p)),K,Q,a,w,pD (ad.Vc R),partAt]
def V.UU(ad:ca P){t E i g q:Nat}{j:IntKind}{x d:bf}(u:aR Y x=some (.slice a g q))(Q:aR Y d=some (.int j (i:Int)))(K:i<=g)(v:bM ad.fe t=some E:=by exact rfl)(G:bM ad.gV E=some R:=by exact rfl):aK P n Y J ⟨some U,.slice t x (some d) none none,M,Z,F,X⟩ (.slice (partAt a q i R) (g-i) (q-i)):=aK.of λb w j _=>by
 have a:(0:Int)<=(i:Int):=ac
 simp only[execOp,Instr.sliceAt,pc,j.eval u,j.eval Q];simp[Instr.slice,Instr.sliceBounds,Instr.sliceBound,asIntOf,et (gt (ad.Uu v)),K,a,pD (ad.Vc G),partAt]
def V.VE(ad:ca P){t E j Q:Nat}{g:IntKind}{x ao:bf}(K:aR Y x=some (.slice a R Q))(y:aR Y ao=some (.int g (j:Int)))(u:j<=Q)(p:bM ad.fe t=some E:=by exact rfl)(q:bM ad.gV E=some G:=by exact rfl):aK P n Y J ⟨some U,.slice t x none (some ao) none,M,Z,F,X⟩ (.slice a j Q):=aK.of λb w v _=>by
 have c:(0:Int)<=(j:Int):=ac
 have e:(a.map λx=>x.add 0)=a:=by cases a<;>simp[Addr.add]
 simp only[execOp,Instr.sliceAt,pc,v.eval K,v.eval y];simp[Instr.slice,Instr.sliceBounds,Instr.sliceBound,asIntOf,et (gt (ad.Uu p)),u,c,pD (ad.Vc q),e]
def V.XQ(ad:ca P){t E g i j m d:Nat}{v Q K:IntKind}{x o ao kM:bf}(u:aR Y x=some (.slice a d R))(G:aR Y o=some (.int v (i:Int)))(y:aR Y ao=some (.int Q (j:Int)))(q:aR Y kM=some (.int K (m:Int)))(K:i<=j)(Q:j<=m)(d:m<=R)(p:bM ad.fe t=some E:=by exact rfl)(R:bM ad.gV E=some g:=by exact rfl):aK P n Y J ⟨some U,.slice t x (some o) (some ao) (some kM),M,Z,F,X⟩ (.slice (partAt a m i g) (j-i) (m-i)):=aK.of λb w v _=>by
 have a:(0:Int)<=(i:Int):=ac
 have w:(0:Int)<=(j:Int):=ac
 have t:(0:Int)<=(m:Int):=ac
 simp only[execOp,Instr.sliceAt,pc,v.eval u,v.eval G,v.eval y,v.eval q];simp[Instr.slice,Instr.sliceBounds,Instr.sliceBound,asIntOf,et (gt (ad.Uu p)),K,Q,d,a,w,t,pD (ad.Vc R),partAt]
def sy{G:Nat}(v:∀x,(f x).length=G):∀(l:ab T) (k:Nat),k<=l.length->(l.flatMap f).take (k*G)=(l.take k).flatMap f
 |[],k,h=>T3
 |x::l,0,_=>T3
 |x::l,k+1,h=>by have c:=v x;have d:=sy v l k Ub;rw[vf,gn,gn,sj,c,show(k+1)*G=G+k*G by rw[fr];omega,show G+k*G-G=k*G by omega,d];rw[k8 ac]
def vg{G:Nat}(v:∀x,(f x).length=G):∀(l:ab T) (k:Nat),k<=l.length->(l.flatMap f).drop (k*G)=(l.drop k).flatMap f
 |[],k,h=>T3
 |x::l,0,_=>T3
 |x::l,k+1,h=>by have c:=v x;have d:=vg v l k Ub;rw[Bd,gn,wS,c,show(k+1)*G=G+k*G by rw[fr];omega,show G+k*G-G=k*G by omega,d];rw[si ac];simp
def H.Wp{w:aZ}{g q E i:Nat}{l t:ab T}{cs:Array aj}(v:H W D J w)(K:az J (rows f (.slice (some ⟨g,0,none⟩) R q) E G l) (rows f (.slice (some ⟨g,0,none⟩) i q) E G t) N)(Q:i=t.length)(p:(w.setRow g cs).ownsRow 0 E G (.slice (some ⟨g,0,none⟩) t.length q) t.length (t.flatMap f)):H W D N (w.setRow g cs):=by
 subst Q;refine v.n7 K ⟨λe L=>?_,?_,λy u=>?_,λb c a=>wz w g b _ (λe=>a ?_),T3,rfl,rfl,rfl,cD _⟩
 .obtain rfl:e=_:=by simpa only[i2]using L
  rw[fs,io];exact p
 exact LH
 .left;rw[iJ,fs,h6]at u;rw[fs,h6];simpa[bn,Value.ownBlock]using u
 .rw[fs,h6];simp[Value.ownBlock,e]
def O.XR(ad:ca P){t E d gu g L i j:Nat}{x y:bf}{l:ab T}(b3:aR Y x=some (.slice (some ⟨g,0,none⟩) i R))(fy:aR Y y=some (.slice (partAt (some ⟨g,0,none⟩) R j d) (L-j) (R-j)))(dO:az J (rows f (.slice (some ⟨g,0,none⟩) L R) E d l) (rows f (.slice (some ⟨g,0,none⟩) (i+(L-j)) R) E d (l.take i++l.drop j)) N)(dz:l.length=L)(Yt:i<=j)(dR:j<=L)(fk:∀x,(f x).length=d)(bg:jj f)(dQ:C ((U,.slice (some ⟨g,0,none⟩) (i+(L-j)) R)::Y) N)(dM:Nat.blt U n.n=true:=by exact rfl)(cN:bM ad.fe t=some E:=by exact rfl)(Yc:bM ad.gV E=some d:=by exact rfl)(Yl:bM ad.lT E=some gu:=by exact rfl)(Yp:iK ad.iZ E=some iM:=by exact rfl):av P r W D n ⟨some U,.call ⟨.builtin .append,#[x,y],#[t,t]⟩,M,Z,F,X⟩ Y J C:=av.of λK Q cA a w c2 cy=>by
 obtain⟨sz,z,ao,Yk,Ye,Yg,Yq⟩:=ad.info Yc Yl Yp;subst dz;have Ym:rows f (.slice (some ⟨g,0,none⟩) l.length R) E d l∈J:=O8
 have s:=cy.mem Ym;rw[fs,io]at s;rcases s.2 with⟨c9,_⟩|⟨u6,Yf,o,c9,_,bF,Yn,Yh,Yj,c⟩
 .cases c9
 .simp only[rf,eY,wP]at c9;obtain⟨⟨rfl,_⟩,_,rfl⟩:=c9;have Yi:o.toList.length=R*d:=by simpa using Yj
  obtain⟨G,v⟩:∃G,G=(l.drop j).flatMap f:=⟨_,rfl⟩
  have b:G.length=(l.length-j)*d:=by rw[v,kI fk];simp
  have Yu:i*d+(l.length-j)*d<=R*d:=Nq
  have h:∀u∈G,u.oneCell'=true:=LZ
  have Yo:Src P d t (.slice (partAt (some ⟨g,0,none⟩) R j d) (l.length-j) (R-j)) (l.length-j) G w:=by
   unfold partAt;split
   .rename_i Yv;have eE:l.length-j=0:=by omega
    have Yr:G=[]:=lW (by rw[b,eE,ra]);rw[Yr,eE];exact u4 w (gt (ad.Uu cN)) _ _ _ _ T3 (λj u m=>by simp at m) (λu m=>by cases m)
   .refine u4 w (gt (ad.Uu cN)) _ _ _ _ b (λk u m=>?_) h;have dM:G=(l.flatMap f).drop (j*d):=by rw[v,vg fk l j dR]
    have cc:k<G.length:=(cT.1 m).1;rw[dM,mY,<-c,lS]at m;split at m
    .have Ys:o[j*d+k]?=some u:=by simpa using m
     simp only[u2,h8,World.cell?,bF];simpa using Ys
    .cases m
  have K:=tq P g (i*d) E G 0 o w bF (by simp only[ho,b];omega) h;simp only[ho]at K;have L:(Builtin.append_ #[t,t] M #[.slice (some ⟨g,0,none⟩) i R,.slice (partAt (some ⟨g,0,none⟩) R j d) (l.length-j) (R-j)]).run P w=
    .ok (.slice (some ⟨g,0,none⟩) (i+(l.length-j)) R) (w.setRow g (o.toList.take (i*d)++G++o.toList.drop (i*d+G.length)).toArray):=by
   have t:i+(l.length-j)<=R:=ac
   have s:=Yo
   rw[<-Ye]at s K⊢
   simp[Builtin.append_,et (gt (ad.Uu cN)),sizeOf,typeInfo,ao,s.len,t,s.cells,u2,K]
  have a:(l.take i++l.drop j).length=i+(l.length-j):=Ui
  have K:(l.take i++l.drop j).flatMap f=(l.take i).flatMap f++G:=by rw[m1,v]
  have k:o.toList.take (i*d)=(l.take i).flatMap f:=by rw[<-sy fk l i ac,<-c,tG,ri (kh _ ac)]
  have m:((l.take i).flatMap f).length=i*d:=by rw[kI fk];congr 1;simp;omega
  have t:H W D N (w.setRow g (o.toList.take (i*d)++G++o.toList.drop (i*d+G.length)).toArray):=by
   refine H.Wp cy dO a.symm ⟨by rw[a,K,b2,m,b,fr],.inr ⟨g,R,_,rfl,cO _,q4 w g o _ E _ bF,ac,Yh,?_,?_⟩⟩
   .simp only[o6,b2,fp,k9,Yi];omega
   .rw[k,K,a,fr,<-b,<-m,<-b2];exact ql
  refine jA (v:=.slice (some ⟨g,0,none⟩) (i+(l.length-j)) R) rfl ?_ (cA _ _ dQ _ _ (c2.put dM _) t);simp only[execOp,resolve,invoke,builtin,sA,e7,lU,c2.eval b3,c2.eval fy,cK,eP,dW,L]
def O.WL(ad:ca P){t E gu g y o m c:Nat}{x:bf}{l:ab T}(b3:aR Y x=some (.slice (partAt (some ⟨g,0,none⟩) R o G) m c))(dO:az J (rows f (.slice (some ⟨g,0,none⟩) y R) E G l) (rows f (.slice (some ⟨g,0,none⟩) y R) E G l) N)(dz:l.length=y)(dy:y<=o)(YB:o+m<=R)(dQ:C Y N)(cN:bM ad.fe t=some E:=by exact rfl)(Yf:bM ad.gV E=some G:=by exact rfl)(Yo:bM ad.lT E=some gu:=by exact rfl)(Yu:iK ad.iZ E=some iM:=by exact rfl)(Yv:iM.length=G:=by exact rfl)(Yy:iM.all (·.oneCell')=true:=by exact rfl):av P r W D n ⟨none,.call ⟨.builtin .clear,#[x],#[t]⟩,M,Z,F,X⟩ Y J C:=av.of λK Q cA a w c2 cy=>by
 obtain⟨sz,z,ao,Ym,Yg,Yi,Yt⟩:=ad.info Yf Yo Yu;subst dz;have Yq:rows f (.slice (some ⟨g,0,none⟩) l.length R) E G l∈J:=O8
 have Yj:N=J:=by obtain⟨p,q,rfl,rfl⟩:=dO.split;rfl
 by_cases Yp:m=0
 .subst Yp;refine jA (v:=.tuple #[]) rfl ?_ (cA _ _ dQ _ _ (c2.Vi _) (by rw[Yj];exact cy));have:(Builtin.clear_ #[t] M #[.slice (partAt (some ⟨g,0,none⟩) R o G) 0 c]).run P w=.ok (.tuple #[]) w:=by simp only[partAt];split<;>simp[Builtin.clear_,et (gt (ad.Uu cN))]
  simp[execOp,resolve,invoke,builtin,c2.eval b3,this]
 .have L:=cy.mem Yq;rw[fs,io]at L;rcases L.2 with⟨c9,_⟩|⟨u6,Yh,d,c9,_,bF,Yr,Yk,Yn,i⟩
  .cases c9
  .simp only[rf,eY,wP]at c9;obtain⟨⟨rfl,_⟩,_,rfl⟩:=c9;have Yl:d.toList.length=R*G:=by simpa using Yn
   have Yw:(zeroValue E).run P w=.ok z w:=by simp[zeroValue,typeInfo,ao,Ym]
   have Ys:z.cells.size=G:=by rw[<-og,Yt,Yv]
   obtain⟨j,b⟩:∃j,j=(Builtin.zeroCells z.cells m).toList:=⟨_,rfl⟩
   have s:j.length=m*G:=by rw[b];simp[Builtin.zeroCells,Ys]
   have Yx:∀u∈j,u.oneCell'=true:=by
    intro u hu;rw[b]at hu;have YA:G≠0:=by intro h;rw[h]at s;have:j=[]:=lW (by simpa using s);rw[<-b,this]at hu;cases hu
    simp only[Builtin.zeroCells,Array.toList_map,Array.toList_range,eS,pC]at hu;obtain⟨q,_,rfl⟩:=hu;have Yc:q%z.cells.size<z.cells.size:=Nat.mod_lt _ ac;rw[getElem!_pos z.cells _ Yc];exact hq.1 Yy _ (by rw[<-Yt];simp)
   have Yz:o*G+m*G<=R*G:=by rw[<-fr];exact kh _ YB
   have k:l.length*G<=o*G:=kh _ dy;have Ye:=tq P g (o*G) E j 0 d w bF (by simp only[ho,s];omega) Yx;simp only[ho]at Ye;have YC:partAt (some ⟨g,0,none⟩) R o G=some ⟨g,o*G,none⟩:=N8
   have c1:(Builtin.clear_ #[t] M #[.slice (some ⟨g,o*G,none⟩) m c]).run P w=.ok (.tuple #[]) (w.setRow g (d.toList.take (o*G)++j++d.toList.drop (o*G+j.length)).toArray):=by
    obtain⟨rp,rfl⟩:∃rp,m=rp+1:=⟨m-1,ac⟩
    simp[Builtin.clear_,et (gt (ad.Uu cN)),Yw,<-b,Ye]
   have t:H W D N (w.setRow g (d.toList.take (o*G)++j++d.toList.drop (o*G+j.length)).toArray):=by
    refine H.Wp cy dO rfl ⟨L.1,.inr ⟨g,R,_,rfl,cO _,q4 w g d _ E _ bF,Yr,Yk,?_,?_⟩⟩
    .simp only[o6,b2,fp,k9,Yl];omega
    .rw[cn,o7 (by simp only[fp,Yl];omega),tG,ri k];exact i
   refine jA (v:=.tuple #[]) rfl ?_ (cA _ _ dQ _ _ (c2.Vi _) t);simp only[execOp,resolve,invoke,builtin,sA,e7,lU,c2.eval b3,YC,cK,eP,dW,c1]
def O.XS(ad:ca P){t cr E j gu:Nat}{x y:bf}{Ym:aT Addr}{u:aj}{l:ab T}(q:aR Y x=some (.slice Ym 0 0))(G:aR Y y=some u)(L:cq P J f j cr u l)(v:l≠[])(fk:∀x,(f x).length=j)(dQ:∀g o,C ((U,.slice (some ⟨g,0,none⟩) l.length o)::Y) (rows f (.slice (some ⟨g,0,none⟩) l.length o) E j l::J))(dM:Nat.blt U n.n=true:=by exact rfl)(s:bM ad.fe t=some E:=by exact rfl)(Yc:bM ad.gV E=some j:=by exact rfl)(Yl:bM ad.lT E=some gu:=by exact rfl)(Yp:iK ad.iZ E=some iM:=by exact rfl)(Yq:iM.length=j:=by exact rfl)(Yu:l.length<=9223372036854775807:=by omega)(Yt:l.length*gu<=140737488355328:=by omega):av P r W D n ⟨some U,.call ⟨.builtin .append,#[x,y],#[t,cr]⟩,M,Z,F,X⟩ Y J C:=av.of λK Q cA a w m h=>by
 obtain⟨i,z,ao,Yj,Ye,Yh,Yr⟩:=ad.info Yc Yl Yp;have Yo:Src P j cr u l.length (l.flatMap f) w:=L w h.hold;have Yf:0<l.length:=pH.2 v;have Yn:z.cells.size=j:=by rw[<-og,Yr,Yq]
 have Yv:(Builtin.firstCells i.size 0 (.slice Ym 0 0)).run P w.drew=.ok (#[]:Array aj) w.drew:=by
  cases Ym with
  |none=>rfl
  |some b=>exact u3 w.drew i.size 0 b 0 0 [] T3 T3
 have Yk:(l.flatMap f).length=l.length*j:=kI fk l;subst Ye;subst Yh;have p:=AZ (P:=P) w t cr M E i z (gt (ad.Uu s)) ao Yj Ym 0 0 [] Yv u l.length (l.flatMap f) Yo ac ac (yH ac (by simpa using Yt));simp only[h8,gJ]at p;have Ys:=yE w l.length 0 E;have Yi:grownCap w l.length 0 E<=maxLen:=yF w l.length 0 E Rn;have Yg:H W D (rows f (.slice (some ⟨w.heap.size,0,none⟩) l.length (grownCap w l.length 0 E)) E i.size l::J) (w.drew.alloc (.cells ((l.flatMap f).toArray++Builtin.zeroCells z.cells (grownCap w l.length 0 E-l.length)) E)):=by
  refine H.new (yn:=[rows f (.slice (some ⟨w.heap.size,0,none⟩) l.length (grownCap w l.length 0 E)) E i.size l]) h ⟨λe c=>?_,?_,λb R=>?_,λk d _=>tm w.drew _ d,T3,rfl,rfl,rfl,wN _⟩
  .obtain rfl:e=_:=by simpa only[i2]using c
   rw[fs,io];refine⟨Yk,.inr ⟨w.heap.size,_,_,rfl,cO _,yo w.drew _,Ys,Yi,?_,?_⟩⟩
   .simp only[yG,o6,AX,Yn,Yk,<-fr];congr 1;omega
   .simp only[AY];rw[<-Yk];exact ql
  exact LH
  .rw[iJ,fs,h6]at R;right;have:b=w.heap.size:=by simpa[bn,Value.ownBlock]using R
   omega
 refine jA (v:=.slice (some ⟨w.heap.size,0,none⟩) l.length (grownCap w l.length 0 E)) rfl ?_ (cA _ _ (dQ _ _) _ _ (m.put dM _) Yg);simp only[execOp,resolve,invoke,builtin,sA,e7,lU,m.eval q,m.eval G,cK,eP,dW,p]
def V.XT(ad:ca P){t cr E d k L:Nat}{x y:bf}{Yf:aT Addr}{u:aj}{m:ab aj}(K:aR Y x=some (.slice Yf L G))(Q:aR Y y=some u)(R:cq P J f d cr u [])(h:L<=G)(v:bM ad.fe t=some E:=by exact rfl)(c:bM ad.gV E=some d:=by exact rfl)(Ye:bM ad.lT E=some k:=by exact rfl)(Yh:iK ad.iZ E=some m:=by exact rfl):aK P n Y J ⟨some U,.call ⟨.builtin .append,#[x,y],#[t,cr]⟩,M,Z,F,X⟩ (.slice Yf L G):=aK.of λa w j p=>by
 obtain⟨i,z,ao,Yc,b,s,Yi⟩:=ad.info c Ye Yh;have Yg:Src P d cr u 0 [] w:=R w p;subst b;have o:(Builtin.append_ #[t,cr] M #[.slice Yf L G,u]).run P w=.ok (.slice Yf L G) w:=by have g:=Yg.cells;rcases Yg.kind with⟨l,q⟩|q<;>cases Yf<;>simp[Builtin.append_,et (gt (ad.Uu v)),et q,sizeOf,typeInfo,ao,Yg.len,h,g,storeCells]
 simp only[execOp,resolve,invoke,builtin,sA,e7,lU,j.eval K,j.eval Q,cK,eP,dW,o]
def cq.part(ad:ca P){E cr kG g q i j:Nat}{l:ab T}{c:Nat}{v:aj}(L:v=.slice (partAt (some ⟨g,0,none⟩) q i G) (j-i) c)(Q:ay.rows f (.slice (some ⟨g,0,none⟩) l.length q) E G l∈J)(Yo:i<=j)(b:j<=l.length)(p:∀x,(f x).length=G)(K:jj f)(a:bM ad.fe cr=some kG:=by exact rfl):cq P J f G cr v ((l.drop i).take (j-i)):=by
 intro w s;subst L;have Ye:=s.get _ Q;rw[fs,io]at Ye;have m:((l.drop i).take (j-i)).length=j-i:=Ui
 rw[m];rcases Ye.2 with⟨z,_⟩|⟨h,Yf,d,z,_,R,Yl,Yg,Yh,Yi⟩
 .cases z
 .simp only[rf,eY,wP]at z;obtain⟨⟨rfl,_⟩,_,rfl⟩:=z;obtain⟨Yc,Yj⟩:∃Yc,Yc=((l.drop i).take (j-i)).flatMap f:=⟨_,rfl⟩
  have Yk:Yc.length=(j-i)*G:=by rw[Yj,kI p,m]
  rw[<-Yj];unfold partAt;split
  .have o:j-i=0:=by omega
   have Ym:Yc=[]:=lW (by rw[Yk,o,ra]);rw[Ym,o];exact u4 w (gt (ad.Uu a)) _ _ _ _ T3 (λj u t=>Tm) (λu t=>by cases t)
  .refine u4 w (gt (ad.Uu a)) _ _ _ _ Yk (λk u t=>?_) (by rw[Yj];exact hq.1 (K.flat _));have y:Yc=((l.flatMap f).drop (i*G)).take ((j-i)*G):=by rw[Yj,vg p l i ac,sy p (l.drop i) (j-i) Ui]
   rw[y,lS]at t;split at t
   .rw[mY,<-Yi,lS]at t;split at t
    .have Yn:d[i*G+k]?=some u:=by simpa using t
     simp only[u2,h8,World.cell?,R];simpa using Yn
    .cases t
   .cases t
def c6.XU{d:Nat}{t E Q i p:Nat}(h:P.underlying t=some (.slice E)):c6 P (d+1) t (.slice a G Q) (.slice none i p) a.isNone:=by unfold c6;intro w;cases a<;>simp[Op.equalIn,et h]
def V.WM(ad:ca P){t m E Q i a:Nat}{x y:bf}(K:aR Y x=some (.slice none G Q):=by exact rfl)(u:aR Y y=some (.slice none i a):=by exact rfl)(j:bM ad.fe t=some E:=by exact rfl):aK P n Y J ⟨some U,.binOp .eql t x y m,M,Z,F,X⟩ (.bool true):=aK.eql K u rfl rfl (c6.XU (d:=9999) (gt (ad.Uu j)))
def V.V4(ad:ca P){t m E Q i p:Nat}{x y:bf}{a:Addr}(K:aR Y x=some (.slice (some a) G Q):=by exact rfl)(u:aR Y y=some (.slice none i p):=by exact rfl)(j:bM ad.fe t=some E:=by exact rfl):aK P n Y J ⟨some U,.binOp .eql t x y m,M,Z,F,X⟩ (.bool false):=aK.eql K u rfl rfl (c6.XU (d:=9999) (gt (ad.Uu j)))
def V.XV(ad:ca P){t m E b o:Nat}{x:bf}(K:aR Y x=some (aw b o))(i:r7 ad.arr t=some (m,E):=by exact rfl)(Q:(bM ad.gV E).isSome=true:=by exact rfl):aK P n Y J ⟨some U,.slice t x none none none,M,Z,F,X⟩ (.slice (some ⟨b,o,none⟩) m m):=aK.of λa w j _=>by
 obtain⟨G,u⟩:=uT.1 Q;have e:((⟨b,o,none⟩:Addr).add 0)=⟨b,o,none⟩:=by simp[Addr.add]
 simp only[execOp,Option.map_none,j.eval K];simp[Instr.sliceAt,Instr.sliceBounds,et (ad.WF i),pD (ad.Vc u),Instr.sureAddr,e]
def O.aaP(ad:ca P){t E gu b T o m ow:Nat}{x:bf}{c y:ab aj}{z:aj}(R:aR Y x=some (.slice (some ⟨b,o,none⟩) m ow))(d:az J (cells b T c) (cells b T y) N)(Yj:0<m)(L:o+m<=c.length)(j:eg o (List.replicate m z) c=y)(dQ:C Y N)(s:bM ad.fe t=some E:=by exact rfl)(Ye:bM ad.gV E=some 1:=by exact rfl)(Yi:bM ad.lT E=some gu:=by exact rfl)(Ym:iK ad.iZ E=some [z]:=by exact rfl)(Yq:z.oneCell'=true:=by exact rfl):av P r W D n ⟨none,.call ⟨.builtin .clear,#[x],#[t]⟩,M,Z,F,X⟩ Y J C:=av.of λK Q h a w l k=>by
 subst j;obtain⟨sz,z0,ao,Yh,Yf,Yg,Yn⟩:=ad.info Ye Yi Ym;have Yk:cells b T c∈J:=by obtain⟨p,q,rfl,_⟩:=d.split;simp
 have v:=k.mem Yk;rw[tl]at v;have Yp:(zeroValue E).run P w=.ok z0 w:=by simp[zeroValue,typeInfo,ao,Yh]
 have Yl:z0.cells=#[z]:=by rw[<-Em (xs:=z0.cells),Yn]
 have Yo:(Builtin.zeroCells z0.cells m).toList=List.replicate m z:=by
  rw[Yl];simp[Builtin.zeroCells];apply List.ext_getElem
  .simp
  .intro i G g;simp[Nat.mod_one]
 have Yc:=tq P b o T (List.replicate m z) 0 c.toArray w v Re (λu hu=>by rw[List.eq_of_mem_replicate hu];exact Yq);simp only[ho]at Yc;obtain⟨rp,rfl⟩:∃rp,m=rp+1:=⟨m-1,ac⟩
 have g:(Builtin.clear_ #[t] M #[.slice (some ⟨b,o,none⟩) (rp+1) ow]).run P w=.ok (.tuple #[]) (w.setRow b (eg o (List.replicate (rp+1) z) c).toArray):=by simp[Builtin.clear_,et (gt (ad.Uu s)),Yp,Yo,Yc,eg]
 refine jA (v:=.tuple #[]) rfl ?_ (h _ _ dQ _ _ (l.Vi _) (k.setRow d));simp only[execOp,resolve,invoke,builtin,sA,e7,lU,l.eval R,cK,eP,dW,g]
def E4{G:Nat}{a:T}(K:(f a).length=G):∀(m i:Nat),i<m*G->((List.replicate m a).flatMap f)[i]?=(f a)[i%G]?
 |0,i,h=>Uj
 |m+1,i,h=>by
  rw[AL,gn];by_cases ao:i<G
  .rw[rh ac,sB ao]
  .rw[ji ac,K];have e:(m+1)*G=m*G+G:=by rw[fr];omega
   rw[E4 K m (i-G) ac,Nat.mod_eq_sub_mod (by omega:i≥G)]
def E5{G:Nat}{a:T}(K:(f a).length=G):∀(m:Nat),((List.replicate m a).flatMap f).length=m*G
 |0=>T3
 |m+1=>by rw[AL,gn,b2,E5 K m,K,fr];omega
end
end Go.ay
namespace Go.ay
open Go
section
variable{P:bU}{r:aT Nat}{W:aZ}{D:ab Nat}{n:dq}{Y:bC}{J N:ab ax}{Z:Type}{f:Z->ab aj}
variable{M:Nat}{X:a7}{U:String}{F:Array Edge}{G:aT (Nat×Bool)}{C:bC->ab ax->Prop}
def V.Wq(ad:ca P){t m E u k:Nat}{p:IntKind}{x y:bf}{cs:ab aj}{v:aj}(T:aR Y x=some (A cs))(Q:aR Y y=some (.int p (k:Int)))(L:cs[k]?=some v)(q:k<m) (b:r7 ad.arr t=some (m,E):=by exact rfl) (K:bM ad.one E=some u:=by exact rfl) (q:bM ad.gV E=some 1:=by exact rfl):aK P n Y J ⟨some M,.index t x y,X,U,F,G⟩ v:=aK.of λa w j _=>by
 have g:jW P E (k*1) cs v:=jW.one (ad.Un K) (by rw[pd];exact L);have K:(0:Int)<=(k:Int)/\(k:Int)<(m:Int):=⟨ac,ac⟩
 simp only[execOp,j.eval T,j.eval Q];have ao:(Instr.index t (A cs) (.int p (k:Int))).run P w=.ok v w:=by unfold Instr.index;simp only[asIntOf,cK,eP,dW,et (ad.WF b),K,and_self,h7,pD (ad.Vc q),i3,g.part w]
 simp only[ao,cK,dW,eP]
def V.Vn(ad:ca P){T E y b k o q Yc L:Nat}{x:bf}{l:ab Z}{a:Z}{c:ab aj}(u:aR Y x=some (aw b (0+k*y+o)))(Q:rows f (.slice (some ⟨b,0,none⟩) Yc L) E y l∈J)(h:∀x,(f x).length=y)(t:l[k]?=some a) (K:bM ad.agg T=some q:=by exact rfl) (R:Nat.ble (o+q) y=true:=by exact rfl) (z:eZ o q (f a) c:=by infer_instance):aK P n Y J ⟨some M,.load T x,X,U,F,G⟩ (A c):=aK.of λgR w i s=>by
 obtain⟨d,hu,dM,ao⟩:=uO (ad.UT K);have Yf:=o0 R;have p:=z.eq;have Ye:=s.get _ Q;rw[fs,io]at Ye;simp only[execOp,i.eval u,Instr.loadAt,Instr.sureAddr,cK,eP,dW];have Yg:c.length=q:=by rw[<-p,jz,fp,k9,h];omega
 rw[Aw w b (0+k*y+o) T c d (λj v m=>?_) hu dM (by rw[ao,Yg])]
 .rfl
 .have Yh:(f a)[o+j]?=some v:=by
   rw[<-p]at m;simp only[jz,lS,mY]at m;split at m
   .exact m
   .cases m
  have:=Ye.cells (g:=b) rfl (k*y+(o+j)) v (by
   rw[<-u5 h l k a t]at Yh;simp only[jz,lS,mY]at Yh;split at Yh
   .exact Yh
   .cases Yh)
  rw[se]at this;simpa[qi]using this
def V.VF(ad:ca P){T E u d b k o z t:Nat}{x:bf}{l:ab Z}{a:Z}{v:aj}(Q:aR Y x=some (aw b (0+k*d+o)))(q:rows f (.slice (some ⟨b,0,none⟩) z t) E d l∈J)(y:∀x,(f x).length=d)(R:l[k]?=some a) (K:bM ad.one T=some u:=by exact rfl) (L:(f a)[o]?=some v:=by exact rfl):aK P n Y J ⟨some M,.load T x,X,U,F,G⟩ v:=aK.of λm w j p=>by
 have c:=p.get _ q;rw[fs,io]at c;simp only[execOp,j.eval Q,Instr.loadAt,Instr.sureAddr,cK,eP,dW];have:=c.cells (g:=b) rfl (k*d+o) v (by
  have i:=L;rw[<-u5 y l k a R]at i;simp only[jz,lS,mY]at i;split at i
  .exact i
  .cases i)
 rw[se]at this;rw[yp (ad.Un K) (by simpa[qi]using this)];rfl
def aiO(p o:Nat)(x c:ab aj){R k:Nat}(z:p=k*R+o)(T:k*R+R<=c.length)(y:o+x.length<=R):eg p x c=eg (k*R) (eg o x (jz (k*R) R c)) c:=by
 subst z;have T:(jz (k*R) R c).length=R:=by rw[jz,fp,k9];omega
 apply oi;intro j;rw[tx _ _ _ _ ac,tx _ _ _ _ ac,A0 _ _ _ (by rw[T];exact y),T];by_cases K:j<k*R
 .rw[aQ ac,aQ K]
 .rw[aM K];by_cases K:j<k*R+R
  .rw[aQ K,tx _ _ _ _ (by rw[T];omega)];by_cases t:j<k*R+o
   .rw[aQ t,aQ ac,jz,lS,aQ ac,mY];congr 1;omega
   .rw[aM t];by_cases T:j<k*R+o+x.length
    .rw[aQ T,aM ac,aQ ac];congr 1;omega
    .rw[aM T,aM ac,aM ac,jz,lS,aQ ac,mY];congr 1;omega
  .rw[aM ac,aM ac,aM K]
def O.aaQ(ad:ca P){T u E g k o Yc j c:Nat}{x y:bf}{l:ab Z}{a gR:Z}{v:aj}(q:aR Y x=some (aw g (0+k*c+o)))(d:aR Y y=some v)(Yf:v.oneCell'=true)(fI:l[k]?=some a)(p:bA o [v] (f a) (f gR)) (t:az J (rows f (.slice (some ⟨g,0,none⟩) Yc j) E c l) (rows f (.slice (some ⟨g,0,none⟩) Yc j) E c (l.set k gR)) N) (L:l.length=Yc) (h:∀x,(f x).length=c) (dy:Nat.blt o c=true) (dQ:C Y N) (R:bM ad.one T=some u:=by exact rfl):av P r W D n ⟨none,.store T x y,X,U,F,G⟩ Y J C:=av.of λK Q cA a0 w m s=>by
 subst L;have Ym:o<c:=by rw[mC]at dy;exact dy
 have z:k<l.length:=(cT.1 fI).1;have Yh:(k+1)*c<=l.length*c:=kh c z;rw[fr]at Yh;have Yi:(l.flatMap f).length=l.length*c:=kI h l;have Yg:az J (row (.slice (some ⟨g,0,none⟩) l.length j) E c l.length (l.flatMap f)) (row (.slice (some ⟨g,0,none⟩) l.length j) E c l.length (eg (k*c+o) [v] (l.flatMap f))) N:=by have:=t;simp only[fs,co]at this;rw[aiO (k*c+o) o [v] (l.flatMap f) rfl ac (by rw[ox];omega),u5 h l k a fI,p.eq,wQ h l k gR z];exact this
 obtain⟨eX,b,Yj⟩:=H.WJ (P:=P) s Yg (by rw[Yi,ox];omega) (by simp[Yf]);refine tt rfl ?_ (cA _ _ dQ _ _ (m.Vi undef) Yj);have Ye:(P.info? T).map (·.size)=some 1:=ad.Wi R;obtain⟨i,ao,Yk⟩:=qg.1 Ye;have Yl:v.cells=#[v]:=by cases v<;>first|rfl|(cases Yf;done)
 simp only[execOp,m.eval q,m.eval d,Instr.storeAt,Instr.sureAddr,cK,eP,dW];have K:(storeVar T ⟨g,0+k*c+o,none⟩ v).run P w=.ok () eX:=by rw[h8];simp[storeVar,sizeOf,typeInfo,ao,Yl,Yk,b]
 rw[K];rfl
end
end Go.ay
