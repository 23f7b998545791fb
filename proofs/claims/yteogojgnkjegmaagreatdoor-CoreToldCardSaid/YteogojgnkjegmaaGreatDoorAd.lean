/-
 Part of the proof.
-/
import Derived.Test.YteogojgnkjegmaaGreatDoorAb
set_option linter.all false
set_option maxRecDepth 8000
set_option maxHeartbeats 8000000
namespace Go.az
open Go
variable{C:bJ->ab ay->Prop}{D:ab Nat}{a:aT Addr}{b R:Nat}{P:b1}{W:a2}{n:dF}{N F:aT (Nat×Bool)}{rec:LoopState->aT Code->Loop}{jo:ab aj}{Y:String}{aW:aT (Nat×Bool)}{M:a8}{m:ab MapEntry}{be:Array Edge}{d:Nat}{X G:Array Edge}
section
variable{r:aT Nat}{Q:da}{an K:bJ}{ao J M:ab ay}{F:Array cc}{N:ab cc}{w:a2}
def GF(P:b1)(f:fb)(E:ab aj){Y i:Type}(Z:Y->ab ay)(u:i->ab aj)(step:Nat->i->Y->Y->Prop)(stop:Nat->Y->Prop)(j b:ab ay)(z:Y):Prop:=
 ∀(l:Nat) (o:Type) (ct:o->Y) (G X:Nat->o->Prop) (S:o->ay) (g:o),ct g=z->G 0 g->
  (∀k i c T,G k c->step k i (ct c) T->lx P l (u i) (S c::Z T) (λv J=>∃d t,v=.bool t/\(t=true->G (k+1) d)/\(t=false->X (k+1) d)/\J=S d::Z (ct d)))->
  ar P f (.func (.yield l) #[] #[]::E) (S g::j) (λ_ J=>∃d k,((G k d/\stop k (ct d))\/X k d)/\J=S d::(Z (ct d)++b))
def wq{o:Type}(G:Nat->o->Prop)(X:dY->Nat->o->Prop)(k:Nat)(e:dY)(c:o):Prop:=
 match e with
 |.normal=>G k c
 |e=>X e k c
def ah.acw{Y mo L:Type}{g:bj}{aX:ab Tmp}{assign body:Code}{kn:fb}{z:ab aj}{Z:Y->ab ay}{o:mo->ab aj}{step:Nat->mo->Y->Y->Prop}{stop:Nat->Y->Prop}{j m T:ab ay}{fx:Y}(iG:GF P kn z Z o step stop j m fx)(ct:L->Y)(S:L->ab ay)(G:Nat->L->Prop)(X:dY->Nat->L->Prop)(f:L)(Yk:ct f=fx)(eV:G 0 f)(round:∀k i c q l rec,G k c->step k i (ct c) q->re rec->∀(eK:a2) (jV:ab Nat) (K:da),(∀e d,gA e=true->wq G X (k+1) e d->∀a w,H eK jV (kl l rec::(S d++Z (ct d))) w->K e a w)->ah P (some l) eK jV ⟨n.n,[]⟩ (Exit.then (sf P l body K) tt) assign (rf aX (o i) an) (cm l rec .normal::(S c++Z q)))(done:∀k c b,G k c->stop k (ct c)->Out W D ⟨n.n,b::n.ds⟩ Q .normal an (gK b::(S c++(Z (ct c)++(m++T)))))(left:∀k c b e,gA e=true->fu e=false->X e k c->Out W D ⟨n.n,b::n.ds⟩ Q e an (gK b::(S c++(Z (ct c)++(m++T)))))(bG:aR an g=some (.func (.func kn) #[] z.toArray):=by exact rfl)(Ye:lp P kn=true:=by kernel_rfl)(Yg:ak ao (S f++j) T:=by(repeat(first|exact ak.nil|exact al.here|apply ak.cons|apply al.there)))(dd:∀x,aX.length=(o x).length:=by intro _;rfl)(cn:(aX.all λp=>Nat.blt p n.n)=true:=by exact rfl):ah P none W D n Q (.rangeFunc g aX.toArray assign body) an ao:=by
 have Yh:∀(l:ab ay) (s:ay),ak (s::(l++T)) (s::l) T:=by
  intro l s;refine ak.cons al.here ?_;induction l with
  |nil=>exact ak.nil
  |cons x l mj=>exact ak.cons al.here mj
 have Yj:∀{e:dY} {k:Nat} {c:L},gA e=true->wq G X k e c->(fu e=true/\G k c)\/(fu e=false/\X e k c):=by
  intro e k c R h;cases e with
  |normal=>exact .inl ⟨rfl,h⟩
  |ret=>exact .inr ⟨rfl,h⟩
  |exit id=>exact .inr ⟨rfl,h⟩
  |_=>cases R
 have Yc:ah P none W D n Q (.rangeFunc g aX.toArray assign body) an (aK (S f)::(j++T)):=by
  refine ah.XF (mo:={p:Nat×mo×L×Y//G p.1 p.2.2.1/\step p.1 p.2.1 (ct p.2.2.1) p.2.2.2}) (s:=j) (k:=T) (λi=>o i.1.2.1) (aK (S f)) (λi=>aK (aK (S i.1.2.2.1)::Z i.1.2.2.2)) (λi e cL=>∃d,cL=aK (aK (S d)::Z (ct d))/\wq G X (i.1.1+1) e d)
   (λe t=>∃d k,t=aK (S d)::(Z (ct d)++m)/\((e=.normal/\G k d/\stop k (ct d))\/(fu e=false/\X e k d))) bG Ye (Yh _ _) (λi=>dd _) cn ?_ ?_ ?_
  .rintro⟨⟨k,i,c,q⟩,dA,bV⟩ l rec c2 eK K cJ;have E:∀(c:L) (b:Y) (e:ay),aP [e,aK (aK (S c)::Z b)] (e::(S c++Z b)):=λc b e=>
    aP.cons e (aP.aK.trans (aP.append (ao:=[aK (S c)]) aP.aK (aP.refl (Z b))))
   have:=round k i c q l rec dA bV c2 eK (br [cm l rec .normal,aK (aK (S c)::Z q)]) K (λe d R eo a w cr=>cJ e _ R ⟨d,rfl,eo⟩ a w (cr.eqv (E d (ct d) _).symm));exact ah.eqv (E c q _) this
  .intro l rec fX;have dT:=iG l (dY×L) (λp=>ct p.2) (λk p=>p.1=.normal/\G k p.2) (λk p=>gA p.1=true/\fu p.1=false/\X p.1 k p.2) (λp=>aK [cm l rec p.1,aK (S p.2)]) (.normal,f) Yk ⟨rfl,eV⟩ ?_
   .refine dT.eqv (ao:=cm l rec .normal::aK (S f)::j) ?_ ?_
    exact T5
    .rintro v J⟨⟨e,d⟩,k,bN,rfl⟩;refine⟨cm l rec e::aK (S d)::(Z (ct d)++m),⟨e,_,?_,⟨d,k,rfl,?_⟩,rfl⟩,aP.append (ao:=[aK [cm l rec e,aK (S d)]]) aP.aK (aP.refl _)⟩
     .rcases bN with⟨⟨h,_⟩,_⟩|⟨h,_⟩
      exact Qv
      .exact h
     .rcases bN with⟨⟨h,y⟩,cd⟩|⟨_,cd,gw⟩
      .exact .inl ⟨h,y,cd⟩
      .exact .inr ⟨cd,gw⟩
   .rintro k i⟨e,c⟩ q⟨dg,dA⟩ bV;simp only at dg dA bV;subst dg;refine(fX ⟨(k,i,c,q),dA,bV⟩).eqv (ao:=aK [cm l rec .normal,aK (S c)]::Z q) ?_ ?_
    .have u:=aP.append (ao:=[aK [cm l rec .normal,aK (S c)]]) aP.aK (aP.refl (Z q));refine u.trans ?_;exact aP.cons _ (aP.aK (bg:=aK (S c)::Z q)).symm
    .rintro v J⟨e,cL,rfl,R,⟨d,rfl,eo⟩,rfl⟩;refine⟨aK [cm l rec e,aK (S d)]::Z (ct d),⟨(e,d),fu e,rfl,λh=>?_,λh=>?_,rfl⟩,?_⟩
     .rcases Yj R eo with⟨u,y⟩|⟨u,y⟩
      .refine⟨?_,y⟩;cases e<;>first|rfl|cases u
      .rw[u]at h;cases h
     .rcases Yj R eo with⟨u,y⟩|⟨u,y⟩
      .rw[u]at h;cases h
      .exact⟨R,u,y⟩
     .exact Mz
  .rintro b e t R⟨d,k,rfl,bN⟩;have conv:∀{e:dY},Out W D ⟨n.n,b::n.ds⟩ Q e an (gK b::(S d++(Z (ct d)++(m++T))))->Out W D ⟨n.n,b::n.ds⟩ Q e an (gK b::(aK (S d)::(Z (ct d)++m)++T)):=λh=>
    Out.eqv (aP.cons _ (by have:=aP.append (ao:=[aK (S d)]) aP.aK (aP.refl (Z (ct d)++(m++T)));simpa using this)) h
   rcases bN with⟨rfl,dA,Yf⟩|⟨Yi,jp⟩
   .exact conv (done k d b dA Yf)
   .exact conv (left k d b e R Yi jp)
 refine ah.eqv (bg:=aK (S f)::(j++T)) ?_ Yc;refine(aP.We Yg.perm).trans ?_;rw[ck];exact(aP.append (ao:=[aK (S f)]) aP.aK (aP.refl (j++T))).symm
def Out.acx{Y o:Type}{l:Nat}{T:dY->o->Prop}{S:o->ab ay}{Z:Y->ab ay}{ct:o->Y}{K:da}{e:dY}{v:ab ay}(i:∀e c,gA e=true->T e c->∀a w,H W D (kl l rec::(S c++Z (ct c))) w->K e a w)(c:o)(j:T e c)(E:ak ao (kl l rec::(S c++Z (ct c))) v:=by(repeat(first|exact ak.nil|exact al.here|apply ak.cons|apply al.there)))(s:gA e=true:=by exact rfl):Out W D n K e an ao:=Out.of λa w _ b=>i e c s j a w (b.hv E)
end
section keys
variable{U:Type}[DecidableEq U]
structure hW(P:b1)(Z:a8)(b8:U->aj):Prop where
 check:∀e a w,(Instr.checkKey e 10000 Z (b8 a)).run P w=.ok () w
 eq:∀a b w,(Op.equal Z (b8 a) (b8 b)).run P w=.ok (decide (a=b)) w
 zS:∃d,P.underlying Z=some d/\((∀a b,Instr.sameNow d (b8 a) (b8 b)=some (decide (a=b)))\/(∀a b,Instr.sameNow d (b8 a) (b8 b)=none))
 bits:∀a,Instr.sameBits 10000 (b8 a) (b8 a)=true
def bytes_beq(a b:ab aS):(({data:=a.toArray}:ByteArray)=={data:=b.toArray})=decide (a=b):=by rw[r7];rw[show((({data:=a.toArray}:ByteArray)=={data:=b.toArray})=true↔({data:=a.toArray}:ByteArray)={data:=b.toArray})from MapKept.bytes_beq _ _];simp only[ByteArray.mk.injEq,cO];exact⟨λh=>by have:=c7 Array.toList h;exact this,λh=>by rw[h]⟩
def hW.int{Z:a8}{k:IntKind}(h:P.underlying Z=some (.int k)):hW P Z (λn:Int=>.int k n) where
 check e a w:=MapKept.run_checkKey h Sz e 9999
 eq a b w:=by have:=dk.int (P:=P) (d:=9999) (k:=k) (p:=a) (q:=b) h;unfold dk at this;exact this w
 zS:=⟨_,h,.inl λa b=>by simp only[Instr.sameNow,ik];rw[fj,r7];simp⟩
 bits a:=MapKept.sameBits_self (d:=.int k) Sz 10000
def hW.str{Z:a8}(h:P.underlying Z=some .string):hW P Z (λl:ab aS=>S l) where
 check e a w:=MapKept.run_checkKey h Sz e 9999
 eq a b w:=by have:=dk.str (P:=P) (d:=9999) (p:=a) (q:=b) h;unfold dk at this;exact this w
 zS:=⟨_,h,.inl λa b=>by simp only[Instr.sameNow,bytes_beq]⟩
 bits a:=MapKept.sameBits_self (d:=.string) Sz 10000
end keys
section
variable{U Y:Type}[DecidableEq U]
def hd(k:U):ab (U×Y)->Nat->aT (Nat×Y)
 |[],_=>none
 |p::l,i=>if k=p.1 then some (i,p.2)else hd k l (i+1)
def aZ(l:ab (U×Y))(k:U):aT Y:=(hd k l 0).map (·.2)
def bA(l:ab (U×Y))(k:U)(v:Y):ab (U×Y):=
 match hd k l 0 with
 |some (i,_)=>l.set i (k,v)
 |none=>l++[(k,v)]
def fm(l:ab (U×Y))(k:U):ab (U×Y):=
 match hd k l 0 with
 |some (i,_)=>l.eraseIdx i
 |none=>l
def xY{k:U}:∀{l:ab (U×Y)} {i:Nat} {j:Nat} {v:Y},hd k l i=some (j,v)->i<=j/\l[j-i]?=some (k,v)
 |[],_,_,_,h=>VL
 |p::l,i,j,v,h=>by
  simp only[hd]at h;split at h
  .rename_i e;simp only[fj,nV]at h;obtain⟨rfl,rfl⟩:=h;subst e;exact⟨cx _,VK⟩
  .obtain⟨X,T⟩:=xY h;refine⟨ac,?_⟩;rw[show j-i=(j-(i+1))+1 by omega,pV];exact T
variable{b8:U->aj}{aU:Y->aj}{Z:a8}
def GG(K:hW P Z b8)(k:U)(w:a2):∀(m:ab MapEntry) (l:ab (U×Y)) (i:Nat),m.map (λe=>(e.key,e.val))=l.map (λp=>(b8 p.1,aU p.2))->(Instr.findAsking Z (b8 k) m i).run P w=.ok ((hd k l i).map λp=>(p.1,aU p.2)) w
 |[],[],i,_=>by simp[Instr.findAsking,hd]
 |[],_::_,_,h=>VT
 |_::_,[],_,h=>VT
 |e::m,p::l,i,h=>by
  simp only[eE,q9,nV]at h;obtain⟨⟨X,T⟩,G⟩:=h;unfold Instr.findAsking;rw[cW,X,K.eq k p.1 w];simp only[ed,hd];by_cases L:k=p.1
  .simp[L,T]
  .simp only[L,uV,h8,iH];exact GG K k w m l (i+1) G
def GH{d:TypeDesc}{k:U}(h:∀a b,Instr.sameNow d (b8 a) (b8 b)=some (decide (a=b))):∀(m:ab MapEntry) (l:ab (U×Y)) (i:Nat),m.map (λe=>(e.key,e.val))=l.map (λp=>(b8 p.1,aU p.2))->Instr.findNow d (b8 k) m i=some ((hd k l i).map λp=>(p.1,aU p.2))
 |[],[],i,_=>by simp[Instr.findNow,hd]
 |[],_::_,_,h=>VT
 |_::_,[],_,h=>VT
 |e::m,p::l,i,j=>by
  simp only[eE,q9,nV]at j;obtain⟨⟨X,T⟩,G⟩:=j;unfold Instr.findNow;rw[X,h k p.1];by_cases L:k=p.1
  .simp[L,hd,T]
  .simp only[L,uV,hd,iH];exact GH h m l (i+1) G
def wr(K:hW P Z b8)(k:U)(w:a2){l:ab (U×Y)}(h:m.map (λe=>(e.key,e.val))=l.map (λp=>(b8 p.1,aU p.2))):(Instr.findKey Z (b8 k) m).run P w=.ok ((hd k l 0).map λp=>(p.1,aU p.2)) w:=by
 obtain⟨d,c,E⟩:=K.zS;unfold Instr.findKey;rw[cW,eD c];simp only[ed];rcases E with E|E
 .rw[GH E m l 0 h];simp
 .cases m with
  |nil=>
   cases l with
   |nil=>simp[Instr.findNow,hd]
   |cons _ _=>simp at h
  |cons e m=>
   cases l with
   |nil=>simp at h
   |cons p l=>
    have f:=h;simp only[eE,q9,nV]at f;have:Instr.findNow d (b8 k) (e::m) 0=none:=by unfold Instr.findNow;rw[f.1.1,E k p.1]
    rw[this];exact GG K k w (e::m) (p::l) 0 h
def sh(w:a2)(b:Nat)(l:ab (aj×aj)):Prop:=
 ∃m X,w.heap[b]?=some (.map m X)/\m.toList.map (λe=>(e.key,e.val))=l/\(∀e,e∈m.toList->e.born<X)/\(m.toList.map (·.born)).Nodup
@[irreducible] def xZ(b:Nat)(l:List (Value×Value)):ay where
 gJ:=[b]
 holds w:=sh w b l
 loc w jk h cE:=by obtain⟨es,tz,bN,N⟩:=cE;exact⟨es,tz,TO,N⟩
 lt w h x b6:=by
  have:x=b:=TU
  subst this;exact Ug
def uW(b l):(xZ b l).gJ=[b]:=by unfold xZ;rfl
def qy(b l w):(xZ b l).holds w↔sh w b l:=by unfold xZ;rfl
def bz(b8:U->aj)(aU:Y->aj)(b:Nat)(l:ab (U×Y)):ay:=xZ b (l.map λp=>(b8 p.1,aU p.2))
variable{r:aT Nat}{an:bJ}{ao J:ab ay}{w:a2}{l:ab (U×Y)}
variable{dst:Nat}{ba:a8}{bd:String}
def hX(P:b1)(t k e:Nat):Bool:=match P.underlying t with|some (.map T X)=>k==T&&e==X|_=>false
def tA{t k e:Nat}(h:hX P t k e=true):P.underlying t=some (.map k e):=by
 unfold hX at h;split at h
 .rename_i T X j;simp only[c1,c9]at h;rw[j,h.1,h.2]
 .cases h
def aN.look{t e:a8}{x y:bj}{k:U}{c:aj}(i:hW P Z b8)(f:hX P t Z e=true)(p:∀w,(zeroValue e).run P w=.ok c w)(X:aR an x=some (.map (some b)))(T:aR an y=some (b8 k))(u:bz b8 aU b l∈ao):aN P n an ao ⟨some dst,.lookup t x y false,ba,bd,be,aW⟩ (match aZ l k with|some v=>aU v|none=>c):=aN.of λa w y b=>by
 have h:=b.get _ u;unfold bz at h;rw[qy]at h;obtain⟨m,q,u,E,_⟩:=h;simp only[execOp,y.eval X,y.eval T];unfold Instr.lookup;simp only[cW,eD (tA f),ed,uX u,eW,i.check,wr i k w E];unfold aZ;cases hd k l 0 with
 |none=>simp[p w]
 |some p=>simp
def aN.acy{t e:a8}{x y:bj}{k:U}{c:aj}(i:hW P Z b8)(f:hX P t Z e=true)(p:∀w,(zeroValue e).run P w=.ok c w)(X:aR an x=some (.map (some b)))(T:aR an y=some (b8 k))(u:bz b8 aU b l∈ao):aN P n an ao ⟨some dst,.lookup t x y true,ba,bd,be,aW⟩ (match aZ l k with|some v=>.tuple #[aU v,.bool true]|none=>.tuple #[c,.bool false]):=aN.of λa w y b=>by
 have h:=b.get _ u;unfold bz at h;rw[qy]at h;obtain⟨m,q,u,E,_⟩:=h;simp only[execOp,y.eval X,y.eval T];unfold Instr.lookup;simp only[cW,eD (tA f),ed,uX u,eW,i.check,wr i k w E];unfold aZ;cases hd k l 0 with
 |none=>simp[p w]
 |some p=>simp
omit[DecidableEq U]in
def aN.aaQ{t e:a8}{x:bj}(f:hX P t Z e=true)(X:aR an x=some (.map (some b)))(T:bz b8 aU b l∈ao):aN P n an ao ⟨some dst,.call ⟨.builtin .len,#[x],#[t]⟩,ba,bd,be,aW⟩ (I (l.length:Int)):=aN.of λa w p b=>by
 have h:=b.get _ T;unfold bz at h;rw[qy]at h;obtain⟨m,E,T,u,_⟩:=h;have z:m.size=l.length:=MR
 simp[execOp,resolve,invoke,builtin,Builtin.len_,p.eval X,eD (tA f),goInt,uX T,cW,z]
omit[DecidableEq U]in
def H.allocMap(h:H W D ao w):H W D (bz b8 aU w.heap.size []::ao) (w.alloc (.map #[] 0)):=by
 have:H w [] [bz b8 aU w.heap.size []] (w.alloc (.map #[] 0)):=by
  refine⟨λe j=>?_,by simp[br,bz,uW],λb X=>?_,λb X _=>uE _ _ X,VK,rfl,rfl,rfl,cx _⟩
  .obtain rfl:e=_:=by simpa using j
   unfold bz;rw[qy];exact⟨#[],0,Gu _ _,VK,VK,VK⟩
  .obtain rfl:b=w.heap.size:=by simpa[br,bz,uW]using X
   exact .inr (cx _)
 exact h.new this
omit[DecidableEq U]in
def aw.mkMap{t:a8}(b8:U->aj)(aU:Y->aj)(c:Nat.blt dst n.n=true)(X:∀b,C ((dst,.map (some b))::an) (bz b8 aU b []::ao)):aw P r W D n ⟨some dst,.makeMap t none,ba,bd,be,aW⟩ an ao C:=aw.of λK Q i a w p b=>by
 have k:(Instr.makeMap t none).run P w=.ok (.map (some w.heap.size)) (w.alloc (.map #[] 0)):=by simp[Instr.makeMap]
 refine kh rfl ?_ (i _ _ (X w.heap.size) _ _ (p.put c _) b.allocMap);simp only[execOp,Option.map_none,cW,k,ed,eW]
omit[DecidableEq U]in
def H.aaR{l f:ab (U×Y)}{o:Obj}(h:H W D ao w)(u:aB ao (bz b8 aU b l) (bz b8 aU b f) J)(a:sh (w.putObj b o) b (f.map λp=>(b8 p.1,aU p.2))):H W D J (w.putObj b o):=by
 have T:bz b8 aU b l∈ao:=by obtain⟨p,q,rfl,_⟩:=u.split;simp
 refine h.o8 u ⟨λe j=>?_,by simp[br,bz,uW],λx X=>?_,λk E y=>?_,VK,rfl,rfl,rfl,cx _⟩
 .obtain rfl:e=_:=by simpa using j
  unfold bz;rw[qy];exact a
 .left;simpa[br,bz,uW]using X
 .exact vZ (by simpa[bz,uW]using y)
def rm{o:Type}(m:Array o)(i:Nat)(f:o->o):(m.modify i f).toList=m.toList.modify i f:=VK
def ak5{t e:a8}(s:hW P Z b8)(f:hX P t Z e=true){k:U}{v:Y}(h:sh w b (l.map λp=>(b8 p.1,aU p.2))):∃o,(Instr.mapUpdate t (.map (some b)) (b8 k) (aU v)).run P w=.ok () (w.putObj b o)/\sh (w.putObj b o) b ((bA l k v).map λp=>(b8 p.1,aU p.2)):=by
 obtain⟨m,Yc,G,R,X,u⟩:=h;have L:=(pT.1 G).1;have Ye:∀o,(setObj b o).run P w=.ok () (w.putObj b o):=λo=>by simp[setObj,Sem.run,G,World.putObj]
 unfold Instr.mapUpdate bA;simp only[cW,eD (tA f),ed,uX G,s.check,wr s k w R];cases d:hd k l 0 with
 |none=>
  refine⟨.map (m.push {key:=b8 k,val:=aU v,born:=Yc}) (Yc+1),by simp[Ye],?_⟩;refine⟨_,_,tu L,by simp[R],?_,?_⟩
  .intro x T;simp only[zT,eh,fF]at T;rcases T with T|rfl
   .have:=X x T;omega
   .simp
  .simp only[zT,hJ,eE,lq];rw[gr];refine⟨u,VK,?_⟩;intro x T y E;simp only[fF]at E;subst E;obtain⟨z,c,rfl⟩:=dQ.1 T;have:=X z c;omega
 |some q=>
  obtain⟨i,v0⟩:=q;have am:=(xY d).2;simp only[CM]at am;have Yf:=(cF.1 am).1;have Yh:m.toList.length=l.length:=Rx
  have Yg:i<m.size:=by rw[<-pg,Yh];exact Yf
  have Yi:((m[i]?).map (·.key)).getD (b8 k)=b8 k:=by
   have g:(m.toList.map (λe=>(e.key,e.val)))[i]?=some (b8 k,aU v0):=by rw[R];simp[am]
   rw[h5]at g;cases aV:m[i]? with
   |none=>rfl
   |some x=>
    have:m.toList[i]?=some x:=by simpa using aV
    rw[this]at g;simp at g;simp[g.1]
  refine⟨.map (m.modify i λe=>{e with key:=b8 k,val:=aU v}) Yc,?_,?_⟩
  .simp[Yi,Instr.keyThatStays,s.bits k,Ye]
  .refine⟨_,_,tu L,?_,?_,?_⟩
   .rw[rm];apply pi;intro j;have a:(m.toList.map (λe=>(e.key,e.val)))[j]?=(l.map λp=>(b8 p.1,aU p.2))[j]?:=by rw[R]
    simp only[h5,si,i2]at a⊢;by_cases e:i=j
    .subst e;have:∃x,m.toList[i]?=some x:=⟨_,hl (by rw[Yh];exact Yf)⟩
     obtain⟨x,T⟩:=this;simp[T,Yf]
    .simp only[e,iH];cases aV:m.toList[j]? with
     |none=>rw[aV]at a;simpa using a
     |some x=>rw[aV]at a;simpa using a
   .intro x T;rw[rm]at T;obtain⟨j,a⟩:=tB T;rw[si]at a;cases aV:m.toList[j]? with
    |none=>rw[aV]at a;simp at a
    |some y=>
     rw[aV]at a;have E:=X y (im aV);split at a<;>(simp only[GI,p2,fj]at a;subst a;exact E)
   .have:(m.modify i λe=>{e with key:=b8 k,val:=aU v}).toList.map (·.born)=m.toList.map (·.born):=by
     rw[rm];apply pi;intro j;simp only[h5,si];cases m.toList[j]? with
     |none=>rfl
     |some y=>split<;>rfl
    rw[this];exact u
def aw.Wh{t e:a8}{x y z:bj}{k:U}{v:Y}{l:ab (U×Y)}(i:hW P Z b8)(f:hX P t Z e=true)(X:aR an x=some (.map (some b)))(T:aR an y=some (b8 k))(p:aR an z=some (aU v))(u:aB ao (bz b8 aU b l) (bz b8 aU b (bA l k v)) J)(E:C an J):aw P r W D n ⟨none,.mapUpdate t x y z,ba,bd,be,aW⟩ an ao C:=aw.of λK Q G a w c m=>by
 have q:bz b8 aU b l∈ao:=by obtain⟨l,r,rfl,_⟩:=u.split;simp
 have h:=m.mem q;unfold bz at h;rw[qy]at h;obtain⟨o,s,a⟩:=ak5 (k:=k) (v:=v) i f h;refine uJ rfl ?_ (G _ _ E _ _ (c.W1 undef) (m.aaR u a));simp only[execOp,c.eval X,c.eval T,c.eval p,cW,s,ed,eW]
end
section
variable{r:aT Nat}{J:bJ}{K U:ab ay}
variable{Z:Nat}{F:Array Edge}
@[irreducible] def cf(g:Nat):ay where
 gJ:=[g]
 holds w:=g<w.heap.size
 loc w jk h cE:=by
  have:=h g VK;have bf:w.heap[g]?≠none:=by simp[cE]
  rw[<-this]at bf;simpa using bf
 lt w h x b6:=by
  have:x=g:=TU
  subst this;exact h
end
section
variable{r:aT Nat}{J:bJ}{K U:ab ay}
variable{Z:Nat}{F:Array Edge}
end
section
variable{r:aT Nat}{Y:bJ}{J N:ab ay}{T:Type}{f:T->ab aj}
variable{U:Nat}{Z:String}
def partAt(a:aT Addr)(Q i R:Nat):aT Addr:=if Q=i then a else a.map (·.add (i*R))
def V.aaS(ad:cj P){t E g i j o:Nat}{p L:IntKind}{x c am:bj}(u:aR Y x=some (.slice a o R))(q:aR Y c=some (.int p (i:Int)))(v:aR Y am=some (.int L (j:Int)))(K:i<=j)(Q:j<=R)(o:bT ad.fw t=some E:=by exact rfl)(G:bT ad.ht E=some g:=by exact rfl):aN P n Y J ⟨some U,.slice t x (some c) (some am) none,M,Z,X,F⟩ (.slice (partAt a R i g) (j-i) (R-i)):=aN.of λE w a _=>by
 have R:(0:Int)<=(i:Int):=ac
 have b:(0:Int)<=(j:Int):=ac
 simp only[execOp,Instr.sliceAt,p2,a.eval u,a.eval q,a.eval v];simp[Instr.slice,Instr.sliceBounds,Instr.sliceBound,asIntOf,eD (gV (ad.V8 o)),K,Q,R,b,qv (ad.WW G),partAt]
def V.WD(ad:cj P){t E i L G:Nat}{p:IntKind}{x c:bj}(u:aR Y x=some (.slice a L G))(Q:aR Y c=some (.int p (i:Int)))(K:i<=L)(o:bT ad.fw t=some E:=by exact rfl)(q:bT ad.ht E=some R:=by exact rfl):aN P n Y J ⟨some U,.slice t x (some c) none none,M,Z,X,F⟩ (.slice (partAt a G i R) (L-i) (G-i)):=aN.of λE w a _=>by
 have G:(0:Int)<=(i:Int):=ac
 simp only[execOp,Instr.sliceAt,p2,a.eval u,a.eval Q];simp[Instr.slice,Instr.sliceBounds,Instr.sliceBound,asIntOf,eD (gV (ad.V8 o)),K,G,qv (ad.WW q),partAt]
def V.Xm(ad:cj P){t E j L q:Nat}{z:IntKind}{x am:bj}(K:aR Y x=some (.slice a L q))(v:aR Y am=some (.int z (j:Int)))(u:j<=q)(o:bT ad.fw t=some E:=by exact rfl)(Q:bT ad.ht E=some R:=by exact rfl):aN P n Y J ⟨some U,.slice t x none (some am) none,M,Z,X,F⟩ (.slice a j q):=aN.of λG w p _=>by
 have b:(0:Int)<=(j:Int):=ac
 have e:(a.map λx=>x.add 0)=a:=by cases a<;>simp[Addr.add]
 simp only[execOp,Instr.sliceAt,p2,p.eval K,p.eval v];simp[Instr.slice,Instr.sliceBounds,Instr.sliceBound,asIntOf,eD (gV (ad.V8 o)),u,b,qv (ad.WW Q),e]
def V.aaT(ad:cj P){t E i j m o:Nat}{p L h:IntKind}{x c am lA:bj}(u:aR Y x=some (.slice a o R))(G:aR Y c=some (.int p (i:Int)))(v:aR Y am=some (.int L (j:Int)))(q:aR Y lA=some (.int h (m:Int)))(K:i<=j)(Q:j<=m)(g:m<=R)(o:bT ad.fw t=some E:=by exact rfl)(R:bT ad.ht E=some d:=by exact rfl):aN P n Y J ⟨some U,.slice t x (some c) (some am) (some lA),M,Z,X,F⟩ (.slice (partAt a m i d) (j-i) (m-i)):=aN.of λE w a _=>by
 have d:(0:Int)<=(i:Int):=ac
 have b:(0:Int)<=(j:Int):=ac
 have E:(0:Int)<=(m:Int):=ac
 simp only[execOp,Instr.sliceAt,p2,a.eval u,a.eval G,a.eval v,a.eval q];simp[Instr.slice,Instr.sliceBounds,Instr.sliceBound,asIntOf,eD (gV (ad.V8 o)),K,Q,g,d,b,E,qv (ad.WW R),partAt]
def tC{R:Nat}(v:∀x,(f x).length=R):∀(l:ab T) (k:Nat),k<=l.length->(l.flatMap f).take (k*R)=(l.take k).flatMap f
 |[],k,h=>VK
 |x::l,0,_=>VK
 |x::l,k+1,h=>by have p:=v x;have u:=tC v l k VR;rw[ws,fW,fW,sd,p,show(k+1)*R=R+k*R by rw[fK];omega,show R+k*R-R=k*R by omega,u];rw[lr ac]
def wt{R:Nat}(v:∀x,(f x).length=R):∀(l:ab T) (k:Nat),k<=l.length->(l.flatMap f).drop (k*R)=(l.drop k).flatMap f
 |[],k,h=>VK
 |x::l,0,_=>VK
 |x::l,k+1,h=>by have p:=v x;have u:=wt v l k VR;rw[CN,fW,wk,p,show(k+1)*R=R+k*R by rw[fK];omega,show R+k*R-R=k*R by omega,u];rw[sc ac];simp
def H.Ya{w:a2}{g q E o x:Nat}{l L:ab T}{cs:Array aj}(m:H W D J w)(u:aB J (rows f (.slice (some ⟨g,0,none⟩) o q) E R l) (rows f (.slice (some ⟨g,0,none⟩) x q) E R L) N)(Q:x=L.length)(a:(w.setRow g cs).ownsRow 0 E R (.slice (some ⟨g,0,none⟩) L.length q) L.length (L.flatMap f)):H W D N (w.setRow g cs):=by
 subst Q;refine m.o8 u ⟨λe j=>?_,?_,λy K=>?_,λb i c=>xB w g b _ (λe=>c ?_),VK,rfl,rfl,rfl,cx _⟩
 .obtain rfl:e=_:=by simpa only[fF]using j
  rw[fM,i0];exact a
 exact Tx
 .left;rw[jl,fM,iA]at K;rw[fM,iA];simpa[br,Value.ownBlock]using K
 .rw[fM,iA];simp[Value.ownBlock,e]
def O.aaU(ad:cj P){t E hm g v i j:Nat}{x y:bj}{l:ab T}(b6:aR Y x=some (.slice (some ⟨g,0,none⟩) i R))(fX:aR Y y=some (.slice (partAt (some ⟨g,0,none⟩) R j d) (v-j) (R-j)))(dI:aB J (rows f (.slice (some ⟨g,0,none⟩) v R) E d l) (rows f (.slice (some ⟨g,0,none⟩) (i+(v-j)) R) E d (l.take i++l.drop j)) N)(dz:l.length=v)(Yt:i<=j)(dK:j<=v)(gL:∀x,(f x).length=d)(bf:jU f)(dG:C ((U,.slice (some ⟨g,0,none⟩) (i+(v-j)) R)::Y) N)(du:Nat.blt U n.n=true:=by exact rfl)(cB:bT ad.fw t=some E:=by exact rfl)(Yc:bT ad.ht E=some d:=by exact rfl)(Ym:bT ad.mO E=some hm:=by exact rfl)(Yp:jm ad.jE E=some jo:=by exact rfl):aw P r W D n ⟨some U,.call ⟨.builtin .append,#[x,y],#[t,t]⟩,M,Z,X,F⟩ Y J C:=aw.of λK Q cJ a w c0 cr=>by
 obtain⟨tD,z,am,Yf,Ye,Yh,Yq⟩:=ad.info Yc Ym Yp;subst dz;have Yi:rows f (.slice (some ⟨g,0,none⟩) l.length R) E d l∈J:=LN
 have s:=cr.mem Yi;rw[fM,i0]at s;rcases s.2 with⟨dg,_⟩|⟨wj,Yg,o,dg,_,bG,Yo,Yj,Yl,c⟩
 .cases dg
 .simp only[sb,fj,xS]at dg;obtain⟨⟨rfl,_⟩,_,rfl⟩:=dg;have Yk:o.toList.length=R*d:=by simpa using Yl
  obtain⟨G,L⟩:∃G,G=(l.drop j).flatMap f:=⟨_,rfl⟩
  have b:G.length=(l.length-j)*d:=by rw[L,lw gL];simp
  have Yu:i*d+(l.length-j)*d<=R*d:=LI
  have h:∀u∈G,u.oneCell'=true:=by rw[L];exact hk.1 (bf.flat _)
  have Yn:Src P d t (.slice (partAt (some ⟨g,0,none⟩) R j d) (l.length-j) (R-j)) (l.length-j) G w:=by
   unfold partAt;split
   .rename_i Yv;have eV:l.length-j=0:=by omega
    have Yr:G=[]:=ml (by rw[b,eV,r9]);rw[Yr,eV];exact wh w (gV (ad.V8 cB)) _ _ _ _ VK (λj u m=>by simp at m) (λu m=>by cases m)
   .refine wh w (gV (ad.V8 cB)) _ _ _ _ b (λk u m=>?_) h;have du:G=(l.flatMap f).drop (j*d):=by rw[L,wt gL l j dK]
    have ca:k<G.length:=(cF.1 m).1;rw[du,l0,<-c,mN]at m;split at m
    .have Ys:o[j*d+k]?=some u:=by simpa using m
     simp only[we,h4,World.cell?,bG];simpa using Ys
    .cases m
  have u:=uH P g (i*d) E G 0 o w bG T3 h;simp only[hj]at u;have p:(Builtin.append_ #[t,t] M #[.slice (some ⟨g,0,none⟩) i R,.slice (partAt (some ⟨g,0,none⟩) R j d) (l.length-j) (R-j)]).run P w=
    .ok (.slice (some ⟨g,0,none⟩) (i+(l.length-j)) R) (w.setRow g (o.toList.take (i*d)++G++o.toList.drop (i*d+G.length)).toArray):=by
   have v:i+(l.length-j)<=R:=ac
   have a:=Yn
   rw[<-Ye]at a u⊢
   simp[Builtin.append_,eD (gV (ad.V8 cB)),sizeOf,typeInfo,am,a.len,v,a.cells,we,u]
  have z:(l.take i++l.drop j).length=i+(l.length-j):=VG
  have q:(l.take i++l.drop j).flatMap f=(l.take i).flatMap f++G:=by rw[l3,L]
  have K:o.toList.take (i*d)=(l.take i).flatMap f:=by rw[<-tC gL l i ac,<-c,tE,qw (kY _ ac)]
  have c:((l.take i).flatMap f).length=i*d:=by rw[lw gL];congr 1;simp;omega
  have k:H W D N (w.setRow g (o.toList.take (i*d)++G++o.toList.drop (i*d+G.length)).toArray):=by
   refine H.Ya cr dI z.symm ⟨by rw[z,q,bQ,c,b,fK],.inr ⟨g,R,_,rfl,cG _,r3 w g o _ E _ bG,ac,Yj,?_,?_⟩⟩
   .simp only[pW,bQ,e8,jn,Yk];omega
   .rw[K,q,z,fK,<-b,<-c,<-bQ];exact pX
  refine kh (v:=.slice (some ⟨g,0,none⟩) (i+(l.length-j)) R) rfl ?_ (cJ _ _ dG _ _ (c0.put du _) k);simp only[execOp,resolve,invoke,builtin,tF,eE,lq,c0.eval b6,c0.eval fX,cW,eW,ed,p]
def O.ZN(ad:cj P){t E hm g i G o m c:Nat}{x:bj}{l:ab T}(b6:aR Y x=some (.slice (partAt (some ⟨g,0,none⟩) G o R) m c))(dI:aB J (rows f (.slice (some ⟨g,0,none⟩) i G) E R l) (rows f (.slice (some ⟨g,0,none⟩) i G) E R l) N)(dz:l.length=i)(ej:i<=o)(YB:o+m<=G)(dG:C Y N)(cB:bT ad.fw t=some E:=by exact rfl)(Yf:bT ad.ht E=some R:=by exact rfl)(Yp:bT ad.mO E=some hm:=by exact rfl)(Yu:jm ad.jE E=some jo:=by exact rfl)(Yv:jo.length=R:=by exact rfl)(Yz:jo.all (·.oneCell')=true:=by exact rfl):aw P r W D n ⟨none,.call ⟨.builtin .clear,#[x],#[t]⟩,M,Z,X,F⟩ Y J C:=aw.of λK Q cJ a w c0 cr=>by
 obtain⟨tD,z,am,Yh,Yg,Yj,Yt⟩:=ad.info Yf Yp Yu;subst dz;have Yk:rows f (.slice (some ⟨g,0,none⟩) l.length G) E R l∈J:=LN
 have Yl:N=J:=by obtain⟨p,q,rfl,rfl⟩:=dI.split;rfl
 by_cases Yq:m=0
 .subst Yq;refine kh (v:=.tuple #[]) rfl ?_ (cJ _ _ dG _ _ (c0.W1 _) (by rw[Yl];exact cr));have:(Builtin.clear_ #[t] M #[.slice (partAt (some ⟨g,0,none⟩) G o R) 0 c]).run P w=.ok (.tuple #[]) w:=by simp only[partAt];split<;>simp[Builtin.clear_,eD (gV (ad.V8 cB))]
  simp[execOp,resolve,invoke,builtin,c0.eval b6,this]
 .have y:=cr.mem Yk;rw[fM,i0]at y;rcases y.2 with⟨dg,_⟩|⟨wj,Yi,L,dg,_,bG,Yr,Ym,Yo,d⟩
  .cases dg
  .simp only[sb,fj,xS]at dg;obtain⟨⟨rfl,_⟩,_,rfl⟩:=dg;have Yn:L.toList.length=G*R:=by simpa using Yo
   have Yx:(zeroValue E).run P w=.ok z w:=by simp[zeroValue,typeInfo,am,Yh]
   have Ys:z.cells.size=R:=by rw[<-pg,Yt,Yv]
   obtain⟨j,k⟩:∃j,j=(Builtin.zeroCells z.cells m).toList:=⟨_,rfl⟩
   have b:j.length=m*R:=by rw[k];simp[Builtin.zeroCells,Ys]
   have Yy:∀u∈j,u.oneCell'=true:=by
    intro u hu;rw[k]at hu;have Yw:R≠0:=by intro h;rw[h]at b;have:j=[]:=ml Uk;rw[<-k,this]at hu;cases hu
    simp only[Builtin.zeroCells,Array.toList_map,Array.toList_range,dQ,mi]at hu;obtain⟨q,_,rfl⟩:=hu;have Yc:q%z.cells.size<z.cells.size:=Nat.mod_lt _ ac;rw[getElem!_pos z.cells _ Yc];exact hk.1 Yz _ (by rw[<-Yt];simp)
   have YA:o*R+m*R<=G*R:=by rw[<-fK];exact kY _ YB
   have s:l.length*R<=o*R:=kY _ ej;have Ye:=uH P g (o*R) E j 0 L w bG T3 Yy;simp only[hj]at Ye;have YC:partAt (some ⟨g,0,none⟩) G o R=some ⟨g,o*R,none⟩:=MK
   have c2:(Builtin.clear_ #[t] M #[.slice (some ⟨g,o*R,none⟩) m c]).run P w=.ok (.tuple #[]) (w.setRow g (L.toList.take (o*R)++j++L.toList.drop (o*R+j.length)).toArray):=by
    obtain⟨qz,rfl⟩:∃qz,m=qz+1:=⟨m-1,ac⟩
    simp[Builtin.clear_,eD (gV (ad.V8 cB)),Yx,<-k,Ye]
   have i:H W D N (w.setRow g (L.toList.take (o*R)++j++L.toList.drop (o*R+j.length)).toArray):=by
    refine H.Ya cr dI rfl ⟨y.1,.inr ⟨g,G,_,rfl,cG _,r3 w g L _ E _ bG,Yr,Ym,?_,?_⟩⟩
    .simp only[pW,bQ,e8,jn,Yn];omega
    .rw[ck,oA (by simp only[e8,Yn];omega),tE,qw s];exact d
   refine kh (v:=.tuple #[]) rfl ?_ (cJ _ _ dG _ _ (c0.W1 _) i);simp only[execOp,resolve,invoke,builtin,tF,eE,lq,c0.eval b6,YC,cW,eW,ed,c2]
def O.ZO(ad:cj P){t cD E j hm:Nat}{x y:bj}{Yk:aT Addr}{u:aj}{l:ab T}(q:aR Y x=some (.slice Yk 0 0))(G:aR Y y=some u)(o:cz P J f j cD u l)(v:l≠[])(s:∀x,(f x).length=j)(dG:∀g L,C ((U,.slice (some ⟨g,0,none⟩) l.length L)::Y) (rows f (.slice (some ⟨g,0,none⟩) l.length L) E j l::J))(du:Nat.blt U n.n=true:=by exact rfl)(c:bT ad.fw t=some E:=by exact rfl)(Yc:bT ad.ht E=some j:=by exact rfl)(Ym:bT ad.mO E=some hm:=by exact rfl)(Yp:jm ad.jE E=some jo:=by exact rfl)(Yq:jo.length=j:=by exact rfl)(Yu:l.length<=9223372036854775807:=by omega)(Yt:l.length*hm<=140737488355328:=by omega):aw P r W D n ⟨some U,.call ⟨.builtin .append,#[x,y],#[t,cD]⟩,M,Z,X,F⟩ Y J C:=aw.of λK Q cJ a w h cr=>by
 obtain⟨i,z,am,Yf,Ye,Yi,Yr⟩:=ad.info Yc Ym Yp;have Yn:Src P j cD u l.length (l.flatMap f) w:=o w cr.hold;have Yg:0<l.length:=qA.2 v;have Yo:z.cells.size=j:=by rw[<-pg,Yr,Yq]
 have Yv:(Builtin.firstCells i.size 0 (.slice Yk 0 0)).run P w.drew=.ok (#[]:Array aj) w.drew:=by
  cases Yk with
  |none=>rfl
  |some b=>exact wg w.drew i.size 0 b 0 0 [] VK VK
 have Yl:(l.flatMap f).length=l.length*j:=lw s l;subst Ye;subst Yi;have p:=CA (P:=P) w t cD M E i z (gV (ad.V8 c)) am Yf Yk 0 0 [] Yv u l.length (l.flatMap f) Yn ac ac (zO ac (by simpa using Yt));simp only[h4,g4]at p;have Ys:=zL w l.length 0 E;have Yj:grownCap w l.length 0 E<=maxLen:=zM w l.length 0 E P7;have Yh:H W D (rows f (.slice (some ⟨w.heap.size,0,none⟩) l.length (grownCap w l.length 0 E)) E i.size l::J) (w.drew.alloc (.cells ((l.flatMap f).toArray++Builtin.zeroCells z.cells (grownCap w l.length 0 E-l.length)) E)):=by
  refine H.new (zv:=[rows f (.slice (some ⟨w.heap.size,0,none⟩) l.length (grownCap w l.length 0 E)) E i.size l]) cr ⟨λe m=>?_,?_,λb R=>?_,λk d _=>uE w.drew _ d,VK,rfl,rfl,rfl,xQ _⟩
  .obtain rfl:e=_:=by simpa only[fF]using m
   rw[fM,i0];refine⟨Yl,.inr ⟨w.heap.size,_,_,rfl,cG _,zw w.drew _,Ys,Yj,?_,?_⟩⟩
   .simp only[zN,pW,Cy,Yo,Yl,<-fK];congr 1;omega
   .simp only[Cz];rw[<-Yl];exact pX
  exact Tx
  .rw[jl,fM,iA]at R;right;have:b=w.heap.size:=by simpa[br,Value.ownBlock]using R
   omega
 refine kh (v:=.slice (some ⟨w.heap.size,0,none⟩) l.length (grownCap w l.length 0 E)) rfl ?_ (cJ _ _ (dG _ _) _ _ (h.put du _) Yh);simp only[execOp,resolve,invoke,builtin,tF,eE,lq,h.eval q,h.eval G,cW,eW,ed,p]
def V.ZP(ad:cj P){t cD E h j:Nat}{x y:bj}{Yc:aT Addr}{u:aj}{k:ab aj}(K:aR Y x=some (.slice Yc j R))(Q:aR Y y=some u)(G:cz P J f d cD u [])(Ye:j<=R)(L:bT ad.fw t=some E:=by exact rfl)(l:bT ad.ht E=some d:=by exact rfl)(Yf:bT ad.mO E=some h:=by exact rfl)(Yh:jm ad.jE E=some k:=by exact rfl):aN P n Y J ⟨some U,.call ⟨.builtin .append,#[x,y],#[t,cD]⟩,M,Z,X,F⟩ (.slice Yc j R):=aN.of λa w p b=>by
 obtain⟨i,z,am,m,c,s,Yi⟩:=ad.info l Yf Yh;have Yg:Src P d cD u 0 [] w:=G w b;subst c;have o:(Builtin.append_ #[t,cD] M #[.slice Yc j R,u]).run P w=.ok (.slice Yc j R) w:=by have g:=Yg.cells;rcases Yg.kind with⟨v,q⟩|q<;>cases Yc<;>simp[Builtin.append_,eD (gV (ad.V8 L)),eD q,sizeOf,typeInfo,am,Yg.len,Ye,g,storeCells]
 simp only[execOp,resolve,invoke,builtin,tF,eE,lq,p.eval K,p.eval Q,cW,eW,ed,o]
def cz.part(ad:cj P){E cD lu g q i j:Nat}{l:ab T}{c:Nat}{v:aj}(t:v=.slice (partAt (some ⟨g,0,none⟩) q i R) (j-i) c)(Q:az.rows f (.slice (some ⟨g,0,none⟩) l.length q) E R l∈J)(Yo:i<=j)(p:j<=l.length)(y:∀x,(f x).length=R)(K:jU f)(L:bT ad.fw cD=some lu:=by exact rfl):cz P J f R cD v ((l.drop i).take (j-i)):=by
 intro w s;subst t;have Ye:=s.get _ Q;rw[fM,i0]at Ye;have m:((l.drop i).take (j-i)).length=j-i:=VG
 rw[m];rcases Ye.2 with⟨a,_⟩|⟨h,Yf,z,a,_,G,Yl,Yg,Yh,Yi⟩
 .cases a
 .simp only[sb,fj,xS]at a;obtain⟨⟨rfl,_⟩,_,rfl⟩:=a;obtain⟨Yc,Yj⟩:∃Yc,Yc=((l.drop i).take (j-i)).flatMap f:=⟨_,rfl⟩
  have Yk:Yc.length=(j-i)*R:=by rw[Yj,lw y,m]
  rw[<-Yj];unfold partAt;split
  .have o:j-i=0:=by omega
   have Ym:Yc=[]:=ml (by rw[Yk,o,r9]);rw[Ym,o];exact wh w (gV (ad.V8 L)) _ _ _ _ VK (λj u d=>by simp at d) (λu d=>by cases d)
  .refine wh w (gV (ad.V8 L)) _ _ _ _ Yk (λk u d=>?_) (by rw[Yj];exact hk.1 (K.flat _));have b:Yc=((l.flatMap f).drop (i*R)).take ((j-i)*R):=by rw[Yj,wt y l i ac,tC y (l.drop i) (j-i) VG]
   rw[b,mN]at d;split at d
   .rw[l0,<-Yi,mN]at d;split at d
    .have Yn:z[i*R+k]?=some u:=by simpa using d
     simp only[we,h4,World.cell?,G];simpa using Yn
    .cases d
   .cases d
def dk.aaV{t E o Q x i:Nat}(h:P.underlying t=some (.slice E)):dk P (d+1) t (.slice a o Q) (.slice none x i) a.isNone:=by unfold dk;intro w;cases a<;>simp[Op.equalIn,eD h]
def V.Yb(ad:cj P){t h E o Q q i:Nat}{x y:bj}(K:aR Y x=some (.slice none o Q):=by exact rfl)(u:aR Y y=some (.slice none q i):=by exact rfl)(o:bT ad.fw t=some E:=by exact rfl):aN P n Y J ⟨some U,.binOp .eql t x y h,M,Z,X,F⟩ (.bool true):=aN.eql K u rfl rfl (dk.aaV (d:=9999) (gV (ad.V8 o)))
def V.Xw(ad:cj P){t h E o Q q i:Nat}{x y:bj}{a:Addr}(K:aR Y x=some (.slice (some a) o Q):=by exact rfl)(u:aR Y y=some (.slice none q i):=by exact rfl)(o:bT ad.fw t=some E:=by exact rfl):aN P n Y J ⟨some U,.binOp .eql t x y h,M,Z,X,F⟩ (.bool false):=aN.eql K u rfl rfl (dk.aaV (d:=9999) (gV (ad.V8 o)))
def V.aaW(ad:cj P){t m E o:Nat}{x:bj}(K:aR Y x=some (av b o))(z:te ad.arr t=some (m,E):=by exact rfl)(Q:(bT ad.ht E).isSome=true:=by exact rfl):aN P n Y J ⟨some U,.slice t x none none none,M,Z,X,F⟩ (.slice (some ⟨b,o,none⟩) m m):=aN.of λa w p _=>by
 obtain⟨R,i⟩:=uK.1 Q;have e:((⟨b,o,none⟩:Addr).add 0)=⟨b,o,none⟩:=by simp[Addr.add]
 simp only[execOp,Option.map_none,p.eval K];simp[Instr.sliceAt,Instr.sliceBounds,eD (ad.ZH z),qv (ad.WW i),Instr.sureAddr,e]
def O.acz(ad:cj P){t E hm T o m po:Nat}{x:bj}{c y:ab aj}{z:aj}(R:aR Y x=some (.slice (some ⟨b,o,none⟩) m po))(d:aB J (cells b T c) (cells b T y) N)(Yk:0<m)(L:o+m<=c.length)(j:ey o (List.replicate m z) c=y)(dG:C Y N)(l:bT ad.fw t=some E:=by exact rfl)(Ye:bT ad.ht E=some 1:=by exact rfl)(Yj:bT ad.mO E=some hm:=by exact rfl)(Ym:jm ad.jE E=some [z]:=by exact rfl)(Yq:z.oneCell'=true:=by exact rfl):aw P r W D n ⟨none,.call ⟨.builtin .clear,#[x],#[t]⟩,M,Z,X,F⟩ Y J C:=aw.of λK Q h a w k s=>by
 subst j;obtain⟨tD,z0,am,Yg,Yf,Yh,Yn⟩:=ad.info Ye Yj Ym;have Yi:cells b T c∈J:=by obtain⟨p,q,rfl,_⟩:=d.split;simp
 have v:=s.mem Yi;rw[uD]at v;have Yp:(zeroValue E).run P w=.ok z0 w:=by simp[zeroValue,typeInfo,am,Yg]
 have Yl:z0.cells=#[z]:=by rw[<-F4 (xs:=z0.cells),Yn]
 have Yo:(Builtin.zeroCells z0.cells m).toList=List.replicate m z:=by
  rw[Yl];simp[Builtin.zeroCells];apply List.ext_getElem
  .simp
  .intro i G g;simp[Nat.mod_one]
 have Yc:=uH P b o T (List.replicate m z) 0 c.toArray w v (by simpa using L) (λu hu=>by rw[List.eq_of_mem_replicate hu];exact Yq);simp only[hj]at Yc;obtain⟨qz,rfl⟩:∃qz,m=qz+1:=⟨m-1,ac⟩
 have g:(Builtin.clear_ #[t] M #[.slice (some ⟨b,o,none⟩) (qz+1) po]).run P w=.ok (.tuple #[]) (w.setRow b (ey o (List.replicate (qz+1) z) c).toArray):=by simp[Builtin.clear_,eD (gV (ad.V8 l)),Yp,Yo,Yc,ey]
 refine kh (v:=.tuple #[]) rfl ?_ (h _ _ dG _ _ (k.W1 _) (s.setRow d));simp only[execOp,resolve,invoke,builtin,tF,eE,lq,k.eval R,cW,eW,ed,g]
def GJ{R:Nat}{a:T}(K:(f a).length=R):∀(m i:Nat),i<m*R->((List.replicate m a).flatMap f)[i]?=(f a)[i%R]?
 |0,i,h=>VT
 |m+1,i,h=>by
  rw[Cp,fW];by_cases am:i<R
  .rw[pU ac,tG am]
  .rw[iC ac,K];have e:(m+1)*R=m*R+R:=by rw[fK];omega
   rw[GJ K m (i-R) ac,Nat.mod_eq_sub_mod (by omega:i≥R)]
def GK{R:Nat}{a:T}(K:(f a).length=R):∀(m:Nat),((List.replicate m a).flatMap f).length=m*R
 |0=>VK
 |m+1=>by rw[Cp,fW,bQ,GK K m,K,fK];omega
end
section
variable{r:aT Nat}{Y:bJ}{J Z:ab ay}{M:Type}{f:M->ab aj}
variable{N:Nat}{X:a8}{U:String}
def V.Yd(ad:cj P){t m E u k:Nat}{R:IntKind}{x y:bj}{cs:ab aj}{v:aj}(T:aR Y x=some (A cs))(Q:aR Y y=some (.int R (k:Int)))(z:cs[k]?=some v)(q:k<m)(j:te ad.arr t=some (m,E):=by exact rfl)(K:bT ad.one E=some u:=by exact rfl)(q:bT ad.ht E=some 1:=by exact rfl):aN P n Y J ⟨some N,.index t x y,X,U,G,F⟩ v:=aN.of λa w p _=>by
 have g:jD P E (k*1) cs v:=jD.one (ad.V2 K) (by rw[p3];exact z);have K:(0:Int)<=(k:Int)/\(k:Int)<(m:Int):=⟨ac,ac⟩
 simp only[execOp,p.eval T,p.eval Q];have am:(Instr.index t (A cs) (.int R (k:Int))).run P w=.ok v w:=by unfold Instr.index;simp only[asIntOf,cW,eW,ed,eD (ad.ZH j),K,and_self,ik,qv (ad.WW q),hY,g.part w]
 simp only[am,cW,ed,eW]
def V.WY(ad:cj P){T E y k o q Yc z:Nat}{x:bj}{l:ab M}{a:M}{c:ab aj}(u:aR Y x=some (av b (0+k*y+o)))(Q:rows f (.slice (some ⟨b,0,none⟩) Yc z) E y l∈J)(i:∀x,(f x).length=y)(R:l[k]?=some a)(K:bT ad.agg T=some q:=by exact rfl)(L:Nat.ble (o+q) y=true:=by exact rfl)(t:fk o q (f a) c:=by infer_instance):aN P n Y J ⟨some N,.load T x,X,U,G,F⟩ (A c):=aN.of λhb w s cr=>by
 obtain⟨d,hu,h,am⟩:=vT (ad.WC K);have Yf:=pQ L;have p:=t.eq;have Ye:=cr.get _ Q;rw[fM,i0]at Ye;simp only[execOp,s.eval u,Instr.loadAt,Instr.sureAddr,cW,eW,ed];have Yg:c.length=q:=by rw[<-p,kg,e8,jn,i];omega
 rw[Ca w b (0+k*y+o) T c d (λj v m=>?_) hu h (by rw[am,Yg])]
 .rfl
 .have Yh:(f a)[o+j]?=some v:=by
   rw[<-p]at m;simp only[kg,mN,l0]at m;split at m
   .exact m
   .cases m
  have:=Ye.cells (g:=b) rfl (k*y+(o+j)) v (by
   rw[<-wi i l k a R]at Yh;simp only[kg,mN,l0]at Yh;split at Yh
   .exact Yh
   .cases Yh)
  rw[tn]at this;simpa[pd]using this
def V.Xa(ad:cj P){T E u L k o z:Nat}{x:bj}{l:ab M}{a:M}{v:aj}(Q:aR Y x=some (av b (0+k*L+o)))(q:rows f (.slice (some ⟨b,0,none⟩) z d) E L l∈J)(p:∀x,(f x).length=L)(R:l[k]?=some a)(K:bT ad.one T=some u:=by exact rfl)(t:(f a)[o]?=some v:=by exact rfl):aN P n Y J ⟨some N,.load T x,X,U,G,F⟩ v:=aN.of λj w y m=>by
 have c:=m.get _ q;rw[fM,i0]at c;simp only[execOp,y.eval Q,Instr.loadAt,Instr.sureAddr,cW,eW,ed];have:=c.cells (g:=b) rfl (k*L+o) v (by
  have i:=t;rw[<-wi p l k a R]at i;simp only[kg,mN,l0]at i;split at i
  .exact i
  .cases i)
 rw[tn]at this;rw[zx (ad.V2 K) (by simpa[pd]using this)];rfl
def afs(p o:Nat)(x c:ab aj){g k:Nat}(z:p=k*g+o)(u:k*g+g<=c.length)(a:o+x.length<=g):ey p x c=ey (k*g) (ey o x (kg (k*g) g c)) c:=by
 subst z;have T:(kg (k*g) g c).length=g:=by rw[kg,e8,jn];omega
 apply pi;intro j;rw[uP _ _ _ _ ac,uP _ _ _ _ ac,CB _ _ _ (by rw[T];exact a),T];by_cases K:j<k*g
 .rw[aJ ac,aJ K]
 .rw[aG K];by_cases K:j<k*g+g
  .rw[aJ K,uP _ _ _ _ (by rw[T];omega)];by_cases R:j<k*g+o
   .rw[aJ R,aJ ac,kg,mN,aJ ac,l0];congr 1;omega
   .rw[aG R];by_cases m:j<k*g+o+x.length
    .rw[aJ m,aG ac,aJ ac];congr 1;omega
    .rw[aG m,aG ac,aG ac,kg,mN,aJ ac,l0];congr 1;omega
  .rw[aG ac,aG ac,aG K]
def O.acA(ad:cj P){T u E g k o Yc p c:Nat}{x y:bj}{l:ab M}{a hb:M}{v:aj}(q:aR Y x=some (av g (0+k*c+o)))(d:aR Y y=some v)(Yg:v.oneCell'=true)(eJ:l[k]?=some a)(j:bH o [v] (f a) (f hb))(L:aB J (rows f (.slice (some ⟨g,0,none⟩) Yc p) E c l) (rows f (.slice (some ⟨g,0,none⟩) Yc p) E c (l.set k hb)) Z)(z:l.length=Yc)(m:∀x,(f x).length=c)(h:Nat.blt o c=true)(dG:C Y Z)(R:bT ad.one T=some u:=by exact rfl):aw P r W D n ⟨none,.store T x y,X,U,G,F⟩ Y J C:=aw.of λK Q cJ a0 w s cr=>by
 subst z;have Yl:o<c:=by rw[nr]at h;exact h
 have t:k<l.length:=(cF.1 eJ).1;have Yh:(k+1)*c<=l.length*c:=kY c t;rw[fK]at Yh;have Yi:(l.flatMap f).length=l.length*c:=lw m l;have Yf:aB J (row (.slice (some ⟨g,0,none⟩) l.length p) E c l.length (l.flatMap f)) (row (.slice (some ⟨g,0,none⟩) l.length p) E c l.length (ey (k*c+o) [v] (l.flatMap f))) Z:=by have:=L;simp only[fM,cy]at this;rw[afs (k*c+o) o [v] (l.flatMap f) rfl ac (by rw[nX];omega),wi m l k a eJ,j.eq,xT m l k hb t];exact this
 obtain⟨fi,b,Yj⟩:=H.ZL (P:=P) cr Yf (by rw[Yi,nX];omega) (by simp[Yg]);refine uJ rfl ?_ (cJ _ _ dG _ _ (s.W1 undef) Yj);have Ye:(P.info? T).map (·.size)=some 1:=ad.X3 R;obtain⟨i,am,Yk⟩:=qs.1 Ye;have Ym:v.cells=#[v]:=by cases v<;>first|rfl|(cases Yg;done)
 simp only[execOp,s.eval q,s.eval d,Instr.storeAt,Instr.sureAddr,cW,eW,ed];have u:(storeVar T ⟨g,0+k*c+o,none⟩ v).run P w=.ok () fi:=by rw[h4];simp[storeVar,sizeOf,typeInfo,am,Ym,Yk,b]
 rw[u];rfl
end
end Go.az
