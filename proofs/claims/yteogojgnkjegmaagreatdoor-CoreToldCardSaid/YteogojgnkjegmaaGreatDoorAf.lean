/-
 Part of the proof.
-/
import Derived.Test.YteogojgnkjegmaaGreatDoorAc
import Derived.Test.YteogojgnkjegmaaGreatDoorAe
set_option linter.all false
set_option maxRecDepth 8000
set_option maxHeartbeats 8000000
namespace Go.az
open Go
variable{D:ab Nat}{P:b1}{C:bJ->ab ay->Prop}{Q:da}{n:dF}{R:aT (Nat×Bool)}{W:a2}{J:ab ay}{off:Nat}{T:aT (Nat×Bool)}{K M:Act->a2->Prop}{b:Nat}{F:Type}{U:bJ}{d:Array Edge}
section
variable{r:aT Nat}{N:Nat}{Y J:bJ}{U Z bg:ab ay}{w:a2}
def z2(bg U:ab ay):aP (aK bg::U) (bg++U):=aP.append (ao:=[aK bg]) aP.aK (aP.refl U)
def aeH(bg v U:ab ay):aP (bg++(aK v::U)) (bg++(v++U)):=(aP.refl bg).append (z2 v U)
def GX:∀(X M:ab Nat),gp (X++M)=gp X++gp M
 |[],_=>rfl
 |b::X,M=>by simp only[mQ,gp];rw[GX X M]
def ah.ZR{o:Type}{c:Code}(q:ab Nat)(J:o->Prop)(E:o->bJ)(S:o->ab ay)(L:o->Nat)(n:o){i:bJ}{u:ab ay}(f:J n)(h:∀x F,J x->∀K:Act->a2->Prop,(∀y z,J y->L y<L x->∀a w,dx ⟨N,z⟩ (E y++i) a->H W D (S y++(aK (gp z)::u)) w->K a w)->ah P r W D ⟨N,F⟩ (Exit.then K Q) c (E x++i) (S x++(aK (gp F)::u)))(T:lv Y q i:=by(repeat(first|exact lv.nil|apply lv.cons rfl)))(v:dy Y (E n):=by(repeat(first|exact dy.nil|refine dy.cons rfl rfl ?_)))(q:ak U (S n) u:=by(repeat(first|exact ak.nil|exact al.here|apply ak.cons|apply al.there))):ah P r W D ⟨N,[]⟩ Q (.loop c) Y U:=ah.of λa w p b=>by
 classical
 let I:Act->a2->Prop:=λa w=>∃x F,J x/\dx ⟨N,F⟩ (E x++i) a/\H W D (S x++(aK (gp F)::u)) w;let M:Act->a2->Nat->Prop:=λa w k=>∃x F,J x/\L x=k/\dx ⟨N,F⟩ (E x++i) a/\H W D (S x++(aK (gp F)::u)) w;have ex:∀a w,I a w->∃k,M a w k/\∀j,j<k->¬M a w j:=λa w ⟨x,F,C,l⟩=>Cd _ (L x) ⟨x,F,C,rfl,l⟩;let m:Act->a2->Nat:=λa w=>if h:I a w then Classical.choose (ex a w h)else 0
 have mspec:∀a w (h:I a w),M a w (m a w)/\∀j,j<m a w->¬M a w j:=λa w h=>O6
 have X:H W D (S n++(aK (gp [])::u)) w:=(b.Wy q).eqv (aeH (S n) [] u).symm;refine wpIn_loop I m ⟨n,[],f,p.sub (v.app T.sub).get,X⟩ λa w k=>?_;obtain⟨⟨x,F,b,C,l,v⟩,_⟩:=mspec a w k;refine uI (ah.get (h x F b (λa w=>∃y z,J y/\L y<L x/\dx ⟨N,z⟩ (E y++i) a/\H W D (S y++(aK (gp z)::u)) w) (λy z M C a w G n=>⟨y,z,M,C,G,n⟩)) a w l v) λe K R aV=>?_;cases e with
 |normal=>
  obtain⟨y,z,i,C,a,p⟩:=aV;refine⟨⟨y,z,i,a,p⟩,?_⟩;have M:I K R:=⟨y,z,i,a,p⟩
  have:=(mspec K R M).2 (L y);rcases o9 (L y) (m K R)with n|M
  .exact absurd ⟨y,z,i,rfl,a,p⟩ (this n)
  .omega
 |_=>exact aV
def Out.XH{o:Type}{J G:o->Prop}{E:o->bJ}{S:o->ab ay}{p:bJ}{u v:ab ay}{C:ab Nat}(i:∀y z,J y->G y->∀a w,dx ⟨N,z⟩ (E y++p) a->H W D (S y++(aK (gp z)::u)) w->K a w)(X:ab Nat)(y:o)(m:J y)(q:G y)(j:dy Y (E y++p):=by(repeat(first|exact dy.nil|refine dy.cons rfl rfl ?_)))(E:ak U (S y++(gp X++(aK (gp C)::u))) v:=by(repeat(first|exact ak.nil|exact al.here|apply ak.cons|apply al.there))):Out W D ⟨N,X++C⟩ (Exit.then K Q) .normal Y U:=Out.of λa w p b=>by refine i y (X++C) m q a w (p.sub j.get) ?_;have M:=b.hv E;refine M.eqv ?_;refine(aP.refl (S y)).append ?_;refine aP.trans ?_ (z2 (gp (X++C)) u).symm;rw[GX,ck];exact(aP.refl (gp X)).append (z2 (gp C) u)
def GY(x:ay)(m:ab ay):∀l:ab ay,al (l++x::m) x (l++m)
 |[]=>al.here
 |_::l=>al.there (GY x m l)
def ah.W3{c:Code}{v:ab ay}(h:ah P r W D n Q c Y (v++bg))(E:ak U [aK bg] v:=by(repeat(first|exact ak.nil|exact al.here|apply ak.cons|apply al.there))):ah P r W D n Q c Y U:=by refine ah.eqv ?_ h;refine(aP.We E.perm).trans ?_;exact(z2 bg v).trans (aP.We oG)
end
section
variable{Y U:Type}[DecidableEq Y]
def aev(k:Y):fm ([]:ab (Y×U)) k=[]:=rfl
def uY(p:Y×U)(l:ab (Y×U))(k:Y):fm (p::l) k=if k=p.1 then l else p::fm l k:=by
 unfold fm;simp only[hd];by_cases h:k=p.1
 .simp[h]
 .rw[aG h,aG h,x1 k l (0+1)];cases hd k l 0 with
  |none=>simp
  |some q=>simp
def ajM{l:ab (Y×U)}{k:Y}(h:k∉l.map (·.1)):aZ l k=none:=by
 induction l with
 |nil=>rfl
 |cons p l E=>
  rw[eE,cQ,nt]at h;rw[kE,aG h.1,E h.2]
def pp(l:ab (Y×U))(k:Y):(fm l k).Sublist l:=by
 induction l with
 |nil=>exact rp
 |cons p l E=>
  rw[uY];split
  .exact GZ _ _
  .exact E.cons_cons _
def tI{l:ab (Y×U)}{k:Y}(h:(l.map (·.1)).Nodup):((fm l k).map (·.1)).Nodup:=h.sublist ((pp l k).map _)
def ad5{l:ab (Y×U)}{k x:Y}{v:U}(h:x∈(bA l k v).map (·.1)):x=k\/x∈l.map (·.1):=by
 induction l with
 |nil=>rw[qC]at h;exact .inl VR
 |cons p l E=>
  rw[lB]at h;split at h
  .rcases cQ.1 h with h|h
   .exact .inl h
   .exact .inr (e0 _ h)
  .rcases cQ.1 h with h|h
   .exact .inr (by rw[h];exact er ..)
   .rcases E h with h|h
    .exact .inl h
    .exact .inr (e0 _ h)
def rq{l:ab (Y×U)}{k:Y}{v:U}(h:(l.map (·.1)).Nodup):((bA l k v).map (·.1)).Nodup:=by
 induction l with
 |nil=>rw[qC];simp
 |cons p l E=>
  rw[eE,ki]at h;rw[lB];split
  .rename_i e;subst e;rw[eE,ki];exact h
  .rename_i e;rw[eE,ki];refine⟨λq=>?_,E h.2⟩;rcases ad5 q with q|q
   .exact e q.symm
   .exact h.1 q
def oJ{l:ab (Y×U)}{k G:Y}(h:(l.map (·.1)).Nodup):aZ (fm l k) G=if G=k then none else aZ l G:=by
 induction l with
 |nil=>rw[aev,mu];split<;>rfl
 |cons p l q=>
  rw[eE,ki]at h;rw[uY];by_cases E:k=p.1
  .rw[aJ E,kE];by_cases f:G=k
   .rw[aJ f,f,E];exact ajM h.1
   .rw[aG f,aG (by rw[<-E];exact f)]
  .rw[aG E,kE,kE,q h.2];by_cases f:G=k
   .subst f;simp[E]
   .simp[f]
end
section
variable{r:aT Nat}{J:bJ}{X N:ab ay}{w:a2}{K:Nat}{ba:a8}{F:String}{u:Array Edge}
variable{Y U:Type}[DecidableEq Y]{Z:Y->aj}{aU:U->aj}{M:a8}{l:ab (Y×U)}
def aey{t z e ba:a8}(i:hW P M Z)(f:hX P t M e=true){k:Y}(h:sh w b (l.map λp=>(Z p.1,aU p.2))):∃o,(Builtin.delete_ #[t,z] ba #[.map (some b),Z k]).run P w=.ok (.tuple #[]) (w.putObj b o)/\sh (w.putObj b o) b ((fm l k).map λp=>(Z p.1,aU p.2)):=by
 obtain⟨m,d,q,R,E,G⟩:=h;have h:=(pT.1 q).1;have L:∀o,(setObj b o).run P w=.ok () (w.putObj b o):=λo=>by simp[setObj,Sem.run,q,World.putObj]
 have x:m.toList.length=l.length:=Rx
 unfold Builtin.delete_ fm;simp only[List.getElem?_toArray,ra,pV,cW,eD (tA f),ed,uX q,i.check,wr i k w R];cases s:hd k l 0 with
 |none=>
  refine⟨.map m d,by simp[L],?_⟩;exact⟨_,_,tu h,R,E,G⟩
 |some q=>
  obtain⟨i,g⟩:=q;have am:=(xY s).2;simp only[CM]at am;have k:=(cF.1 am).1;refine⟨.map (m.eraseIdxIfInBounds i) d,by simp[L],?_⟩;have s:(m.eraseIdxIfInBounds i).toList=m.toList.eraseIdx i:=VK
  refine⟨_,_,tu h,?_,λx q=>?_,?_⟩
  .dsimp only;rw[s,CS,R,CS]
  .rw[s]at q;exact E x ((wx _ _).subset q)
  .rw[s];exact G.sublist ((wx _ _).map _)
def aw.WS{t d e:a8}{x y:bj}{k:Y}(i:hW P M Z)(f:hX P t M e=true)(E:aR J x=some (.map (some b)))(q:aR J y=some (Z k))(G:aB X (bz Z aU b l) (bz Z aU b (fm l k)) N)(R:C J N):aw P r W D n ⟨none,.call ⟨.builtin .delete,#[x,y],#[t,d]⟩,ba,F,u,T⟩ J X C:=aw.of λK Q L a w p m=>by
 have g:bz Z aU b l∈X:=by obtain⟨l,r,rfl,_⟩:=G.split;simp
 have h:=m.mem g;unfold bz at h;rw[qy]at h;obtain⟨o,s,a⟩:=aey (k:=k) (z:=d) (ba:=ba) i f h;refine kh (v:=.tuple #[]) rfl ?_ (L _ _ R _ _ (p.W1 _) (m.aaR G a));simp[execOp,resolve,invoke,builtin,p.eval E,p.eval q,s]
end
section
variable{r:aT Nat}{N:bJ}{Y Z:ab ay}{C:Array cc}{M:ab cc}{w:a2}
def G0(P:b1)(f:fb)(T:ab aj){i:Type}(F:i->ab aj)(K:ab i)(j b:ab ay):Prop:=
 ∀(l:Nat) (o:Type) (G X:ab i->o->Prop) (S:o->ay) (g:o),G [] g->
  (∀pre i a c,(pre++i::a).Perm K->G pre c->lx P l (F i) [S c] (λv Y=>∃d t,v=.bool t/\(t=true->G (pre++[i]) d)/\(t=false->X (pre++[i]) d)/\Y=[S d]))->
  ar P f (.func (.yield l) #[] #[]::T) (S g::j) (λ_ Y=>∃d pre,((G pre d/\pre.Perm K)\/X pre d)/\Y=S d::b)
def ah.acH{L o:Type}{g:bj}{aX:ab Tmp}{assign body:Code}{kn:fb}{R:ab aj}{u:L->ab aj}{xs:ab L}{j m F:ab ay}(iG:G0 P kn R u xs j m)(S:o->ab ay)(G:ab L->o->Prop)(X:dY->ab L->o->Prop)(f:o)(eV:G [] f)(round:∀pre i y c l rec,(pre++i::y).Perm xs->G pre c->re rec->∀(eK:a2) (jV:ab Nat) (K:da),(∀e d,gA e=true->Way G X (pre++[i]) e d->∀a w,H eK jV (kl l rec::S d) w->K e a w)->ah P (some l) eK jV ⟨n.n,[]⟩ (Exit.then (sf P l body K) tt) assign (rf aX (u i) U) (cm l rec .normal::S c))(done:∀pre c b,G pre c->pre.Perm xs->Out W D ⟨n.n,b::n.ds⟩ Q .normal U (gK b::(S c++(m++F))))(left:∀pre c b e,gA e=true->fu e=false->X e pre c->Out W D ⟨n.n,b::n.ds⟩ Q e U (gK b::(S c++(m++F))))(bG:aR U g=some (.func (.func kn) #[] R.toArray):=by exact rfl)(Ye:lp P kn=true:=by kernel_rfl)(Yg:ak J (S f++j) F:=by(repeat(first|exact ak.nil|exact al.here|apply ak.cons|apply al.there)))(dd:∀x,aX.length=(u x).length:=by intro _;rfl)(cn:(aX.all λp=>Nat.blt p n.n)=true:=by exact rfl):ah P none W D n Q (.rangeFunc g aX.toArray assign body) U J:=by
 have Yh:∀(l:ab ay) (s:ay),ak (s::(l++F)) (s::l) F:=by
  intro l s;refine ak.cons al.here ?_;induction l with
  |nil=>exact ak.nil
  |cons x l mj=>exact ak.cons al.here mj
 have Yj:∀{e:dY} {k:ab L} {c:o},gA e=true->Way G X k e c->(fu e=true/\G k c)\/(fu e=false/\X e k c):=by
  intro e k c T h;cases e with
  |normal=>exact .inl ⟨rfl,h⟩
  |ret=>exact .inr ⟨rfl,h⟩
  |exit id=>exact .inr ⟨rfl,h⟩
  |_=>cases T
 have Yc:ah P none W D n Q (.rangeFunc g aX.toArray assign body) U (aK (S f)::(j++F)):=by
  refine ah.XF (mo:={p:ab L×L×ab L×o//(p.1++p.2.1::p.2.2.1).Perm xs/\G p.1 p.2.2.2}) (s:=j) (k:=F) (λi=>u i.1.2.1) (aK (S f)) (λi=>aK (S i.1.2.2.2)) (λi e cL=>∃d,cL=aK (S d)/\Way G X (i.1.1++[i.1.2.1]) e d)
   (λe q=>∃d k,q=aK (S d)::m/\((e=.normal/\G k d/\k.Perm xs)\/(fu e=false/\X e k d))) bG Ye (Yh _ _) (λi=>dd _) cn ?_ ?_ ?_
  .rintro⟨⟨pre,i,y,c⟩,bV,dA⟩ l rec c2 eK K cJ;have E:∀(c:o) (e:ay),aP [e,aK (S c)] (e::S c):=λc e=>aP.cons e aP.aK;have:=round pre i y c l rec bV dA c2 eK (br [cm l rec .normal,aK (S c)]) K (λe d T eo a w cr=>cJ e _ T ⟨d,rfl,eo⟩ a w (cr.eqv (E d _).symm));exact ah.eqv (E c _) this
  .intro l rec fX;have dT:=iG l (dY×o) (λk p=>p.1=.normal/\G k p.2) (λk p=>gA p.1=true/\fu p.1=false/\X p.1 k p.2) (λp=>aK [cm l rec p.1,aK (S p.2)]) (.normal,f) ⟨rfl,eV⟩ ?_
   .refine dT.eqv (ao:=cm l rec .normal::aK (S f)::j) ?_ ?_
    exact T5
    .rintro v Y⟨⟨e,d⟩,k,bN,rfl⟩;refine⟨cm l rec e::aK (S d)::m,⟨e,_,?_,⟨d,k,rfl,?_⟩,rfl⟩,aP.append (ao:=[aK [cm l rec e,aK (S d)]]) aP.aK (aP.refl _)⟩
     .rcases bN with⟨⟨h,_⟩,_⟩|⟨h,_⟩
      exact Qv
      .exact h
     .rcases bN with⟨⟨h,z⟩,cd⟩|⟨_,cd,gw⟩
      .exact .inl ⟨h,z,cd⟩
      .exact .inr ⟨cd,gw⟩
   .rintro pre i y⟨e,c⟩ bV⟨dg,dA⟩;simp only at dg dA;subst dg;refine(fX ⟨(pre,i,y,c),bV,dA⟩).eqv (ao:=[aK [cm l rec .normal,aK (S c)]]) aP.aK ?_;rintro v Y⟨e,cL,rfl,T,⟨d,rfl,eo⟩,rfl⟩;refine⟨[aK [cm l rec e,aK (S d)]],⟨(e,d),fu e,rfl,λh=>?_,λh=>?_,rfl⟩,aP.aK.symm⟩
    .rcases Yj T eo with⟨t,z⟩|⟨t,z⟩
     .refine⟨?_,z⟩;cases e<;>first|rfl|cases t
     .rw[t]at h;cases h
    .rcases Yj T eo with⟨t,z⟩|⟨t,z⟩
     .rw[t]at h;cases h
     .exact⟨T,t,z⟩
  .rintro b e q T⟨d,k,rfl,bN⟩;have conv:∀{e:dY},Out W D ⟨n.n,b::n.ds⟩ Q e U (gK b::(S d++(m++F)))->Out W D ⟨n.n,b::n.ds⟩ Q e U (gK b::(aK (S d)::m++F)):=λh=>
    Out.eqv (aP.cons _ (by have:=aP.append (ao:=[aK (S d)]) aP.aK (aP.refl (m++F));simpa using this)) h
   rcases bN with⟨rfl,dA,Yf⟩|⟨Yi,jp⟩
   .exact conv (done k d b dA Yf)
   .exact conv (left k d b e T Yi jp)
 exact U6
def ar.post{f:fb}{args:ab aj}{R a:aj->ab ay->Prop}(h:ar P f args J R)(g:∀v Y,R v Y->∃Z,a v Z/\∀W D w,H W D Y w->H W D Z w):ar P f args J a:=ar.of λw f=>
 (h.get w f).mono λe G ⟨v,Y,j,o,b⟩=>by obtain⟨Z,K,F⟩:=g v Y o;exact⟨v,Z,j,K,F _ _ _ b⟩
end
section
variable{r:aT Nat}{Y:Array cc}
def af.fL{F R:ab ay}{s:ab Nat}{h:Nat}{l:Array Bool}{Q:Bool}{E x ok:cc}(i j k:Nat)(am:Y[i]?=some E)(v:Y[j]?=some x)(T:Y[k]?=some ok)(Z:aw P r W D n E U J (λu N=>(∀w,H W D N w->fU F w)/\(∀w,H W D N w->fU R w)/\af P r W D n Y M F R s true h (l.setIfInBounds i true) u N))(C:aw P r W D n x U J (λu N=>(∀w,H W D N w->fU F w)/\(∀w,H W D N w->fU R w)/\af P r W D n Y M F R s true h (l.setIfInBounds j true) u N))(G:aw P r W D n ok U J (λu N=>(∀w,H W D N w->fU F w)/\(∀w,H W D N w->fU R w)/\af P r W D n Y M F R s true h (l.setIfInBounds k true) u N))(X:(Region.ready .any Y l==[i,j,k]&&![i,j,k].isEmpty)=true:=by kernel_rfl)(q:hT U Y E.guard=some true:=by exact rfl)(z:hT U Y x.guard=some true:=by exact rfl)(g:hT U Y ok.guard=some true:=by exact rfl):af P r W D n Y M F R s Q (h+1) l U J:=
 af.each [i,j,k] X (by
  intro m K;rcases cQ.1 K with rfl|K
  .exact⟨E,am,q,Z⟩
  .rcases cQ.1 K with rfl|K
   .exact⟨x,v,z,C⟩
   .obtain rfl:m=k:=by simpa using K
    exact⟨ok,T,g,G⟩)
end
def V.aa2(ad:cj P){C:Nat}{u:a8}{d:String}{o:Array Edge}{s f T:Nat}{x:bj}{cs:ab aj}{v:aj}(Z:aR U x=some (A cs))(l:zZ P s f off T=true)(g:jD P T off cs v):aN P n U J ⟨some C,.field s x f,u,d,o,R⟩ v:=aN.of λa w p _=>by
 unfold zZ at l;split at l
 .rename_i y M;split at l
  .rename_i E X;simp only[c1,c9]at l;obtain⟨N,G⟩:=l;have am:(Instr.field s (A cs) f).run P w=.ok v w:=by unfold Instr.field;simp only[cW,eD M,ed,X,asAgg,eW,N,G,g.part w]
   simp only[execOp,p.eval Z,am,cW,ed,eW]
  .cases l
 .cases l
abbrev x7(o:Array aj)(h:Nat×Nat):Prop:=o.size<=h.1\/h.2=0
def CW(P:b1)(g o:Nat)(t:a8)(a:Nat×Nat):∀(z:ab aj) (i:Nat) (j:Array aj) (w:a2),w.heap[g]?=some (.cells j t a)->x7 j a->o+i+z.length<=j.size->(∀v∈z,v.oneCell'=true)->(storeCells ⟨g,o,none⟩ z i).run P w=.ok () (w.setRow g (j.toList.take (o+i)++z++j.toList.drop (o+i+z.length)).toArray)
 |[],i,j,w,L,_,_,_=>by simp only[storeCells,db,gv,hj,nU,F4];rw[setRow_self w g j t a L];rfl
 |v::E,i,j,w,L,p,u,K=>by
  have am:o+i<j.size:=by simp at u;omega
  have s:(⟨g,o,none⟩:Addr).add i=⟨g,o+i,none⟩:=by unfold Addr.add;split<;>simp_all
  have l:w.cell? ⟨g,o+i,none⟩=some j[o+i]:=by simp[World.cell?,L,am]
  have k:w.frozen? ⟨g,o+i,none⟩=false:=by
   obtain⟨c,z⟩:=a;simp only[World.frozen?,L,G1,jW];rcases p with h|h
   .left;dsimp only at h⊢;omega
   .right;dsimp only at h⊢;omega
  have q:(store ((⟨g,o,none⟩:Addr).add i) v).run P w=.ok () (w.setRow g (j.setIfInBounds (o+i) v)):=by rw[s,run_store P w _ v _ (K v VK),l];simp[k,setCell_eq_setRow w g (o+i) j t a v L]
  have Q:=CW P g o t a E (i+1) (j.setIfInBounds (o+i) v) (w.setRow g (j.setIfInBounds (o+i) v)) (r3 w g j _ t _ L) (by simpa[x7]using p) (by simp at u⊢;omega) (λx T=>K x (by simp[T]));simp only[storeCells,cW,q,ed,Q,setRow_setRow];congr 3;have e:=list_seg_step j.toList (o+i) v E (by simp at u⊢;omega);simpa[Array.toList_setIfInBounds,pd]using e
def k3(w:a2)(e:a8)(Y:Nat)(v:aj)(n:Nat)(U:ab aj):Prop:=
 U.length=n*Y/\
 ((v=.slice none 0 0/\n=0)\/
  ∃g off Q o h,v=.slice (some ⟨g,off,none⟩) n Q/\w.heap[g]?=some (.cells o e h)/\x7 o h/\n<=Q/\Q<=maxLen/\off+Q*Y<=o.size/\(o.toList.drop off).take (n*Y)=U)
section
variable{w:a2}{e:a8}{Y:Nat}{v:aj}{n:Nat}{U:ab aj}
def k3.of(h:w.ownsRow 0 e Y v n U):k3 w e Y v n U:=by
 refine⟨h.1,?_⟩;rcases h.2 with y|⟨g,Q,z,t,u,L,K,T,o,m⟩
 .exact .inl y
 .exact .inr ⟨g,0,Q,z,(0,0),t,L,.inr rfl,K,T,ac,by simpa using m⟩
def k3.same{L:a2}(h:k3 w e Y v n U)(T:∀g,v.ownBlock=some g->L.heap[g]?=w.heap[g]?):k3 L e Y v n U:=by
 refine⟨h.1,?_⟩;rcases h.2 with y|⟨g,off,Q,t,K,rfl,o,x⟩
 .exact .inl y
 .exact .inr ⟨g,off,Q,t,K,rfl,by rw[T g rfl];exact o,x⟩
def k3.lt(h:k3 w e Y v n U):∀k,v.ownBlock=some k->k<w.heap.size:=by
 intro k T;rcases h.2 with⟨rfl,_⟩|⟨g,off,Q,L,x,rfl,o,_⟩
 .simp[Value.ownBlock]at T
 .simp[Value.ownBlock]at T;subst T;exact(pT.1 o).1
def k3.cells{g Q:Nat}(h:k3 w e Y (.slice (some ⟨g,off,none⟩) n Q) n U):∀(j:Nat) (u:aj),U[j]?=some u->w.cell? ⟨g,off+j,none⟩=some u:=by
 intro j u K;rcases h.2 with⟨t,_⟩|⟨k,l,i,z,x,t,o,_,_,_,_,L⟩
 .cases t
 .cases t;rw[cell_of_row w g (off+j) z e x o];rw[<-L,mN]at K;split at K
  .rw[l0]at K;simpa using K
  .cases K
def z6(g off j:Nat):(⟨g,off,none⟩:Addr).add j=⟨g,off+j,none⟩:=by unfold Addr.add;split<;>simp_all
def k3.to{i:aT Addr}{Q j:Nat}(h:k3 w e Y (.slice i n Q) n U)(p:j<=n):k3 w e Y (.slice i j Q) j (U.take (j*Y)):=by
 have u:j*Y<=n*Y:=kY _ p;refine⟨by rw[e8,h.1];omega,?_⟩;rcases h.2 with⟨a,t⟩|⟨g,off,k,y,x,a,L,l,K,T,o,z⟩
 .cases a;obtain rfl:j=0:=by omega
  exact .inl ⟨rfl,rfl⟩
 .cases a;refine .inr ⟨g,off,Q,y,x,rfl,L,l,ac,T,o,?_⟩;rw[<-z,tE,qw u]
def k3.from{l:aT Addr}{Q i:Nat}(h:k3 w e Y (.slice l n Q) n U)(am:i<=n):k3 w e Y (.slice (partAt l Q i Y) (n-i) (Q-i)) (n-i) (U.drop (i*Y)):=by
 refine⟨by rw[jn,h.1,Nat.sub_mul],?_⟩;rcases h.2 with⟨j,t⟩|⟨g,off,s,a,x,j,L,k,K,T,o,z⟩
 .cases j;obtain rfl:i=0:=by omega
  refine .inl ⟨?_,ac⟩;unfold partAt;rw[aJ rfl,t]
 .cases j;by_cases q:Q=i
  .obtain rfl:n=Q:=by omega
   subst q;refine .inr ⟨g,off,n-n,a,x,?_,L,k,cx _,ac,by rw[Nat.sub_self,r9];omega,?_⟩
   .unfold partAt;rw[aJ rfl]
   .rw[Nat.sub_self,r9,xU];exact(ml (by rw[jn,h.1];omega)).symm
  .refine .inr ⟨g,off+i*Y,Q-i,a,x,?_,L,k,ac,ac,?_,?_⟩
   .unfold partAt;rw[aG q];simp[z6]
   .have:i*Y+(Q-i)*Y=Q*Y:=by rw[<-fK];congr 1;omega
    omega
   .rw[<-z,List.drop_take,sa,Nat.sub_mul]
end
section
variable{w:a2}
def akQ(t cD G e:a8)(i:TypeInfo)(z:aj)(Y bytes:Nat)(K:P.underlying t=some (.slice e))(am:P.info? e=some i)(gL:i.zero=some z)(j:i.size=Y)(T:i.bytes=bytes)(s:z.cells.size=Y)(k:0<Y)(v:aj)(n:Nat)(U:ab aj)(p:k3 w e Y v n U)(x:aj)(m:Nat)(Q:ab aj)(E:Src P Y cD x m Q w)(b:n+m<=maxLen)(L:(n+m)*bytes<=140737488355328):∃a l,(Builtin.append_ #[t,cD] G #[v,x]).run P w=.ok a l/\k3 l e Y a (n+m) (U++Q)/\w.grownBy l v.ownBlock/\(a=.slice none 0 0↔v=.slice none 0 0/\m=0)/\(a.ownBlock=v.ownBlock\/a.ownBlock=some w.heap.size)/\w.drawn<=l.drawn:=by
 rcases p.2 with⟨rfl,rfl⟩|⟨g,off,q,o,uZ,rfl,bG,dq,Ye,y,Yc,c⟩
 .have h:U=[]:=ml (by simpa using p.1);subst h;obtain⟨a,l,u,bW,cd,gw,jJ,jr⟩:=Cx (P:=P) (w:=w) t cD G e i z Y bytes K am gL j T s k (.slice none 0 0) 0 [] (Gp w 0 e Y) x m Q E b L;exact⟨a,l,u,.of bW,cd,gw,jJ,jr⟩
 .subst j;subst T;have u:=E.newsLen;have T:n+m<=9223372036854775807:=by simp only[maxLen]at b;omega
  have a:(U++Q).length=(n+m)*i.size:=by rw[bQ,p.1,u,fK]
  by_cases j:n+m<=q
  .have l:(n+m)*i.size<=q*i.size:=kY _ j;have l:(n+m)*i.size=n*i.size+m*i.size:=fK ..;have l:off+n*i.size+0+Q.length<=o.size:=by rw[u];omega
   have u:=CW P g (off+n*i.size) e uZ Q 0 o w bG dq l E.one;simp only[hj]at u;have h:(Builtin.append_ #[t,cD] G #[.slice (some ⟨g,off,none⟩) n q,x]).run P w=
     .ok (.slice (some ⟨g,off,none⟩) (n+m) q) (w.setRow g (o.toList.take (off+n*i.size)++Q++o.toList.drop (off+n*i.size+Q.length)).toArray):=by
    rcases E.kind with⟨l,T⟩|T<;>simp[Builtin.append_,eD K,eD T,sizeOf,typeInfo,am,E.len,j,E.cells,z6,u]
   have l:(o.toList.take (off+n*i.size)++Q++o.toList.drop (off+n*i.size+Q.length)).toArray.size=o.size:=by simp only[pW,bQ,e8,jn,pg];omega
   refine⟨_,_,h,⟨a,.inr ⟨g,off,q,_,uZ,rfl,r3 w g o _ e _ bG,?_,j,y,by rw[l];exact Yc,?_⟩⟩,⟨rfl,rfl,rfl,VK,λk _ T=>xB w g k _ (λe=>T (by simp[Value.ownBlock,e]))⟩,VK,.inl rfl,cx _⟩
   .unfold x7;rw[l];exact dq
   .have l:o.toList.take (off+n*i.size)=o.toList.take off++U:=by rw[List.take_add,c]
    have u:(o.toList.take off).length=off:=by rw[e8,pg];omega
    rw[l];have j:∀R:ab aj,(o.toList.take off++U++Q++R).drop off=U++Q++R:=λR=>by
     have u:o.toList.take off++U++Q++R=o.toList.take off++(U++Q++R):=by simp only[ck]
     rw[u,x8 ac,sc ac,g4]
    simp only[j];rw[<-a];exact pX
  .have c:∀j u,U[j]?=some u->w.cell? ((⟨g,off,none⟩:Addr).add j)=some u:=λj u o=>by rw[z6];exact p.cells j u o
   have h:=CA (P:=P) w t cD G e i z K am gL (some ⟨g,off,none⟩) n q U (wg w.drew i.size n _ n q U p.1 (by simpa using c)) x m Q E ac ac (zO ac L);have K:=zL w (n+m) q e;have y:grownCap w (n+m) q e<=maxLen:=zM w (n+m) q e b;refine⟨_,_,h,.of ⟨a,.inr ⟨w.heap.size,_,_,rfl,cG _,zw w.drew _,K,y,?_,?_⟩⟩,⟨rfl,rfl,rfl,VK,λk T _=>uE w.drew _ T⟩,VK,.inr rfl,xQ _⟩
   .simp only[zN,pW,Cy,s,a,<-fK];congr 1;omega
   .simp only[Cz];rw[<-a];exact pX
end
@[irreducible] def pq(v:Value)(E aM n:Nat)(U:List Value):ay where
 gJ:=v.ownBlock.toList
 holds w:=k3 w E aM v n U
 loc w jk h cE:=cE.same λg bG=>h g (by simp[bG])
 lt w h x b6:=by
  have ca:v.ownBlock=some x:=TU
  exact h.lt x ca
def oK(v E g n U):(pq v E g n U).gJ=v.ownBlock.toList:=by unfold pq;rfl
def rr(v E g n U w):(pq v E g n U).holds w↔k3 w E g v n U:=by unfold pq;rfl
def eB(f:F->ab aj)(v:aj)(E g:Nat)(l:ab F):ay:=pq v E g l.length (l.flatMap f)
section
variable{r:aT Nat}{J:bJ}{Z N:ab ay}{f:F->ab aj}{w:a2}
variable{M:Nat}{G:a8}{X:String}
def H.imp{e Q:ay}{p:ab ay}(E:ak Z [e] p)(c:Q.gJ=e.gJ)(a:∀w,e.holds w->Q.holds w)(h:H W D Z w):H W D (Q::p) w:=by
 have K:=h.Wy E;refine⟨λx T=>?_,?_,λb u=>?_,K.cu,K.size,K.os,K.tape,K.output,K.pP⟩
 .rcases cQ.1 T with rfl|T
  .exact a w (K.gq e VK)
  .exact K.gq x (by simp[T])
 .have:=K.nodup;rw[mQ,g4,jl]at this;rw[jl,c];exact this
 .refine K.own b ?_;rw[mQ,g4,jl,<-c,<-jl];exact u
def eB.of{v:aj}{E g:Nat}{l:ab F}(w:a2)(h:(rows f v E g l).holds w):(eB f v E g l).holds w:=by unfold eB;rw[rr];rw[fM,i0]at h;exact .of h
def ajP{v:aj}{E g:Nat}{l:ab F}:(eB f v E g l).gJ=(rows f v E g l).gJ:=by unfold eB;rw[oK,fM,iA]
def tJ{v:aj}{E L:Nat}{l:ab F}(y:∀x,(f x).length=L)(q:eB f v E L l∈Z):∀w,H W D Z w->∃k o b off,v=.slice k l.length o/\l.length<=o/\Rd (eB f (.slice k l.length o) E L l) k l.length b off L (l.map f):=λw s=>by
 have h:=s.mem q;unfold eB at h;rw[rr]at h;rcases h.2 with⟨rfl,t⟩|⟨g,off,o,Ye,uZ,rfl,_,_,K,Q,_⟩
 .rw[t];refine⟨none,0,0,0,rfl,cx _,?_⟩;obtain rfl:l=[]:=ml t;exact Rd.nil
 .refine⟨some ⟨g,off,none⟩,o,g,off,rfl,K,⟨VK,ac,λ_=>rfl,λoE Yg=>?_⟩⟩;unfold eB at Yg;rw[rr]at Yg;intro i x T;rw[h5]at T;obtain⟨a,c,rfl⟩:=qs.1 T;refine⟨y a,λj u z=>?_⟩;have p:j<L:=by have:=(cF.1 z).1;rw[y a]at this;exact this
  have Yf:(l.flatMap f)[i*L+j]?=some u:=by
   have Yc:∀(l:ab F) (i:Nat) (a:F),l[i]?=some a->(l.flatMap f)[i*L+j]?=(f a)[j]?:=by
    intro l;induction l with
    |nil=>intro i a h;simp at h
    |cons b l m=>
     intro i a h;cases i with
     |zero=>
      simp only[ra,fj]at h;subst h;rw[fW,r9,h4,pU (by rw[y];exact p)]
     |succ i=>
      rw[fW,iC (by rw[y,fK];omega),y];rw[show(i+1)*L+j-L=i*L+j by rw[fK];omega];exact m i a VR
   rw[Yc l i a c];exact z
  have:=Yg.cells (i*L+j) u Yf;rwa[<-pd]at this
def H.acI{E o m k:Nat}{v L:aj}{U t:ab aj}{q:a2}(h:H W D Z w)(u:aB Z (pq v E o k U) (pq L E o m t) N)(a:k3 q E o L m t)(g:w.grownBy q v.ownBlock)(T:L.ownBlock=v.ownBlock\/L.ownBlock=some w.heap.size)(z:w.drawn<=q.drawn):H W D N q:=by
 refine h.o8 u ⟨λe j=>?_,?_,λx K=>?_,λb i y=>?_,g.size,g.os,g.tape,g.output,z⟩
 .obtain rfl:e=_:=by simpa using j
  rw[rr];exact a
 .have:br [pq L E o m t]=L.ownBlock.toList:=by simp[br,oK]
  rw[this];cases L.ownBlock<;>simp
 .have p:L.ownBlock=some x:=by simpa[br,oK]using K
  rcases T with T|T
  .left;rw[oK,<-T,p];simp
  .right;rw[T]at p;injection p with p;omega
 .refine g.block b i λe=>y ?_;rw[oK,<-e];simp
def O.aa3(ad:cj P){t cD E aM hm:Nat}{x y:bj}{v u:aj}{l m:ab F}{jo:ab aj}{N:aj->ab ay}(o:aR J x=some v)(j:aR J y=some u)(c:∀ez,aB Z (eB f v E aM l) (eB f ez E aM (l++m)) (N ez))(s:cz P Z f aM cD u m)(dG:∀ez,ez.oneCell'=true->C ((M,ez)::J) (N ez))(du:Nat.blt M n.n=true:=by exact rfl)(cB:bT ad.fw t=some E:=by exact rfl)(Ye:bT ad.ht E=some aM:=by exact rfl)(Yj:bT ad.mO E=some hm:=by exact rfl)(gL:jm ad.jE E=some jo:=by exact rfl)(Yl:jo.length=aM:=by exact rfl)(Yh:Nat.blt 0 aM=true:=by exact rfl)(Ym:(l.length+m.length)*hm<=140737488355328:=by(first|omega|(simp only[bQ,df,gv,dZ];omega)))(Yn:l.length+m.length<=9223372036854775807:=by(first|omega|(simp only[bQ,df,gv,dZ];omega))):aw P r W D n ⟨some M,.call ⟨.builtin .append,#[x,y],#[t,cD]⟩,G,X,d,R⟩ J Z C:=aw.of λK Q cJ a w c0 cr=>by
 obtain⟨i,z,am,Yg,T,L,cd⟩:=ad.info Ye Yj gL;obtain⟨p,q,k,_⟩:=(c v).split;have Yf:=cr.mem (e:=eB f v E aM l) Pm;unfold eB at Yf;rw[rr]at Yf;have Yo:0<aM:=pQ Yh;have Yk:z.cells.size=aM:=by rw[<-pg,cd,Yl]
 obtain⟨ez,fi,c2,ej,bG,cN,b,Yi⟩:=akQ (P:=P) (w:=w) t cD G E i z aM hm (gV (ad.V8 cB)) am Yg T L Yk Yo v _ _ Yf u m.length (m.flatMap f) (s w cr.hold) P7 Ym;have Yp:k3 fi E aM ez (l++m).length ((l++m).flatMap f):=by rw[bQ,l3];exact ej
 have T:ez.oneCell'=true:=by rcases ej.2 with⟨rfl,_⟩|⟨g,off,h,Yc,uZ,rfl,_⟩<;>rfl
 have i:=c ez;unfold eB at i;refine kh rfl ?_ (cJ _ _ (dG ez T) _ _ (c0.put du _) (cr.acI i Yp bG b Yi));simp[execOp,resolve,invoke,builtin,c0.eval o,c0.eval j,c2]
def ah.toX{c:Code}{v:aj}{E g:Nat}{l:ab F}{a:ab ay}(h:ah P r W D n Q c J (eB f v E g l::a))(q:ak Z [rows f v E g l] a:=by(repeat(first|exact ak.nil|exact al.here|apply ak.cons|apply al.there))):ah P r W D n Q c J Z:=
 ah.iE (λ_ s=>s.imp q ajP (eB.of)) h
def eB.to{i:aT Addr}{Q j E g:Nat}{l:ab F}(p:∀x,(f x).length=g)(a:j<=l.length)(w:a2)(h:(eB f (.slice i l.length Q) E g l).holds w):(eB f (.slice i j Q) E g (l.take j)).holds w:=by
 unfold eB at*;rw[rr]at*;have K:=h.to a;rw[tC p l j a]at K;have e:(l.take j).length=j:=Pq
 rwa[e]
def eB.from{k:aT Addr}{Q i E g:Nat}{l:ab F}(a:∀x,(f x).length=g)(am:i<=l.length)(w:a2)(h:(eB f (.slice k l.length Q) E g l).holds w):(eB f (.slice (partAt k Q i g) (l.length-i) (Q-i)) E g (l.drop i)).holds w:=by unfold eB at*;rw[rr]at*;have K:=h.from am;rw[wt a l i am]at K;rwa[jn]
def Mq(l:aT Addr)(Q i g n m k:Nat):(Value.slice (partAt l Q i g) m k).ownBlock=(Value.slice l n Q).ownBlock:=by
 unfold partAt;split
 .cases l<;>rfl
 .cases l with
  |none=>rfl
  |some a=>
   simp only[p2,Value.ownBlock];unfold Addr.add;split<;>rfl
def ah.acJ{c:Code}{i:aT Addr}{g E o:Nat}{l:ab F}{y:ab ay}(j:Nat)(p:∀x,(f x).length=o)(a:j<=l.length)(h:ah P r W D n Q c J (eB f (.slice i j g) E o (l.take j)::y))(q:ak Z [eB f (.slice i l.length g) E o l] y:=by(repeat(first|exact ak.nil|exact al.here|apply ak.cons|apply al.there))):ah P r W D n Q c J Z:=
 ah.iE (λ_ s=>s.imp q (by unfold eB;rw[oK,oK];cases i<;>rfl) (eB.to p a)) h
def ah.acK{c:Code}{k:aT Addr}{g E o:Nat}{l:ab F}{p:ab ay}(i:Nat)(a:∀x,(f x).length=o)(am:i<=l.length)(h:ah P r W D n Q c J (eB f (.slice (partAt k g i o) (l.length-i) (g-i)) E o (l.drop i)::p))(q:ak Z [eB f (.slice k l.length g) E o l] p:=by(repeat(first|exact ak.nil|exact al.here|apply ak.cons|apply al.there))):ah P r W D n Q c J Z:=
 ah.iE (λ_ s=>s.imp q (by unfold eB;rw[oK,oK,Mq]) (eB.from a am)) h
def aw.acL(ad:cj P){y CX E a:Nat}{x:bj}{l:ab aS}(T:aR J x=some (S l))(g:∀v,v.oneCell'=true->C ((M,v)::J) (eB dL v E 1 l::Z))(L:l.length<=1000000)(c:Nat.blt M n.n=true:=by exact rfl)(q:bT ad.strs y=some a:=by exact rfl)(o:bT ad.fw CX=some E:=by exact rfl)(j:nk ad.ints E=some .u8:=by exact rfl):aw P r W D n ⟨some M,.convert y CX x,G,X,d,R⟩ J Z C:=aw.of λK Q i a w p m=>by
 have s:=Lib.run_convert_string_bytes (P:=P) w y CX E ⟨l.toArray⟩ (ad.W8 q) (gV (ad.V8 o)) (ad.Wn j);have k:(⟨l.toArray⟩:ByteArray).size=l.length:=by simp[ByteArray.size]
 have Yc:=zL w l.length 0 E;have t:grownCap w l.length 0 E<=maxLen:=zM w l.length 0 E P7;have z:(Lib.bytesCells w E ⟨l.toArray⟩).size=grownCap w l.length 0 E:=by simp only[Lib.bytesCells,zN,Array.size_map,Array.size_replicate,k];simp;omega
 have h:H w [] [eB dL (.slice (some ⟨w.heap.size,0,none⟩) l.length (grownCap w l.length 0 E)) E 1 l] (Lib.bytesWorld w E ⟨l.toArray⟩):=by
  refine⟨λe j=>?_,by simp[br,eB,oK,Value.ownBlock],λb u=>?_,λb u _=>Lib.bytesWorld_at_old w E _ b u,by rw[Lib.bytesWorld_size];omega,?_,?_,?_,?_⟩
  .obtain rfl:e=_:=by simpa using j
   unfold eB;rw[rr];refine⟨by rw[zP];simp,.inr ⟨w.heap.size,0,_,_,_,rfl,Lib.bytesWorld_at_new w E _,.inl (cx _),Yc,t,by rw[z];omega,?_⟩⟩;rw[Co,zP,p3];simp[Lib.bytesCells]
  .right;have:b=w.heap.size:=by simpa[br,eB,oK,Value.ownBlock]using u
   omega
  all_goals(unfold Lib.bytesWorld World.freeze;rw[aG VI];first|rfl|exact xQ _|exact cx _)
 refine kh rfl ?_ (i _ _ (g (.slice (some ⟨w.heap.size,0,none⟩) l.length (grownCap w l.length 0 E)) rfl) _ _ (p.put c _) (m.new h));rw[k]at s;simp only[execOp,p.eval T,cW,s,ed,eW]
def V.acM(ad:cj P){t u e a Q:Nat}{G2:ay}{h:aT Addr}{x:bj}{l:ab aS}(T:aR J x=some (.slice h l.length Q))(ep:Rd G2 h l.length b off 1 (l.map dL))(E:G2∈Z)(o:bT ad.strs u=some a:=by exact rfl)(q:bT ad.fw t=some e:=by exact rfl)(c:nk ad.ints e=some .u8:=by exact rfl):aN P n J Z ⟨some M,.convert t u x,G,X,d,R⟩ (S l):=aN.of λa w i k=>by
 have g:(Conv.bytesToString (.slice h l.length Q)).run P w=.ok (S l) w:=by
  cases l with
  |nil=>cases h<;>rfl
  |cons y l=>
   have L:=ep.addr VK;subst L;have Yf:=ep.reads w (k.get _ E);have Ye:(loadCells ⟨b,off,none⟩ (y::l).length).run P w=.ok ((y::l).map λb=>Value.int .u8 (b.toNat:Int)).toArray w:=by
    have:=wg (P:=P) w 1 (y::l).length ⟨b,off,none⟩ (y::l).length Q ((y::l).map λb=>Value.int .u8 (b.toNat:Int)) VK (λj v p=>by rw[h5]at p;obtain⟨z,m,rfl⟩:=qs.1 p;have K:=(Yf j (dL z) (by rw[h5,m];rfl)).2 0 (.int .u8 (z.toNat:Int)) rfl;rw[z6];simpa using K)
    simpa[Builtin.firstCells]using this
   have Yc:∀(U:ab aS) (s:ByteArray),(U.map λb=>(b.toNat:Int)).foldl (λr n=>r.push (UInt8.ofNat n.toNat)) s=⟨s.data++U.toArray⟩:=by
    intro U;induction U with
    |nil=>intro s;simp
    |cons x U u=>
     intro s;simp only[eE,pc];rw[u];apply ByteArray.ext;simp[ByteArray.push]
   rw[Go.run_bytesToString w ⟨b,off,none⟩ (y::l).length Q ((y::l).map λb=>(b.toNat:Int)) (by simpa[Function.comp_def]using Ye),Yc];simp
 simp only[execOp,i.eval T,convert,cW,eD (ad.W8 o),eD (gV (ad.V8 q)),ed,eD (ad.Wn c),g,eW]
def H.acN{g t k o E j:Nat}{U us:ab aj}{w:a2}(h:H W D Z w)(u:aB Z (pq (.slice (some ⟨g,off,none⟩) k t) E j k U) (pq (.slice (some ⟨g,off,none⟩) k t) E j k (ey o us U)) N)(Q:o+us.length<=U.length)(K:us.all (·.oneCell')=true):∃fi,(storeCells ⟨g,off+o,none⟩ us).run P w=.ok () fi/\H W D N fi:=by
 obtain⟨p,q,L,_⟩:=u.split;have Yh:=h.mem (e:=pq (.slice (some ⟨g,off,none⟩) k t) E j k U) (by rw[L];simp);rw[rr]at Yh;rcases Yh.2 with⟨y,_⟩|⟨wj,Yt,Yk,Ye,uZ,y,z,l,Yl,Yi,Yn,a⟩
 .cases y
 cases y;have Yo:=Yh.1;have Yq:k*j<=t*j:=kY _ Yl;have Ym:Ye.toList.length=Ye.size:=pg;have Yf:=CW P g (off+o) E uZ us 0 Ye w z l ac (hk.1 K);simp only[hj]at Yf;refine⟨_,Yf,?_⟩;have dd:(Ye.toList.take off).length=off:=Pq
 have Yr:Ye.toList=Ye.toList.take off++(U++(Ye.toList.drop off).drop (k*j)):=by rw[<-a,nU,nU]
 generalize Ye.toList.take off=A at*;generalize(Ye.toList.drop off).drop (k*j)=B at*;have m:Ye.toList.take (off+o)=A++U.take o:=by rw[Yr,<-dd,G3,oA ac]
 have s:Ye.toList.drop (off+o+us.length)=U.drop (o+us.length)++B:=by rw[Yr,show off+o+us.length=A.length+(o+us.length) by omega,List.drop_length_add_append,x8 ac]
 rw[m,s];have Yj:ey o us U=U.take o++us++U.drop (o+us.length):=rfl;have Ys:(ey o us U).length=k*j:=by rw[Yj];simp only[bQ,e8,jn];omega
 have Yp:(A++U.take o++us++(U.drop (o+us.length)++B))=A++(ey o us U++B):=by rw[Yj];simp only[ck]
 rw[Yp];have Yg:(A++(ey o us U++B)).toArray.size=Ye.size:=by have:=c7 List.length Yr;simp only[pW,bQ]at this⊢;omega
 refine h.o8 u ⟨λe c=>?_,by simp[br,oK,Value.ownBlock],λx T=>?_,λb Yc i=>?_,VK,rfl,rfl,rfl,cx _⟩
 .obtain rfl:e=_:=by simpa using c
  rw[rr];refine⟨Ys,.inr ⟨g,off,t,_,uZ,rfl,r3 w g Ye _ E _ z,by unfold x7;rw[Yg];exact l,Yl,Yi,by rw[Yg];exact Yn,?_⟩⟩;have j:(A++(ey o us U++B)).drop off=ey o us U++B:=by rw[<-dd,z7]
  rw[j,<-Ys,pX]
 .left;simpa[br,oK,Value.ownBlock]using T
 .exact xB w g b _ λe=>i (by simp[oK,Value.ownBlock,e])
def O.acO(ad:cj P){T u E g k Yc c:Nat}{x y:bj}{l:ab F}{a:F}{v:aj}(q:aR J x=some (av g (off+k*1)))(L:aR J y=some v)(m:f a=[v])(Yf:v.oneCell'=true)(t:aB Z (eB f (.slice (some ⟨g,off,none⟩) Yc c) E 1 l) (eB f (.slice (some ⟨g,off,none⟩) Yc c) E 1 (l.set k a)) N)(j:l.length=Yc)(z:k<l.length)(s:∀x,(f x).length=1)(dG:C J N)(o:bT ad.one T=some u:=by exact rfl):aw P r W D n ⟨none,.store T x y,G,X,d,R⟩ J Z C:=aw.of λK Q cJ hb w h cr=>by
 subst j;have Ye:aB Z (pq (.slice (some ⟨g,off,none⟩) l.length c) E 1 l.length (l.flatMap f)) (pq (.slice (some ⟨g,off,none⟩) l.length c) E 1 l.length (ey (k*1) [v] (l.flatMap f))) N:=by have:=t;simp only[eB,cy]at this;rwa[<-m,xT s l k a z]
 obtain⟨fi,b,Yg⟩:=H.acN (P:=P) cr Ye (by rw[lw s];simp;omega) (by simp[Yf]);refine uJ rfl ?_ (cJ _ _ dG _ _ (h.W1 undef) Yg);have p:(P.info? T).map (·.size)=some 1:=ad.X3 o;obtain⟨i,am,Yh⟩:=qs.1 p;have Yi:v.cells=#[v]:=by cases v<;>first|rfl|(cases Yf;done)
 simp only[execOp,h.eval q,h.eval L,Instr.storeAt,Instr.sureAddr,cW,eW,ed];have u:(storeVar T ⟨g,off+k*1,none⟩ v).run P w=.ok () fi:=by
  have K:(storeCells ⟨g,off+k*1,none⟩ v.cells.toList).run P w=.ok () fi:=by rw[Yi];exact b
  simp[storeVar,sizeOf,typeInfo,am,Yh,Yi]at K⊢;exact K
 rw[u];rfl
def V.VX{t h:a8}{x y:bj}{p q v:Int}(z:p-q=v)(K:aR J x=some (I p))(T:aR J y=some (I q))(u:-9223372036854775808<=p-q/\p-q<=9223372036854775807):aN P n J Z ⟨some M,.binOp .sub t x y h,G,X,d,R⟩ (I v):=by subst z;exact V.sub K T u
def V.V4{t h:a8}{x y:bj}{p q v:Int}(z:p+q=v)(K:aR J x=some (I p))(T:aR J y=some (I q))(u:-9223372036854775808<=p+q/\p+q<=9223372036854775807):aN P n J Z ⟨some M,.binOp .add t x y h,G,X,d,R⟩ (I v):=by subst z;exact V.add K T u
end
end Go.az
