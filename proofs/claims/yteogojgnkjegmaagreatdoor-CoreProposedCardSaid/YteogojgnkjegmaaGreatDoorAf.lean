/-
 Part of the proof.
-/
import Derived.Test.YteogojgnkjegmaaGreatDoorAc
import Derived.Test.YteogojgnkjegmaaGreatDoorAe
set_option linter.all false
set_option maxRecDepth 8000
set_option maxHeartbeats 8000000
namespace Go.ay
open Go
section
variable{P:bU}{r:aT Nat}{W:aZ}{D:ab Nat}{N:Nat}{Q:cU}{U J:bC}{Y Z be:ab ax}{w:aZ}
def yU(be Y:ab ax):aO (aL be::Y) (be++Y):=aO.append (an:=[aL be]) aO.aL (aO.refl Y)
def afe(be R Y:ab ax):aO (be++(aL R::Y)) (be++(R++Y)):=(aO.refl be).append (yU R Y)
def Fk:∀(a z:ab Nat),fY (a++z)=fY a++fY z
 |[],_=>rfl
 |b::a,z=>by simp only[ly,fY];rw[Fk a z]
def ah.X1{t:Type}{c:Code}(k:ab Nat)(J:t->Prop)(E:t->bC)(S:t->ab ax)(T:t->Nat)(l:t){X:bC}{F:ab ax}(o:J l) (h:∀x z,J x->∀K:Act->aZ->Prop,(∀y G,J y->T y<T x->∀a w,dd ⟨N,G⟩ (E y++X) a->H W D (S y++(aL (fY G)::F)) w->K a w)->ah P r W D ⟨N,z⟩ (Exit.then K Q) c (E x++X) (S x++(aL (fY z)::F))) (u:kH U k X:=by(repeat(first|exact kH.nil|apply kH.cons rfl))) (L:de U (E l):=by(repeat(first|exact de.nil|refine de.cons rfl rfl ?_))) (q:ak Y (S l) F:=by(repeat(first|exact ak.nil|exact al.here|apply ak.cons|apply al.there))):ah P r W D ⟨N,[]⟩ Q (.loop c) U Y:=ah.of λa w v p=>by
 classical
 let I:Act->aZ->Prop:=λa w=>∃x z,J x/\dd ⟨N,z⟩ (E x++X) a/\H W D (S x++(aL (fY z)::F)) w;let M:Act->aZ->Nat->Prop:=λa w k=>∃x z,J x/\T x=k/\dd ⟨N,z⟩ (E x++X) a/\H W D (S x++(aL (fY z)::F)) w;have ex:∀a w,I a w->∃k,M a w k/\∀j,j<k->¬M a w j:=λa w ⟨x,z,C,k⟩=>Az _ (T x) ⟨x,z,C,rfl,k⟩;let m:Act->aZ->Nat:=λa w=>if h:I a w then Classical.choose (ex a w h)else 0
 have mspec:∀a w (h:I a w),M a w (m a w)/\∀j,j<m a w->¬M a w j:=λa w h=>NR
 have M:H W D (S l++(aL (fY [])::F)) w:=(p.UP q).eqv (afe (S l) [] F).symm;refine wpIn_loop I m ⟨l,[],o,v.sub (L.app u.sub).get,M⟩ λa w b=>?_;obtain⟨⟨x,z,M,C,k,j⟩,_⟩:=mspec a w b;refine tr (ah.get (h x z M (λa w=>∃y G,J y/\T y<T x/\dd ⟨N,G⟩ (E y++X) a/\H W D (S y++(aL (fY G)::F)) w) (λy G M C a w R K=>⟨y,G,M,C,R,K⟩)) a w k j) λe b X aW=>?_;cases e with
 |normal=>
  obtain⟨y,G,L,F,t,g⟩:=aW;refine⟨⟨y,G,L,t,g⟩,?_⟩;have u:I b X:=⟨y,G,L,t,g⟩
  have:=(mspec b X u).2 (T y);rcases o1 (T y) (m b X)with c|h
  .exact absurd ⟨y,G,L,rfl,t,g⟩ (this c)
  .omega
 |_=>exact aW
def Out.Wt{t:Type}{J G:t->Prop}{E:t->bC}{S:t->ab ax}{M:bC}{h R:ab ax}{K:Act->aZ->Prop}{z:ab Nat} (b:∀y q,J y->G y->∀a w,dd ⟨N,q⟩ (E y++M) a->H W D (S y++(aL (fY q)::h)) w->K a w) (p:ab Nat) (y:t) (x:J y) (f:G y) (L:de U (E y++M):=by(repeat(first|exact de.nil|refine de.cons rfl rfl ?_))) (q:ak Y (S y++(fY p++(aL (fY z)::h))) R:=by(repeat(first|exact ak.nil|exact al.here|apply ak.cons|apply al.there))):Out W D ⟨N,p++z⟩ (Exit.then K Q) .normal U Y:=Out.of λa w j v=>by refine b y (p++z) x f a w (j.sub L.get) ?_;have M:=v.gW q;refine M.eqv ?_;refine(aO.refl (S y)).append ?_;refine aO.trans ?_ (yU (fY (p++z)) h).symm;rw[Fk,cn];exact(aO.refl (fY p)).append (yU (fY z) h)
def Fl(x:ax)(m:ab ax):∀l:ab ax,al (l++x::m) x (l++m)
 |[]=>al.here
 |_::l=>al.there (Fl x m l)
def ah.V5{n:dq}{c:Code}{R:ab ax}(h:ah P r W D n Q c U (R++be))(q:ak Y [aL be] R:=by(repeat(first|exact ak.nil|exact al.here|apply ak.cons|apply al.there))):ah P r W D n Q c U Y:=by refine ah.eqv ?_ h;refine(aO.UA q.perm).trans ?_;exact(yU be R).trans (aO.UA oq)
end
end Go.ay
namespace Go.ay
open Go
section
variable{Y U:Type}[DecidableEq Y]
def ae2(k:Y):e9 ([]:ab (Y×U)) k=[]:=rfl
theorem yV(p:Y×U)(l:ab (Y×U))(k:Y):e9 (p::l) k=if k=p.1 then l else p::e9 l k:=by
 unfold e9;simp only[gK];by_cases h:k=p.1
 .simp[h]
 .rw[aM h,aM h,wY k l (0+1)];cases gK k l 0 with
  |none=>simp
  |some q=>simp
def agI{l:ab (Y×U)}{k:Y}(h:k∉l.map (·.1)):a8 l k=none:=by
 induction l with
 |nil=>rfl
 |cons p l d=>
  rw[e7,dk,qw]at h;rw[kk,aM h.1,d h.2]
def pM(l:ab (Y×U))(k:Y):(e9 l k).Sublist l:=by
 induction l with
 |nil=>exact qx
 |cons p l d=>
  rw[yV];split
  .exact KR _ _
  .exact d.cons_cons _
def sE{l:ab (Y×U)}{k:Y}(h:(l.map (·.1)).Nodup):((e9 l k).map (·.1)).Nodup:=h.sublist ((pM l k).map _)
def KS{l:ab (Y×U)}{k x:Y}{v:U}(h:x∈(bx l k v).map (·.1)):x=k\/x∈l.map (·.1):=by
 induction l with
 |nil=>rw[qv]at h;exact .inl Ub
 |cons p l d=>
  rw[lB]at h;split at h
  .rcases dk.1 h with h|h
   .exact .inl h
   .exact .inr (hI _ h)
  .rcases dk.1 h with h|h
   .exact .inr (by rw[h];exact gS ..)
   .rcases d h with h|h
    .exact .inl h
    .exact .inr (hI _ h)
def qy{l:ab (Y×U)}{k:Y}{v:U}(h:(l.map (·.1)).Nodup):((bx l k v).map (·.1)).Nodup:=by
 induction l with
 |nil=>rw[qv];simp
 |cons p l d=>
  rw[e7,la]at h;rw[lB];split
  .rename_i e;subst e;rw[e7,la];exact h
  .rename_i e;rw[e7,la];refine⟨λq=>?_,d h.2⟩;rcases KS q with q|q
   .exact e q.symm
   .exact h.1 q
theorem sF{l:ab (Y×U)}{k q:Y}(h:(l.map (·.1)).Nodup):a8 (e9 l k) q=if q=k then none else a8 l q:=by
 induction l with
 |nil=>rw[ae2,m4];split<;>rfl
 |cons p l d=>
  rw[e7,la]at h;rw[yV];by_cases E:k=p.1
  .rw[aQ E,kk];by_cases L:q=k
   .rw[aQ L,L,E];exact agI h.1
   .rw[aM L,aM (by rw[<-E];exact L)]
  .rw[aM E,kk,kk,d h.2];by_cases L:q=k
   .subst L;simp[E]
   .simp[L]
end
section
variable{P:bU}{r:aT Nat}{W:aZ}{D:ab Nat}{n:dq}{Q:cU}{Z:bC}{F N:ab ax}{w:aZ}{K:Nat}{ba:a7}{X:String}{T:Array Edge}{u:aT (Nat×Bool)}{C:bC->ab ax->Prop}
variable{Y U:Type}[DecidableEq Y]{J:Y->aj}{aU:U->aj}{M:a7}{l:ab (Y×U)}
def adc{t g e ba:a7}(m:ht P M J)(j:hv P t M e=true){b:Nat}{k:Y}(h:rn w b (l.map λp=>(J p.1,aU p.2))):∃o,(Builtin.delete_ #[t,g] ba #[.map (some b),J k]).run P w=.ok (.tuple #[]) (w.putObj b o)/\rn (w.putObj b o) b ((e9 l k).map λp=>(J p.1,aU p.2)):=by
 obtain⟨s,v,q,R,E,G⟩:=h;have y:=(o4.1 q).1;have t:∀o,(setObj b o).run P w=.ok () (w.putObj b o):=λo=>by simp[setObj,Sem.run,q,World.putObj]
 have L:s.toList.length=l.length:=P8
 unfold Builtin.delete_ e9;simp only[List.getElem?_toArray,qk,sf,cK,et (sw j),dW,tF q,m.check,ve m k w R];cases h:gK k l 0 with
 |none=>
  refine⟨.map s v,OK,?_⟩;exact⟨_,_,sn y,R,E,G⟩
 |some q=>
  obtain⟨i,f⟩:=q;have ao:=(wV h).2;simp only[Bc]at ao;have q:=(cT.1 ao).1;refine⟨.map (s.eraseIdxIfInBounds i) v,OK,?_⟩;have f:(s.eraseIdxIfInBounds i).toList=s.toList.eraseIdx i:=T3
  refine⟨_,_,sn y,?_,λx q=>?_,?_⟩
  .dsimp only;rw[f,Bh,R,Bh]
  .rw[f]at q;exact E x ((w5 _ _).subset q)
  .rw[f];exact G.sublist ((w5 _ _).map _)
def av.U9{t i e:a7}{x y:bf}{b:Nat}{k:Y}(m:ht P M J)(v:hv P t M e=true)(E:aR Z x=some (.map (some b)))(G:aR Z y=some (J k)) (q:az F (bz J aU b l) (bz J aU b (e9 l k)) N) (R:C Z N):av P r W D n ⟨none,.call ⟨.builtin .delete,#[x,y],#[t,i]⟩,ba,X,T,u⟩ Z F C:=av.of λK Q f a w j p=>by
 have L:bz J aU b l∈F:=by obtain⟨l,r,rfl,_⟩:=q.split;simp
 have h:=p.mem L;unfold bz at h;rw[pG]at h;obtain⟨o,a,y⟩:=adc (k:=k) (g:=i) (ba:=ba) m v h;refine jA (v:=.tuple #[]) rfl ?_ (f _ _ R _ _ (j.Vi _) (p.XO q y));simp[execOp,resolve,invoke,builtin,j.eval E,j.eval G,a]
end
end Go.ay
namespace Go.ay
open Go
section
variable{P:bU}{r:aT Nat}{W:aZ}{D:ab Nat}{n:dq}{Q:cU}{U M:bC}{J Y Z:ab ax}{C:Array b6}{N:ab b6}{w:aZ}
def Fm(P:bU)(T:eR)(m:ab aj){f:Type}(t:f->ab aj)(K:ab f)(u z:ab ax):Prop:=
 ∀(l:Nat) (F:Type) (G X:ab f->F->Prop) (S:F->ax) (x:F),G [] x->
  (∀pre i L c,(pre++i::L).Perm K->G pre c->kJ P l (t i) [S c] (λv Y=>∃g t,v=.bool t/\(t=true->G (pre++[i]) g)/\(t=false->X (pre++[i]) g)/\Y=[S g]))->
  ar P T (.func (.yield l) #[] #[]::m) (S x::u) (λ_ Y=>∃g pre,((G pre g/\pre.Perm K)\/X pre g)/\Y=S g::z)
def ah.aaX{f u:Type}{g:bf}{aY:ab Tmp}{assign body:Code}{jE:eR}{m:ab aj}{t:f->ab aj}{xs:ab f}{q z j:ab ax}(ib:Fm P jE m t xs q z)(S:u->ab ax)(G:ab f->u->Prop)(X:dI->ab f->u->Prop)(T:u)(eE:G [] T)(round:∀pre i L c l rec,(pre++i::L).Perm xs->G pre c->qm rec->∀(eI:aZ) (jk:ab Nat) (K:cU),(∀e d,ga e=true->Way G X (pre++[i]) e d->∀a w,H eI jk (jC l rec::S d) w->K e a w)->ah P (some l) eI jk ⟨n.n,[]⟩ (Exit.then (rl P l body K) sl) assign (qn aY (t i) U) (ce l rec .normal::S c))(done:∀pre c b,G pre c->pre.Perm xs->Out W D ⟨n.n,b::n.ds⟩ Q .normal U (gl b::(S c++(z++j))))(left:∀pre c b e,ga e=true->fc e=false->X e pre c->Out W D ⟨n.n,b::n.ds⟩ Q e U (gl b::(S c++(z++j))))(bF:aR U g=some (.func (.func jE) #[] m.toArray):=by exact rfl)(Ye:kF P jE=true:=by kernel_rfl)(Yg:ak J (S T++q) j:=by(repeat(first|exact ak.nil|exact al.here|apply ak.cons|apply al.there)))(dJ:∀x,aY.length=(t x).length:=by intro _;rfl)(cu:(aY.all λp=>Nat.blt p n.n)=true:=by exact rfl):ah P none W D n Q (.rangeFunc g aY.toArray assign body) U J:=by
 have Yh:∀(l:ab ax) (s:ax),ak (s::(l++j)) (s::l) j:=by
  intro l s;refine ak.cons al.here ?_;induction l with
  |nil=>exact ak.nil
  |cons x l lu=>exact ak.cons al.here lu
 have Yj:∀{e:dI} {k:ab f} {c:u},ga e=true->Way G X k e c->(fc e=true/\G k c)\/(fc e=false/\X e k c):=by
  intro e k c F h;cases e with
  |normal=>exact .inl ⟨rfl,h⟩
  |ret=>exact .inr ⟨rfl,h⟩
  |exit id=>exact .inr ⟨rfl,h⟩
  |_=>cases F
 have Yc:ah P none W D n Q (.rangeFunc g aY.toArray assign body) U (aL (S T)::(q++j)):=by
  refine ah.VZ (lx:={p:ab f×f×ab f×u//(p.1++p.2.1::p.2.2.1).Perm xs/\G p.1 p.2.2.2}) (x:=q) (k:=j) (λi=>t i.1.2.1) (aL (S T)) (λi=>aL (S i.1.2.2.2)) (λi e cE=>∃d,cE=aL (S d)/\Way G X (i.1.1++[i.1.2.1]) e d)
   (λe y=>∃d k,y=aL (S d)::z/\((e=.normal/\G k d/\k.Perm xs)\/(fc e=false/\X e k d))) bF Ye (Yh _ _) (λi=>dJ _) cu ?_ ?_ ?_
  .rintro⟨⟨pre,i,L,c⟩,b7,dv⟩ l rec c1 eI K cA;have E:∀(c:u) (e:ax),aO [e,aL (S c)] (e::S c):=λc e=>aO.cons e aO.aL;have:=round pre i L c l rec b7 dv c1 eI (bn [ce l rec .normal,aL (S c)]) K (λe d F eF a w cy=>cA e _ F ⟨d,rfl,eF⟩ a w (cy.eqv (E d _).symm));exact ah.eqv (E c _) this
  .intro l rec fy;have dE:=ib l (dI×u) (λk p=>p.1=.normal/\G k p.2) (λk p=>ga p.1=true/\fc p.1=false/\X p.1 k p.2) (λp=>aL [ce l rec p.1,aL (S p.2)]) (.normal,T) ⟨rfl,eE⟩ ?_
   .refine dE.eqv (an:=ce l rec .normal::aL (S T)::q) ?_ ?_
    .exact(aO.append (an:=[aL [ce l rec .normal,aL (S T)]]) aO.aL (aO.refl q)).symm
    .rintro v Y⟨⟨e,d⟩,k,bH,rfl⟩;refine⟨ce l rec e::aL (S d)::z,⟨e,_,?_,⟨d,k,rfl,?_⟩,rfl⟩,aO.append (an:=[aL [ce l rec e,aL (S d)]]) aO.aL (aO.refl _)⟩
     .rcases bH with⟨⟨h,_⟩,_⟩|⟨h,_⟩
      exact LL
      .exact h
     .rcases bH with⟨⟨h,o⟩,cd⟩|⟨_,cd,gX⟩
      .exact .inl ⟨h,o,cd⟩
      .exact .inr ⟨cd,gX⟩
   .rintro pre i L⟨e,c⟩ b7⟨c9,dv⟩;simp only at c9 dv;subst c9;refine(fy ⟨(pre,i,L,c),b7,dv⟩).eqv (an:=[aL [ce l rec .normal,aL (S c)]]) aO.aL ?_;rintro v Y⟨e,cE,rfl,F,⟨d,rfl,eF⟩,rfl⟩;refine⟨[aL [ce l rec e,aL (S d)]],⟨(e,d),fc e,rfl,λh=>?_,λh=>?_,rfl⟩,aO.aL.symm⟩
    .rcases Yj F eF with⟨R,o⟩|⟨R,o⟩
     .refine⟨?_,o⟩;cases e<;>first|rfl|cases R
     .rw[R]at h;cases h
    .rcases Yj F eF with⟨R,o⟩|⟨R,o⟩
     .rw[R]at h;cases h
     .exact⟨F,R,o⟩
  .rintro b e y F⟨d,k,rfl,bH⟩;have conv:∀{e:dI},Out W D ⟨n.n,b::n.ds⟩ Q e U (gl b::(S d++(z++j)))->Out W D ⟨n.n,b::n.ds⟩ Q e U (gl b::(aL (S d)::z++j)):=λh=>
    Out.eqv (aO.cons _ (by have:=aO.append (an:=[aL (S d)]) aO.aL (aO.refl (z++j));simpa using this)) h
   rcases bH with⟨rfl,dv,Yf⟩|⟨Yi,iP⟩
   .exact conv (done k d b dv Yf)
   .exact conv (left k d b e F Yi iP)
 refine ah.eqv (be:=aL (S T)::(q++j)) ?_ Yc;refine(aO.UA Yg.perm).trans ?_;rw[cn];exact(aO.append (an:=[aL (S T)]) aO.aL (aO.refl (q++j))).symm
def ar.post{f:eR}{args:ab aj}{R X:aj->ab ax->Prop}(h:ar P f args J R)(t:∀v Y,R v Y->∃Z,X v Z/\∀W D w,H W D Y w->H W D Z w):ar P f args J X:=ar.of λw o=>
 (h.get w o).mono λe K ⟨v,Y,L,f,a⟩=>by obtain⟨Z,K,F⟩:=t v Y f;exact⟨v,Z,L,K,F _ _ _ a⟩
end
end Go.ay
namespace Go.ay
open Go
section
variable{P:bU}{r:aT Nat}{W:aZ}{D:ab Nat}{n:dq}{U:bC}{J:ab ax}{Y:Array b6}
def af.gm{M:Act->aZ->Prop}{h F:ab ax}{v:ab Nat}{p:Nat}{a:Array Bool}{d:Bool}{g L ok:b6}(i j k:Nat)(ao:Y[i]?=some g)(y:Y[j]?=some L)(u:Y[k]?=some ok) (Z:av P r W D n g U J (λc N=>(∀w,H W D N w->fw h w)/\(∀w,H W D N w->fw F w)/\af P r W D n Y M h F v true p (a.setIfInBounds i true) c N)) (C:av P r W D n L U J (λc N=>(∀w,H W D N w->fw h w)/\(∀w,H W D N w->fw F w)/\af P r W D n Y M h F v true p (a.setIfInBounds j true) c N)) (R:av P r W D n ok U J (λc N=>(∀w,H W D N w->fw h w)/\(∀w,H W D N w->fw F w)/\af P r W D n Y M h F v true p (a.setIfInBounds k true) c N)) (X:(Region.ready .any Y a==[i,j,k]&&![i,j,k].isEmpty)=true:=by kernel_rfl) (l:hp U Y g.guard=some true:=by exact rfl) (b:hp U Y L.guard=some true:=by exact rfl) (s:hp U Y ok.guard=some true:=by exact rfl):af P r W D n Y M h F v d (p+1) a U J:=
 af.each [i,j,k] X (by
  intro m K;rcases dk.1 K with rfl|K
  .exact⟨g,ao,l,Z⟩
  .rcases dk.1 K with rfl|K
   .exact⟨L,y,b,C⟩
   .obtain rfl:m=k:=by simpa using K
    exact⟨ok,u,s,R⟩)
end
end Go.ay
namespace Go.ay
open Go
variable{m:aT Addr}{C:bC->ab ax->Prop}{d:aT (Nat×Bool)}{Q:cU}{off:Nat}{F:Type}{R:Array Edge}
abbrev w6(K:Array aj)(t:Nat×Nat):Prop:=K.size<=t.1\/t.2=0
def Bl(P:bU)(g o:Nat)(t:a7)(j:Nat×Nat):∀(E:ab aj) (i:Nat) (Q:Array aj) (w:aZ),w.heap[g]?=some (.cells Q t j)->w6 Q j->o+i+E.length<=Q.size->(∀v∈E,v.oneCell'=true)->(storeCells ⟨g,o,none⟩ E i).run P w=.ok () (w.setRow g (Q.toList.take (o+i)++E++Q.toList.drop (o+i+E.length)).toArray)
 |[],i,Q,w,L,_,_,_=>by simp only[storeCells,dT,gv,ho,oe,Em];rw[setRow_self w g Q t j L];rfl
 |v::l,i,Q,w,L,k,u,K=>by
  have ao:o+i<Q.size:=by simp at u;omega
  have T:(⟨g,o,none⟩:Addr).add i=⟨g,o+i,none⟩:=by unfold Addr.add;split<;>simp_all
  have s:w.cell? ⟨g,o+i,none⟩=some Q[o+i]:=by simp[World.cell?,L,ao]
  have x:w.frozen? ⟨g,o+i,none⟩=false:=by
   obtain⟨z,a⟩:=j;simp only[World.frozen?,L,KU,jZ];rcases k with h|h
   .left;dsimp only at h⊢;omega
   .right;dsimp only at h⊢;omega
  have E:(store ((⟨g,o,none⟩:Addr).add i) v).run P w=.ok () (w.setRow g (Q.setIfInBounds (o+i) v)):=by rw[T,run_store P w _ v _ (K v T3),s];simp[x,setCell_eq_setRow w g (o+i) Q t j v L]
  have z:=Bl P g o t j l (i+1) (Q.setIfInBounds (o+i) v) (w.setRow g (Q.setIfInBounds (o+i) v)) (q4 w g Q _ t _ L) (by simpa[w6]using k) (by simp at u⊢;omega) (λx T=>K x (by simp[T]));simp only[storeCells,cK,E,dW,z,setRow_setRow];congr 3;have e:=list_seg_step Q.toList (o+i) v l (by simp at u⊢;omega);simpa[Array.toList_setIfInBounds,qi]using e
def kl(w:aZ)(e:a7)(Y:Nat)(v:aj)(n:Nat)(U:ab aj):Prop:=
 U.length=n*Y/\
 ((v=.slice none 0 0/\n=0)\/
  ∃g off E K t,v=.slice (some ⟨g,off,none⟩) n E/\w.heap[g]?=some (.cells K e t)/\w6 K t/\n<=E/\E<=maxLen/\off+E*Y<=K.size/\(K.toList.drop off).take (n*Y)=U)
section
variable{w:aZ}{e:a7}{Y:Nat}{v:aj}{n:Nat}{U:ab aj}
def kl.of(h:w.ownsRow 0 e Y v n U):kl w e Y v n U:=by
 refine⟨h.1,?_⟩;rcases h.2 with a|⟨g,E,q,L,u,t,K,T,o,Q⟩
 .exact .inl a
 .exact .inr ⟨g,0,E,q,(0,0),L,t,.inr rfl,K,T,ac,by simpa using Q⟩
def kl.same{K:aZ}(h:kl w e Y v n U)(T:∀g,v.ownBlock=some g->K.heap[g]?=w.heap[g]?):kl K e Y v n U:=by
 refine⟨h.1,?_⟩;rcases h.2 with a|⟨g,off,E,u,o,rfl,t,i⟩
 .exact .inl a
 .exact .inr ⟨g,off,E,u,o,rfl,by rw[T g rfl];exact t,i⟩
def kl.lt(h:kl w e Y v n U):∀k,v.ownBlock=some k->k<w.heap.size:=by
 intro k u;rcases h.2 with⟨rfl,_⟩|⟨g,off,E,K,o,rfl,t,_⟩
 .simp[Value.ownBlock]at u
 .simp[Value.ownBlock]at u;subst u;exact(o4.1 t).1
def kl.cells{g E:Nat}(h:kl w e Y (.slice (some ⟨g,off,none⟩) n E) n U):∀(j:Nat) (u:aj),U[j]?=some u->w.cell? ⟨g,off+j,none⟩=some u:=by
 intro j u o;rcases h.2 with⟨L,_⟩|⟨m,k,p,K,z,L,t,_,_,_,_,a⟩
 .cases L
 .cases L;rw[cell_of_row w g (off+j) K e z t];rw[<-a,lS]at o;split at o
  .rw[mY]at o;simpa using o
  .cases o
def yW(g off j:Nat):(⟨g,off,none⟩:Addr).add j=⟨g,off+j,none⟩:=by unfold Addr.add;split<;>simp_all
def kl.to{E j:Nat}(h:kl w e Y (.slice m n E) n U)(y:j<=n):kl w e Y (.slice m j E) j (U.take (j*Y)):=by
 have u:j*Y<=n*Y:=kh _ y;refine⟨by rw[fp,h.1];omega,?_⟩;rcases h.2 with⟨z,L⟩|⟨g,off,p,Q,c,z,t,k,K,T,o,a⟩
 .cases z;obtain rfl:j=0:=by omega
  exact .inl ⟨rfl,rfl⟩
 .cases z;refine .inr ⟨g,off,E,Q,c,rfl,t,k,ac,T,o,?_⟩;rw[<-a,tG,ri u]
def kl.from{E i:Nat}(h:kl w e Y (.slice m n E) n U)(ao:i<=n):kl w e Y (.slice (partAt m E i Y) (n-i) (E-i)) (n-i) (U.drop (i*Y)):=by
 refine⟨by rw[k9,h.1,Nat.sub_mul],?_⟩;rcases h.2 with⟨z,L⟩|⟨g,off,a,u,p,z,t,k,K,T,o,j⟩
 .cases z;obtain rfl:i=0:=by omega
  refine .inl ⟨?_,ac⟩;unfold partAt;rw[aQ rfl,L]
 .cases z;by_cases q:E=i
  .obtain rfl:n=E:=by omega
   subst q;refine .inr ⟨g,off,n-n,u,p,?_,t,k,cD _,ac,by rw[Nat.sub_self,ra];omega,?_⟩
   .unfold partAt;rw[aQ rfl]
   .rw[Nat.sub_self,ra,wR];exact(lW (by rw[k9,h.1];omega)).symm
  .refine .inr ⟨g,off+i*Y,E-i,u,p,?_,t,k,ac,ac,?_,?_⟩
   .unfold partAt;rw[aM q];simp[yW]
   .have:i*Y+(E-i)*Y=E*Y:=by rw[<-fr];congr 1;omega
    omega
   .rw[<-j,List.drop_take,rb,Nat.sub_mul]
end
section
variable{P:bU}{w:aZ}
def ahU(t cr G e:a7)(i:TypeInfo)(z:aj)(Y bytes:Nat)(cN:P.underlying t=some (.slice e))(ao:P.info? e=some i)(fk:i.zero=some z)(j:i.size=Y)(a:i.bytes=bytes)(l:z.cells.size=Y)(b:0<Y)(v:aj)(n:Nat)(U:ab aj)(Q:kl w e Y v n U)(x:aj)(m:Nat)(K:ab aj)(q:Src P Y cr x m K w)(c:n+m<=maxLen)(L:(n+m)*bytes<=140737488355328):∃o u,(Builtin.append_ #[t,cr] G #[v,x]).run P w=.ok o u/\kl u e Y o (n+m) (U++K)/\w.grownBy u v.ownBlock/\(o=.slice none 0 0↔v=.slice none 0 0/\m=0)/\(o.ownBlock=v.ownBlock\/o.ownBlock=some w.heap.size)/\w.drawn<=u.drawn:=by
 rcases Q.2 with⟨rfl,rfl⟩|⟨g,off,E,T,tH,rfl,bF,eh,Yc,p,h,y⟩
 .have k:U=[]:=lW (by simpa using Q.1);subst k;obtain⟨o,u,s,bY,cd,gX,kO,l1⟩:=AW (P:=P) (w:=w) t cr G e i z Y bytes cN ao fk j a l b (.slice none 0 0) 0 [] (EK w 0 e Y) x m K q c L;exact⟨o,u,s,.of bY,cd,gX,kO,l1⟩
 .subst j;subst a;have b:=q.newsLen;have u:n+m<=9223372036854775807:=by simp only[maxLen]at c;omega
  have a:(U++K).length=(n+m)*i.size:=by rw[b2,Q.1,b,fr]
  by_cases o:n+m<=E
  .have s:(n+m)*i.size<=E*i.size:=kh _ o;have j:(n+m)*i.size=n*i.size+m*i.size:=fr ..;have j:off+n*i.size+0+K.length<=T.size:=by rw[b];omega
   have u:=Bl P g (off+n*i.size) e tH K 0 T w bF eh j q.one;simp only[ho]at u;have s:(Builtin.append_ #[t,cr] G #[.slice (some ⟨g,off,none⟩) n E,x]).run P w=
     .ok (.slice (some ⟨g,off,none⟩) (n+m) E) (w.setRow g (T.toList.take (off+n*i.size)++K++T.toList.drop (off+n*i.size+K.length)).toArray):=by
    rcases q.kind with⟨k,b⟩|b<;>simp[Builtin.append_,et cN,et b,sizeOf,typeInfo,ao,q.len,o,q.cells,yW,u]
   have u:(T.toList.take (off+n*i.size)++K++T.toList.drop (off+n*i.size+K.length)).toArray.size=T.size:=by simp only[o6,b2,fp,k9,og];omega
   refine⟨_,_,s,⟨a,.inr ⟨g,off,E,_,tH,rfl,q4 w g T _ e _ bF,?_,o,p,by rw[u];exact h,?_⟩⟩,⟨rfl,rfl,rfl,T3,λk _ b=>wz w g k _ (λe=>b (by simp[Value.ownBlock,e]))⟩,T3,.inl rfl,cD _⟩
   .unfold w6;rw[u];exact eh
   .have h:T.toList.take (off+n*i.size)=T.toList.take off++U:=by rw[List.take_add,y]
    have u:(T.toList.take off).length=off:=by rw[fp,og];omega
    rw[h];have j:∀R:ab aj,(T.toList.take off++U++K++R).drop off=U++K++R:=λR=>by
     have u:T.toList.take off++U++K++R=T.toList.take off++(U++K++R):=by simp only[cn]
     rw[u,w7 ac,si ac,gJ]
    simp only[j];rw[<-a];exact ql
  .have h:∀j u,U[j]?=some u->w.cell? ((⟨g,off,none⟩:Addr).add j)=some u:=λj u o=>by rw[yW];exact Q.cells j u o
   have s:=AZ (P:=P) w t cr G e i z cN ao fk (some ⟨g,off,none⟩) n E U (u3 w.drew i.size n _ n E U Q.1 Ub) x m K q ac ac (yH ac L);have h:=yE w (n+m) E e;have p:grownCap w (n+m) E e<=maxLen:=yF w (n+m) E e c;refine⟨_,_,s,.of ⟨a,.inr ⟨w.heap.size,_,_,rfl,cO _,yo w.drew _,h,p,?_,?_⟩⟩,⟨rfl,rfl,rfl,T3,λk b _=>tm w.drew _ b⟩,T3,.inr rfl,wN _⟩
   .simp only[yG,o6,AX,l,a,<-fr];congr 1;omega
   .simp only[AY];rw[<-a];exact ql
end
@[irreducible] def oA(v:Value)(E aI n:Nat)(U:List Value):ax where
 gk:=v.ownBlock.toList
 holds w:=kl w E aI v n U
 loc w iI h cG:=cG.same λg bF=>h g (by simp[bF])
 lt w h x b3:=by
  have cc:v.ownBlock=some x:=SZ
  exact h.lt x cc
def nC(v E t n U):(oA v E t n U).gk=v.ownBlock.toList:=by unfold oA;rfl
def qz(v E t n U w):(oA v E t n U).holds w↔kl w E t v n U:=by unfold oA;rfl
def ej(f:F->ab aj)(v:aj)(E t:Nat)(l:ab F):ax:=oA v E t l.length (l.flatMap f)
section
variable{P:bU}{r:aT Nat}{W:aZ}{D:ab Nat}{n:dq}{J:bC}{Z N:ab ax}{f:F->ab aj}{w:aZ}
variable{M:Nat}{G:a7}{X:String}
def H.imp{e i:ax}{t:ab ax}(Q:ak Z [e] t)(a:i.gk=e.gk)(j:∀w,e.holds w->i.holds w)(h:H W D Z w):H W D (i::t) w:=by
 have K:=h.UP Q;refine⟨λx T=>?_,?_,λb u=>?_,K.cQ,K.size,K.os,K.tape,K.output,K.oZ⟩
 .rcases dk.1 T with rfl|T
  .exact j w (K.fQ e T3)
  .exact K.fQ x (by simp[T])
 .have:=K.nodup;rw[ly,gJ,iJ]at this;rw[iJ,a];exact this
 .refine K.own b ?_;rw[ly,gJ,iJ,<-a,<-iJ];exact u
def ej.of{v:aj}{E t:Nat}{l:ab F}(w:aZ)(h:(rows f v E t l).holds w):(ej f v E t l).holds w:=by unfold ej;rw[qz];rw[fs,io]at h;exact .of h
def KW{v:aj}{E t:Nat}{l:ab F}:(ej f v E t l).gk=(rows f v E t l).gk:=by unfold ej;rw[nC,fs,h6]
def sG{v:aj}{E o:Nat}{l:ab F}(p:∀x,(f x).length=o)(q:ej f v E o l∈Z):∀w,H W D Z w->∃m t b off,v=.slice m l.length t/\l.length<=t/\Rd (ej f (.slice m l.length t) E o l) m l.length b off o (l.map f):=λw s=>by
 have h:=s.mem q;unfold ej at h;rw[qz]at h;rcases h.2 with⟨rfl,L⟩|⟨g,off,t,Ye,tH,rfl,_,_,K,Q,_⟩
 .rw[L];refine⟨none,0,0,0,rfl,cD _,?_⟩;obtain rfl:l=[]:=lW L;exact Rd.nil
 .refine⟨some ⟨g,off,none⟩,t,g,off,rfl,K,⟨T3,ac,λ_=>rfl,λoo Yg=>?_⟩⟩;unfold ej at Yg;rw[qz]at Yg;intro i x T;rw[h9]at T;obtain⟨a,z,rfl⟩:=qg.1 T;refine⟨p a,λj u c=>?_⟩;have y:j<o:=by have:=(cT.1 c).1;rw[p a]at this;exact this
  have Yf:(l.flatMap f)[i*o+j]?=some u:=by
   have Yc:∀(l:ab F) (i:Nat) (a:F),l[i]?=some a->(l.flatMap f)[i*o+j]?=(f a)[j]?:=by
    intro l;induction l with
    |nil=>intro i a h;simp at h
    |cons b l k=>
     intro i a h;cases i with
     |zero=>
      simp only[qk,eY]at h;subst h;rw[gn,ra,h8,rh (by rw[p];exact y)]
     |succ i=>
      rw[gn,ji (by rw[p,fr];omega),p];rw[show(i+1)*o+j-o=i*o+j by rw[fr];omega];exact k i a Ub
   rw[Yc l i a z];exact c
  have:=Yg.cells (i*o+j) u Yf;rwa[<-qi]at this
def H.aaY{E t m k:Nat}{v o:aj}{U Q:ab aj}{j:aZ}(h:H W D Z w)(u:az Z (oA v E t k U) (oA o E t m Q) N)(p:kl j E t o m Q)(g:w.grownBy j v.ownBlock)(T:o.ownBlock=v.ownBlock\/o.ownBlock=some w.heap.size)(q:w.drawn<=j.drawn):H W D N j:=by
 refine h.n7 u ⟨λe L=>?_,?_,λx K=>?_,λb y a=>?_,g.size,g.os,g.tape,g.output,q⟩
 .obtain rfl:e=_:=by simpa using L
  rw[qz];exact p
 .have:bn [oA o E t m Q]=o.ownBlock.toList:=by simp[bn,nC]
  rw[this];cases o.ownBlock<;>simp
 .have c:o.ownBlock=some x:=by simpa[bn,nC]using K
  rcases T with T|T
  .left;rw[nC,<-T,c];simp
  .right;rw[T]at c;injection c with c;omega
 .refine g.block b y λe=>a ?_;rw[nC,<-e];simp
def O.X2(ad:ca P){t cr E aI gu:Nat}{x y:bf}{v u:aj}{l m:ab F}{iM:ab aj}{N:aj->ab ax}(o:aR J x=some v)(c:aR J y=some u)(j:∀ei,az Z (ej f v E aI l) (ej f ei E aI (l++m)) (N ei))(h:cq P Z f aI cr u m)(dQ:∀ei,ei.oneCell'=true->C ((M,ei)::J) (N ei))(dM:Nat.blt M n.n=true:=by exact rfl)(cN:bM ad.fe t=some E:=by exact rfl)(Ye:bM ad.gV E=some aI:=by exact rfl)(Yj:bM ad.lT E=some gu:=by exact rfl)(fk:iK ad.iZ E=some iM:=by exact rfl)(Yl:iM.length=aI:=by exact rfl)(Yg:Nat.blt 0 aI=true:=by exact rfl)(Ym:(l.length+m.length)*gu<=140737488355328:=by(first|omega|(simp only[b2,dD,gv,eT];omega)))(Yn:l.length+m.length<=9223372036854775807:=by(first|omega|(simp only[b2,dD,gv,eT];omega))):av P r W D n ⟨some M,.call ⟨.builtin .append,#[x,y],#[t,cr]⟩,G,X,R,d⟩ J Z C:=av.of λK Q cA a w c2 cy=>by
 obtain⟨i,z,ao,Yi,T,L,cd⟩:=ad.info Ye Yj fk;obtain⟨p,q,s,_⟩:=(j v).split;have Yf:=cy.mem (e:=ej f v E aI l) (by rw[s];simp);unfold ej at Yf;rw[qz]at Yf;have Yo:0<aI:=o0 Yg;have Yk:z.cells.size=aI:=by rw[<-og,cd,Yl]
 obtain⟨ei,eX,c1,dy,bF,cM,b,Yh⟩:=ahU (P:=P) (w:=w) t cr G E i z aI gu (gt (ad.Uu cN)) ao Yi T L Yk Yo v _ _ Yf u m.length (m.flatMap f) (h w cy.hold) Rn Ym;have Yp:kl eX E aI ei (l++m).length ((l++m).flatMap f):=by rw[b2,m1];exact dy
 have T:ei.oneCell'=true:=by rcases dy.2 with⟨rfl,_⟩|⟨g,off,k,Yc,tH,rfl,_⟩<;>rfl
 have t:=j ei;unfold ej at t;refine jA rfl ?_ (cA _ _ (dQ ei T) _ _ (c2.put dM _) (cy.aaY t Yp bF b Yh));simp[execOp,resolve,invoke,builtin,c2.eval o,c2.eval c,c1]
def ah.toX{c:Code}{v:aj}{E t:Nat}{l:ab F}{g:ab ax}(h:ah P r W D n Q c J (ej f v E t l::g))(q:ak Z [rows f v E t l] g:=by(repeat(first|exact ak.nil|exact al.here|apply ak.cons|apply al.there))):ah P r W D n Q c J Z:=
 ah.iN (λ_ i=>i.imp q KW (ej.of)) h
def ej.to{Q j E t:Nat}{l:ab F}(a:∀x,(f x).length=t)(y:j<=l.length)(w:aZ)(h:(ej f (.slice m l.length Q) E t l).holds w):(ej f (.slice m j Q) E t (l.take j)).holds w:=by
 unfold ej at*;rw[qz]at*;have K:=h.to y;rw[sy a l j y]at K;have e:(l.take j).length=j:=Mt
 rwa[e]
def ej.from{Q i E t:Nat}{l:ab F}(a:∀x,(f x).length=t)(ao:i<=l.length)(w:aZ)(h:(ej f (.slice m l.length Q) E t l).holds w):(ej f (.slice (partAt m Q i t) (l.length-i) (Q-i)) E t (l.drop i)).holds w:=by unfold ej at*;rw[qz]at*;have K:=h.from ao;rw[vg a l i ao]at K;rwa[k9]
def KX(l:aT Addr)(E i t n m k:Nat):(Value.slice (partAt l E i t) m k).ownBlock=(Value.slice l n E).ownBlock:=by
 unfold partAt;split
 .cases l<;>rfl
 .cases l with
  |none=>rfl
  |some a=>
   simp only[pc,Value.ownBlock];unfold Addr.add;split<;>rfl
def ah.aaZ{c:Code}{q E g:Nat}{l:ab F}{o:ab ax}(j:Nat)(a:∀x,(f x).length=g)(y:j<=l.length)(h:ah P r W D n Q c J (ej f (.slice m j q) E g (l.take j)::o))(t:ak Z [ej f (.slice m l.length q) E g l] o:=by(repeat(first|exact ak.nil|exact al.here|apply ak.cons|apply al.there))):ah P r W D n Q c J Z:=
 ah.iN (λ_ i=>i.imp t (by unfold ej;rw[nC,nC];cases m<;>rfl) (ej.to a y)) h
def ah.aa0{c:Code}{q E g:Nat}{l:ab F}{o:ab ax}(i:Nat)(a:∀x,(f x).length=g)(ao:i<=l.length)(h:ah P r W D n Q c J (ej f (.slice (partAt m q i g) (l.length-i) (q-i)) E g (l.drop i)::o))(t:ak Z [ej f (.slice m l.length q) E g l] o:=by(repeat(first|exact ak.nil|exact al.here|apply ak.cons|apply al.there))):ah P r W D n Q c J Z:=
 ah.iN (λ_ i=>i.imp t (by unfold ej;rw[nC,nC,KX]) (ej.from a ao)) h
def av.aa1(ad:ca P){i Bm E a:Nat}{x:bf}{l:ab aS}(T:aR J x=some (S l))(t:∀v,v.oneCell'=true->C ((M,v)::J) (ej dt v E 1 l::Z))(z:l.length<=1000000)(c:Nat.blt M n.n=true:=by exact rfl)(q:bM ad.strs i=some a:=by exact rfl)(p:bM ad.fe Bm=some E:=by exact rfl)(L:mu ad.ints E=some .u8:=by exact rfl):av P r W D n ⟨some M,.convert i Bm x,G,X,R,d⟩ J Z C:=av.of λK Q m a w j y=>by
 have s:=Lib.run_convert_string_bytes (P:=P) w i Bm E ⟨l.toArray⟩ (ad.Vl q) (gt (ad.Uu p)) (ad.UJ L);have g:(⟨l.toArray⟩:ByteArray).size=l.length:=by simp[ByteArray.size]
 have Yc:=yE w l.length 0 E;have o:grownCap w l.length 0 E<=maxLen:=yF w l.length 0 E Rn;have k:(Lib.bytesCells w E ⟨l.toArray⟩).size=grownCap w l.length 0 E:=by simp only[Lib.bytesCells,yG,Array.size_map,Array.size_replicate,g];simp;omega
 have h:H w [] [ej dt (.slice (some ⟨w.heap.size,0,none⟩) l.length (grownCap w l.length 0 E)) E 1 l] (Lib.bytesWorld w E ⟨l.toArray⟩):=by
  refine⟨λe L=>?_,by simp[bn,ej,nC,Value.ownBlock],λb u=>?_,λb u _=>Lib.bytesWorld_at_old w E _ b u,by rw[Lib.bytesWorld_size];omega,?_,?_,?_,?_⟩
  .obtain rfl:e=_:=by simpa using L
   unfold ej;rw[qz];refine⟨by rw[yI];simp,.inr ⟨w.heap.size,0,_,_,_,rfl,Lib.bytesWorld_at_new w E _,.inl (cD _),Yc,o,by rw[k];omega,?_⟩⟩;rw[AK,yI,pd];simp[Lib.bytesCells]
  .right;have:b=w.heap.size:=by simpa[bn,ej,nC,Value.ownBlock]using u
   omega
  all_goals(unfold Lib.bytesWorld World.freeze;rw[aM T6];first|rfl|exact wN _|exact cD _)
 refine jA rfl ?_ (m _ _ (t (.slice (some ⟨w.heap.size,0,none⟩) l.length (grownCap w l.length 0 E)) rfl) _ _ (j.put c _) (y.new h));rw[g]at s;simp only[execOp,j.eval T,cK,s,dW,eP]
def V.aa2(ad:ca P){t u e a Q b:Nat}{Fo:ax}{h:aT Addr}{x:bf}{l:ab aS}(T:aR J x=some (.slice h l.length Q))(ew:Rd Fo h l.length b off 1 (l.map dt))(E:Fo∈Z)(m:bM ad.strs u=some a:=by exact rfl)(o:bM ad.fe t=some e:=by exact rfl)(p:mu ad.ints e=some .u8:=by exact rfl):aK P n J Z ⟨some M,.convert t u x,G,X,R,d⟩ (S l):=aK.of λa w c i=>by
 have g:(Conv.bytesToString (.slice h l.length Q)).run P w=.ok (S l) w:=by
  cases l with
  |nil=>cases h<;>rfl
  |cons y l=>
   have q:=ew.addr T3;subst q;have Yf:=ew.reads w (i.get _ E);have Ye:(loadCells ⟨b,off,none⟩ (y::l).length).run P w=.ok ((y::l).map λb=>Value.int .u8 (b.toNat:Int)).toArray w:=by
    have:=u3 (P:=P) w 1 (y::l).length ⟨b,off,none⟩ (y::l).length Q ((y::l).map λb=>Value.int .u8 (b.toNat:Int)) T3 (λj v L=>by rw[h9]at L;obtain⟨z,k,rfl⟩:=qg.1 L;have K:=(Yf j (dt z) (by rw[h9,k];rfl)).2 0 (.int .u8 (z.toNat:Int)) rfl;rw[yW];simpa using K)
    simpa[Builtin.firstCells]using this
   have Yc:∀(U:ab aS) (s:ByteArray),(U.map λb=>(b.toNat:Int)).foldl (λr n=>r.push (UInt8.ofNat n.toNat)) s=⟨s.data++U.toArray⟩:=by
    intro U;induction U with
    |nil=>intro s;simp
    |cons x U L=>
     intro s;simp only[e7,qh];rw[L];apply ByteArray.ext;simp[ByteArray.push]
   rw[Go.run_bytesToString w ⟨b,off,none⟩ (y::l).length Q ((y::l).map λb=>(b.toNat:Int)) (by simpa[Function.comp_def]using Ye),Yc];simp
 simp only[execOp,c.eval T,convert,cK,et (ad.Vl m),et (gt (ad.Uu o)),dW,et (ad.UJ p),g,eP]
def H.aa3{g t k o E z:Nat}{U us:ab aj}{w:aZ}(h:H W D Z w)(u:az Z (oA (.slice (some ⟨g,off,none⟩) k t) E z k U) (oA (.slice (some ⟨g,off,none⟩) k t) E z k (eg o us U)) N)(Q:o+us.length<=U.length)(K:us.all (·.oneCell')=true):∃eX,(storeCells ⟨g,off+o,none⟩ us).run P w=.ok () eX/\H W D N eX:=by
 obtain⟨p,q,L,_⟩:=u.split;have Yh:=h.mem (e:=oA (.slice (some ⟨g,off,none⟩) k t) E z k U) (by rw[L];simp);rw[qz]at Yh;rcases Yh.2 with⟨a,_⟩|⟨u6,Yt,Yk,Ye,tH,a,j,l,Yl,Yi,Yn,c⟩
 .cases a
 cases a;have Yo:=Yh.1;have Yq:k*z<=t*z:=kh _ Yl;have Ym:Ye.toList.length=Ye.size:=og;have Yf:=Bl P g (off+o) E tH us 0 Ye w j l ac (hq.1 K);simp only[ho]at Yf;refine⟨_,Yf,?_⟩;have dJ:(Ye.toList.take off).length=off:=Mt
 have Yr:Ye.toList=Ye.toList.take off++(U++(Ye.toList.drop off).drop (k*z)):=by rw[<-c,oe,oe]
 generalize Ye.toList.take off=A at*;generalize(Ye.toList.drop off).drop (k*z)=B at*;have i:Ye.toList.take (off+o)=A++U.take o:=by rw[Yr,<-dJ,Fp,o7 ac]
 have s:Ye.toList.drop (off+o+us.length)=U.drop (o+us.length)++B:=by rw[Yr,show off+o+us.length=A.length+(o+us.length) by omega,List.drop_length_add_append,w7 ac]
 rw[i,s];have Yj:eg o us U=U.take o++us++U.drop (o+us.length):=rfl;have Ys:(eg o us U).length=k*z:=by rw[Yj];simp only[b2,fp,k9];omega
 have Yp:(A++U.take o++us++(U.drop (o+us.length)++B))=A++(eg o us U++B):=by rw[Yj];simp only[cn]
 rw[Yp];have Yg:(A++(eg o us U++B)).toArray.size=Ye.size:=by have:=dp List.length Yr;simp only[o6,b2]at this⊢;omega
 refine h.n7 u ⟨λe y=>?_,by simp[bn,nC,Value.ownBlock],λx T=>?_,λb Yc m=>?_,T3,rfl,rfl,rfl,cD _⟩
 .obtain rfl:e=_:=by simpa using y
  rw[qz];refine⟨Ys,.inr ⟨g,off,t,_,tH,rfl,q4 w g Ye _ E _ j,by unfold w6;rw[Yg];exact l,Yl,Yi,by rw[Yg];exact Yn,?_⟩⟩;have z:(A++(eg o us U++B)).drop off=eg o us U++B:=by rw[<-dJ,Bn]
  rw[z,<-Ys,ql]
 .left;simpa[bn,nC,Value.ownBlock]using T
 .exact wz w g b _ λe=>m (by simp[nC,Value.ownBlock,e])
def O.aa4(ad:ca P){T u E g k Yc p:Nat}{x y:bf}{l:ab F}{a:F}{v:aj}(q:aR J x=some (aw g (off+k*1)))(L:aR J y=some v)(m:f a=[v])(Ye:v.oneCell'=true)(o:az Z (ej f (.slice (some ⟨g,off,none⟩) Yc p) E 1 l) (ej f (.slice (some ⟨g,off,none⟩) Yc p) E 1 (l.set k a)) N)(z:l.length=Yc)(j:k<l.length)(fk:∀x,(f x).length=1)(dQ:C J N)(t:bM ad.one T=some u:=by exact rfl):av P r W D n ⟨none,.store T x y,G,X,R,d⟩ J Z C:=av.of λK Q cA gR w s h=>by
 subst z;have Yf:az Z (oA (.slice (some ⟨g,off,none⟩) l.length p) E 1 l.length (l.flatMap f)) (oA (.slice (some ⟨g,off,none⟩) l.length p) E 1 l.length (eg (k*1) [v] (l.flatMap f))) N:=by have:=o;simp only[ej,co]at this;rwa[<-m,wQ fk l k a j]
 obtain⟨eX,b,Yg⟩:=H.aa3 (P:=P) h Yf (by rw[kI fk];simp;omega) (by simp[Ye]);refine tt rfl ?_ (cA _ _ dQ _ _ (s.Vi undef) Yg);have c:(P.info? T).map (·.size)=some 1:=ad.Wi t;obtain⟨i,ao,Yh⟩:=qg.1 c;have Yi:v.cells=#[v]:=by cases v<;>first|rfl|(cases Ye;done)
 simp only[execOp,s.eval q,s.eval L,Instr.storeAt,Instr.sureAddr,cK,eP,dW];have K:(storeVar T ⟨g,off+k*1,none⟩ v).run P w=.ok () eX:=by
  have a:(storeCells ⟨g,off+k*1,none⟩ v.cells.toList).run P w=.ok () eX:=by rw[Yi];exact b
  simp[storeVar,sizeOf,typeInfo,ao,Yh,Yi]at a⊢;exact a
 rw[K];rfl
def V.Y'{t m:a7}{x y:bf}{p q v:Int}(L:p-q=v)(K:aR J x=some (I p))(T:aR J y=some (I q))(u:-9223372036854775808<=p-q/\p-q<=9223372036854775807):aK P n J Z ⟨some M,.binOp .sub t x y m,G,X,R,d⟩ (I v):=by subst L;exact V.sub K T u
def V.Uo{t m:a7}{x y:bf}{p q v:Int}(L:p+q=v)(K:aR J x=some (I p))(T:aR J y=some (I q))(u:-9223372036854775808<=p+q/\p+q<=9223372036854775807):aK P n J Z ⟨some M,.binOp .add t x y m,G,X,R,d⟩ (I v):=by subst L;exact V.add K T u
end
end Go.ay
namespace Go.Proofs.YteogojgnkjegmaaGreatDoor
open Go.ay Go.Proofs.Tryz
variable{Y:Type}{k b:Nat}
variable[Inhabited Y]
structure aJ(Y:Type) where
 aH:Int
 xs:ab (ab Y)
 b7:ab (ab Bool)
def aJ.x(p:aJ Y)(k:Nat):ab Y:=p.xs.getD k []
def aJ.h(p:aJ Y)(k:Nat):ab Bool:=p.b7.getD k []
structure aJ.wf(p:aJ Y):Prop where
 af3:0<=p.aH
 ao:p.aH<=7
 m5:p.xs.length=7
 m6:p.b7.length=7
 same:∀k,(p.x k).length=(p.h k).length
 oB:∀k,(p.x k).length<=64
def bq(x:ag)(n:Int):Bool:=decide (0<=x.a1)&&decide (x.a1<n)&&decide (1<=x.bT)&&decide (x.bT<=64)
def hf(l:ab Y)(n:Nat)(d:Y):ab Y:=l++List.replicate (n-l.length) d
def aJ.set(p:aJ Y)(x:ag)(v:Y):aJ Y:=
 if bq x p.aH then{p with xs:=p.xs.set x.a1.toNat ((hf (p.x x.a1.toNat) x.bT.toNat default).set (x.bT-1).toNat v),b7:=p.b7.set x.a1.toNat ((hf (p.h x.a1.toNat) x.bT.toNat false).set (x.bT-1).toNat true)}else p
def aJ.at(p:aJ Y)(x:ag):aT Y:=if bq x p.aH/\(p.h x.a1.toNat).getD (x.bT-1).toNat false=true then some ((p.x x.a1.toNat).getD (x.bT-1).toNat default)else none
def aJ.top(p:aJ Y)(U:Int):Nat:=if 0<=U/\U<p.aH then(p.x U.toNat).length else 0
def aJ.new(n:Int):aJ Y:=⟨Min.min (Max.max n 0) 7,List.replicate 7 [],List.replicate 7 []⟩
def cm(E c:ab aj)(p:aJ Y):ab aj:=I p.aH::(E++c)
def ep(f:Y->ab aj)(B E D:Nat)(b:Nat)(Q c:ab aj)(p:aJ Y):ax:=aL [cells b B (cm Q c p),gY f E D Q p.xs,gY e8 4 1 c p.b7]
def ge(f:Y->ab aj)(B E D:Nat)(b:Nat)(Q c:ab aj)(p:aJ Y)(k:Nat)(v u:aj)(x:ab Y)(h:ab Bool):ab ax:=
 [cells b B (cm (Q.set k v) (c.set k u) p),rows f v E D x,rows e8 u 4 1 h,gY f E D (Q.eraseIdx k) (p.xs.eraseIdx k),gY e8 4 1 (c.eraseIdx k) (p.b7.eraseIdx k)]
def ep.open{f:Y->ab aj}{B E aI:Nat}{Q m:ab aj}{p:aJ Y}{v u:aj}(W:Q[k]?=some v)(R:m[k]?=some u)(J:k<p.xs.length)(r:k<p.b7.length):aO [ep f B E aI b Q m p] (ge f B E aI b Q m p k v u (p.x k) (p.h k)):=by
 have c:Q.set k v=Q:=by apply oi;intro j;grind
 have Z:m.set k u=m:=by apply oi;intro j;grind
 have U:p.xs[k]?=some (p.x k):=by simp[aJ.x,J]
 have N:p.b7[k]?=some (p.h k):=by simp[aJ.h,r]
 unfold ep ge;rw[c,Z];refine aO.aL.trans (aO.cons _ ?_);refine(aO.append (an:=[gY f E aI Q p.xs]) (gY.open W U) (gY.open R N)).trans ?_;exact aO.UA (sg _ (hK ..))
def ep.shut{f:Y->ab aj}{B E D:Nat}{Q c:ab aj}{p:aJ Y}{v u:aj}{x:ab Y}{h:ab Bool}(W:k<Q.length)(R:k<c.length)(U:k<p.xs.length)(j:k<p.b7.length):aO (ge f B E D b Q c p k v u x h) [ep f B E D b (Q.set k v) (c.set k u) {p with xs:=p.xs.set k x,b7:=p.b7.set k h}]:=by unfold ep ge;refine aO.symm ?_;refine aO.aL.trans (aO.cons _ ?_);refine(aO.append (an:=[gY f E D (Q.set k v) (p.xs.set k x)]) (gY.shut W U).symm (gY.shut R j).symm).trans ?_;exact aO.UA (sg _ (hK ..))
def ep.bare{f:Y->ab aj}{B E D:Nat}{Q c:ab aj}{p:aJ Y}:aO [ep f B E D b Q c p] [cells b B (cm Q c p),gY f E D Q p.xs,gY e8 4 1 c p.b7]:=aO.aL
def cm.v{E us:ab aj}{p:aJ Y}{v:aj}(h:k<E.length):(cm (E.set k v) us p)[1+k*1]?=some v:=by simp only[cm,pd];grind
def cm.u{E c:ab aj}{p:aJ Y}{v:aj}(W:E.length=7)(h:k<c.length):(cm E (c.set k v) p)[8+k*1]?=some v:=by simp only[cm,pd];grind
def cm.cF{E c:ab aj}{p:aJ Y}{v t:aj}(h:k<E.length):eg (1+k*1) [t] (cm (E.set k v) c p)=cm (E.set k t) c p:=RQ
def cm.WO{E c:ab aj}{p:aJ Y}{v t:aj}(W:E.length=7)(h:k<c.length):eg (8+k*1) [t] (cm E (c.set k v) p)=cm E (c.set k t) p:=RQ
def cm.r{E c:ab aj}{p:aJ Y}:(cm E c p)[0]?=some (I p.aH):=rfl
def vm(l:ab Y)(n:Nat)(d:Y):(hf l n d).length=Max.max l.length n:=by simp[hf];omega
def vn{l:ab Y}{m n:Nat}{d:Y}(U:m=0\/l.length+m<=n)(N:n<=l.length+m):l++List.replicate m d=hf l n d:=by grind [hf]
def vo(l:ab Y)(m:Nat)(d:Y):l++List.replicate (m+1) d=(l++List.replicate m d)++[d]:=by rw[List.replicate_succ',cn]
def aJ.row(p:aJ Y)(k m:Nat):ab (ag×Y):=(List.range m).filterMap λj:Nat=>(p.at ⟨(k:Int),(j:Int)+1⟩).map λt=>(⟨(k:Int),(j:Int)+1⟩,t)
def aJ.upto(p:aJ Y)(k:Nat):ab (ag×Y):=(List.range k).flatMap λk=>p.row k (p.top k)
def aJ.all(p:aJ Y):ab (ag×Y):=p.upto 7
theorem aJ.Wu(p:aJ Y)(k m:Nat):p.row k (m+1)=p.row k m++((p.at ⟨(k:Int),(m:Int)+1⟩).map λt=>((⟨(k:Int),(m:Int)+1⟩:ag),t)).toList:=by grind [aJ.row,List.range_succ]
theorem aJ.V6(p:aJ Y)(k:Nat):p.upto (k+1)=p.upto k++p.row k (p.top k):=by grind [aJ.upto,List.range_succ]
def aJ.X3(p:aJ Y)(k:Nat):∀d m:Nat,∃L,p.row k (m+d)=p.row k m++L
 |0,m=>⟨[],T3⟩
 |d+1,m=>by obtain⟨L,h⟩:=aJ.X3 p k d m;grind [Nat.add_assoc,aJ.Wu,List.append_assoc]
def aJ.X4(p:aJ Y):∀d k:Nat,∃L,p.upto (k+d)=p.upto k++L
 |0,k=>⟨[],T3⟩
 |d+1,k=>by obtain⟨L,h⟩:=aJ.X4 p d k;grind [Nat.add_assoc,aJ.V6,List.append_assoc]
def aJ.aa5(p:aJ Y){m:Nat}{t:Y}(u:k<7)(K:m<p.top k)(j:p.at ⟨(k:Int),(m:Int)+1⟩=some t):∃L,p.all=(p.upto k++p.row k m)++(⟨(k:Int),(m:Int)+1⟩,t)::L:=by obtain⟨l,U⟩:=aJ.X4 p (7-(k+1)) (k+1);obtain⟨y,N⟩:=aJ.X3 p k (p.top k-(m+1)) (m+1);rw[show k+1+(7-(k+1))=7 by omega]at U;rw[show m+1+(p.top k-(m+1))=p.top k by omega]at N;grind [aJ.all,aJ.V6,aJ.Wu]
def aJ.X5{p:aJ Y}(n:p.wf)(r:Int):p.top r<=64:=by
 unfold aJ.top;split
 .exact n.oB _
 .omega
def aJ.X6{p:aJ Y}(n:p.wf):∀k:Nat,(p.upto k).length<=64*k
 |0=>by simp[aJ.upto]
 |k+1=>by
  rw[aJ.V6,b2];have U:=aJ.X6 n k;have N:(p.row k (p.top k)).length<=p.top k:=by have:=List.length_filterMap_le (λj:Nat=>(p.at ⟨(k:Int),(j:Int)+1⟩).map λt=>((⟨(k:Int),(j:Int)+1⟩:ag),t)) (List.range (p.top k));simpa[aJ.row]using this
  have R:=aJ.X5 n (k:Int);omega
def aJ.Vp{p:aJ Y}(n:p.wf):p.all.length<=448:=aJ.X6 n 7
structure aJ.ok(p:aJ Y):Prop extends p.wf where
 last:∀k m,(p.h k).length=m+1->(p.h k)[m]?=some true
def Fq(l:ab (ab Y))(k j:Nat)(r:ab Y)(u:k<l.length):(l.set k r).getD j []=if j=k then r else l.getD j []:=Uh
def l2{x:ag}{n:Int}(h:bq x n=true):0<=x.a1/\x.a1<n/\1<=x.bT/\x.bT<=64:=by simp only[bq,c5,dl]at h;omega
theorem aJ.Vq(p:aJ Y)(x:ag)(v:Y):(p.set x v).aH=p.aH:=by unfold aJ.set;split<;>rfl
theorem aJ.UL(n:Int):(aJ.new n:aJ Y).ok:=by
 have U:∀k,(aJ.new n:aJ Y).x k=[]:=λk=>by simp only[aJ.x,aJ.new,km,yX];split<;>rfl
 have j:∀k,(aJ.new n:aJ Y).h k=[]:=λk=>QW
 refine⟨⟨?_,?_,rfl,rfl,λk=>by rw[U,j];rfl,λk=>by rw[U];simp⟩,λk m h=>by rw[j]at h;simp at h⟩
 .show 0<=Min.min (Max.max n 0) 7;omega
 .show Min.min (Max.max n 0) 7<=7;omega
def aJ.WP{p:aJ Y}(n:p.wf){x:ag}{v:Y}(G:bq x p.aH=true)(k:Nat):(p.set x v).x k=if k=x.a1.toNat then(hf (p.x x.a1.toNat) x.bT.toNat default).set (x.bT-1).toNat v else p.x k:=by have h:=l2 G;have ao:=n.ao;have i:=n.m5;rw[aJ.set,aQ G];exact Fq _ _ _ _ ac
def aJ.WQ{p:aJ Y}(n:p.wf){x:ag}{v:Y}(G:bq x p.aH=true)(k:Nat):(p.set x v).h k=if k=x.a1.toNat then(hf (p.h x.a1.toNat) x.bT.toNat false).set (x.bT-1).toNat true else p.h k:=by have h:=l2 G;have ao:=n.ao;have i:=n.m6;rw[aJ.set,aQ G];exact Fq _ _ _ _ ac
def aJ.Vr{p:aJ Y}(z:p.ok)(x:ag)(v:Y):(p.set x v).ok:=by
 by_cases G:bq x p.aH=true
 .have h:=l2 G;have n:=z.towf;refine⟨⟨by grind [aJ.Vq],by rw[aJ.Vq];exact n.ao,?_,?_,λk=>?_,λk=>?_⟩,λk m K=>?_⟩
  .rw[aJ.set,aQ G];simpa using n.m5
  .rw[aJ.set,aQ G];simpa using n.m6
  .rw[aJ.WP n G,aJ.WQ n G];split
   .simp[vm,n.same]
   .exact n.same k
  .rw[aJ.WP n G];split
   .have:=n.oB x.a1.toNat;simp[vm];omega
   .exact n.oB k
  .rw[aJ.WQ n G]at K⊢;split
   .rename_i e;rw[aQ e,co,vm]at K;rw[l0];split
    .rename_i U;rw[aQ (by rw[vm];omega)]
    .rename_i U;have T:x.bT.toNat<=(p.h x.a1.toNat).length:=by omega
     have:hf (p.h x.a1.toNat) x.bT.toNat false=p.h x.a1.toNat:=by rw[hf,show x.bT.toNat-(p.h x.a1.toNat).length=0 by omega];simp
     rw[this];exact z.last _ m ac
   .rename_i e;rw[aM e]at K;exact z.last k m K
 .have:p.set x v=p:=by rw[aJ.set,aM G]
  rw[this];exact z
theorem aJ.Vw(n:Int)(x:ag):(aJ.new n:aJ Y).at x=none:=by
 have j:∀k,(aJ.new n:aJ Y).h k=[]:=λk=>QW
 simp[aJ.at,j]
def Fr(l:ab Y)(n j:Nat)(d:Y):(hf l n d).getD j d=l.getD j d:=by simp only[hf,km,List.getElem?_append,yX];grind
def Fs(l:ab Y)(k j:Nat)(r d:Y)(u:k<l.length):(l.set k r).getD j d=if j=k then r else l.getD j d:=Uh
def aJ.U5{p:aJ Y}(z:p.ok)(x:ag)(v:Y)(y:ag):(p.set x v).at y=if bq x p.aH=true/\y=x then some v else p.at y:=by
 by_cases G:bq x p.aH=true
 .have h:=l2 G;have n:=z.towf;by_cases F:bq y p.aH=true
  .have N:=l2 F;have E:(x.bT-1).toNat<(hf (p.h x.a1.toNat) x.bT.toNat false).length:=by rw[vm];omega
   have i:(x.bT-1).toNat<(hf (p.x x.a1.toNat) x.bT.toNat default).length:=by rw[vm];omega
   unfold aJ.at;rw[aJ.Vq,aJ.WQ n G,aJ.WP n G];by_cases e:y.a1=x.a1
   .rw[e];simp only[h7];rw[Fs _ _ _ _ _ E,Fs _ _ _ _ _ i,Fr,Fr];by_cases U:y.bT=x.bT
    .have:y=x:=by cases x;cases y;simp_all
     subst this;simp[G]
    .have J:¬(y.bT-1).toNat=(x.bT-1).toNat:=by omega
     have w:¬y=x:=λe=>U (by rw[e]);simp only[J,iq,w,pe]
   .have J:¬y.a1.toNat=x.a1.toNat:=by omega
    have w:¬y=x:=λi=>e (by rw[i]);simp[J,w]
  .have w:¬y=x:=λi=>F (by rw[i];exact G);have l:(p.set x v).at y=none:=by unfold aJ.at;rw[aJ.Vq];simp[F]
   have Q:p.at y=none:=by unfold aJ.at;simp[F]
   rw[l,Q,aM (λe=>w e.2)]
 .have:p.set x v=p:=by rw[aJ.set,aM G]
  rw[this,aM (λe=>G e.1)]
def aJ.Wv{p:aJ Y}{x:ag}{t:Y}(h:p.at x=some t):bq x p.aH=true:=by grind [aJ.at]
def aJ.WR{p:aJ Y}(z:p.ok){x:ag}{t:Y}(h:p.at x=some t):(x.bT-1).toNat<p.top x.a1:=by
 have G:=l2 (aJ.Wv h);unfold aJ.at at h;split at h
 .rename_i L;have N:=L.2;rw[km]at N;have y:(x.bT-1).toNat<(p.h x.a1.toNat).length:=by
   rcases o1 (x.bT-1).toNat (p.h x.a1.toNat).length with q|q
   .exact q
   .rw[vk q]at N;cases N
  rw[aJ.top,aQ ⟨G.1,G.2.1⟩,z.same];exact y
 .cases h
def aJ.X7{p:aJ Y}(z:p.ok){m:Nat}(h:p.top (k:Int)=m+1):(p.at ⟨(k:Int),(m:Int)+1⟩).isSome=true:=by
 unfold aJ.top at h;split at h
 .rename_i L;have N:=z.oB k;have Q:=z.same k;have T:=z.last k m (by rw[<-Q];simpa using h);have ao:=z.ao;simp only[i3]at h;have G:bq ⟨(k:Int),(m:Int)+1⟩ p.aH=true:=by simp only[bq,c5,dl];omega
  unfold aJ.at;grind
 .cases h
def aJ.mem_row{p:aJ Y}{m:Nat}{y:ag×Y}:y∈p.row k m↔∃j,j<m/\y.1=⟨(k:Int),(j:Int)+1⟩/\p.at y.1=some y.2:=by grind [aJ.row,Option.map_eq_some_iff]
def aJ.X8{p:aJ Y}{y:ag×Y}:y∈p.upto k↔∃i j:Nat,i<k/\j<p.top i/\y.1=⟨(i:Int),(j:Int)+1⟩/\p.at y.1=some y.2:=by unfold aJ.upto;simp only[w8,pC,aJ.mem_row];grind
theorem aJ.Ve{p:aJ Y}(z:p.ok){y:ag×Y}:y∈p.all↔p.at y.1=some y.2:=by
 unfold aJ.all;rw[aJ.X8];constructor
 .grind
 .intro h;have G:=l2 (aJ.Wv h);have T:=aJ.WR z h;have ao:=z.ao;obtain⟨⟨U,num⟩,t⟩:=y;simp only at G T h;have e:(⟨U,num⟩:ag)=⟨(U.toNat:Int),((num-1).toNat:Int)+1⟩:=by grind
  grind
def pf(x y:ag):Prop:=x.a1<y.a1\/(x.a1=y.a1/\x.bT<y.bT)
def aJ.X9(p:aJ Y)(k:Nat):∀m,(p.row k m).Pairwise λx y=>pf x.1 y.1
 |0=>by simp[aJ.row]
 |m+1=>by
  rw[aJ.Wu,List.pairwise_append];refine⟨aJ.X9 p k m,?_,?_⟩
  .grind
  .intro x J y F;obtain⟨j,c,U,_⟩:=aJ.mem_row.1 J;have:y.1=⟨(k:Int),(m:Int)+1⟩:=by
    cases h:p.at ⟨(k:Int),(m:Int)+1⟩with
    |none=>rw[h]at F;simp at F
    |some t=>rw[h]at F;simp at F;rw[F]
   rw[U,this];right;grind
def aJ.Ya(p:aJ Y):∀k,(p.upto k).Pairwise λx y=>pf x.1 y.1
 |0=>by simp[aJ.upto]
 |k+1=>by rw[aJ.V6,List.pairwise_append];refine⟨aJ.Ya p k,aJ.X9 p k _,?_⟩;intro x J y F;obtain⟨i,j,ao,_,U,_⟩:=aJ.X8.1 J;obtain⟨M,_,N,_⟩:=aJ.mem_row.1 F;rw[U,N];left;grind
theorem aJ.WS(p:aJ Y):p.all.Pairwise λx y=>pf x.1 y.1:=aJ.Ya p 7
def qA(a b:ag):Bool:=if a.bT=b.bT then decide (a.a1<b.a1)else decide (a.bT<b.bT)
end Go.Proofs.YteogojgnkjegmaaGreatDoor
