/-
 Part of the proof.
-/
import Derived.Test.YteogojgnkjegmaaGreatDoorAd
set_option linter.all false
set_option maxRecDepth 8000
set_option maxHeartbeats 8000000
namespace Go.ay
open Go
variable{b n:Nat}{aV:aT (Nat×Bool)}{C:bC->ab ax->Prop}{Y:Type}{qj:Array Field}{bc:Array Edge}
section
variable{P:bU}
def qt(P:bU)(n:Nat)(T:a7)(v:aj):Prop:=∀e w,(Instr.checkKey e n T v).run P w=.ok () w
def qt.int{T:a7}{k r8:IntKind}{x:Int}(h:P.underlying T=some (.int r8)):qt P (n+1) T (.int k x):=λe w=>by simp[Instr.checkKey,et h]
def wX(P:bU)(n:Nat)(N:ab aj):ab (Nat×Nat)->Prop
 |[]=>True
 |f::j=>(∃u,jW P f.1 f.2 N u/\qt P n f.1 u)/\wX P n N j
def E6{Y:Type}{g:Y->PUnit->Sem (ForInStep PUnit)}{w:aZ}:∀(l:ab Y),(∀x,x∈l->(g x PUnit.unit).run P w=.ok (ForInStep.yield PUnit.unit) w)->(forIn l PUnit.unit g:Sem PUnit).run P w=.ok PUnit.unit w
 |[],_=>T3
 |x::l,h=>by rw[List.forIn_cons];simp only[cK,h x (gS ..),dW];exact E6 l (λy F=>h y (hI _ F))
def wX.get{n:Nat}{N:ab aj}:∀{l:ab (Nat×Nat)},wX P n N l->∀f,f∈l->∃u,jW P f.1 f.2 N u/\qt P n f.1 u
 |[],_,_,h=>Ua
 |_::_,q,f,h=>by
  rcases dk.1 h with rfl|h
  .exact q.1
  .exact wX.get q.2 f h
def qt.struct{T:a7}{xs:ab aj}{l:ab (Nat×Nat)}(X:yv P T l=true)(h:wX P n xs l):qt P (n+1) T (.agg xs.toArray):=λe w=>by
 unfold yv at X;split at X
 .rename_i j R;simp only[c5,cX,ke]at X;obtain⟨⟨rfl,a⟩,z⟩:=X;unfold Instr.checkKey;rw[cK,et R];simp only[dW];rw[<-Array.forIn_toList];rw[cK,E6 j.toList (λf k=>?_)]
  .rfl
  obtain⟨u,t,q⟩:=h.get (f.type,f.offset) (eS.2 ⟨f,k,rfl⟩);have i:f.name≠ "_" :=by simpa using hq.1 a f k
  simp only[i,dg,qo,h7];simp only[cK,t.part w,dW,q e w,eP]
 .cases X
def yO:aj->Bool
 |.int ..|.string _|.bool _=>true
 |_=>false
def KC{v:aj}(h:yO v=true)(n:Nat):Instr.sameBits n v v=true:=by cases v<;>simp_all[yO,Instr.sameBits];case string s=>exact(MapKept.bytes_beq _ _).2 rfl
def afW{M:ab aj}(h:M.all yO=true)(n:Nat):Instr.sameBits (n+1) (.agg M.toArray) (.agg M.toArray)=true:=by
 simp only[Instr.sameBits,BEq.rfl,qu,hq];rintro⟨a,b⟩ q;have v:∀(l:ab aj) (p:aj×aj),p∈l.zip l->p.1=p.2/\p.1∈l:=by
  intro l;induction l with
  |nil=>intro p z;simp at z
  |cons y l d=>
   intro p z;rw[List.zip_cons_cons]at z;rcases dk.1 z with rfl|z
   .exact⟨rfl,gS ..⟩
   .exact⟨(d p z).1,hI _ (d p z).2⟩
 obtain⟨N,K⟩:=v M (a,b) (by simpa using q);simp only at N K;subst N;exact KC (hq.1 h a K) n
def ht.struct[DecidableEq Y]{Z:a7}{c:Y->ab aj}(hu:P.underlying Z=some (.struct qj))(aez:∀a b,c6 P 10000 Z (A (c a)) (A (c b)) (decide (a=b)))(dE:∀a,qt P 10000 Z (A (c a)))(cu:∀a,(c a).all yO=true):ht P Z (λa=>A (c a)) where
 check e a w:=dE a e w
 eq a b w:=by have:=aez a b;unfold c6 at this;exact this w
 yM:=⟨_,hu,.inr λa b=>by simp[Instr.sameNow]⟩
 bits a:=afW (cu a) 9999
end
section
variable{U:Type}[DecidableEq Y]
def wY(k:Y):∀(l:ab (Y×U)) (i:Nat),gK k l i=(gK k l 0).map λp=>(p.1+i,p.2)
 |[],i=>by simp[gK]
 |p::l,i=>by
  simp only[gK];split
  .simp
  .rw[wY k l (i+1),wY k l (0+1)];cases gK k l 0 with
   |none=>rfl
   |some q=>simp;omega
theorem m4(k:Y):a8 ([]:ab (Y×U)) k=none:=rfl
theorem kk(p:Y×U)(l:ab (Y×U))(k:Y):a8 (p::l) k=if k=p.1 then some p.2 else a8 l k:=by
 unfold a8;simp only[gK];split
 .rfl
 .rw[wY k l (0+1)];cases gK k l 0<;>simp
def qv(k:Y)(v:U):bx ([]:ab (Y×U)) k v=[(k,v)]:=rfl
theorem lB(p:Y×U)(l:ab (Y×U))(k:Y)(v:U):bx (p::l) k v=if k=p.1 then(k,v)::l else p::bx l k v:=by
 unfold bx;simp only[gK];by_cases h:k=p.1
 .simp[h]
 .rw[aM h,aM h,wY k l (0+1)];cases gK k l 0 with
  |none=>simp
  |some q=>simp
theorem hw(l:ab (Y×U))(k N:Y)(v:U):a8 (bx l k v) N=if N=k then some v else a8 l N:=by
 induction l with
 |nil=>rw[qv,kk]
 |cons p l d=>
  rw[lB];by_cases h:k=p.1
  .rw[aQ h,kk,kk];by_cases L:N=k
   .simp[L]
   .rw[aM L,aM L,aM (by rw[<-h];exact L)]
  .rw[aM h,kk,kk,d];by_cases L:N=k
   .subst L;simp[h]
   .simp[L]
def mD(l:ab (Y×U))(k:Y):Nat:=match gK k l 0 with|some (i,_)=>i|none=>l.length
def aeK(l:ab (Y×U))(k:Y)(v:U):(bx l k v)[mD l k]?=some (k,v):=by
 unfold bx mD;cases h:gK k l 0 with
 |none=>simp
 |some p=>
  have:=(wV h).2;simp only[Bc]at this;have y:=(cT.1 this).1;simp[y]
def KG(l:ab (Y×U))(k:Y)(N v:U):(bx l k N).set (mD l k) (k,v)=bx l k v:=by
 unfold bx mD;cases h:gK k l 0 with
 |none=>simp
 |some p=>simp
variable{P:bU}{b1:Y->aj}{aU:U->aj}{Z:a7}
variable{r:aT Nat}{W:aZ}{D:ab Nat}{n:dq}{am:bC}{an J:ab ax}{w:aZ}{l:ab (Y×U)}
variable{dst:Nat}{ba:a7}{bb:String}
def yP(w:aZ)(b:Nat)(l:ab (aj×aj))(i s:Nat):Prop:=
 ∃k v,w.heap[b]?=some (.map k v)/\k.toList.map (λe=>(e.key,e.val))=l/\(∀e,e∈k.toList->e.born<v)/\(k.toList.map (·.born)).Nodup/\(k.toList.map (·.born))[i]?=some s
@[irreducible] def wZ(b:Nat)(l:List (Value×Value))(i s:Nat):ax where
 gk:=[b]
 holds w:=yP w b l i s
 loc w iI h cG:=by obtain⟨es,sv,bH,rest⟩:=cG;exact⟨es,sv,Nl,rest⟩
 lt w h x b3:=by
  have:x=b:=SZ
  subst this;exact NO
def ahr(b l i s):(wZ b l i s).gk=[b]:=by unfold wZ;rfl
def Be(b l i s w):(wZ b l i s).holds w↔yP w b l i s:=by unfold wZ;rfl
def rq(b1:Y->aj)(aU:U->aj)(b:Nat)(l:ab (Y×U))(k:Y)(N:U)(s:Nat):ax:=wZ b ((bx l k N).map λp=>(b1 p.1,aU p.2)) (mD l k) s
omit[DecidableEq Y]in
def E7(b:Nat):(bz b1 aU b l).gk=[b]:=by unfold bz;rw[tE]
def E8(b:Nat)(k:Y)(N:U)(s:Nat):(rq b1 aU b l k N s).gk=[b]:=by unfold rq;rw[ahr]
def H.XW{e i:ax}{o:Obj}(h:H W D an w)(u:az an e i J)(a:e.gk=[b])(d:i.gk=[b])(y:i.holds (w.putObj b o)):H W D J (w.putObj b o):=by
 refine h.n7 u ⟨λx N=>?_,by simp[bn,d],λx N=>?_,λk E p=>?_,T3,rfl,rfl,rfl,cD _⟩
 .obtain rfl:x=_:=by simpa using N
  exact y
 .left;rw[a];simpa[bn,d]using N
 .exact uV (by simpa[a]using p)
def KI{t e:a7}(L:U)(m:ht P Z b1)(v:hv P t Z e=true)(a:∀w,(zeroValue e).run P w=.ok (aU L) w){k:Y}(h:rn w b (l.map λp=>(b1 p.1,aU p.2))):∃o s,(Instr.mapEntry t (.map (some b)) (b1 k)).run P w=.ok (.tuple #[aU ((a8 l k).getD L),I (s:Nat)]) (w.putObj b o)/\yP (w.putObj b o) b ((bx l k ((a8 l k).getD L)).map λp=>(b1 p.1,aU p.2)) (mD l k) s:=by
 obtain⟨G,g,X,T,N,K⟩:=h;have E:=(o4.1 X).1;have Ye:∀o,(setObj b o).run P w=.ok () (w.putObj b o):=λo=>by simp[setObj,Sem.run,X,World.putObj]
 have Yh:G.toList.length=l.length:=LF
 unfold Instr.mapEntry bx mD a8;simp only[cK,et (sw v),dW,tF X,m.check,ve m k w T];cases u:gK k l 0 with
 |none=>
  refine⟨.map (G.push {key:=b1 k,val:=aU L,born:=g}) (g+1),g,by simp[Ye,a,goInt],?_⟩;refine⟨_,_,sn E,by simp[T],?_,?_,?_⟩
  .intro x M;simp only[yN,fd,i2]at M;rcases M with M|rfl
   .have:=N x M;omega
   .simp
  .simp only[yN,jo,e7,lU];rw[hH];refine⟨K,T3,?_⟩;intro x M y F;simp only[i2]at F;subst F;obtain⟨z,a,rfl⟩:=eS.1 M;have:=N z a;omega
  .simp only[yN,jo,e7,lU];have Q:G.size=l.length:=by simpa using Yh
   rw[ji (by simp[Q])];simp[Q]
 |some q=>
  obtain⟨i,d⟩:=q;have ao:=(wV u).2;simp only[Bc]at ao;have Yf:=(cT.1 ao).1;have Yj:i<G.size:=by rw[<-og,Yh];exact Yf
  have Yi:∃x,G[i]?=some x:=⟨_,Bf Yj⟩
  obtain⟨sC,f⟩:=Yi;have R:(G.toList.map (λe=>(e.key,e.val)))[i]?=some (b1 k,aU d):=by rw[T];simp[ao]
  have Yg:G.toList[i]?=some sC:=by simpa using f
  have Yc:sC.key=b1 k:=by rw[h9,Yg]at R;simp at R;exact R.1
  have Yk:sC.val=aU d:=by rw[h9,Yg]at R;simp at R;exact R.2
  refine⟨.map (G.modify i λe=>{e with key:=b1 k}) g,sC.born,?_,?_⟩
  .simp[f,Yc,Instr.keyThatStays,m.bits k,Ye,goInt]
  .refine⟨_,_,sn E,?_,?_,?_,?_⟩
   .rw[qs];apply oi;intro j;have c:(G.toList.map (λe=>(e.key,e.val)))[j]?=(l.map λp=>(b1 p.1,aU p.2))[j]?:=by rw[T]
    simp only[h9,ro,l0,pc,Option.getD_some]at c⊢;by_cases e:i=j
    .subst e;simp[Yg,Yf,Yk]
    .simp only[e,iq];cases aW:G.toList[j]? with
     |none=>rw[aW]at c;simpa using c
     |some x=>rw[aW]at c;simpa using c
   .intro x M;rw[qs]at M;obtain⟨j,c⟩:=sx M;rw[ro]at c;cases aW:G.toList[j]? with
    |none=>rw[aW]at c;simp at c
    |some y=>
     rw[aW]at c;have F:=N y (jX aW);split at c<;>(simp only[E3,pc,eY]at c;subst c;exact F)
   .have:(G.modify i λe=>{e with key:=b1 k}).toList.map (·.born)=G.toList.map (·.born):=by
     rw[qs];apply oi;intro j;simp only[h9,ro];cases G.toList[j]? with
     |none=>rfl
     |some y=>split<;>rfl
    rw[this];exact K
   .rw[qs];simp only[h9,ro,Yg];simp
def ahk{t:a7}{s:Nat}{k:Y}{Q v:U}(h:yP w b ((bx l k Q).map λp=>(b1 p.1,aU p.2)) (mD l k) s):∃o,(Instr.entryStore t (.map (some b)) (I (s:Nat)) (aU v)).run P w=.ok () (w.putObj b o)/\rn (w.putObj b o) b ((bx l k v).map λp=>(b1 p.1,aU p.2)):=by
 obtain⟨u,a,X,T,N,K,R⟩:=h;have m:=(o4.1 X).1;have f:∀o,(setObj b o).run P w=.ok () (w.putObj b o):=λo=>by simp[setObj,Sem.run,X,World.putObj]
 have g:=aeK l k Q;have Yi:=(cT.1 g).1;have Yc:u.toList.length=(bx l k Q).length:=LF
 have Yg:mD l k<u.size:=by rw[<-og,Yc];exact Yi
 have Yf:∃x,u[mD l k]?=some x:=⟨_,Bf Yg⟩
 obtain⟨G,E⟩:=Yf;have d:u.toList[mD l k]?=some G:=by simpa using E
 have Yh:G.born=s:=by rw[h9,d]at R;simpa using R
 have Ye:u.findIdx? (λe=>(e.born:Int)==(s:Int))=some (mD l k):=by
  cases aW:u.findIdx? (λe=>(e.born:Int)==(s:Int))with
  |none=>
   have:=Array.findIdx?_eq_none_iff.1 aW G (wJ E);rw[Yh]at this;simp at this
  |some j=>
   obtain⟨c,z,_⟩:=Array.findIdx?_eq_some_iff_getElem.1 aW;have Yj:u[j].born=s:=by
    have:((u[j].born:Nat):Int)=(s:Int):=LX
    exact_mod_cast this
   have L:(u.toList.map (·.born))[j]?=some s:=by
    rw[h9];have:u.toList[j]?=some u[j]:=by simp[c]
    rw[this];simp[Yj]
   have q:=(List.getElem?_inj (i:=j) (j:=mD l k) (by simpa using c) K).1 (by rw[L,R]);rw[q]
 refine⟨.map (u.modify (mD l k) λe=>{e with val:=aU v}) a,?_,?_⟩
 .unfold Instr.entryStore;simp only[cK,tF X,dW];simp[asInt,asIntOf,Ye,f]
 .refine⟨_,_,sn m,?_,?_,?_⟩
  .rw[qs,<-KG l k Q v];apply oi;intro j;have c:(u.toList.map (λe=>(e.key,e.val)))[j]?=((bx l k Q).map λp=>(b1 p.1,aU p.2))[j]?:=by rw[T]
   simp only[h9,ro,l0]at c⊢;by_cases e:mD l k=j
   .subst e;rw[d,g]at c;simp at c;simp[d,Yi,c.1]
   .simp only[e,iq];cases aW:u.toList[j]? with
    |none=>rw[aW]at c;simpa using c
    |some x=>rw[aW]at c;simpa using c
  .intro x M;rw[qs]at M;obtain⟨j,c⟩:=sx M;rw[ro]at c;cases aW:u.toList[j]? with
   |none=>rw[aW]at c;simp at c
   |some y=>
    rw[aW]at c;have F:=N y (jX aW);split at c<;>(simp only[E3,pc,eY]at c;subst c;exact F)
  .have:(u.modify (mD l k) λe=>{e with val:=aU v}).toList.map (·.born)=u.toList.map (·.born):=by
    rw[qs];apply oi;intro j;simp only[h9,ro];cases u.toList[j]? with
    |none=>rfl
    |some y=>split<;>rfl
   rw[this];exact K
def av.Vo{t e:a7}{x y:bf}{k:Y}{l:ab (Y×U)}{J:Nat->ab ax}(L:U)(i:ht P Z b1)(v:hv P t Z e=true)(c:∀w,(zeroValue e).run P w=.ok (aU L) w)(N:aR am x=some (.map (some b)))(X:aR am y=some (b1 k))(F:∀s,az an (bz b1 aU b l) (rq b1 aU b l k ((a8 l k).getD L) s) (J s))(M:∀s:Nat,C ((dst,.tuple #[aU ((a8 l k).getD L),I (s:Int)])::am) (J s))(m:Nat.blt dst n.n=true:=by exact rfl):av P r W D n ⟨some dst,.mapEntry t x y,ba,bb,bc,aV⟩ am an C:=av.of λK Q T a w j p=>by
 have z:bz b1 aU b l∈an:=by obtain⟨l,r,rfl,_⟩:=(F 0).split;simp
 have h:=p.mem z;unfold bz at h;rw[pG]at h;obtain⟨o,s,a,y⟩:=KI (k:=k) L i v c h;refine jA rfl ?_ (T _ _ (M s) _ _ (j.put m _) (H.XW p (F s) (E7 b) (E8 b k _ s) (by unfold rq;rw[Be];exact y)));simp only[execOp,j.eval N,j.eval X,cK,a,dW,eP]
def av.V0{t:a7}{x y z:bf}{s:Nat}{k:Y}{T v:U}{l:ab (Y×U)}(N:aR am x=some (.map (some b)))(X:aR am y=some (I (s:Int)))(c:aR am z=some (aU v))(F:az an (rq b1 aU b l k T s) (bz b1 aU b (bx l k v)) J)(M:C am J):av P r W D n ⟨none,.entryStore t x y z,ba,bb,bc,aV⟩ am an C:=av.of λK Q u a w j p=>by
 have L:rq b1 aU b l k T s∈an:=by obtain⟨l,r,rfl,_⟩:=F.split;simp
 have h:=p.mem L;unfold rq at h;rw[Be]at h;obtain⟨o,a,y⟩:=ahk (P:=P) (t:=t) (v:=v) h;refine tt rfl ?_ (u _ _ M _ _ (j.Vi undef) (H.XW p F (E8 b k T s) (E7 b) (by unfold bz;rw[pG];exact y)));simp only[execOp,j.eval N,j.eval X,j.eval c,cK,a,dW,eP]
def aK.UD{l:ab (Y×U)}{t e:a7}{x y:bf}{k:Y}(L:U)(m:ht P Z b1)(j:hv P t Z e=true)(v:∀w,(zeroValue e).run P w=.ok (aU L) w)(N:aR am x=some (.map (some b)))(F:aR am y=some (b1 k))(K:bz b1 aU b l∈an):aK P n am an ⟨some dst,.lookup t x y false,ba,bb,bc,aV⟩ (aU ((a8 l k).getD L)):=by
 have h:=aK.look (P:=P) (n:=n) (am:=am) (an:=an) (dst:=dst) (ba:=ba) (bb:=bb) (bc:=bc) (aV:=aV) (l:=l) (k:=k) m j v N F K;cases G:a8 l k with
 |none=>rw[G]at h;exact h
 |some v=>rw[G]at h;exact h
def aK.aaR{l:ab (Y×U)}{t e:a7}{x y:bf}{s:Nat}{k:Y}{M:U}(m:ht P Z b1)(v:hv P t Z e=true)(N:aR am x=some (.map (some b)))(F:aR am y=some (b1 k))(K:rq b1 aU b l k M s∈an):aK P n am an ⟨some dst,.lookup t x y false,ba,bb,bc,aV⟩ (aU M):=aK.of λa w j p=>by
 have h:=p.get _ K;unfold rq at h;rw[Be]at h;obtain⟨i,a,X,T,_⟩:=h;have G:a8 (bx l k M) k=some M:=by rw[hw];simp
 unfold a8 at G;obtain⟨q,aW,h⟩:=qg.1 G;simp only[execOp,j.eval N,j.eval F];unfold Instr.lookup;simp only[cK,et (sw v),dW,tF X,eP,m.check,ve m k w T,aW,pc,h];simp
end
end Go.ay
namespace Go.ay
open Go
variable{M:Act->aZ->Prop}{Y:Array Bool}{U:Array b6}{N:ab Nat}{Z:Region.Mode}{q:Array Edge}
section
variable{P:bU}{r:aT Nat}
def yQ(Z:Region.Mode)(U:Array b6):Nat->Nat->Nat->Bool
 |0,_,_=>false
 |f+1,j,i=>match U[j]? with
  |some L=>L.after.any λe=>Region.binds Z e&&(e.on==i||yQ Z U f e.on i)
  |none=>false
def E9(Z:Region.Mode)(U:Array b6)(N:ab Nat)(i:Nat):Bool:=N.all λj=>yQ Z U 12 j i
def Fa{Y:Array Bool}(o:pB Z U Y){i:Nat}:∀(f:Nat) {j:Nat},(∀z,U[j]?=some z->∀e∈z.after,Region.binds Z e=true->Y.getD e.on false=true)->yQ Z U f j i=true->Y.getD i false=true
 |0,_,_,h=>Ua
 |f+1,j,y,h=>by
  unfold yQ at h;split at h
  .rename_i z p;obtain⟨e,L,d⟩:=Es.1 h;simp only[c5,iL,cX]at d;have t:=y z p e L d.1;rcases d.2 with g|g
   .rw[<-g];exact t
   .exact Fa o f (λw c l a v=>o e.on w c t l a v) g
  .cases h
def Any.aaS{S T:aZ->Prop}{i:Nat}{fR:b6}{v:aj}(ao:U[i]?=some fR)(Ye:uX U=true)(m:E9 Z U N i=true):∀(J:Nat) (Y:Array Bool) (a:Act) (w:aZ),(∀j eo,U[j]?=some eo->j≠i->Y.getD j true=false->(∀e∈eo.after,Region.binds Z e=true->e.on≠i)->fR.apart U eo=true)->i∈Region.ready Z U Y->pB Z U Y->oc P U S fR v a->S w->T w->Any P r Z U (r9 M) S T N J (Y.setIfInBounds i true) (a.put fR.dst v) w->Any P r Z U (r9 M) S T N (J+1) Y a w:=by
 have Yl:∀(j:Nat) (eo:b6),U[j]?=some eo->kf eo.op=true/\∀cs b,eo.op≠.select cs b:=λj eo l=>by have:=yq.1 Ye eo (wJ l);exact Tn
 intro J;induction J with
 |zero=>
  intro Y a w _ y _ d x eF H;refine⟨λh=>My,λj l=>?_⟩;by_cases Yf:j=i
  .subst Yf;exact d.kg ao x ⟨eF,λ_ _=>x,H⟩
  .have:=sa l Yf;rw[H.1]at this;cases this
 |succ J s=>
  intro Y a w Yn y Yg d x eF H;have Yj:=(q9.1 y).1;refine⟨λh=>My,λj l=>?_⟩;by_cases Yf:j=i
  .subst Yf;exact d.kg ao x ⟨eF,λ_ _=>x,H⟩
  .have f:=H.2 j (sa l Yf);obtain⟨Yo,eo,Yi,Yh⟩:=q9.1 l;have Yp:∀e∈eo.after,Region.binds Z e=true->e.on≠i:=λe c o Ym=>by
    have f:=Yh e c o;rw[Ym]at f;rcases o1 i Y.size with hd|hd
    .simp[hd]at Yj f;rw[Yj]at f;cases f
    .simp[yy hd]at f
   have Yt:N.contains j=false:=by
    cases z:N.contains j with
    |false=>rfl
    |true=>
     have g:j∈N:=LX
     have:=hq.1 m j g;have p:=Fa Yg 12 (λYu Yq=>by rw[Yi]at Yq;cases Yq;exact Yh) this;rcases o1 i Y.size with hd|hd
     .simp[hd]at Yj p;rw[Yj]at p;cases p
     .simp[yy hd]at p
   have t:=AF Yi (Yn j eo Yi Yf Yo Yp) (Yl i fR ao).2 (Yl j eo Yi).2 (Yl j eo Yi).1 d f;have Yr:∀k ok,U[k]?=some ok->k≠i->(Y.setIfInBounds j true).getD k true=false->
     (∀e∈ok.after,Region.binds Z e=true->e.on≠i)->fR.apart U ok=true:=λk ok L Ys Yj Yc=>by
    refine Yn k ok L Ys ?_ Yc
    by_cases Yk:j=k
    .subst Yk;exact Yo
    .rw[getD_set_ne true Yk]at Yj;exact Yj
   refine AG (λb f p=>⟨p.2.1,p.2.2.1,s (Y.setIfInBounds j true) b f Yr (sa y (o5 Yf)) (Yg.step l) p.1 (p.2.2.1 x Yt) p.2.1 ?_⟩) t;rw[Et _ _ Yf];exact p.2.2.2
end
section
variable{P:bU}{r:aT Nat}{W:aZ}{D:ab Nat}{n:dq}{Q:cU}{C:bC}{R:ab ax}
variable{F X:ab ax}{J:Nat}
variable{K:Nat}{E:Op}{G:a7}{T:String}{u:aT (Nat×Bool)}
def Fb(U:Array b6)(N:ab Nat)(Y:Array Bool)(i:Nat):Bool:=
 uX U&&E9 .any U N i&&Region.free .any U Y i&&(Region.ready .any U Y).contains i&&AH .any U Y
def af.Wr{v:aj}(i:Nat)(ao:U[i]?=some ⟨some K,E,G,T,q,u⟩)(f:aK P n C F ⟨some K,E,G,T,q,u⟩ v)(h:af P r W D n U M F X N true J (Y.setIfInBounds i true) ((K,v)::C) R)(g:Fb U N Y i=true:=by kernel_rfl)(d:hp C U u=some true:=by exact rfl)(x:kf E=true:=by exact rfl)(y:Nat.blt K n.n=true:=by exact rfl):af P r W D n U M F X N true (J+1) Y C R:=by have i:=f.get;unfold af at h⊢;intro a w j p z c;simp only[Fb,c5]at g;obtain⟨⟨⟨⟨f,t⟩,o⟩,L⟩,b⟩:=g;exact Any.aaS ao f t J Y a w (AJ ao o) Re (pB.of b) (.inl ⟨q5 j d,x,λg m=>i a g j m⟩) (c rfl) z (h _ _ (j.put y v) p z c)
end
end Go.ay
namespace Go.ay
open Go
variable{G:aT (Nat×Bool)}{D:ab Nat}{Z:ab ax}{M:String}{C:bC->ab ax->Prop}{b:Nat}{P:bU}{n:dq}{U:bC}{J q:Nat}
section
variable{F X:Type}
variable{b1:F->aj}{aU:X->aj}{T:a7}
variable{r:aT Nat}{W:aZ}{N:ab ax}{w:aZ}{l Y:ab (F×X)}{Q:cU}
variable{u:a7}{E:Array Edge}
def yR(w:aZ)(b q:Nat)(l Y:ab (aj×aj))(R:aT (aj×aj)):Prop:=
 ∃i v K seen x,w.heap[b]?=some (.map i v)/\i.toList.map (λe=>(e.key,e.val))=l/\(∀e,e∈i.toList->e.born<v)/\(i.toList.map (·.born)).Nodup/\
  w.heap[q]?=some (.mapIter (some b) K seen x)/\(∀e,e∈i.toList->e.born<K)/\K<=x/\K<=v/\(leftOf i seen).toList.map (λe=>(e.key,e.val))=Y/\
  ∀p,R=some p->x=v/\∃(e:MapEntry) (K:Array Nat),e∈i.toList/\seen=K.push e.born/\(e.key,e.val)=p
@[irreducible] def w0(b q:Nat)(l Y:List (Value×Value))(last:Option (Value×Value)):ax where
 gk:=[b,q]
 holds w:=yR w b q l Y last
 loc w iI h cG:=by obtain⟨es,sv,Fc,seen,pI,bH,bg,bY,cd,aW,rest⟩:=cG;exact⟨es,sv,Fc,seen,pI,Nl,bg,bY,cd,by rw[h q T3];exact aW,rest⟩
 lt w h x b3:=by
  obtain⟨es,sv,Fc,seen,pI,bH,bg,bY,cd,aW,rest⟩:=h;have:x=b\/x=q:=SZ
  rcases this with rfl|rfl
  .exact(Array.getElem?_eq_some_iff.1 bH).1
  .exact(Array.getElem?_eq_some_iff.1 aW).1
def agk(b q l Y R):(w0 b q l Y R).gk=[b,q]:=by unfold w0;rfl
def vh(b q l Y R w):(w0 b q l Y R).holds w↔yR w b q l Y R:=by unfold w0;rfl
def kN(b1:F->aj)(aU:X->aj)(b q:Nat)(l Y:ab (F×X))(R:aT (F×X)):ax:=w0 b q (l.map λp=>(b1 p.1,aU p.2)) (Y.map λp=>(b1 p.1,aU p.2)) (R.map λp=>(b1 p.1,aU p.2))
def vi(b q:Nat){R:aT (F×X)}:(kN b1 aU b q l Y R).gk=[b,q]:=by unfold kN;rw[agk]
def Fe(b:Nat):(bz b1 aU b l).gk=[b]:=by unfold bz;rw[tE]
def yR.ne{l Y:ab (aj×aj)}{g:aT (aj×aj)}(h:yR w b q l Y g):b≠q:=by obtain⟨s,v,d,seen,x,f,K,R,t,aW,i⟩:=h;rintro rfl;rw[f]at aW;cases aW
def H.Ws{f:aT (F×X)}(h:H W D (kN b1 aU b q l Y f::Z) w):H W D (bz b1 aU b l::Z) w:=by
 have R:=h.fQ _ (gS ..);unfold kN at R;rw[vh]at R;have a:(bn (bz b1 aU b l::Z)).Sublist (bn (kN b1 aU b q l Y f::Z)):=by rw[iJ,iJ,vi,Fe];exact List.Sublist.append (pJ _ (List.nil_sublist _)) (wy _)
 refine⟨λe L=>?_,h.nodup.sublist a,λx K=>h.own x (a.subset K),h.cQ,h.size,h.os,h.tape,h.output,h.oZ⟩;rcases dk.1 L with rfl|L
 .unfold bz;rw[pG];obtain⟨s,v,g,seen,x,f,K,q,t,aW,i⟩:=R;exact⟨s,v,f,K,q,t⟩
 .exact h.fQ e (hI _ L)
def Out.Ws{e:dI}{R:aT (F×X)}(h:Out W D n Q e U (bz b1 aU b l::Z)):Out W D n Q e U (kN b1 aU b q l Y R::Z):=Out.iN (λ_ i=>i.Ws) h
def av.XX{t e:a7}{x:bf}{N:Nat->ab ax}(y:hv P t T e=true)(f:aR U x=some (.map (some b)))(d:∀q,az Z (bz b1 aU b l) (kN b1 aU b q l l none) (N q))(s:∀q,C ((J,aw q 0)::U) (N q))(m:Nat.blt J n.n=true:=by exact rfl):av P r W D n ⟨some J,.range t x,u,M,E,G⟩ U Z C:=av.of λK Q Yh a w v c=>by
 have Yg:bz b1 aU b l∈Z:=by obtain⟨l,r,rfl,_⟩:=(d 0).split;simp
 have h:=c.mem Yg;unfold bz at h;rw[pG]at h;obtain⟨es,Ye,o,L,R,g⟩:=h;have Yc:=(o4.1 o).1;have Yf:=run_range_map (P:=P) w t T e b es Ye (sw y) o;refine jA (d:=w.alloc (.mapIter (some b) Ye #[] Ye)) rfl ?_ (Yh _ _ (s w.heap.size) _ _ (v.put m _) ?_)
 .simp only[execOp,v.eval f,cK,Yf,dW,eP]
 .refine c.n7 (d _) ⟨λx f=>?_,?_,λx f=>?_,λk z i=>MapKept.heap_alloc w _|>.2 k z,T3,rfl,rfl,rfl,cD _⟩
  .obtain rfl:x=_:=by simpa using f
   unfold kN;rw[vh];refine⟨es,Ye,Ye,#[],Ye,((MapKept.heap_alloc w _).2 b Yc).trans o,L,R,g,EP _ _,R,cD _,cD _,?_,λp j=>by cases j⟩;rw[<-L];congr 1;unfold leftOf;rw[yS,w1];intro x _;simp
  .simp only[bn,gn,ov,dT,vi,la,dk,jH,gx,qo,pK,mw];omega
  .simp only[bn,gn,ov,dT,vi,dk,jH,gx]at f;rcases f with rfl|rfl
   .left;rw[Fe];simp
   .exact .inr (cD _)
def aha{i:Array MapEntry}{seen:Array Nat}{e:MapEntry}(a:(i.toList.map (·.born)).Nodup){j:Nat}(c:(leftOf i seen).toList[j]?=some e):(leftOf i (seen.push e.born)).toList=(leftOf i seen).toList.eraseIdx j:=by
 have K:(leftOf i (seen.push e.born)).toList=(leftOf i seen).toList.filter (λx=>!(x.born==e.born)):=by unfold leftOf;rw[yS,yS,List.filter_filter];congr 1;funext x;simp only[Array.contains_push,Bool.not_or];rw[Bool.and_comm]
 rw[K];have v:((leftOf i seen).toList.map (·.born)).Nodup:=by unfold leftOf;rw[yS];exact a.sublist (List.Sublist.map _ Bg)
 generalize(leftOf i seen).toList=L at c v;clear K a;induction L generalizing j with
 |nil=>simp at c
 |cons x L d=>
  simp only[e7,la]at v;cases j with
  |zero=>
   simp only[qk,eY]at c;subst c;rw[vj,aM T3,List.eraseIdx_cons_zero,w1];intro y q;have:y.born≠x.born:=λR=>v.1 (by rw[<-R];exact eS.2 ⟨y,q,rfl⟩);simpa using this
  |succ j=>
   rw[sf]at c;have q:x.born≠e.born:=λR=>v.1 (by rw[R];exact eS.2 ⟨e,jX c,rfl⟩);rw[vj,aQ (by simpa using q),Kp,d c v.2]
def av.XY{x:bf}{Ye:aT (F×X)}(f:aR U x=some (aw q 0))(g:kN b1 aU b q l [] Ye∈Z)(y:C ((J,.tuple #[.bool false])::U) Z)(p:Nat.blt J n.n=true:=by exact rfl):av P r W D n ⟨some J,.next x false,u,M,E,G⟩ U Z C:=av.of λK Q Yh a w j v=>by
 have h:=v.mem g;unfold kN at h;rw[vh]at h;obtain⟨i,Yc,Yg,seen,k,d,R,t,o,aW,c,m,l1,s,_⟩:=h;simp only[lU,Ff]at s;rcases run_next_at (P:=P) w u q b Yg k seen i Yc aW d c m with⟨L,Yf⟩|⟨e,z,_⟩
 .refine jA rfl ?_ (Yh _ _ y _ _ (j.put p _) v);simp only[execOp,j.eval f,cK,Yf,dW,eP]
 .rw[s]at z;cases z
def av.XZ{x:bf}{Yg:aT (F×X)}{N:Nat->F×X->ab ax}(z:Y≠[])(f:aR U x=some (aw q 0))(g:∀j p,az Z (kN b1 aU b q l Y Yg) (kN b1 aU b q l (Y.eraseIdx j) (some p)) (N j p))(dQ:∀j p,Y[j]?=some p->C ((J,.tuple #[.bool true,b1 p.1,aU p.2])::U) (N j p))(i:Nat.blt J n.n=true:=by exact rfl):av P r W D n ⟨some J,.next x false,u,M,E,G⟩ U Z C:=av.of λK Q Yl a w c m=>by
 have Yq:∃p,p∈Y:=List.exists_mem_of_ne_nil _ z;have Yi:kN b1 aU b q l Y Yg∈Z:=by obtain⟨p,_⟩:=Yq;obtain⟨l,r,rfl,_⟩:=(g 0 p).split;simp
 have h:=m.mem Yi;unfold kN at h;rw[vh]at h;have Ye:=h.ne;obtain⟨es,Yf,Yk,seen,pI,d,R,t,L,aW,gX,kO,l1,kP,_⟩:=h;rcases run_next_at (P:=P) w u q b Yk pI seen es Yf aW d gX kO with⟨Yr,Yh⟩|⟨e,v,eX,Yo,Yh⟩
 .exfalso;have:leftOf es seen=#[]:=Array.eq_empty_of_size_eq_zero Yr;rw[this]at kP;simp at kP;exact z kP
 .obtain⟨j,dR⟩:=sx v;have oy:(Y.map λp=>(b1 p.1,aU p.2))[j]?=some (e.key,e.val):=by rw[<-kP,h9,dR];rfl
  rw[h9]at oy;obtain⟨p,y,Yn⟩:=qg.1 oy;simp only[ny]at Yn;have Yp:=Yh;rw[<-Yn.1,<-Yn.2]at Yp;have Yj:H W D Z eX:=by
   rcases Yo with rfl|rfl
   .exact m
   .exact m.drew
  have Ys:eX.heap[q]?=some (.mapIter (some b) Yk seen pI):=by rcases Yo with rfl|rfl<;>exact aW
  have Ym:eX.heap[b]?=some (.map es Yf):=by rcases Yo with rfl|rfl<;>exact d
  have Yc:=(o4.1 Ys).1;refine jA rfl ?_ (Yl _ _ (dQ j p y) _ _ (c.put i _) (Yj.n7 (eX:=eX.putObj q (.mapIter (some b) Yk (seen.push e.born) Yf)) (g j p) ?_))
  .simp only[execOp,c.eval f,cK,Yp,dW,eP];rfl
  .refine⟨λx f=>?_,?_,λx f=>?_,λk o s=>?_,T3,rfl,rfl,rfl,cD _⟩
   .obtain rfl:x=_:=by simpa using f
    unfold kN;rw[vh];refine⟨es,Yf,Yk,seen.push e.born,Yf,(uV Ye).trans Ym,R,t,L,sn Yc,gX,l1,l1,?_,λq K=>⟨rfl,e,seen,?_,rfl,?_⟩⟩;rotate_left
    .unfold leftOf at v;rw[yS]at v;exact(oz.1 v).1
    .simp only[pc,eY]at K;rw[<-K,Yn.1,Yn.2]
    rw[aha L dR,Bh,kP,<-Bh]
   .simp only[bn,gn,ov,dT,vi,la,dk,jH,gx,qo,pK,mw];exact Ye
   .left;simpa[bn,vi]using f
   .exact uV (by simp only[vi,dk,jH,gx,qw]at s;exact s.2)
def aK.Vo{x:bf}{p:F×X}(R:aR U x=some (aw q 0))(t:kN b1 aU b q l Y (some p)∈Z):aK P n U Z ⟨some J,.entry x,u,M,E,G⟩ (.tuple #[b1 p.1,aU p.2]):=aK.of λa w j v=>by have h:=v.get _ t;unfold kN at h;rw[vh]at h;obtain⟨i,Yc,Ye,seen,m,g,K,f,d,aW,o,y,s,c,k⟩:=h;obtain⟨rfl,e,Yf,L,rfl,z⟩:=k _ rfl;simp only[ny]at z;have v:=run_entry_at (P:=P) w q b Ye Yf i m e aW g L d;rw[z.1,z.2]at v;simp only[execOp,j.eval R,cK,v,dW,eP]
end
section
variable{r:aT Nat}{W:aZ}{Q:cU}
end
def Fg(P:bU)(s f off T:Nat):Bool:=match P.underlying s with
 |some (.struct j)=>match j[f]? with
  |some h=>h.offset==off&&h.type==T
  |none=>false
 |_=>false
def V.VG(ad:ca P){u:a7}{E:Array Edge}{s f off T:Nat}{x:bf}{cs c:ab aj}(R:aR U x=some (A cs))(k:Fg P s f off T=true)(K:bM ad.agg T=some q:=by exact rfl)(g:Nat.ble (off+q) cs.length=true:=by exact rfl)(d:eZ off q cs c:=by infer_instance):aK P n U Z ⟨some J,.field s x f,u,M,E,G⟩ (A c):=aK.of λa w j _=>by
 unfold Fg at k;split at k
 .rename_i v z;split at k
  .rename_i h p;simp only[c5,cX]at k;obtain⟨t,o⟩:=k;have L:jW P T off cs (A c):=jW.agg (ad.UT K) g d.eq;have ao:(Instr.field s (A cs) f).run P w=.ok (A c) w:=by unfold Instr.field;simp only[cK,et z,dW,p,asAgg,eP,t,o,L.part w]
   simp only[execOp,j.eval R,ao,cK,dW,eP]
  .cases k
 .cases k
end Go.ay
namespace Go.ay
open Go
variable{iM:ab aj}{C:bC->ab ax->Prop}{R:aj->ab ax->Prop}{T:aT (Nat×Bool)}{G:Nat}{X:Array Edge}
section
variable{P:bU}{r:aT Nat}{W:aZ}{D:ab Nat}{n:dq}{Y:bC}{J Z:ab ax}{M:Type}{f:M->ab aj}
variable{U:Nat}{F:a7}{N:String}
def V.X0(ad:ca P){t e:a7}{x:bf}{k:aT Addr}{E:Nat}(K:aR Y x=some (.slice k G E):=by exact rfl)(v:bM ad.fe t=some e:=by exact rfl):aK P n Y J ⟨some U,.call ⟨.builtin .cap,#[x],#[t]⟩,F,N,X,T⟩ (I (E:Int)):=aK.of λa w j _=>by
 have g:(Builtin.cap_ #[t] F #[.slice k G E]).run P w=.ok (I (E:Int)) w:=by simp[Builtin.cap_,et (gt (ad.Uu v)),goInt]
 simp only[execOp,resolve,invoke,builtin,sA,e7,lU,j.eval K,cK,eP,dW,g]
def w2{g E t Q:Nat}{l:ab M}{w:aZ}(h:(rows f (.slice (some ⟨g,0,none⟩) t Q) E G l).holds w):l.length=t/\∃K:Array aj,w.heap[g]?=some (.cells K E (0,0))/\t<=Q/\Q<=maxLen/\K.size=Q*G/\K.toList.take (t*G)=l.flatMap f:=by
 rw[fs,io]at h;rcases h.2 with⟨L,_⟩|⟨m,a,K,L,_,R,d,u,j,y⟩
 .cases L
 .simp only[rf,eY,wP]at L;obtain⟨⟨rfl,_⟩,rfl,rfl⟩:=L;exact⟨rfl,K,R,d,u,j,y⟩
def Bi{g E o:Nat}(h:o<E):partAt (some ⟨g,0,none⟩) E o G=some ⟨g,o*G,none⟩:=N8
def Fh{g E t i:Nat}{l:ab M}{w:aZ}{K:Array aj}(v:∀x,(f x).length=G)(R:w.heap[g]?=some (.cells K E (0,0)))(y:K.toList.take (t*G)=l.flatMap f)(ao:i<=l.length):∀(k:Nat) (u:aj),((l.drop i).flatMap f)[k]?=some u->w.cell? ((⟨g,i*G,none⟩:Addr).add k)=some u:=by
 intro k u d;rw[<-vg v l i ao,mY,<-y,lS]at d;split at d
 .have c:K[i*G+k]?=some u:=by simpa using d
  simp only[u2,World.cell?,R];simpa using c
 .cases d
def ajT(A B E:ab aj)(m:Nat)(h:A.length+B.length<=m):(A++(B++E)).take m=A++(B++E.take (m-(A.length+B.length))):=by rw[sj,k8 ac,sj,k8 ac,Nat.sub_sub]
def av.WN(ad:ca P){t cr E gu g cw R o b ow:Nat}{x y:bf}{u:aj}{d s:ab M}(b3:aR Y x=some (.slice (partAt (some ⟨g,0,none⟩) R o G) b ow))(fy:aR Y y=some u)(b7:cq P J f G cr u s)(dO:az J (rows f (.slice (some ⟨g,0,none⟩) cw R) E G d) (rows f (.slice (some ⟨g,0,none⟩) cw R) E G (d.take o++(s++d.drop (o+s.length)))) Z)(k:s.length<=b)(dy:o+b<=cw)(Yg:o<R)(c:∀x,(f x).length=G)(bg:jj f)(dQ:C ((U,I (s.length:Int))::Y) Z)(dM:Nat.blt U n.n=true:=by exact rfl)(cN:bM ad.fe t=some E:=by exact rfl)(j:bM ad.gV E=some G:=by exact rfl)(v:bM ad.lT E=some gu:=by exact rfl)(h:iK ad.iZ E=some iM:=by exact rfl):av P r W D n ⟨some U,.call ⟨.builtin .copy,#[x,y],#[t,cr]⟩,F,N,X,T⟩ Y J C:=av.of λK Q cA a w m i=>by
 obtain⟨sz,z,ao,Ye,l,Yc,Yf⟩:=ad.info j v h;have L:rows f (.slice (some ⟨g,0,none⟩) cw R) E G d∈J:=O8
 obtain⟨K,Q,bF,h,p,j,y⟩:=w2 (i.mem L);have q:Src P G cr u s.length (s.flatMap f) w:=b7 w i.hold;have z:Q.toList.length=R*G:=by simpa using j
 obtain⟨K,v⟩:∃K,K=s.flatMap f:=⟨_,rfl⟩
 have a:K.length=s.length*G:=by rw[v,kI c]
 have j:∀u∈K,u.oneCell'=true:=LZ
 have x:o*G+s.length*G<=R*G:=Nq
 have L:=tq P g (o*G) E K 0 Q w bF (by simp only[ho,a];omega) j;simp only[ho]at L;rw[<-v]at q;have j:(Builtin.copy_ #[t,cr] F #[.slice (some ⟨g,o*G,none⟩) b ow,u]).run P w=
   .ok (I (s.length:Int)) (w.setRow g (Q.toList.take (o*G)++K++Q.toList.drop (o*G+K.length)).toArray):=by
  have t:=q.cells
  rw[<-l]at t L⊢
  simp[Builtin.copy_,et (gt (ad.Uu cN)),sizeOf,typeInfo,ao,q.len,ri k,t,L,goInt]
 have u:(d.take o++(s++d.drop (o+s.length))).length=cw:=Ui
 have L:(d.take o++(s++d.drop (o+s.length))).flatMap f=(d.take o).flatMap f++(K++(d.drop (o+s.length)).flatMap f):=by rw[m1,m1,v]
 have k:Q.toList.take (o*G)=(d.take o).flatMap f:=by rw[<-sy c d o ac,<-y,tG,ri (kh _ ac)]
 have x:o*G+s.length*G<=cw*G:=Nq
 have q:cw*G<=R*G:=kh _ h;have q:(Q.toList.drop (o*G+K.length)).take (cw*G-(o*G+K.length))=(d.drop (o+s.length)).flatMap f:=by rw[<-vg c d (o+s.length) ac,<-y,List.drop_take,a,fr]
 have t:H W D Z (w.setRow g (Q.toList.take (o*G)++K++Q.toList.drop (o*G+K.length)).toArray):=by
  refine H.Wp i dO u.symm ⟨kI c _,.inr ⟨g,R,_,rfl,cO _,q4 w g Q _ E _ bF,by rw[u];omega,p,?_,?_⟩⟩
  .simp only[o6,b2,fp,k9,z];omega
  .have b:(Q.toList.take (o*G)).length=o*G:=by simp only[fp,z];omega
   rw[cn,u,ajT _ _ _ _ (by rw[b,a];omega),b,L,<-k,<-q]
 rw[Bi Yg]at b3;refine jA (v:=I (s.length:Int)) rfl ?_ (cA _ _ dQ _ _ (m.put dM _) t);simp only[execOp,resolve,invoke,builtin,sA,e7,lU,m.eval b3,m.eval fy,cK,eP,dW,j]
def av.aaT(ad:ca P){t E d gu g o i yT h Yw s:Nat}{x y:bf}{l:ab M}(b3:aR Y x=some (.slice (partAt (some ⟨g,0,none⟩) o (i+1) d) yT Yw))(fy:aR Y y=some (.slice (partAt (some ⟨g,0,none⟩) o i d) h s))(dO:az J (rows f (.slice (some ⟨g,0,none⟩) G o) E d l) (rows f (.slice (some ⟨g,0,none⟩) (G+1) o) E d (l.take (i+1)++l.drop i)) Z)(Yr:yT=G-i)(Ym:h=G+1-i)(ao:i<G)(cM:G+1<=o)(k:∀x,(f x).length=d)(bg:jj f)(dQ:C ((U,I ((G-i:Nat):Int))::Y) Z)(dM:Nat.blt U n.n=true:=by exact rfl)(cN:bM ad.fe t=some E:=by exact rfl)(Yc:bM ad.gV E=some d:=by exact rfl)(Yk:bM ad.lT E=some gu:=by exact rfl)(Yo:iK ad.iZ E=some iM:=by exact rfl):av P r W D n ⟨some U,.call ⟨.builtin .copy,#[x,y],#[t,t]⟩,F,N,X,T⟩ Y J C:=av.of λK Q cA a w c2 cy=>by
 obtain⟨sz,z,Yu,Yj,Ye,Yf,Yp⟩:=ad.info Yc Yk Yo;have Yl:rows f (.slice (some ⟨g,0,none⟩) G o) E d l∈J:=O8
 obtain⟨Yq,L,bF,Yn,Yg,Yi,c⟩:=w2 (cy.mem Yl);have Yh:L.toList.length=o*d:=by simpa using Yi
 obtain⟨R,v⟩:∃R,R=(l.drop i).flatMap f:=⟨_,rfl⟩
 have b:R.length=(G-i)*d:=by rw[v,kI k,k9,Yq]
 have Yt:∀u∈R,u.oneCell'=true:=LZ
 have m:(i+1)*d+(G-i)*d=(G+1)*d:=by rw[<-fr];congr 1;omega
 have Yv:(G+1)*d<=o*d:=kh _ cM;have j:=tq P g ((i+1)*d) E R 0 L w bF (by simp only[ho,b];omega) Yt;simp only[ho]at j;have Ys:=u3 (P:=P) w d (G-i) ⟨g,i*d,none⟩ h s R b (by rw[v];exact Fh k bF c ac);have c1:(Builtin.copy_ #[t,t] F #[.slice (some ⟨g,(i+1)*d,none⟩) yT Yw,.slice (some ⟨g,i*d,none⟩) h s]).run P w=
   .ok (I ((G-i:Nat):Int)) (w.setRow g (L.toList.take ((i+1)*d)++R++L.toList.drop ((i+1)*d+R.length)).toArray):=by
  have Yx:Nat.min h yT=G-i:=by subst Yr Ym;exact Nat.min_eq_right ac
  rw[<-Ye]at Ys j⊢
  simp[Builtin.copy_,Builtin.lenOf,et (gt (ad.Uu cN)),sizeOf,typeInfo,Yu,Yx,Ys,j,goInt]
 have K:(l.take (i+1)++l.drop i).length=G+1:=Ui
 have u:(l.take (i+1)++l.drop i).flatMap f=(l.take (i+1)).flatMap f++R:=by rw[m1,v]
 have h:L.toList.take ((i+1)*d)=(l.take (i+1)).flatMap f:=by rw[<-sy k l (i+1) ac,<-c,tG,ri (kh _ ac)]
 have s:((l.take (i+1)).flatMap f).length=(i+1)*d:=by rw[kI k];congr 1;simp;omega
 have t:H W D Z (w.setRow g (L.toList.take ((i+1)*d)++R++L.toList.drop ((i+1)*d+R.length)).toArray):=by
  refine H.Wp cy dO K.symm ⟨kI k _,.inr ⟨g,o,_,rfl,cO _,q4 w g L _ E _ bF,by rw[K];omega,Yg,?_,?_⟩⟩
  .simp only[o6,b2,fp,k9,Yh];omega
  .rw[K,u,h,<-m,<-b,<-s,<-b2];exact ql
 rw[Bi ac]at b3 fy;refine jA (v:=I ((G-i:Nat):Int)) rfl ?_ (cA _ _ dQ _ _ (c2.put dM _) t);exact On
def av.aaU(ad:ca P){t pL E gu g Yc q i k:Nat}{Fi:IntKind}{x y:bf}{l:ab M}(L:M)(b3:aR Y x=some (.slice (some ⟨g,0,none⟩) i q))(fy:aR Y y=some (I (k:Int)))(dO:rows f (.slice (some ⟨g,0,none⟩) Yc q) E G l∈J)(ao:i<=Yc)(cc:q<i+k)(Yq:i+k<=1000000)(o:∀x,(f x).length=G)(dQ:∀jI s,i+k<=s->C ((U,.slice (some ⟨jI,0,none⟩) (i+k) s)::Y) (rows f (.slice (some ⟨jI,0,none⟩) (i+k) s) E G (l.take i++List.replicate k L)::J))(dM:Nat.blt U n.n=true:=by exact rfl)(cN:bM ad.fe t=some E:=by exact rfl)(YD:mu ad.ints pL=some Fi:=by exact rfl)(Yg:bM ad.gV E=some G:=by exact rfl)(Yp:bM ad.lT E=some gu:=by exact rfl)(Yu:iK ad.iZ E=some iM:=by exact rfl)(YF:iM=f L:=by exact rfl)(Yw:Nat.ble gu 1000000=true:=by exact rfl)(Yi:Nat.blt 0 G=true:=by exact rfl):av P r W D n ⟨some U,.call ⟨.builtin .append,#[x,y],#[t,pL]⟩,F,N,X,T⟩ Y J C:=av.of λK Q cA a w c2 cy=>by
 obtain⟨R,z,YE,Ym,Yh,Yk,Ys⟩:=ad.info Yg Yp Yu;have YG:=o0 Yw;have p:0<G:=by simpa using Yi
 obtain⟨Yx,Yf,bF,Yr,Yl,Yn,Yo⟩:=w2 (cy.mem dO);obtain⟨m,h⟩:∃m,m=(l.take i).flatMap f:=⟨_,rfl⟩
 have YA:m.length=i*G:=by rw[h,kI o];congr 1;simp;omega
 have Yy:=u3 (P:=P) w.drew G i ⟨g,0,none⟩ i q m YA (by
  intro j u hu;have eE:=Fh (i:=0) o bF Yo (cO _) j u (by
   rw[AK];rw[h,<-sy o l i ac,lS]at hu;split at hu
   .exact hu
   .cases hu)
  simpa using eE)
 have c:z.cells.size=G:=by rw[<-og,Ys,YF,o]
 have YC:(i+k)*gu<=1000000*1000000:=Bj Yq YG;have YI:k*gu<=(i+k)*gu:=kh _ ac;subst Yh;subst Yk;have c1:=Lib.run_append_grow_zeros (P:=P) w t pL F E R z .i64 Fi (gt (ad.Uu cN)) (ad.UJ YD) YE Ym (some ⟨g,0,none⟩) i q m Yy k ac p cc ac ac (yH ac ac);have Yt:=yE w (i+k) q E;have YH:grownCap w (i+k) q E<=maxLen:=yF w (i+k) q E Rn;have Yv:(Builtin.zeroCells z.cells k).toList=(List.replicate k L).flatMap f:=by
  apply oi;intro j;by_cases dR:j<k*R.size
  .rw[E4 (o L) k j dR];have Ye:j%R.size<z.cells.size:=by rw[c];exact Nat.mod_lt _ p
   have Yz:z.cells[j%R.size]?=(f L)[j%R.size]?:=by rw[<-YF,<-Ys];simp
   rw[<-Yz];simp[Builtin.zeroCells,dR,c,getElem!_pos z.cells (j%R.size) Ye]
  .rw[vk (by simp[Builtin.zeroCells,c];omega),vk];have v:=E5 (o L) k;omega
 have d:(l.take i++List.replicate k L).length=i+k:=Ui
 have Yj:H W D (rows f (.slice (some ⟨w.heap.size,0,none⟩) (i+k) (grownCap w (i+k) q E)) E R.size (l.take i++List.replicate k L)::J)
   (w.drew.alloc (.cells (m.toArray++Builtin.zeroCells z.cells k++Builtin.zeroCells z.cells (grownCap w (i+k) q E-(i+k))) E)):=by
  refine H.new (yn:=[rows f (.slice (some ⟨w.heap.size,0,none⟩) (i+k) (grownCap w (i+k) q E)) E R.size (l.take i++List.replicate k L)]) cy ⟨λe c9=>?_,?_,λb bH=>?_,λr8 YB _=>tm w.drew _ YB,T3,rfl,rfl,rfl,wN _⟩
  .obtain rfl:e=_:=by simpa only[i2]using c9
   rw[fs,io,d]
   have v:((l.take i++List.replicate k L).flatMap f).length=(i+k)*R.size:=by rw[kI o,d]
   refine⟨v,.inr ⟨w.heap.size,_,_,rfl,cO _,yo w.drew _,Yt,YH,?_,?_⟩⟩
   .simp only[yG,o6,AX,c,YA,<-fr]
    congr 1
    omega
   .simp only[AY,Yv]
    rw[show m.toArray.toList++(List.replicate k L).flatMap f=(l.take i++List.replicate k L).flatMap f by rw[m1,h],<-v]
    exact ql
  exact LH
  .rw[iJ,fs,h6]at bH
   right
   have:b=w.heap.size:=by simpa[bn,Value.ownBlock]using bH
   omega
 refine jA (v:=.slice (some ⟨w.heap.size,0,none⟩) (i+k) (grownCap w (i+k) q E)) rfl ?_ (cA _ _ (dQ _ _ Yt) _ _ (c2.put dM _) Yj);exact On
def V.aaV(ad:ca P){j:eR}{fn:Func}{w3 Bk E R g o d i h c:Nat}{x y:bf}{m:Array a7}{l s:ab M}(k:P.funcs[j]?=some fn)(Yg:(fn.name== "runtime.NumGoroutine")=false)(q:fn.body.isNone=true)(Yf:Extern.findNext fn=none)(Ye:Extern.find fn=some (Extern.SlicesOverlaps.overlaps #[w3,w3] #[Bk]))(K:aR Y x=some (.slice (some ⟨o,0,none⟩) 1 1))(Q:aR Y y=some (.slice (partAt (some ⟨g,0,none⟩) G i R) h c))(t:rows f (.slice (some ⟨o,0,none⟩) 1 1) E R s∈J)(u:rows f (.slice (some ⟨g,0,none⟩) d G) E R l∈J)(L:o≠g)(ao:i<G)(v:bM ad.fe w3=some E:=by exact rfl)(z:bM ad.gV E=some R:=by exact rfl)(G:Nat.blt 0 R=true:=by exact rfl):aK P n Y J ⟨some U,.call ⟨.value (.func j),#[x,y],m⟩,F,N,X,T⟩ (.bool false):=aK.of λa w j p=>by
 have Yc:0<R:=Oo
 obtain⟨_,l,b,G,_,m,_⟩:=w2 (p.get _ t);obtain⟨_,G,m,t,_,Yh,_⟩:=w2 (p.get _ u);rw[Bi ao]at Q;have t:=run_callFunc_extern (P:=P) k Yg q Yf Ye #[.slice (some ⟨o,0,none⟩) 1 1,.slice (some ⟨g,i*R,none⟩) h c] w;rw[Lib.run_overlaps_apart w w3 Bk E (gt (ad.Uu v)) R (λw=>pD (ad.Vc z) w) ⟨o,0,none⟩ ⟨g,i*R,none⟩ 1 1 h c L E E l.size G.size (by simp[World.shape?,b]) (by simp[World.shape?,m])
  (by rw[Yh];exact Nat.ne_of_gt (Nat.mul_pos ac Yc)) (by simp[World.frozen?,b]) (by simp[World.frozen?,b])]at t
 have L:(#[x,y].map a.eval)=#[.slice (some ⟨o,0,none⟩) 1 1,.slice (some ⟨g,i*R,none⟩) h c]:=by simp[j.eval K,j.eval Q]
 simp only[execOp,resolve,cK,L];simp[Act.eval,Deferred.ofValue,invoke,t]
def afn{w:aZ}{g K R Q b s E m k:Nat}{l i:ab M}{j:M->ab aj}(h:H W D (rows f (.slice (some ⟨g,0,none⟩) R Q) E G l::rows j (.slice (some ⟨K,0,none⟩) b s) m k i::J) w):K≠g:=by have:=h.nodup;rw[iJ,iJ,fs,fs,h6,h6]at this;simp only[Value.ownBlock,w4,vl,la,dk,qw]at this;exactλe=>this.1.1 e.symm
def ar.known{f:eR}{args:ab aj}{p:Prop}(z:∀w,H w (bn J) J w->p)(h:p->ar P f args J R):ar P f args J R:=
 ar.of λw o=>(h (z w o.start)).get w o
end
end Go.ay
namespace Go.ay
open Go
section
variable{P:bU}{r:aT Nat}{W:aZ}{D:ab Nat}{n:dq}{Q:cU}{Y N:bC}{J U M:ab ax}{C:Array b6}{Z:ab b6}{w:aZ}
def Fj(P:bU)(T:eR)(m:ab aj){K f:Type}(Z:K->ab ax)(t:f->ab aj)(step:Nat->f->K->K->Prop)(stop:Nat->K->Prop)(u L:ab ax)(q:K):Prop:=
 ∀(N l:Nat) (F:Type) (ch:F->K) (G X:Nat->F->Prop) (S:F->ax) (x:F),(∀k c,G k c->k<=N)->ch x=q->G 0 x->
  (∀k i c s,G k c->step k i (ch c) s->kJ P l (t i) (S c::Z s) (λv U=>∃g t,v=.bool t/\(t=true->G (k+1) g)/\(t=false->X (k+1) g)/\U=S g::Z (ch g)))->
  ar P T (.func (.yield l) #[] #[]::m) (S x::u) (λ_ U=>∃g k,((G k g/\stop k (ch g))\/X k g)/\U=S g::(Z (ch g)++L))
def ah.aaW{f lx R:Type}{g:bf}{aY:ab Tmp}{assign body:Code}{jE:eR}{m:ab aj}{Z:f->ab ax}{t:lx->ab aj}{step:Nat->lx->f->f->Prop}{stop:Nat->f->Prop}{o L j:ab ax}{ff:f}(ib:Fj P jE m Z t step stop o L ff)(ch:R->f)(S:R->ab ax)(G:Nat->R->Prop)(X:dI->Nat->R->Prop)(u:R)(N:Nat)(sD:∀k c,G k c->k<=N)(Yk:ch u=ff)(eE:G 0 u)(round:∀k i c T l rec,G k c->step k i (ch c) T->qm rec->∀(eI:aZ) (jk:ab Nat) (K:cU),(∀e d,ga e=true->vd G X (k+1) e d->∀a w,H eI jk (jC l rec::(S d++Z (ch d))) w->K e a w)->ah P (some l) eI jk ⟨n.n,[]⟩ (Exit.then (rl P l body K) sl) assign (qn aY (t i) Y) (ce l rec .normal::(S c++Z T)))(done:∀k c b,G k c->stop k (ch c)->Out W D ⟨n.n,b::n.ds⟩ Q .normal Y (gl b::(S c++(Z (ch c)++(L++j)))))(left:∀k c b e,ga e=true->fc e=false->X e k c->Out W D ⟨n.n,b::n.ds⟩ Q e Y (gl b::(S c++(Z (ch c)++(L++j)))))(bF:aR Y g=some (.func (.func jE) #[] m.toArray):=by exact rfl)(Ye:kF P jE=true:=by kernel_rfl)(Yg:ak J (S u++o) j:=by(repeat(first|exact ak.nil|exact al.here|apply ak.cons|apply al.there)))(dJ:∀x,aY.length=(t x).length:=by intro _;rfl)(cu:(aY.all λp=>Nat.blt p n.n)=true:=by exact rfl):ah P none W D n Q (.rangeFunc g aY.toArray assign body) Y J:=by
 have Yh:∀(l:ab ax) (s:ax),ak (s::(l++j)) (s::l) j:=by
  intro l s;refine ak.cons al.here ?_;induction l with
  |nil=>exact ak.nil
  |cons x l lu=>exact ak.cons al.here lu
 have Yj:∀{e:dI} {k:Nat} {c:R},ga e=true->vd G X k e c->(fc e=true/\G k c)\/(fc e=false/\X e k c):=by
  intro e k c q h;cases e with
  |normal=>exact .inl ⟨rfl,h⟩
  |ret=>exact .inr ⟨rfl,h⟩
  |exit id=>exact .inr ⟨rfl,h⟩
  |_=>cases q
 have Yc:ah P none W D n Q (.rangeFunc g aY.toArray assign body) Y (aL (S u)::(o++j)):=by
  refine ah.VZ (lx:={p:Nat×lx×R×f//G p.1 p.2.2.1/\step p.1 p.2.1 (ch p.2.2.1) p.2.2.2}) (x:=o) (k:=j) (λi=>t i.1.2.1) (aL (S u)) (λi=>aL (aL (S i.1.2.2.1)::Z i.1.2.2.2)) (λi e cE=>∃d,cE=aL (aL (S d)::Z (ch d))/\vd G X (i.1.1+1) e d)
   (λe y=>∃d k,y=aL (S d)::(Z (ch d)++L)/\((e=.normal/\G k d/\stop k (ch d))\/(fc e=false/\X e k d))) bF Ye (Yh _ _) (λi=>dJ _) cu ?_ ?_ ?_
  .rintro⟨⟨k,i,c,T⟩,dv,b7⟩ l rec c1 eI K cA;have E:∀(c:R) (b:f) (e:ax),aO [e,aL (aL (S c)::Z b)] (e::(S c++Z b)):=λc b e=>
    aO.cons e (aO.aL.trans (aO.append (an:=[aL (S c)]) aO.aL (aO.refl (Z b))))
   have:=round k i c T l rec dv b7 c1 eI (bn [ce l rec .normal,aL (aL (S c)::Z T)]) K (λe d q eF a w cy=>cA e _ q ⟨d,rfl,eF⟩ a w (cy.eqv (E d (ch d) _).symm));exact ah.eqv (E c T _) this
  .intro l rec fy;have dE:=ib N l (dI×R) (λp=>ch p.2) (λk p=>p.1=.normal/\G k p.2) (λk p=>ga p.1=true/\fc p.1=false/\X p.1 k p.2) (λp=>aL [ce l rec p.1,aL (S p.2)]) (.normal,u) (λk p h=>sD k p.2 h.2) Yk ⟨rfl,eE⟩ ?_
   .refine dE.eqv (an:=ce l rec .normal::aL (S u)::o) ?_ ?_
    .exact(aO.append (an:=[aL [ce l rec .normal,aL (S u)]]) aO.aL (aO.refl o)).symm
    .rintro v U⟨⟨e,d⟩,k,bH,rfl⟩;refine⟨ce l rec e::aL (S d)::(Z (ch d)++L),⟨e,_,?_,⟨d,k,rfl,?_⟩,rfl⟩,aO.append (an:=[aL [ce l rec e,aL (S d)]]) aO.aL (aO.refl _)⟩
     .rcases bH with⟨⟨h,_⟩,_⟩|⟨h,_⟩
      exact LL
      .exact h
     .rcases bH with⟨⟨h,z⟩,cd⟩|⟨_,cd,gX⟩
      .exact .inl ⟨h,z,cd⟩
      .exact .inr ⟨cd,gX⟩
   .rintro k i⟨e,c⟩ T⟨c9,dv⟩ b7;simp only at c9 dv b7;subst c9;refine(fy ⟨(k,i,c,T),dv,b7⟩).eqv (an:=aL [ce l rec .normal,aL (S c)]::Z T) ?_ ?_
    .have F:=aO.append (an:=[aL [ce l rec .normal,aL (S c)]]) aO.aL (aO.refl (Z T));refine F.trans ?_;exact aO.cons _ (aO.aL (be:=aL (S c)::Z T)).symm
    .rintro v U⟨e,cE,rfl,q,⟨d,rfl,eF⟩,rfl⟩;refine⟨aL [ce l rec e,aL (S d)]::Z (ch d),⟨(e,d),fc e,rfl,λh=>?_,λh=>?_,rfl⟩,?_⟩
     .rcases Yj q eF with⟨F,z⟩|⟨F,z⟩
      .refine⟨?_,z⟩;cases e<;>first|rfl|cases F
      .rw[F]at h;cases h
     .rcases Yj q eF with⟨F,z⟩|⟨F,z⟩
      .rw[F]at h;cases h
      .exact⟨q,F,z⟩
     .exact Kx
  .rintro b e y q⟨d,k,rfl,bH⟩;have conv:∀{e:dI},Out W D ⟨n.n,b::n.ds⟩ Q e Y (gl b::(S d++(Z (ch d)++(L++j))))->Out W D ⟨n.n,b::n.ds⟩ Q e Y (gl b::(aL (S d)::(Z (ch d)++L)++j)):=λh=>
    Out.eqv (aO.cons _ Lu) h
   rcases bH with⟨rfl,dv,Yf⟩|⟨Yi,iP⟩
   .exact conv (done k d b dv Yf)
   .exact conv (left k d b e q Yi iP)
 refine ah.eqv (be:=aL (S u)::(o++j)) ?_ Yc;refine(aO.UA Yg.perm).trans ?_;rw[cn];exact(aO.append (an:=[aL (S u)]) aO.aL (aO.refl (o++j))).symm
end
end Go.ay
