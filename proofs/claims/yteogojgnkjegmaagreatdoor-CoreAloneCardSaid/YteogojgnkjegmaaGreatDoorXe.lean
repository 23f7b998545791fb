/-
 Part of the proof.
-/
import Derived.Test.YteogojgnkjegmaaGreatDoorXd
set_option linter.all false
set_option maxRecDepth 8000
set_option maxHeartbeats 8000000
namespace Go.ay
open Go
variable{b n:Nat}{aW:aQ (Nat×Bool)}{C:bv->ab ax->Prop}{Y:Type}{oY:Array Field}{a7:Array Edge}
section
variable{P:bF}
def o9(P:bF)(n:Nat)(T:aZ)(v:aj):Prop:=∀e w,(Instr.checkKey e n T v).run P w=.ok () w
def o9.int{T:aZ}{k qB:IntKind}{x:Int}(h:P.underlying T=some (.int qB)):o9 P (n+1) T (.int k x):=λe w=>by simp[Instr.checkKey,dN h]
def u1(P:bF)(n:Nat)(Z:ab aj):ab (Nat×Nat)->Prop
 |[]=>True
 |f::z=>(∃u,i5 P f.1 f.2 Z u/\o9 P n f.1 u)/\u1 P n Z z
def CO{Y:Type}{g:Y->PUnit->Sem (ForInStep PUnit)}{w:aY}:∀(l:ab Y),(∀x,x∈l->(g x PUnit.unit).run P w=.ok (ForInStep.yield PUnit.unit) w)->(forIn l PUnit.unit g:Sem PUnit).run P w=.ok PUnit.unit w
 |[],_=>XE
 |x::l,h=>by rw[List.forIn_cons];simp only[ct,h x (iT ..),dv];exact CO l (λy G=>h y (hn _ G))
def u1.get{n:Nat}{Z:ab aj}:∀{l:ab (Nat×Nat)},u1 P n Z l->∀f,f∈l->∃u,i5 P f.1 f.2 Z u/\o9 P n f.1 u
 |[],_,_,h=>XT
 |_::_,T,f,h=>by
  rcases dq.1 h with rfl|h
  .exact T.1
  .exact u1.get T.2 f h
def o9.struct{T:aZ}{xs:ab aj}{l:ab (Nat×Nat)}(R:wy P T l=true)(h:u1 P n xs l):o9 P (n+1) T (.agg xs.toArray):=λe w=>by
 unfold wy at R;split at R
 .rename_i z X;simp only[cZ,cH,j3]at R;obtain⟨⟨rfl,a⟩,v⟩:=R;unfold Instr.checkKey;rw[ct,dN X];simp only[dv];rw[<-Array.forIn_toList];rw[ct,CO z.toList (λf s=>?_)]
  .rfl
  obtain⟨u,o,E⟩:=h.get (f.type,f.offset) (fh.2 ⟨f,s,rfl⟩);have i:f.name≠ "_" :=by simpa using gX.1 a f s
  simp only[i,cV,o3,hA];simp only[ct,o.part w,dv,E e w,ed]
 .cases R
def wR:aj->Bool
 |.int ..|.string _|.bool _=>true
 |_=>false
def aaV{v:aj}(h:wR v=true)(n:Nat):Instr.sameBits n v v=true:=by cases v<;>simp_all[wR,Instr.sameBits];case string s=>exact(MapKept.bytes_beq _ _).2 rfl
def HW{N:ab aj}(h:N.all wR=true)(n:Nat):Instr.sameBits (n+1) (.agg N.toArray) (.agg N.toArray)=true:=by
 simp only[Instr.sameBits,BEq.rfl,pa,gX];rintro⟨a,b⟩ R;have c:∀(l:ab aj) (p:aj×aj),p∈l.zip l->p.1=p.2/\p.1∈l:=by
  intro l;induction l with
  |nil=>intro p v;simp at v
  |cons y l u=>
   intro p v;rw[List.zip_cons_cons]at v;rcases dq.1 v with rfl|v
   .exact⟨rfl,iT ..⟩
   .exact⟨(u p v).1,hn _ (u p v).2⟩
 obtain⟨Z,M⟩:=c N (a,b) (by simpa using R);simp only at Z M;subst Z;exact aaV (gX.1 h a M) n
def gO.struct[DecidableEq Y]{J:aZ}{c:Y->ab aj}(hu:P.underlying J=some (.struct oY))(af3:∀a b,cS P 10000 J (A (c a)) (A (c b)) (decide (a=b)))(eJ:∀a,o9 P 10000 J (A (c a)))(ei:∀a,(c a).all wR=true):gO P J (λa=>A (c a)) where
 check e a w:=eJ a e w
 eq a b w:=by have:=af3 a b;unfold cS at this;exact this w
 wP:=⟨_,hu,.inr λa b=>by simp[Instr.sameNow]⟩
 bits a:=HW (ei a) 9999
end
section
variable{F:Type}[DecidableEq Y]
def u2(k:Y):∀(l:ab (Y×F)) (i:Nat),ga k l i=(ga k l 0).map λp=>(p.1+i,p.2)
 |[],i=>by simp[ga]
 |p::l,i=>by
  simp only[ga];split
  .simp
  .rw[u2 k l (i+1),u2 k l (0+1)];cases ga k l 0 with
   |none=>rfl
   |some q=>simp;omega
theorem mi(k:Y):br ([]:ab (Y×F)) k=none:=rfl
theorem jp(p:Y×F)(l:ab (Y×F))(k:Y):br (p::l) k=if k=p.1 then some p.2 else br l k:=by
 unfold br;simp only[ga];split
 .rfl
 .rw[u2 k l (0+1)];cases ga k l 0<;>simp
theorem oe(k:Y)(v:F):bw ([]:ab (Y×F)) k v=[(k,v)]:=rfl
theorem ka(p:Y×F)(l:ab (Y×F))(k:Y)(v:F):bw (p::l) k v=if k=p.1 then(k,v)::l else p::bw l k v:=by
 unfold bw;simp only[ga];by_cases h:k=p.1
 .simp[h]
 .rw[aN h,aN h,u2 k l (0+1)];cases ga k l 0 with
  |none=>simp
  |some q=>simp
theorem kM(l:ab (Y×F))(k y:Y)(v:F):br (bw l k v) y=if y=k then some v else br l y:=by
 induction l with
 |nil=>rw[oe,jp]
 |cons p l u=>
  rw[ka];by_cases h:k=p.1
  .rw[aT h,jp,jp];by_cases a:y=k
   .simp[a]
   .rw[aN a,aN a,aN (by rw[<-h];exact a)]
  .rw[aN h,jp,jp,u];by_cases a:y=k
   .subst a;simp[h]
   .simp[a]
def ll(l:ab (Y×F))(k:Y):Nat:=match ga k l 0 with|some (i,_)=>i|none=>l.length
def afL(l:ab (Y×F))(k:Y)(v:F):(bw l k v)[ll l k]?=some (k,v):=by
 unfold bw ll;cases h:ga k l 0 with
 |none=>simp
 |some p=>
  have:=(uY h).2;simp only[y2]at this;have m:=(cI.1 this).1;simp[m]
def aag(l:ab (Y×F))(k:Y)(a v:F):(bw l k a).set (ll l k) (k,v)=bw l k v:=by
 unfold bw ll;cases h:ga k l 0 with
 |none=>simp
 |some p=>simp
variable{P:bF}{bN:Y->aj}{aR:F->aj}{J:aZ}
variable{r:aQ Nat}{W:aY}{D:ab Nat}{n:c7}{am:bv}{an U:ab ax}{w:aY}{l:ab (Y×F)}
variable{dst:Nat}{a1:aZ}{a6:String}
def wS(w:aY)(b:Nat)(l:ab (aj×aj))(i s:Nat):Prop:=
 ∃k R,w.heap[b]?=some (.map k R)/\k.toList.map (λe=>(e.key,e.val))=l/\(∀e,e∈k.toList->e.born<R)/\(k.toList.map (·.born)).Nodup/\(k.toList.map (·.born))[i]?=some s
@[irreducible] def u3(b:Nat)(l:List (Value×Value))(i s:Nat):ax where
 fB:=[b]
 holds w:=wS w b l i s
 loc w h9 h cB:=by obtain⟨es,qX,bY,rest⟩:=cB;exact⟨es,qX,I1,rest⟩
 lt w h x cr:=by
  have:x=b:=X8
  subst this;exact PT
def abB(b l i s):(u3 b l i s).fB=[b]:=by unfold u3;rfl
def y4(b l i s w):(u3 b l i s).holds w↔wS w b l i s:=by unfold u3;rfl
def pZ(bN:Y->aj)(aR:F->aj)(b:Nat)(l:ab (Y×F))(k:Y)(v:F)(s:Nat):ax:=u3 b ((bw l k v).map λp=>(bN p.1,aR p.2)) (ll l k) s
omit[DecidableEq Y]in
def CP(b:Nat):(bn bN aR b l).fB=[b]:=by unfold bn;rw[rZ]
def CQ(b:Nat)(k:Y)(v:F)(s:Nat):(pZ bN aR b l k v s).fB=[b]:=by unfold pZ;rw[abB]
def H.U3{e c:ax}{o:Obj}(h:H W D an w)(u:az an e c U)(i:e.fB=[b])(G:c.fB=[b])(N:c.holds (w.putObj b o)):H W D U (w.putObj b o):=by
 refine h.mN u ⟨λx Z=>?_,by simp[bg,G],λx Z=>?_,λk T v=>?_,XE,rfl,rfl,rfl,cl _⟩
 .obtain rfl:x=_:=by simpa using Z
  exact N
 .left;rw[i];simpa[bg,G]using Z
 .exact s3 (by simpa[i]using v)
def abo{t e:aZ}(f:F)(a:gO P J bN)(v:g1 P t J e=true)(m:∀w,(zeroValue e).run P w=.ok (aR f) w){k:Y}(h:pX w b (l.map λp=>(bN p.1,aR p.2))):∃o s,(Instr.mapEntry t (.map (some b)) (bN k)).run P w=.ok (.tuple #[aR ((br l k).getD f),I (s:Nat)]) (w.putObj b o)/\wS (w.putObj b o) b ((bw l k ((br l k).getD f)).map λp=>(bN p.1,aR p.2)) (ll l k) s:=by
 obtain⟨u,L,R,E,Z,M⟩:=h;have X:=(ny.1 R).1;have Ye:∀o,(setObj b o).run P w=.ok () (w.putObj b o):=λo=>by simp[setObj,Sem.run,R,World.putObj]
 have Yh:u.toList.length=l.length:=Z7
 unfold Instr.mapEntry bw ll br;simp only[ct,dN (qY v),dv,r0 R,a.check,tl a k w E];cases K:ga k l 0 with
 |none=>
  refine⟨.map (u.push {key:=bN k,val:=aR f,born:=L}) (L+1),L,by simp[Ye,m,goInt],?_⟩;refine⟨_,_,qR X,by simp[E],?_,?_,?_⟩
  .intro x N;simp only[wQ,eN,iz]at N;rcases N with N|rfl
   .have:=Z x N;omega
   .simp
  .simp only[wQ,iA,eK,kE];rw[gV];refine⟨M,XE,?_⟩;intro x N y G;simp only[iz]at G;subst G;obtain⟨z,m,rfl⟩:=fh.1 N;have:=Z z m;omega
  .simp only[wQ,iA,eK,kE];have Q:u.size=l.length:=by simpa using Yh
   rw[iu (by simp[Q])];simp[Q]
 |some q=>
  obtain⟨i,d⟩:=q;have ao:=(uY K).2;simp only[y2]at ao;have Yf:=(cI.1 ao).1;have Yi:i<u.size:=by rw[<-mV,Yh];exact Yf
  have Yj:∃x,u[i]?=some x:=⟨_,y5 Yi⟩
  obtain⟨tp,T⟩:=Yj;have g:(u.toList.map (λe=>(e.key,e.val)))[i]?=some (bN k,aR d):=by rw[E];simp[ao]
  have Yg:u.toList[i]?=some tp:=ZS
  have Yc:tp.key=bN k:=by rw[ho,Yg]at g;simp at g;exact g.1
  have Yk:tp.val=aR d:=by rw[ho,Yg]at g;simp at g;exact g.2
  refine⟨.map (u.modify i λe=>{e with key:=bN k}) L,tp.born,?_,?_⟩
  .simp[T,Yc,Instr.keyThatStays,a.bits k,Ye,goInt]
  .refine⟨_,_,qR X,?_,?_,?_,?_⟩
   .rw[o8];apply mX;intro j;have c:(u.toList.map (λe=>(e.key,e.val)))[j]?=(l.map λp=>(bN p.1,aR p.2))[j]?:=by rw[E]
    simp only[ho,pY,kq,nI,Option.getD_some]at c⊢;by_cases e:i=j
    .subst e;simp[Yg,Yf,Yk]
    .simp only[e,ii];cases bb:u.toList[j]? with
     |none=>rw[bb]at c;simpa using c
     |some x=>rw[bb]at c;simpa using c
   .intro x N;rw[o8]at N;obtain⟨j,c⟩:=qZ N;rw[pY]at c;cases bb:u.toList[j]? with
    |none=>rw[bb]at c;simp at c
    |some y=>
     rw[bb]at c;have G:=Z y (j5 bb);split at c<;>(simp only[CL,nI,er]at c;subst c;exact G)
   .have:(u.modify i λe=>{e with key:=bN k}).toList.map (·.born)=u.toList.map (·.born):=by
     rw[o8];apply mX;intro j;simp only[ho,pY];cases u.toList[j]? with
     |none=>rfl
     |some y=>split<;>rfl
    rw[this];exact M
   .rw[o8];simp only[ho,pY,Yg];simp
def aao{t:aZ}{s:Nat}{k:Y}{T v:F}(h:wS w b ((bw l k T).map λp=>(bN p.1,aR p.2)) (ll l k) s):∃o,(Instr.entryStore t (.map (some b)) (I (s:Nat)) (aR v)).run P w=.ok () (w.putObj b o)/\pX (w.putObj b o) b ((bw l k v).map λp=>(bN p.1,aR p.2)):=by
 obtain⟨K,u,R,E,Z,M,g⟩:=h;have m:=(ny.1 R).1;have d:∀o,(setObj b o).run P w=.ok () (w.putObj b o):=λo=>by simp[setObj,Sem.run,R,World.putObj]
 have Q:=afL l k T;have Yh:=(cI.1 Q).1;have Yc:K.toList.length=(bw l k T).length:=Z7
 have Yf:ll l k<K.size:=by rw[<-mV,Yc];exact Yh
 have Yg:∃x,K[ll l k]?=some x:=⟨_,y5 Yf⟩
 obtain⟨L,X⟩:=Yg;have z:K.toList[ll l k]?=some L:=by simpa using X
 have Yi:L.born=s:=by rw[ho,z]at g;simpa using g
 have Ye:K.findIdx? (λe=>(e.born:Int)==(s:Int))=some (ll l k):=by
  cases bb:K.findIdx? (λe=>(e.born:Int)==(s:Int))with
  |none=>
   have:=Array.findIdx?_eq_none_iff.1 bb L (wB X);rw[Yi]at this;simp at this
  |some j=>
   obtain⟨c,a,_⟩:=Array.findIdx?_eq_some_iff_getElem.1 bb;have Yj:K[j].born=s:=by
    have:((K[j].born:Nat):Int)=(s:Int):=by simpa using a
    exact_mod_cast this
   have f:(K.toList.map (·.born))[j]?=some s:=by
    rw[ho];have:K.toList[j]?=some K[j]:=by simp[c]
    rw[this];simp[Yj]
   have q:=(List.getElem?_inj (i:=j) (j:=ll l k) (by simpa using c) M).1 (by rw[f,g]);rw[q]
 refine⟨.map (K.modify (ll l k) λe=>{e with val:=aR v}) u,?_,?_⟩
 .unfold Instr.entryStore;simp only[ct,r0 R,dv];simp[asInt,asIntOf,Ye,d]
 .refine⟨_,_,qR m,?_,?_,?_⟩
  .rw[o8,<-aag l k T v];apply mX;intro j;have c:(K.toList.map (λe=>(e.key,e.val)))[j]?=((bw l k T).map λp=>(bN p.1,aR p.2))[j]?:=by rw[E]
   simp only[ho,pY,kq]at c⊢;by_cases e:ll l k=j
   .subst e;rw[z,Q]at c;simp at c;simp[z,Yh,c.1]
   .simp only[e,ii];cases bb:K.toList[j]? with
    |none=>rw[bb]at c;simpa using c
    |some x=>rw[bb]at c;simpa using c
  .intro x N;rw[o8]at N;obtain⟨j,c⟩:=qZ N;rw[pY]at c;cases bb:K.toList[j]? with
   |none=>rw[bb]at c;simp at c
   |some y=>
    rw[bb]at c;have G:=Z y (j5 bb);split at c<;>(simp only[CL,nI,er]at c;subst c;exact G)
  .have:(K.modify (ll l k) λe=>{e with val:=aR v}).toList.map (·.born)=K.toList.map (·.born):=by
    rw[o8];apply mX;intro j;simp only[ho,pY];cases K.toList[j]? with
    |none=>rfl
    |some y=>split<;>rfl
   rw[this];exact M
def aw.SI{t e:aZ}{x y:bd}{k:Y}{l:ab (Y×F)}{U:Nat->ab ax}(M:F)(p:gO P J bN)(j:g1 P t J e=true)(c:∀w,(zeroValue e).run P w=.ok (aR M) w)(Z:aO am x=some (.map (some b)))(G:aO am y=some (bN k))(R:∀s,az an (bn bN aR b l) (pZ bN aR b l k ((br l k).getD M) s) (U s))(X:∀s:Nat,C ((dst,.tuple #[aR ((br l k).getD M),I (s:Int)])::am) (U s))(i:Nat.blt dst n.n=true:=by exact rfl):aw P r W D n ⟨some dst,.mapEntry t x y,a1,a6,a7,aW⟩ am an C:=aw.of λK Q u a w L f=>by
 have m:bn bN aR b l∈an:=by obtain⟨l,r,rfl,_⟩:=(R 0).split;simp
 have h:=f.mem m;unfold bn at h;rw[oc]at h;obtain⟨o,s,a,N⟩:=abo (k:=k) M p j c h;refine iK rfl ?_ (u _ _ (X s) _ _ (L.put i _) (H.U3 f (R s) (CP b) (CQ b k _ s) (by unfold pZ;rw[y4];exact N)));simp only[execOp,L.eval Z,L.eval G,ct,a,dv,ed]
def aw.Tf{t:aZ}{x y z:bd}{s:Nat}{k:Y}{p v:F}{l:ab (Y×F)}(Z:aO am x=some (.map (some b)))(G:aO am y=some (I (s:Int)))(c:aO am z=some (aR v))(R:az an (pZ bN aR b l k p s) (bn bN aR b (bw l k v)) U)(X:C am U):aw P r W D n ⟨none,.entryStore t x y z,a1,a6,a7,aW⟩ am an C:=aw.of λK Q M a w L f=>by
 have m:pZ bN aR b l k p s∈an:=by obtain⟨l,r,rfl,_⟩:=R.split;simp
 have h:=f.mem m;unfold pZ at h;rw[y4]at h;obtain⟨o,a,N⟩:=aao (P:=P) (t:=t) (v:=v) h;refine rM rfl ?_ (M _ _ X _ _ (L.SB undef) (H.U3 f R (CQ b k p s) (CP b) (by unfold bn;rw[oc];exact N)));simp only[execOp,L.eval Z,L.eval G,L.eval c,ct,a,dv,ed]
def aK.RW{l:ab (Y×F)}{t e:aZ}{x y:bd}{k:Y}(N:F)(a:gO P J bN)(j:g1 P t J e=true)(c:∀w,(zeroValue e).run P w=.ok (aR N) w)(Z:aO am x=some (.map (some b)))(G:aO am y=some (bN k))(K:bn bN aR b l∈an):aK P n am an ⟨some dst,.lookup t x y false,a1,a6,a7,aW⟩ (aR ((br l k).getD N)):=by
 have h:=aK.look (P:=P) (n:=n) (am:=am) (an:=an) (dst:=dst) (a1:=a1) (a6:=a6) (a7:=a7) (aW:=aW) (l:=l) (k:=k) a j c Z G K;cases q:br l k with
 |none=>rw[q]at h;exact h
 |some v=>rw[q]at h;exact h
def aK.WB{l:ab (Y×F)}{t e:aZ}{x y:bd}{s:Nat}{k:Y}{v:F}(p:gO P J bN)(j:g1 P t J e=true)(Z:aO am x=some (.map (some b)))(G:aO am y=some (bN k))(K:pZ bN aR b l k v s∈an):aK P n am an ⟨some dst,.lookup t x y false,a1,a6,a7,aW⟩ (aR v):=aK.of λa w L f=>by
 have h:=f.get _ K;unfold pZ at h;rw[y4]at h;obtain⟨i,X,R,E,_⟩:=h;have o:br (bw l k v) k=some v:=by rw[kM];simp
 unfold br at o;obtain⟨q,bb,s⟩:=oW.1 o;simp only[execOp,L.eval Z,L.eval G];unfold Instr.lookup;simp only[ct,dN (qY j),dv,r0 R,ed,p.check,tl p k w E,bb,nI,s];simp
end
end Go.ay
namespace Go.ay
open Go
variable{M:Act->aY->Prop}{Y:Array Bool}{F:Array bS}{Z:ab Nat}{J:Region.Mode}{T:Array Edge}
section
variable{P:bF}{r:aQ Nat}
def wT(J:Region.Mode)(F:Array bS):Nat->Nat->Nat->Bool
 |0,_,_=>false
 |f+1,j,i=>match F[j]? with
  |some o=>o.after.any λe=>Region.binds J e&&(e.on==i||wT J F f e.on i)
  |none=>false
def CR(J:Region.Mode)(F:Array bS)(Z:ab Nat)(i:Nat):Bool:=Z.all λj=>wT J F 12 j i
def CS{Y:Array Bool}(d:n7 J F Y){i:Nat}:∀(f:Nat) {j:Nat},(∀v,F[j]?=some v->∀e∈v.after,Region.binds J e=true->Y.getD e.on false=true)->wT J F f j i=true->Y.getD i false=true
 |0,_,_,h=>XT
 |f+1,j,p,h=>by
  unfold wT at h;split at h
  .rename_i v z;obtain⟨e,g,L⟩:=Ca.1 h;simp only[cZ,ib,cH]at L;have o:=p v z e g L.1;rcases L.2 with t|t
   .rw[<-t];exact o
   .exact CS d f (λa m c w y=>d e.on a m o c w y) t
  .cases h
def Any.WC{S T:aY->Prop}{i:Nat}{fo:bS}{v:aj}(ao:F[i]?=some fo)(Ye:s5 F=true)(y:CR J F Z i=true):∀(U:Nat) (Y:Array Bool) (a:Act) (w:aY),(∀j eW,F[j]?=some eW->j≠i->Y.getD j true=false->(∀e∈eW.after,Region.binds J e=true->e.on≠i)->fo.apart F eW=true)->i∈Region.ready J F Y->n7 J F Y->mS P F S fo v a->S w->T w->Any P r J F (qC M) S T Z U (Y.setIfInBounds i true) (a.put fo.dst v) w->Any P r J F (qC M) S T Z (U+1) Y a w:=by
 have Ym:∀(j:Nat) (eW:bS),F[j]?=some eW->jl eW.op=true/\∀cs b,eW.op≠.select cs b:=λj eW l=>by have:=wt.1 Ye eW (wB l);exact LW
 intro U;induction U with
 |zero=>
  intro Y a w _ p _ t x dW H;refine⟨λh=>(by rw[h]at p;cases p),λj l=>?_⟩;by_cases Yf:j=i
  .subst Yf;exact t.jm ao x ⟨dW,λ_ _=>x,H⟩
  .have:=qE l Yf;rw[H.1]at this;cases this
 |succ U s=>
  intro Y a w Yn p Yg t x dW H;have Yi:=(pM.1 p).1;refine⟨λh=>(by rw[h]at p;cases p),λj l=>?_⟩;by_cases Yf:j=i
  .subst Yf;exact t.jm ao x ⟨dW,λ_ _=>x,H⟩
  .have o:=H.2 j (qE l Yf);obtain⟨Yo,eW,Yj,Yh⟩:=pM.1 l;have Yp:∀e∈eW.after,Region.binds J e=true->e.on≠i:=λe c g Yq=>by
    have o:=Yh e c g;rw[Yq]at o;rcases n4 i Y.size with gY|gY
    .simp[gY]at Yi o;rw[Yi]at o;cases o
    .simp[wC gY]at o
   have Yt:Z.contains j=false:=by
    cases z:Z.contains j with
    |false=>rfl
    |true=>
     have d:j∈Z:=ZG
     have:=gX.1 y j d;have m:=CS Yg 12 (λYu Yk=>by rw[Yj]at Yk;cases Yk;exact Yh) this;rcases n4 i Y.size with gY|gY
     .simp[gY]at Yi m;rw[Yi]at m;cases m
     .simp[wC gY]at m
   have L:=yv Yj (Yn j eW Yj Yf Yo Yp) (Ym i fo ao).2 (Ym j eW Yj).2 (Ym j eW Yj).1 t o;have Yr:∀k ok,F[k]?=some ok->k≠i->(Y.setIfInBounds j true).getD k true=false->
     (∀e∈ok.after,Region.binds J e=true->e.on≠i)->fo.apart F ok=true:=λk ok f Ys Yi Yc=>by
    refine Yn k ok f Ys ?_ Yc
    by_cases Yl:j=k
    .subst Yl;exact Yo
    .rw[getD_set_ne true Yl]at Yi;exact Yi
   refine yw (λw k m=>⟨m.2.1,m.2.2.1,s (Y.setIfInBounds j true) w k Yr (qE p (nz Yf)) (Yg.step l) m.1 (m.2.2.1 x Yt) m.2.1 ?_⟩) L;rw[Cb _ _ Yf];exact m.2.2.2
end
section
variable{P:bF}{r:aQ Nat}{W:aY}{D:ab Nat}{n:c7}{Q:cE}{G:bv}{E:ab ax}
variable{C K:ab ax}{U:Nat}
variable{N:Nat}{X:Op}{q:aZ}{R:String}{u:aQ (Nat×Bool)}
def CT(F:Array bS)(Z:ab Nat)(Y:Array Bool)(i:Nat):Bool:=
 s5 F&&CR .any F Z i&&Region.free .any F Y i&&(Region.ready .any F Y).contains i&&yx .any F Y
def af.TH{v:aj}(i:Nat)(ao:F[i]?=some ⟨some N,X,q,R,T,u⟩)(o:aK P n G C ⟨some N,X,q,R,T,u⟩ v)(h:af P r W D n F M C K Z true U (Y.setIfInBounds i true) ((N,v)::G) E)(L:CT F Z Y i=true:=by kernel_rfl)(d:gK G F u=some true:=by exact rfl)(y:jl X=true:=by exact rfl)(b:Nat.blt N n.n=true:=by exact rfl):af P r W D n F M C K Z true (U+1) Y G E:=by have i:=o.get;unfold af at h⊢;intro a w g f c p;simp only[CT,cZ]at L;obtain⟨⟨⟨⟨o,t⟩,z⟩,j⟩,m⟩:=L;exact Any.WC ao o t U Y a w (yA ao z) (by simpa using j) (n7.of m) (.inl ⟨pI g d,y,λs l=>i a s g l⟩) (p rfl) c (h _ _ (g.put b v) f c p)
end
end Go.ay
namespace Go.ay
open Go
variable{X:aQ (Nat×Bool)}{D:ab Nat}{J:ab ax}{Z:String}{C:bv->ab ax->Prop}{b:Nat}{P:bF}{n:c7}{F:bv}{L:aQ (aj×aj)}{U q:Nat}
section
variable{M G:Type}
variable{bN:M->aj}{aR:G->aj}{T:aZ}
variable{r:aQ Nat}{W:aY}{N:ab ax}{w:aY}{l Y:ab (M×G)}{Q:cE}
variable{R:aZ}{u:Array Edge}
def wU(w:aY)(b q:Nat)(l Y:ab (aj×aj))(o:aQ (aj×aj)):Prop:=
 ∃i E K seen v,w.heap[b]?=some (.map i E)/\i.toList.map (λe=>(e.key,e.val))=l/\(∀e,e∈i.toList->e.born<E)/\(i.toList.map (·.born)).Nodup/\
  w.heap[q]?=some (.mapIter (some b) K seen v)/\(∀e,e∈i.toList->e.born<K)/\K<=v/\K<=E/\(leftOf i seen).toList.map (λe=>(e.key,e.val))=Y/\
  ∀p,o=some p->v=E/\∃(e:MapEntry) (s:Array Nat),e∈i.toList/\seen=s.push e.born/\(e.key,e.val)=p
@[irreducible] def u4(b q:Nat)(l Y:List (Value×Value))(last:Option (Value×Value)):ax where
 fB:=[b,q]
 holds w:=wU w b q l Y last
 loc w h9 h cB:=by obtain⟨es,qX,CU,seen,iC,bY,cm,dd,cp,bb,rest⟩:=cB;exact⟨es,qX,CU,seen,iC,I1,cm,dd,cp,by rw[h q XE];exact bb,rest⟩
 lt w h x cr:=by
  obtain⟨es,qX,CU,seen,iC,bY,cm,dd,cp,bb,rest⟩:=h;have:x=b\/x=q:=X8
  rcases this with rfl|rfl
  .exact(Array.getElem?_eq_some_iff.1 bY).1
  .exact(Array.getElem?_eq_some_iff.1 bb).1
def H3(b q l Y o):(u4 b q l Y o).fB=[b,q]:=by unfold u4;rfl
def tq(b q l Y o w):(u4 b q l Y o).holds w↔wU w b q l Y o:=by unfold u4;rfl
def jL(bN:M->aj)(aR:G->aj)(b q:Nat)(l Y:ab (M×G))(o:aQ (M×G)):ax:=u4 b q (l.map λp=>(bN p.1,aR p.2)) (Y.map λp=>(bN p.1,aR p.2)) (o.map λp=>(bN p.1,aR p.2))
def tr(b q:Nat){o:aQ (M×G)}:(jL bN aR b q l Y o).fB=[b,q]:=by unfold jL;rw[H3]
def CV(b:Nat):(bn bN aR b l).fB=[b]:=by unfold bn;rw[rZ]
def wU.ne{l Y:ab (aj×aj)}(h:wU w b q l Y L):b≠q:=by obtain⟨s,t,d,seen,v,o,K,E,g,bb,i⟩:=h;rintro rfl;rw[o]at bb;cases bb
def H.TI{t:aQ (M×G)}(h:H W D (jL bN aR b q l Y t::J) w):H W D (bn bN aR b l::J) w:=by
 have o:=h.fm _ (iT ..);unfold jL at o;rw[tq]at o;have i:(bg (bn bN aR b l::J)).Sublist (bg (jL bN aR b q l Y t::J)):=by rw[hS,hS,tr,CV];exact List.Sublist.append (og _ (List.nil_sublist _)) (uE _)
 refine⟨λe d=>?_,h.nodup.sublist i,λx K=>h.own x (i.subset K),h.cx,h.size,h.os,h.tape,h.output,h.nv⟩;rcases dq.1 d with rfl|d
 .unfold bn;rw[oc];obtain⟨s,t,L,seen,v,q,K,E,g,bb,i⟩:=o;exact⟨s,t,q,K,E,g⟩
 .exact h.fm e (hn _ d)
def Out.TI{e:dj}{o:aQ (M×G)}(h:Out W D n Q e F (bn bN aR b l::J)):Out W D n Q e F (jL bN aR b q l Y o::J):=Out.hC (λ_ m=>m.TI) h
def aw.U4{t e:aZ}{x:bd}{N:Nat->ab ax}(c:g1 P t T e=true)(o:aO F x=some (.map (some b)))(d:∀q,az J (bn bN aR b l) (jL bN aR b q l l none) (N q))(s:∀q,C ((U,au q 0)::F) (N q))(i:Nat.blt U n.n=true:=by exact rfl):aw P r W D n ⟨some U,.range t x,R,Z,u,X⟩ F J C:=aw.of λK Q Yh a w j v=>by
 have Yf:bn bN aR b l∈J:=by obtain⟨l,r,rfl,_⟩:=(d 0).split;simp
 have h:=v.mem Yf;unfold bn at h;rw[oc]at h;obtain⟨es,Ye,g,f,E,L⟩:=h;have Yc:=(ny.1 g).1;have Yg:=run_range_map (P:=P) w t T e b es Ye (qY c) g;refine iK (s:=w.alloc (.mapIter (some b) Ye #[] Ye)) rfl ?_ (Yh _ _ (s w.heap.size) _ _ (j.put i _) ?_)
 .simp only[execOp,j.eval o,ct,Yg,dv,ed]
 .refine v.mN (d _) ⟨λx o=>?_,?_,λx o=>?_,λk z y=>MapKept.heap_alloc w _|>.2 k z,XE,rfl,rfl,rfl,cl _⟩
  .obtain rfl:x=_:=by simpa using o
   unfold jL;rw[tq];refine⟨es,Ye,Ye,#[],Ye,((MapKept.heap_alloc w _).2 b Yc).trans g,f,E,L,Cy _ _,E,cl _,cl _,?_,λp m=>by cases m⟩;rw[<-f];congr 1;unfold leftOf;rw[wV,wW];intro x _;simp
  .simp only[bg,fG,m2,dk,tr,lf,dq,iU,fU,o3,oh,ld];omega
  .simp only[bg,fG,m2,dk,tr,dq,iU,fU]at o;rcases o with rfl|rfl
   .left;rw[CV];simp
   .exact .inr (cl _)
def adF{i:Array MapEntry}{seen:Array Nat}{e:MapEntry}(v:(i.toList.map (·.born)).Nodup){j:Nat}(p:(leftOf i seen).toList[j]?=some e):(leftOf i (seen.push e.born)).toList=(leftOf i seen).toList.eraseIdx j:=by
 have K:(leftOf i (seen.push e.born)).toList=(leftOf i seen).toList.filter (λx=>!(x.born==e.born)):=by unfold leftOf;rw[wV,wV,List.filter_filter];congr 1;funext x;simp only[Array.contains_push,Bool.not_or];rw[Bool.and_comm]
 rw[K];have o:((leftOf i seen).toList.map (·.born)).Nodup:=by unfold leftOf;rw[wV];exact v.sublist (List.Sublist.map _ H5)
 generalize(leftOf i seen).toList=L at p o;clear K v;induction L generalizing j with
 |nil=>simp at p
 |cons x L q=>
  simp only[eK,lf]at o;cases j with
  |zero=>
   simp only[oZ,er]at p;subst p;rw[wX,aN XE,List.eraseIdx_cons_zero,wW];intro y K;have:y.born≠x.born:=λE=>o.1 (by rw[<-E];exact fh.2 ⟨y,K,rfl⟩);simpa using this
  |succ j=>
   rw[qJ]at p;have K:x.born≠e.born:=λE=>o.1 (by rw[E];exact fh.2 ⟨e,j5 p,rfl⟩);rw[wX,aT (by simpa using K),HH,q p o.2]
def aw.U5{x:bd}{Ye:aQ (M×G)}(o:aO F x=some (au q 0))(L:jL bN aR b q l [] Ye∈J)(p:C ((U,.tuple #[.bool false])::F) J)(i:Nat.blt U n.n=true:=by exact rfl):aw P r W D n ⟨some U,.next x false,R,Z,u,X⟩ F J C:=aw.of λK Q Yh a w g j=>by
 have h:=j.mem L;unfold jL at h;rw[tq]at h;obtain⟨s,Yc,Yg,seen,y,d,E,t,f,bb,c,m,m5,k,_⟩:=h;simp only[kE,CW]at k;rcases run_next_at (P:=P) w R q b Yg y seen s Yc bb d c m with⟨v,Yf⟩|⟨e,z,_⟩
 .refine iK rfl ?_ (Yh _ _ p _ _ (g.put i _) j);simp only[execOp,g.eval o,ct,Yf,dv,ed]
 .rw[k]at z;cases z
def aw.U6{x:bd}{Yh:aQ (M×G)}{N:Nat->M×G->ab ax}(m:Y≠[])(o:aO F x=some (au q 0))(L:∀j p,az J (jL bN aR b q l Y Yh) (jL bN aR b q l (Y.eraseIdx j) (some p)) (N j p))(ee:∀j p,Y[j]?=some p->C ((U,.tuple #[.bool true,bN p.1,aR p.2])::F) (N j p))(ef:Nat.blt U n.n=true:=by exact rfl):aw P r W D n ⟨some U,.next x false,R,Z,u,X⟩ F J C:=aw.of λK Q Yl a w z c=>by
 have Yq:∃p,p∈Y:=List.exists_mem_of_ne_nil _ m;have Yg:jL bN aR b q l Y Yh∈J:=by obtain⟨p,_⟩:=Yq;obtain⟨l,r,rfl,_⟩:=(L 0 p).split;simp
 have h:=c.mem Yg;unfold jL at h;rw[tq]at h;have Ye:=h.ne;obtain⟨es,Yf,Yk,seen,iC,d,E,t,v,bb,fZ,lb,m5,p0,_⟩:=h;rcases run_next_at (P:=P) w R q b Yk iC seen es Yf bb d fZ lb with⟨Yr,Yi⟩|⟨e,f,eY,Yo,Yi⟩
 .exfalso;have:leftOf es seen=#[]:=Array.eq_empty_of_size_eq_zero Yr;rw[this]at p0;simp at p0;exact m p0
 .obtain⟨j,s⟩:=qZ f;have wY:(Y.map λp=>(bN p.1,aR p.2))[j]?=some (e.key,e.val):=by rw[<-p0,ho,s];rfl
  rw[ho]at wY;obtain⟨p,y,Yn⟩:=oW.1 wY;simp only[md]at Yn;have Yp:=Yi;rw[<-Yn.1,<-Yn.2]at Yp;have Yj:H W D J eY:=by
   rcases Yo with rfl|rfl
   .exact c
   .exact c.drew
  have Ys:eY.heap[q]?=some (.mapIter (some b) Yk seen iC):=by rcases Yo with rfl|rfl<;>exact bb
  have Ym:eY.heap[b]?=some (.map es Yf):=by rcases Yo with rfl|rfl<;>exact d
  have Yc:=(ny.1 Ys).1;refine iK rfl ?_ (Yl _ _ (ee j p y) _ _ (z.put ef _) (Yj.mN (eY:=eY.putObj q (.mapIter (some b) Yk (seen.push e.born) Yf)) (L j p) ?_))
  .simp only[execOp,z.eval o,ct,Yp,dv,ed];rfl
  .refine⟨λx o=>?_,?_,λx o=>?_,λk g i=>?_,XE,rfl,rfl,rfl,cl _⟩
   .obtain rfl:x=_:=by simpa using o
    unfold jL;rw[tq];refine⟨es,Yf,Yk,seen.push e.born,Yf,(s3 Ye).trans Ym,E,t,v,qR Yc,fZ,m5,m5,?_,λh q=>⟨rfl,e,seen,?_,rfl,?_⟩⟩;rotate_left
    .unfold leftOf at f;rw[wV]at f;exact(r3.1 f).1
    .simp only[nI,er]at q;rw[<-q,Yn.1,Yn.2]
    rw[adF v s,y6,p0,<-y6]
   .simp only[bg,fG,m2,dk,tr,lf,dq,iU,fU,o3,oh,ld];exact Ye
   .left;simpa[bg,tr]using o
   .exact s3 (by simp only[tr,dq,iU,fU,q4]at i;exact i.2)
def aK.SI{x:bd}{p:M×G}(E:aO F x=some (au q 0))(t:jL bN aR b q l Y (some p)∈J):aK P n F J ⟨some U,.entry x,R,Z,u,X⟩ (.tuple #[bN p.1,aR p.2]):=aK.of λa w d f=>by have h:=f.get _ t;unfold jL at h;rw[tq]at h;obtain⟨i,k,Yc,seen,m,L,K,o,z,bb,j,c,y,s,wY⟩:=h;obtain⟨rfl,e,Ye,g,rfl,v⟩:=wY _ rfl;simp only[md]at v;have a:=run_entry_at (P:=P) w q b Yc Ye i m e bb L g z;rw[v.1,v.2]at a;simp only[execOp,d.eval E,ct,a,dv,ed]
end
section
variable{r:aQ Nat}{W:aY}{Q:cE}
end
def CX(P:bF)(s f off T:Nat):Bool:=match P.underlying s with
 |some (.struct z)=>match z[f]? with
  |some k=>k.offset==off&&k.type==T
  |none=>false
 |_=>false
def V.SY(ad:bV P){R:aZ}{u:Array Edge}{s f off T:Nat}{x:bd}{cs c:ab aj}(E:aO F x=some (A cs))(k:CX P s f off T=true)(K:bA ad.agg T=some q:=by exact rfl)(L:Nat.ble (off+q) cs.length=true:=by exact rfl)(t:et off q cs c:=by infer_instance):aK P n F J ⟨some U,.field s x f,R,Z,u,X⟩ (A c):=aK.of λa w g _=>by
 unfold CX at k;split at k
 .rename_i v j;split at k
  .rename_i h b;simp only[cZ,cH]at k;obtain⟨o,z⟩:=k;have d:i5 P T off cs (A c):=i5.agg (ad.Sd K) L t.eq;have ao:(Instr.field s (A cs) f).run P w=.ok (A c) w:=by unfold Instr.field;simp only[ct,dN j,dv,b,asAgg,ed,o,z,d.part w]
   simp only[execOp,g.eval E,ao,ct,dv,ed]
  .cases k
 .cases k
end Go.ay
namespace Go.ay
open Go
variable{hU:ab aj}{C:bv->ab ax->Prop}{M:aQ (Nat×Bool)}{X:Nat}
section
variable{P:bF}{r:aQ Nat}{W:aY}{D:ab Nat}{n:c7}{Y:bv}{U J:ab ax}{N:Type}{f:N->ab aj}
variable{F:Nat}{G:aZ}{Z:String}{R:Array Edge}
def V.U7(ad:bV P){t e:aZ}{x:bd}{g:aQ Addr}{Q:Nat}(K:aO Y x=some (.slice g Q X):=by exact rfl)(j:bA ad.eO t=some e:=by exact rfl):aK P n Y U ⟨some F,.call ⟨.builtin .cap,#[x],#[t]⟩,G,Z,R,M⟩ (I (X:Int)):=aK.of λa w L _=>by
 have o:(Builtin.cap_ #[t] G #[.slice g Q X]).run P w=.ok (I (X:Int)) w:=by simp[Builtin.cap_,dN (fM (ad.RM j)),goInt]
 simp only[execOp,resolve,invoke,builtin,q2,eK,kE,L.eval K,ct,ed,dv,o]
def u5{g E Q K:Nat}{l:ab N}{w:aY}(h:(rows f (.slice (some ⟨g,0,none⟩) Q K) E X l).holds w):l.length=Q/\∃k:Array aj,w.heap[g]?=some (.cells k E (0,0))/\Q<=K/\K<=maxLen/\k.size=K*X/\k.toList.take (Q*X)=l.flatMap f:=by
 rw[e1,hz]at h;rcases h.2 with⟨d,_⟩|⟨L,u,k,d,_,q,T,z,v,s⟩
 .cases d
 .simp only[pQ,er,uS]at d;obtain⟨⟨rfl,_⟩,rfl,rfl⟩:=d;exact⟨rfl,k,q,T,z,v,s⟩
def y7{g K o:Nat}(h:o<K):partAt (some ⟨g,0,none⟩) K o X=some ⟨g,o*X,none⟩:=Ij
def CY{g E K i:Nat}{l:ab N}{w:aY}{h:Array aj}(c:∀x,(f x).length=X)(q:w.heap[g]?=some (.cells h E (0,0)))(s:h.toList.take (K*X)=l.flatMap f)(ao:i<=l.length):∀(k:Nat) (u:aj),((l.drop i).flatMap f)[k]?=some u->w.cell? ((⟨g,i*X,none⟩:Addr).add k)=some u:=by
 intro k u Q;rw[<-tn c l i ao,lL,<-s,kC]at Q;split at Q
 .have T:h[i*X+k]?=some u:=by simpa using Q
  simp only[ta,World.cell?,q];simpa using T
 .cases Q
def H6(A B E:ab aj)(m:Nat)(h:A.length+B.length<=m):(A++(B++E)).take m=A++(B++E.take (m-(A.length+B.length))):=by rw[qO,j4 ac,qO,j4 ac,Nat.sub_sub]
def aw.T2(ad:bV P){t cg E fN g cC T o d m3:Nat}{x y:bd}{u:aj}{c s:ab N}(cr:aO Y x=some (.slice (partAt (some ⟨g,0,none⟩) T o X) d m3))(e7:aO Y y=some u)(j:ce P U f X cg u s)(fF:az U (rows f (.slice (some ⟨g,0,none⟩) cC T) E X c) (rows f (.slice (some ⟨g,0,none⟩) cC T) E X (c.take o++(s++c.drop (o+s.length)))) J)(Yf:s.length<=d)(dz:o+d<=cC)(Yh:o<T)(b:∀x,(f x).length=X)(cm:iv f)(ee:C ((F,I (s.length:Int))::Y) J)(ef:Nat.blt F n.n=true:=by exact rfl)(c8:bA ad.eO t=some E:=by exact rfl)(k:bA ad.gp E=some X:=by exact rfl)(L:bA ad.kD E=some fN:=by exact rfl)(h:hT ad.ia E=some hU:=by exact rfl):aw P r W D n ⟨some F,.call ⟨.builtin .copy,#[x,y],#[t,cg]⟩,G,Z,R,M⟩ Y U C:=aw.of λK Q cu a w i l=>by
 obtain⟨q1,z,ao,v,Yc,Ye,Yg⟩:=ad.info k L h;have m:rows f (.slice (some ⟨g,0,none⟩) cC T) E X c∈U:=Z8
 obtain⟨x,k,p,Q,z,v,h⟩:=u5 (l.mem m);have L:Src P X cg u s.length (s.flatMap f) w:=j w l.hold;have j:k.toList.length=T*X:=ZQ
 obtain⟨m,v⟩:∃m,m=s.flatMap f:=⟨_,rfl⟩
 have a:m.length=s.length*X:=by rw[v,jF b]
 have K:∀u∈m,u.oneCell'=true:=Pl
 have x:o*X+s.length*X<=T*X:=H7
 have x:=rL P g (o*X) E m 0 k w p (by simp only[gJ,a];omega) K;simp only[gJ]at x;rw[<-v]at L;have y:(Builtin.copy_ #[t,cg] G #[.slice (some ⟨g,o*X,none⟩) d m3,u]).run P w=
   .ok (I (s.length:Int)) (w.setRow g (k.toList.take (o*X)++m++k.toList.drop (o*X+m.length)).toArray):=by
  have u:=L.cells
  rw[<-Yc]at u x⊢
  simp[Builtin.copy_,dN (fM (ad.RM c8)),sizeOf,typeInfo,ao,L.len,pS Yf,u,x,goInt]
 have K:(c.take o++(s++c.drop (o+s.length))).length=cC:=XM
 have u:(c.take o++(s++c.drop (o+s.length))).flatMap f=(c.take o).flatMap f++(m++(c.drop (o+s.length)).flatMap f):=by rw[lP,lP,v]
 have q:k.toList.take (o*X)=(c.take o).flatMap f:=by rw[<-q0 b c o ac,<-h,r1,pS (jn _ ac)]
 have x:o*X+s.length*X<=cC*X:=H7
 have x:cC*X<=T*X:=jn _ Q;have Q:(k.toList.drop (o*X+m.length)).take (cC*X-(o*X+m.length))=(c.drop (o+s.length)).flatMap f:=by rw[<-tn b c (o+s.length) ac,<-h,List.drop_take,a,eZ]
 have h:H W D J (w.setRow g (k.toList.take (o*X)++m++k.toList.drop (o*X+m.length)).toArray):=by
  refine H.TF l fF K.symm ⟨jF b _,.inr ⟨g,T,_,rfl,cw _,pH w g k _ E _ p,by rw[K];omega,z,?_,?_⟩⟩
  .simp only[nA,bM,eX,j6,j];omega
  .have L:(k.toList.take (o*X)).length=o*X:=by simp only[eX,j];omega
   rw[cd,K,H6 _ _ _ _ (by rw[L,a];omega),L,u,<-q,<-Q]
 rw[y7 Yh]at cr;refine iK (v:=I (s.length:Int)) rfl ?_ (cu _ _ ee _ _ (i.put ef _) h);simp only[execOp,resolve,invoke,builtin,q2,eK,kE,i.eval cr,i.eval e7,ct,ed,dv,y]
def aw.WD(ad:bV P){t E T fN g o i wZ j Yw L:Nat}{x y:bd}{l:ab N}(cr:aO Y x=some (.slice (partAt (some ⟨g,0,none⟩) o (i+1) T) wZ Yw))(e7:aO Y y=some (.slice (partAt (some ⟨g,0,none⟩) o i T) j L))(fF:az U (rows f (.slice (some ⟨g,0,none⟩) X o) E T l) (rows f (.slice (some ⟨g,0,none⟩) (X+1) o) E T (l.take (i+1)++l.drop i)) J)(Yr:wZ=X-i)(Ym:j=X+1-i)(ao:i<X)(c6:X+1<=o)(d:∀x,(f x).length=T)(cm:iv f)(ee:C ((F,I ((X-i:Nat):Int))::Y) J)(ef:Nat.blt F n.n=true:=by exact rfl)(c8:bA ad.eO t=some E:=by exact rfl)(Yc:bA ad.gp E=some T:=by exact rfl)(Yl:bA ad.kD E=some fN:=by exact rfl)(Yo:hT ad.ia E=some hU:=by exact rfl):aw P r W D n ⟨some F,.call ⟨.builtin .copy,#[x,y],#[t,t]⟩,G,Z,R,M⟩ Y U C:=aw.of λK Q cu a w cT cM=>by
 obtain⟨q1,z,Yu,Yf,Ye,Yk,Yp⟩:=ad.info Yc Yl Yo;have Yi:rows f (.slice (some ⟨g,0,none⟩) X o) E T l∈U:=Z8
 obtain⟨Yq,k,bU,Yn,Yg,Yj,s⟩:=u5 (cM.mem Yi);have Yh:k.toList.length=o*T:=by simpa using Yj
 obtain⟨m,v⟩:∃m,m=(l.drop i).flatMap f:=⟨_,rfl⟩
 have c:m.length=(X-i)*T:=by rw[v,jF d,j6,Yq]
 have Yt:∀u∈m,u.oneCell'=true:=Pl
 have b:(i+1)*T+(X-i)*T=(X+1)*T:=by rw[<-eZ];congr 1;omega
 have Yv:(X+1)*T<=o*T:=jn _ c6;have h:=rL P g ((i+1)*T) E m 0 k w bU (by simp only[gJ,c];omega) Yt;simp only[gJ]at h;have Ys:=tb (P:=P) w T (X-i) ⟨g,i*T,none⟩ j L m c (by rw[v];exact CY d bU s ac);have e6:(Builtin.copy_ #[t,t] G #[.slice (some ⟨g,(i+1)*T,none⟩) wZ Yw,.slice (some ⟨g,i*T,none⟩) j L]).run P w=
   .ok (I ((X-i:Nat):Int)) (w.setRow g (k.toList.take ((i+1)*T)++m++k.toList.drop ((i+1)*T+m.length)).toArray):=by
  have Yx:Nat.min j wZ=X-i:=by subst Yr Ym;exact Nat.min_eq_right ac
  rw[<-Ye]at Ys h⊢
  simp[Builtin.copy_,Builtin.lenOf,dN (fM (ad.RM c8)),sizeOf,typeInfo,Yu,Yx,Ys,h,goInt]
 have K:(l.take (i+1)++l.drop i).length=X+1:=XM
 have Q:(l.take (i+1)++l.drop i).flatMap f=(l.take (i+1)).flatMap f++m:=by rw[lP,v]
 have q:k.toList.take ((i+1)*T)=(l.take (i+1)).flatMap f:=by rw[<-q0 d l (i+1) ac,<-s,r1,pS (jn _ ac)]
 have s:((l.take (i+1)).flatMap f).length=(i+1)*T:=by rw[jF d];congr 1;simp;omega
 have h:H W D J (w.setRow g (k.toList.take ((i+1)*T)++m++k.toList.drop ((i+1)*T+m.length)).toArray):=by
  refine H.TF cM fF K.symm ⟨jF d _,.inr ⟨g,o,_,rfl,cw _,pH w g k _ E _ bU,by rw[K];omega,Yg,?_,?_⟩⟩
  .simp only[nA,bM,eX,j6,Yh];omega
  .rw[K,Q,q,<-b,<-c,<-s,<-bM];exact o0
 rw[y7 ac]at cr e7;refine iK (v:=I ((X-i:Nat):Int)) rfl ?_ (cu _ _ ee _ _ (cT.put ef _) h);exact Ki
def aw.WE(ad:bV P){t oi E d fN g Yc i k:Nat}{CZ:IntKind}{x y:bd}{l:ab N}(q:N)(cr:aO Y x=some (.slice (some ⟨g,0,none⟩) i X))(e7:aO Y y=some (I (k:Int)))(fF:rows f (.slice (some ⟨g,0,none⟩) Yc X) E d l∈U)(ao:i<=Yc)(cc:X<i+k)(Yq:i+k<=1000000)(m:∀x,(f x).length=d)(ee:∀lR o,i+k<=o->C ((F,.slice (some ⟨lR,0,none⟩) (i+k) o)::Y) (rows f (.slice (some ⟨lR,0,none⟩) (i+k) o) E d (l.take i++List.replicate k q)::U))(ef:Nat.blt F n.n=true:=by exact rfl)(c8:bA ad.eO t=some E:=by exact rfl)(YB:k9 ad.ints oi=some CZ:=by exact rfl)(Yg:bA ad.gp E=some d:=by exact rfl)(Yp:bA ad.kD E=some fN:=by exact rfl)(Yt:hT ad.ia E=some hU:=by exact rfl)(YA:hU=f q:=by exact rfl)(Yz:Nat.ble fN 1000000=true:=by exact rfl)(Yh:Nat.blt 0 d=true:=by exact rfl):aw P r W D n ⟨some F,.call ⟨.builtin .append,#[x,y],#[t,oi]⟩,G,Z,R,M⟩ Y U C:=aw.of λK Q cu a w cT cM=>by
 obtain⟨v,z,YC,Yj,Yi,Yo,Ys⟩:=ad.info Yg Yp Yt;have YE:=nw Yz;have L:0<d:=by simpa using Yh
 obtain⟨Yw,Yf,bU,Yr,Yl,Ym,Yn⟩:=u5 (cM.mem fF);obtain⟨T,s⟩:∃T,T=(l.take i).flatMap f:=⟨_,rfl⟩
 have Yy:T.length=i*d:=by rw[s,jF m];congr 1;simp;omega
 have Yx:=tb (P:=P) w.drew d i ⟨g,0,none⟩ i X T Yy (by
  intro j u hu;have ep:=CY (i:=0) m bU Yn (cw _) j u (by
   rw[yB];rw[s,<-q0 m l i ac,kC]at hu;split at hu
   .exact hu
   .cases hu)
  simpa using ep)
 have p:z.cells.size=d:=by rw[<-mV,Ys,YA,m]
 have YH:(i+k)*fN<=1000000*1000000:=y8 Yq YE;have YI:k*fN<=(i+k)*fN:=jn _ ac;subst Yi;subst Yo;have e6:=Lib.run_append_grow_zeros (P:=P) w t oi G E v z .i64 CZ (fM (ad.RM c8)) (ad.R0 YB) YC Yj (some ⟨g,0,none⟩) i X T Yx k ac L cc ac ac (wK ac ac);have Yv:=wH w (i+k) X E;have YF:grownCap w (i+k) X E<=maxLen:=wI w (i+k) X E Zv;have Yu:(Builtin.zeroCells z.cells k).toList=(List.replicate k q).flatMap f:=by
  apply mX;intro j;by_cases eB:j<k*v.size
  .rw[CM (m q) k j eB];have Ye:j%v.size<z.cells.size:=by rw[p];exact Nat.mod_lt _ L
   have YG:z.cells[j%v.size]?=(f q)[j%v.size]?:=by rw[<-YA,<-Ys];simp
   rw[<-YG];simp[Builtin.zeroCells,eB,p,getElem!_pos z.cells (j%v.size) Ye]
  .rw[u6 (by simp[Builtin.zeroCells,p];omega),u6];have h:=CN (m q) k;omega
 have c:(l.take i++List.replicate k q).length=i+k:=XM
 have Yk:H W D (rows f (.slice (some ⟨w.heap.size,0,none⟩) (i+k) (grownCap w (i+k) X E)) E v.size (l.take i++List.replicate k q)::U)
   (w.drew.alloc (.cells (T.toArray++Builtin.zeroCells z.cells k++Builtin.zeroCells z.cells (grownCap w (i+k) X E-(i+k))) E)):=by
  refine H.new (wq:=[rows f (.slice (some ⟨w.heap.size,0,none⟩) (i+k) (grownCap w (i+k) X E)) E v.size (l.take i++List.replicate k q)]) cM ⟨λe ea=>?_,?_,λb bY=>?_,λqB YD _=>rI w.drew _ YD,XE,rfl,rfl,rfl,uQ _⟩
  .obtain rfl:e=_:=by simpa only[iz]using ea
   rw[e1,hz,c]
   have h:((l.take i++List.replicate k q).flatMap f).length=(i+k)*v.size:=by rw[jF m,c]
   refine⟨h,.inr ⟨w.heap.size,_,_,rfl,cw _,wr w.drew _,Yv,YF,?_,?_⟩⟩
   .simp only[wJ,nA,yN,p,Yy,<-eZ]
    congr 1
    omega
   .simp only[yO,Yu]
    rw[show T.toArray.toList++(List.replicate k q).flatMap f=(l.take i++List.replicate k q).flatMap f by rw[lP,s],<-h]
    exact o0
  exact My
  .rw[hS,e1,hl]at bY
   right
   have:b=w.heap.size:=by simpa[bg,Value.ownBlock]using bY
   omega
 refine iK (v:=.slice (some ⟨w.heap.size,0,none⟩) (i+k) (grownCap w (i+k) X E)) rfl ?_ (cu _ _ (ee _ _ Yv) _ _ (cT.put ef _) Yk);exact Ki
def V.WF(ad:bV P){j:eg}{fn:Func}{u7 y9 E q g c t Q i p b:Nat}{x y:bd}{o:Array aZ}{l k:ab N}(s:P.funcs[j]?=some fn)(Yg:(fn.name== "runtime.NumGoroutine")=false)(T:fn.body.isNone=true)(Yf:Extern.findNext fn=none)(Ye:Extern.find fn=some (Extern.SlicesOverlaps.overlaps #[u7,u7] #[y9]))(K:aO Y x=some (.slice (some ⟨c,0,none⟩) 1 1))(X:aO Y y=some (.slice (partAt (some ⟨g,0,none⟩) Q i q) p b))(h:rows f (.slice (some ⟨c,0,none⟩) 1 1) E q k∈U)(u:rows f (.slice (some ⟨g,0,none⟩) t Q) E q l∈U)(d:c≠g)(ao:i<Q)(v:bA ad.eO u7=some E:=by exact rfl)(l:bA ad.gp E=some q:=by exact rfl)(m:Nat.blt 0 q=true:=by exact rfl):aK P n Y U ⟨some F,.call ⟨.value (.func j),#[x,y],o⟩,G,Z,R,M⟩ (.bool false):=aK.of λa w L j=>by
 have Yc:0<q:=by simpa using m
 obtain⟨_,Q,m,o,_,z,_⟩:=u5 (j.get _ h);obtain⟨_,z,h,o,_,Yh,_⟩:=u5 (j.get _ u);rw[y7 ao]at X;have o:=run_callFunc_extern (P:=P) s Yg T Yf Ye #[.slice (some ⟨c,0,none⟩) 1 1,.slice (some ⟨g,i*q,none⟩) p b] w;rw[Lib.run_overlaps_apart w u7 y9 E (fM (ad.RM v)) q (λw=>n8 (ad.Sw l) w) ⟨c,0,none⟩ ⟨g,i*q,none⟩ 1 1 p b d E E Q.size z.size (by simp[World.shape?,m]) (by simp[World.shape?,h])
  (by rw[Yh];exact Nat.ne_of_gt (Nat.mul_pos ac Yc)) (by simp[World.frozen?,m]) (by simp[World.frozen?,m])]at o
 have d:(#[x,y].map a.eval)=#[.slice (some ⟨c,0,none⟩) 1 1,.slice (some ⟨g,i*q,none⟩) p b]:=by simp[L.eval K,L.eval X]
 simp only[execOp,resolve,ct,d];simp[Act.eval,Deferred.ofValue,invoke,o]
def aaG{w:aY}{g u Q K q k E t o:Nat}{l s:ab N}{T:N->ab aj}(h:H W D (rows f (.slice (some ⟨g,0,none⟩) Q K) E X l::rows T (.slice (some ⟨u,0,none⟩) q k) t o s::U) w):u≠g:=by have:=h.nodup;rw[hS,hS,e1,e1,hl,hl]at this;simp only[Value.ownBlock,u9,tt,lf,dq,q4]at this;exactλe=>this.1.1 e.symm
def ar.known{f:eg}{args:ab aj}{R:aj->ab ax->Prop}{p:Prop}(v:∀w,H w (bg U) U w->p)(h:p->ar P f args U R):ar P f args U R:=
 ar.of λw j=>(h (v w j.start)).get w j
end
end Go.ay
namespace Go.ay
open Go
section
variable{P:bF}{r:aQ Nat}{W:aY}{D:ab Nat}{n:c7}{Q:cE}{Y Z:bv}{U F J:ab ax}{G:Array bS}{N:ab bS}{w:aY}
def C0(P:bF)(b:eg)(L:ab aj){o y:Type}(Z:o->ab ax)(f:y->ab aj)(step:Nat->y->o->o->Prop)(stop:Nat->o->Prop)(R u:ab ax)(K:o):Prop:=
 ∀(N l:Nat) (i:Type) (b4:i->o) (G X:Nat->i->Prop) (S:i->ax) (p:i),(∀k c,G k c->k<=N)->b4 p=K->G 0 p->
  (∀k i c q,G k c->step k i (b4 c) q->jG P l (f i) (S c::Z q) (λv F=>∃a t,v=.bool t/\(t=true->G (k+1) a)/\(t=false->X (k+1) a)/\F=S a::Z (b4 a)))->
  ar P b (.func (.yield l) #[] #[]::L) (S p::R) (λ_ F=>∃a k,((G k a/\stop k (b4 a))\/X k a)/\F=S a::(Z (b4 a)++u))
def ah.WG{o km R:Type}{g:bd}{aU:ab Tmp}{assign body:Code}{iO:eg}{L:ab aj}{Z:o->ab ax}{f:km->ab aj}{step:Nat->km->o->o->Prop}{stop:Nat->o->Prop}{d u T:ab ax}{gN:o}(hV:C0 P iO L Z f step stop d u gN)(b4:R->o)(S:R->ab ax)(G:Nat->R->Prop)(X:dj->Nat->R->Prop)(y:R)(N:Nat)(nK:∀k c,G k c->k<=N)(Yk:b4 y=gN)(ep:G 0 y)(round:∀k i c q l rec,G k c->step k i (b4 c) q->o1 rec->∀(eh:aY) (iP:ab Nat) (K:cE),(∀e m,fv e=true->tk G X (k+1) e m->∀a w,H eh iP (iN l rec::(S m++Z (b4 m))) w->K e a w)->ah P (some l) eh iP ⟨n.n,[]⟩ (Exit.then (pU P l body K) qQ) assign (o2 aU (f i) Y) (bZ l rec .normal::(S c++Z q)))(done:∀k c b,G k c->stop k (b4 c)->Out W D ⟨n.n,b::n.ds⟩ Q .normal Y (fC b::(S c++(Z (b4 c)++(u++T)))))(left:∀k c b e,fv e=true->eL e=false->X e k c->Out W D ⟨n.n,b::n.ds⟩ Q e Y (fC b::(S c++(Z (b4 c)++(u++T)))))(bU:aO Y g=some (.func (.func iO) #[] L.toArray):=by exact rfl)(Ye:jE P iO=true:=by kernel_rfl)(Yg:ak U (S y++d) T:=by(repeat(first|exact ak.nil|exact al.here|apply ak.cons|apply al.there)))(dO:∀x,aU.length=(f x).length:=by intro _;rfl)(ei:(aU.all λp=>Nat.blt p n.n)=true:=by exact rfl):ah P none W D n Q (.rangeFunc g aU.toArray assign body) Y U:=by
 have Yh:∀(l:ab ax) (s:ax),ak (s::(l++T)) (s::l) T:=by
  intro l s;refine ak.cons al.here ?_;induction l with
  |nil=>exact ak.nil
  |cons x l la=>exact ak.cons al.here la
 have Yj:∀{e:dj} {k:Nat} {c:R},fv e=true->tk G X k e c->(eL e=true/\G k c)\/(eL e=false/\X e k c):=by
  intro e k c C h;cases e with
  |normal=>exact .inl ⟨rfl,h⟩
  |ret=>exact .inr ⟨rfl,h⟩
  |exit id=>exact .inr ⟨rfl,h⟩
  |_=>cases C
 have Yc:ah P none W D n Q (.rangeFunc g aU.toArray assign body) Y (aI (S y)::(d++T)):=by
  refine ah.Te (km:={p:Nat×km×R×o//G p.1 p.2.2.1/\step p.1 p.2.1 (b4 p.2.2.1) p.2.2.2}) (d:=d) (t:=T) (λi=>f i.1.2.1) (aI (S y)) (λi=>aI (aI (S i.1.2.2.1)::Z i.1.2.2.2)) (λi e cn=>∃m,cn=aI (aI (S m)::Z (b4 m))/\tk G X (i.1.1+1) e m)
   (λe t=>∃m k,t=aI (S m)::(Z (b4 m)++u)/\((e=.normal/\G k m/\stop k (b4 m))\/(eL e=false/\X e k m))) bU Ye (Yh _ _) (λi=>dO _) ei ?_ ?_ ?_
  .rintro⟨⟨k,i,c,q⟩,j,cf⟩ l rec e6 eh K cu;have E:∀(c:R) (b:o) (e:ax),aL [e,aI (aI (S c)::Z b)] (e::(S c++Z b)):=λc b e=>
    aL.cons e (aL.aI.trans (aL.append (an:=[aI (S c)]) aL.aI (aL.refl (Z b))))
   have:=round k i c q l rec j cf e6 eh (bg [bZ l rec .normal,aI (aI (S c)::Z q)]) K (λe m C dW a w cM=>cu e _ C ⟨m,rfl,dW⟩ a w (cM.eqv (E m (b4 m) _).symm));exact ah.eqv (E c q _) this
  .intro l rec e7;have eJ:=hV N l (dj×R) (λp=>b4 p.2) (λk p=>p.1=.normal/\G k p.2) (λk p=>fv p.1=true/\eL p.1=false/\X p.1 k p.2) (λp=>aI [bZ l rec p.1,aI (S p.2)]) (.normal,y) (λk p h=>nK k p.2 h.2) Yk ⟨rfl,ep⟩ ?_
   .refine eJ.eqv (an:=bZ l rec .normal::aI (S y)::d) ?_ ?_
    .exact(aL.append (an:=[aI [bZ l rec .normal,aI (S y)]]) aL.aI (aL.refl d)).symm
    .rintro v F⟨⟨e,m⟩,k,bY,rfl⟩;refine⟨bZ l rec e::aI (S m)::(Z (b4 m)++u),⟨e,_,?_,⟨m,k,rfl,?_⟩,rfl⟩,aL.append (an:=[aI [bZ l rec e,aI (S m)]]) aL.aI (aL.refl _)⟩
     .rcases bY with⟨⟨h,_⟩,_⟩|⟨h,_⟩
      exact ZI
      .exact h
     .rcases bY with⟨⟨h,z⟩,cp⟩|⟨_,cp,fZ⟩
      .exact .inl ⟨h,z,cp⟩
      .exact .inr ⟨cp,fZ⟩
   .rintro k i⟨e,c⟩ q⟨ea,j⟩ cf;simp only at ea j cf;subst ea;refine(e7 ⟨(k,i,c,q),j,cf⟩).eqv (an:=aI [bZ l rec .normal,aI (S c)]::Z q) ?_ ?_
    .exact O0
    .rintro v F⟨e,cn,rfl,C,⟨m,rfl,dW⟩,rfl⟩;refine⟨aI [bZ l rec e,aI (S m)]::Z (b4 m),⟨(e,m),eL e,rfl,λh=>?_,λh=>?_,rfl⟩,?_⟩
     .rcases Yj C dW with⟨M,z⟩|⟨M,z⟩
      .refine⟨?_,z⟩;cases e<;>first|rfl|cases M
      .rw[M]at h;cases h
     .rcases Yj C dW with⟨M,z⟩|⟨M,z⟩
      .rw[M]at h;cases h
      .exact⟨C,M,z⟩
     .exact H9
  .rintro b e t C⟨m,k,rfl,bY⟩;have conv:∀{e:dj},Out W D ⟨n.n,b::n.ds⟩ Q e Y (fC b::(S m++(Z (b4 m)++(u++T))))->Out W D ⟨n.n,b::n.ds⟩ Q e Y (fC b::(aI (S m)::(Z (b4 m)++u)++T)):=λh=>
    Out.eqv (aL.cons _ Q0) h
   rcases bY with⟨rfl,j,Yf⟩|⟨Yi,hW⟩
   .exact conv (done k m b j Yf)
   .exact conv (left k m b e C Yi hW)
 refine ah.eqv (bc:=aI (S y)::(d++T)) ?_ Yc;refine(aL.RS Yg.perm).trans ?_;rw[cd];exact(aL.append (an:=[aI (S y)]) aL.aI (aL.refl (d++T))).symm
end
end Go.ay
