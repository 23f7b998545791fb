/-
 Part of the proof.
-/
import Derived.Test.YteogojgnkjegmaaGreatDoorAd
set_option linter.all false
set_option maxRecDepth 8000
set_option maxHeartbeats 8000000
namespace Go.az
open Go
variable{D:ab Nat}{C:bJ->ab ay->Prop}{b:Nat}{P:b1}{n:dF}{W:a2}{M:Act->a2->Prop}{N:String}{jo:ab aj}{Y:Array Bool}{G:Array Edge}{U:Array cc}{Q:da}{Z:ab ay}{J:Nat}{aW:aT (Nat×Bool)}{R:aj->ab ay->Prop}{T:a8}{m:Array MapEntry}{X:aT (Nat×Bool)}{q8:Array Field}{q:Nat}{be:Array Edge}
section
def rn(P:b1)(n:Nat)(T:a8)(v:aj):Prop:=∀e w,(Instr.checkKey e n T v).run P w=.ok () w
def rn.int{n:Nat}{k tf:IntKind}{x:Int}(h:P.underlying T=some (.int tf)):rn P (n+1) T (.int k x):=λe w=>by simp[Instr.checkKey,eD h]
def x0(P:b1)(n:Nat)(N:ab aj):ab (Nat×Nat)->Prop
 |[]=>True
 |f::a=>(∃u,jD P f.1 f.2 N u/\rn P n f.1 u)/\x0 P n N a
def GL{Y:Type}{g:Y->PUnit->Sem (ForInStep PUnit)}{w:a2}:∀(l:ab Y),(∀x,x∈l->(g x PUnit.unit).run P w=.ok (ForInStep.yield PUnit.unit) w)->(forIn l PUnit.unit g:Sem PUnit).run P w=.ok PUnit.unit w
 |[],_=>VK
 |x::l,h=>by rw[List.forIn_cons];simp only[cW,h x (er ..),ed];exact GL l (λy K=>h y (e0 _ K))
def x0.get{n:Nat}{N:ab aj}:∀{l:ab (Nat×Nat)},x0 P n N l->∀f,f∈l->∃u,jD P f.1 f.2 N u/\rn P n f.1 u
 |[],_,_,h=>VL
 |_::_,q,f,h=>by
  rcases cQ.1 h with rfl|h
  .exact q.1
  .exact x0.get q.2 f h
def rn.struct{n:Nat}{xs:ab aj}{l:ab (Nat×Nat)}(X:zD P T l=true)(h:x0 P n xs l):rn P (n+1) T (.agg xs.toArray):=λe w=>by
 unfold zD at X;split at X
 .rename_i a N;simp only[c1,c9,kf]at X;obtain⟨⟨rfl,y⟩,z⟩:=X;unfold Instr.checkKey;rw[cW,eD N];simp only[ed];rw[<-Array.forIn_toList];rw[cW,GL a.toList (λf k=>?_)]
  .rfl
  obtain⟨u,g,q⟩:=h.get (f.type,f.offset) (dQ.2 ⟨f,k,rfl⟩);have b:f.name≠ "_" :=by simpa using hk.1 y f k
  simp only[b,dB,rh,ik];simp only[cW,g.part w,ed,q e w,eW]
 .cases X
def zU:aj->Bool
 |.int ..|.string _|.bool _=>true
 |_=>false
def aeo{v:aj}(h:zU v=true)(n:Nat):Instr.sameBits n v v=true:=by cases v<;>simp_all[zU,Instr.sameBits];case string s=>exact(MapKept.bytes_beq _ _).2 rfl
def L8{K:ab aj}(h:K.all zU=true)(n:Nat):Instr.sameBits (n+1) (.agg K.toArray) (.agg K.toArray)=true:=by
 simp only[Instr.sameBits,BEq.rfl,qB,hk];rintro⟨a,b⟩ F;have v:∀(l:ab aj) (p:aj×aj),p∈l.zip l->p.1=p.2/\p.1∈l:=by
  intro l;induction l with
  |nil=>intro p z;simp at z
  |cons y l X=>
   intro p z;rw[List.zip_cons_cons]at z;rcases cQ.1 z with rfl|z
   .exact⟨rfl,er ..⟩
   .exact⟨(X p z).1,e0 _ (X p z).2⟩
 obtain⟨N,M⟩:=v K (a,b) (by simpa using F);simp only at N M;subst N;exact aeo (hk.1 h a M) n
def hW.struct{Y:Type}[DecidableEq Y]{Z:a8}{c:Y->ab aj}(hu:P.underlying Z=some (.struct q8))(ah2:∀a b,dk P 10000 Z (A (c a)) (A (c b)) (decide (a=b)))(dT:∀a,rn P 10000 Z (A (c a)))(cn:∀a,(c a).all zU=true):hW P Z (λa=>A (c a)) where
 check e a w:=dT a e w
 eq a b w:=by have:=ah2 a b;unfold dk at this;exact this w
 zS:=⟨_,hu,.inr λa b=>by simp[Instr.sameNow]⟩
 bits a:=L8 (cn a) 9999
end
section
variable{Y U:Type}[DecidableEq Y]
def x1(k:Y):∀(l:ab (Y×U)) (i:Nat),hd k l i=(hd k l 0).map λp=>(p.1+i,p.2)
 |[],i=>by simp[hd]
 |p::l,i=>by
  simp only[hd];split
  .simp
  .rw[x1 k l (i+1),x1 k l (0+1)];cases hd k l 0 with
   |none=>rfl
   |some q=>simp;omega
def mu(k:Y):aZ ([]:ab (Y×U)) k=none:=rfl
def kE(p:Y×U)(l:ab (Y×U))(k:Y):aZ (p::l) k=if k=p.1 then some p.2 else aZ l k:=by
 unfold aZ;simp only[hd];split
 .rfl
 .rw[x1 k l (0+1)];cases hd k l 0<;>simp
def qC(k:Y)(v:U):bA ([]:ab (Y×U)) k v=[(k,v)]:=rfl
def lB(p:Y×U)(l:ab (Y×U))(k:Y)(v:U):bA (p::l) k v=if k=p.1 then(k,v)::l else p::bA l k v:=by
 unfold bA;simp only[hd];by_cases h:k=p.1
 .simp[h]
 .rw[aG h,aG h,x1 k l (0+1)];cases hd k l 0 with
  |none=>simp
  |some q=>simp
def gX(l:ab (Y×U))(k T:Y)(v:U):aZ (bA l k v) T=if T=k then some v else aZ l T:=by
 induction l with
 |nil=>rw[qC,kE]
 |cons p l X=>
  rw[lB];by_cases h:k=p.1
  .rw[aJ h,kE,kE];by_cases f:T=k
   .simp[f]
   .rw[aG f,aG f,aG (by rw[<-h];exact f)]
  .rw[aG h,kE,kE,X];by_cases f:T=k
   .subst f;simp[h]
   .simp[f]
def ns(l:ab (Y×U))(k:Y):Nat:=match hd k l 0 with|some (i,_)=>i|none=>l.length
def al8(l:ab (Y×U))(k:Y)(v:U):(bA l k v)[ns l k]?=some (k,v):=by
 unfold bA ns;cases h:hd k l 0 with
 |none=>simp
 |some p=>
  have:=(xY h).2;simp only[CM]at this;have i:=(cF.1 this).1;simp[i]
def ams(l:ab (Y×U))(k:Y)(R v:U):(bA l k R).set (ns l k) (k,v)=bA l k v:=by
 unfold bA ns;cases h:hd k l 0 with
 |none=>simp
 |some p=>simp
variable{b8:Y->aj}{aU:U->aj}{Z:a8}
variable{r:aT Nat}{an:bJ}{ao J:ab ay}{w:a2}{l:ab (Y×U)}
variable{dst:Nat}{ba:a8}{bd:String}
def zV(w:a2)(b:Nat)(l:ab (aj×aj))(i s:Nat):Prop:=
 ∃m N,w.heap[b]?=some (.map m N)/\m.toList.map (λe=>(e.key,e.val))=l/\(∀e,e∈m.toList->e.born<N)/\(m.toList.map (·.born)).Nodup/\(m.toList.map (·.born))[i]?=some s
@[irreducible] def x2(b:Nat)(l:List (Value×Value))(i s:Nat):ay where
 gJ:=[b]
 holds w:=zV w b l i s
 loc w jk h cE:=by obtain⟨es,tz,bN,rest⟩:=cE;exact⟨es,tz,TO,rest⟩
 lt w h x b6:=by
  have:x=b:=TU
  subst this;exact Ug
def ae8(b l i s):(x2 b l i s).gJ=[b]:=by unfold x2;rfl
def CO(b l i s w):(x2 b l i s).holds w↔zV w b l i s:=by unfold x2;rfl
def sj(b8:Y->aj)(aU:U->aj)(b:Nat)(l:ab (Y×U))(k:Y)(R:U)(s:Nat):ay:=x2 b ((bA l k R).map λp=>(b8 p.1,aU p.2)) (ns l k) s
omit[DecidableEq Y]in
def GM(b:Nat):(bz b8 aU b l).gJ=[b]:=by unfold bz;rw[uW]
def GN(b:Nat)(k:Y)(R:U)(s:Nat):(sj b8 aU b l k R s).gJ=[b]:=by unfold sj;rw[ae8]
def H.aaX{e M:ay}{o:Obj}(h:H W D ao w)(u:aB ao e M J)(c:e.gJ=[b])(j:M.gJ=[b])(a:M.holds (w.putObj b o)):H W D J (w.putObj b o):=by
 refine h.o8 u ⟨λx N=>?_,by simp[br,j],λx N=>?_,λk T y=>?_,VK,rfl,rfl,rfl,cx _⟩
 .obtain rfl:x=_:=by simpa using N
  exact a
 .left;rw[c];simpa[br,j]using N
 .exact vZ (by simpa[c]using y)
def adW{t e:a8}(c:U)(T:hW P Z b8)(f:hX P t Z e=true)(a:∀w,(zeroValue e).run P w=.ok (aU c) w){k:Y}(h:sh w b (l.map λp=>(b8 p.1,aU p.2))):∃o s,(Instr.mapEntry t (.map (some b)) (b8 k)).run P w=.ok (.tuple #[aU ((aZ l k).getD c),I (s:Nat)]) (w.putObj b o)/\zV (w.putObj b o) b ((bA l k ((aZ l k).getD c)).map λp=>(b8 p.1,aU p.2)) (ns l k) s:=by
 obtain⟨m,L,X,u,N,K⟩:=h;have R:=(pT.1 X).1;have Ye:∀o,(setObj b o).run P w=.ok () (w.putObj b o):=λo=>by simp[setObj,Sem.run,X,World.putObj]
 have Yi:m.toList.length=l.length:=MR
 unfold Instr.mapEntry bA ns aZ;simp only[cW,eD (tA f),ed,uX X,T.check,wr T k w u];cases Q:hd k l 0 with
 |none=>
  refine⟨.map (m.push {key:=b8 k,val:=aU c,born:=L}) (L+1),L,by simp[Ye,a,goInt],?_⟩;refine⟨_,_,tu R,by simp[u],?_,?_,?_⟩
  .intro x M;simp only[zT,eh,fF]at M;rcases M with M|rfl
   .have:=N x M;omega
   .simp
  .simp only[zT,hJ,eE,lq];rw[gr];refine⟨K,VK,?_⟩;intro x M y F;simp only[fF]at F;subst F;obtain⟨z,a,rfl⟩:=dQ.1 M;have:=N z a;omega
  .simp only[zT,hJ,eE,lq];have E:m.size=l.length:=by simpa using Yi
   rw[iC (by simp[E])];simp[E]
 |some q=>
  obtain⟨i,d⟩:=q;have am:=(xY Q).2;simp only[CM]at am;have Yf:=(cF.1 am).1;have Yg:i<m.size:=by rw[<-pg,Yi];exact Yf
  have Yj:∃x,m[i]?=some x:=⟨_,CP Yg⟩
  obtain⟨oH,g⟩:=Yj;have G:(m.toList.map (λe=>(e.key,e.val)))[i]?=some (b8 k,aU d):=by rw[u];simp[am]
  have Yh:m.toList[i]?=some oH:=Ra
  have Yc:oH.key=b8 k:=by rw[h5,Yh]at G;simp at G;exact G.1
  have Yk:oH.val=aU d:=by rw[h5,Yh]at G;simp at G;exact G.2
  refine⟨.map (m.modify i λe=>{e with key:=b8 k}) L,oH.born,?_,?_⟩
  .simp[g,Yc,Instr.keyThatStays,T.bits k,Ye,goInt]
  .refine⟨_,_,tu R,?_,?_,?_,?_⟩
   .rw[rm];apply pi;intro j;have v:(m.toList.map (λe=>(e.key,e.val)))[j]?=(l.map λp=>(b8 p.1,aU p.2))[j]?:=by rw[u]
    simp only[h5,si,i2,p2,Option.getD_some]at v⊢;by_cases e:i=j
    .subst e;simp[Yh,Yf,Yk]
    .simp only[e,iH];cases aV:m.toList[j]? with
     |none=>rw[aV]at v;simpa using v
     |some x=>rw[aV]at v;simpa using v
   .intro x M;rw[rm]at M;obtain⟨j,v⟩:=tB M;rw[si]at v;cases aV:m.toList[j]? with
    |none=>rw[aV]at v;simp at v
    |some y=>
     rw[aV]at v;have F:=N y (im aV);split at v<;>(simp only[GI,p2,fj]at v;subst v;exact F)
   .have:(m.modify i λe=>{e with key:=b8 k}).toList.map (·.born)=m.toList.map (·.born):=by
     rw[rm];apply pi;intro j;simp only[h5,si];cases m.toList[j]? with
     |none=>rfl
     |some y=>split<;>rfl
    rw[this];exact K
   .rw[rm];simp only[h5,si,Yh];simp
def ak1{t:a8}{s:Nat}{k:Y}{R v:U}(h:zV w b ((bA l k R).map λp=>(b8 p.1,aU p.2)) (ns l k) s):∃o,(Instr.entryStore t (.map (some b)) (I (s:Nat)) (aU v)).run P w=.ok () (w.putObj b o)/\sh (w.putObj b o) b ((bA l k v).map λp=>(b8 p.1,aU p.2)):=by
 obtain⟨m,g,X,u,N,K,G⟩:=h;have T:=(pT.1 X).1;have d:∀o,(setObj b o).run P w=.ok () (w.putObj b o):=λo=>by simp[setObj,Sem.run,X,World.putObj]
 have Q:=al8 l k R;have Yi:=(cF.1 Q).1;have Ye:m.toList.length=(bA l k R).length:=MR
 have f:ns l k<m.size:=by rw[<-pg,Ye];exact Yi
 have Yg:∃x,m[ns l k]?=some x:=⟨_,CP f⟩
 obtain⟨c,E⟩:=Yg;have L:m.toList[ns l k]?=some c:=by simpa using E
 have Yh:c.born=s:=by rw[h5,L]at G;simpa using G
 have Yf:m.findIdx? (λe=>(e.born:Int)==(s:Int))=some (ns l k):=by
  cases aV:m.findIdx? (λe=>(e.born:Int)==(s:Int))with
  |none=>
   have:=Array.findIdx?_eq_none_iff.1 aV c (th E);rw[Yh]at this;simp at this
  |some j=>
   obtain⟨a,z,_⟩:=Array.findIdx?_eq_some_iff_getElem.1 aV;have Yj:m[j].born=s:=by
    have:((m[j].born:Nat):Int)=(s:Int):=Td
    exact_mod_cast this
   have Yc:(m.toList.map (·.born))[j]?=some s:=by
    rw[h5];have:m.toList[j]?=some m[j]:=by simp[a]
    rw[this];simp[Yj]
   have q:=(List.getElem?_inj (i:=j) (j:=ns l k) (by simpa using a) K).1 (by rw[Yc,G]);rw[q]
 refine⟨.map (m.modify (ns l k) λe=>{e with val:=aU v}) g,?_,?_⟩
 .unfold Instr.entryStore;simp only[cW,uX X,ed];simp[asInt,asIntOf,Yf,d]
 .refine⟨_,_,tu T,?_,?_,?_⟩
  .rw[rm,<-ams l k R v];apply pi;intro j;have a:(m.toList.map (λe=>(e.key,e.val)))[j]?=((bA l k R).map λp=>(b8 p.1,aU p.2))[j]?:=by rw[u]
   simp only[h5,si,i2]at a⊢;by_cases e:ns l k=j
   .subst e;rw[L,Q]at a;simp at a;simp[L,Yi,a.1]
   .simp only[e,iH];cases aV:m.toList[j]? with
    |none=>rw[aV]at a;simpa using a
    |some x=>rw[aV]at a;simpa using a
  .intro x M;rw[rm]at M;obtain⟨j,a⟩:=tB M;rw[si]at a;cases aV:m.toList[j]? with
   |none=>rw[aV]at a;simp at a
   |some y=>
    rw[aV]at a;have F:=N y (im aV);split at a<;>(simp only[GI,p2,fj]at a;subst a;exact F)
  .have:(m.modify (ns l k) λe=>{e with val:=aU v}).toList.map (·.born)=m.toList.map (·.born):=by
    rw[rm];apply pi;intro j;simp only[h5,si];cases m.toList[j]? with
    |none=>rfl
    |some y=>split<;>rfl
   rw[this];exact K
def aw.Xb{t e:a8}{x y:bj}{k:Y}{l:ab (Y×U)}{J:Nat->ab ay}(M:U)(i:hW P Z b8)(f:hX P t Z e=true)(v:∀w,(zeroValue e).run P w=.ok (aU M) w)(N:aR an x=some (.map (some b)))(F:aR an y=some (b8 k))(X:∀s,aB ao (bz b8 aU b l) (sj b8 aU b l k ((aZ l k).getD M) s) (J s))(T:∀s:Nat,C ((dst,.tuple #[aU ((aZ l k).getD M),I (s:Int)])::an) (J s))(c:Nat.blt dst n.n=true:=by exact rfl):aw P r W D n ⟨some dst,.mapEntry t x y,ba,bd,be,aW⟩ an ao C:=aw.of λK Q u a w p m=>by
 have E:bz b8 aU b l∈ao:=by obtain⟨l,r,rfl,_⟩:=(X 0).split;simp
 have h:=m.mem E;unfold bz at h;rw[qy]at h;obtain⟨o,s,x,a⟩:=adW (k:=k) M i f v h;refine kh rfl ?_ (u _ _ (T s) _ _ (p.put c _) (H.aaX m (X s) (GM b) (GN b k _ s) (by unfold sj;rw[CO];exact a)));simp only[execOp,p.eval N,p.eval F,cW,x,ed,eW]
def aw.XG{t:a8}{x y z:bj}{s:Nat}{k:Y}{R v:U}{l:ab (Y×U)}(N:aR an x=some (.map (some b)))(F:aR an y=some (I (s:Int)))(p:aR an z=some (aU v))(X:aB ao (sj b8 aU b l k R s) (bz b8 aU b (bA l k v)) J)(T:C an J):aw P r W D n ⟨none,.entryStore t x y z,ba,bd,be,aW⟩ an ao C:=aw.of λK Q u a w c m=>by
 have E:sj b8 aU b l k R s∈ao:=by obtain⟨l,r,rfl,_⟩:=X.split;simp
 have h:=m.mem E;unfold sj at h;rw[CO]at h;obtain⟨o,x,a⟩:=ak1 (P:=P) (t:=t) (v:=v) h;refine uJ rfl ?_ (u _ _ T _ _ (c.W1 undef) (H.aaX m X (GN b k R s) (GM b) (by unfold bz;rw[qy];exact a)));simp only[execOp,c.eval N,c.eval F,c.eval p,cW,x,ed,eW]
def aN.Wj{l:ab (Y×U)}{t e:a8}{x y:bj}{k:Y}(p:U)(i:hW P Z b8)(f:hX P t Z e=true)(v:∀w,(zeroValue e).run P w=.ok (aU p) w)(N:aR an x=some (.map (some b)))(K:aR an y=some (b8 k))(F:bz b8 aU b l∈ao):aN P n an ao ⟨some dst,.lookup t x y false,ba,bd,be,aW⟩ (aU ((aZ l k).getD p)):=by
 have h:=aN.look (P:=P) (n:=n) (an:=an) (ao:=ao) (dst:=dst) (ba:=ba) (bd:=bd) (be:=be) (aW:=aW) (l:=l) (k:=k) i f v N K F;cases G:aZ l k with
 |none=>rw[G]at h;exact h
 |some v=>rw[G]at h;exact h
def aN.acB{l:ab (Y×U)}{t e:a8}{x y:bj}{s:Nat}{k:Y}{R:U}(i:hW P Z b8)(f:hX P t Z e=true)(N:aR an x=some (.map (some b)))(K:aR an y=some (b8 k))(F:sj b8 aU b l k R s∈ao):aN P n an ao ⟨some dst,.lookup t x y false,ba,bd,be,aW⟩ (aU R):=aN.of λa w p b=>by
 have h:=b.get _ F;unfold sj at h;rw[CO]at h;obtain⟨m,M,X,u,_⟩:=h;have G:aZ (bA l k R) k=some R:=by rw[gX];simp
 unfold aZ at G;obtain⟨q,aV,b⟩:=qs.1 G;simp only[execOp,p.eval N,p.eval K];unfold Instr.lookup;simp only[cW,eD (tA f),ed,uX X,eW,i.check,wr i k w u,aV,p2,b];simp
end
section
variable{r:aT Nat}{Z:Region.Mode}
def zW(Z:Region.Mode)(U:Array cc):Nat->Nat->Nat->Bool
 |0,_,_=>false
 |f+1,j,i=>match U[j]? with
  |some m=>m.after.any λe=>Region.binds Z e&&(e.on==i||zW Z U f e.on i)
  |none=>false
def GO(Z:Region.Mode)(U:Array cc)(N:ab Nat)(i:Nat):Bool:=N.all λj=>zW Z U 12 j i
def GP{Y:Array Bool}(L:qt Z U Y){i:Nat}:∀(f:Nat) {j:Nat},(∀m,U[j]?=some m->∀e∈m.after,Region.binds Z e=true->Y.getD e.on false=true)->zW Z U f j i=true->Y.getD i false=true
 |0,_,_,h=>VL
 |f+1,j,w,h=>by
  unfold zW at h;split at h
  .rename_i m a;obtain⟨e,v,o⟩:=F9.1 h;simp only[c1,hc,c9]at o;have g:=w m a e v o.1;rcases o.2 with d|d
   .rw[<-d];exact g
   .exact GP L f (λy c t p z=>L e.on y c g t p z) d
  .cases h
def Any.acC{S T:a2->Prop}{N:ab Nat}{i:Nat}{gt:cc}{v:aj}(am:U[i]?=some gt)(Ye:v2 U=true)(c:GO Z U N i=true):∀(J:Nat) (Y:Array Bool) (a:Act) (w:a2),(∀j eF,U[j]?=some eF->j≠i->Y.getD j true=false->(∀e∈eF.after,Region.binds Z e=true->e.on≠i)->gt.apart U eF=true)->i∈Region.ready Z U Y->qt Z U Y->pf P U S gt v a->S w->T w->Any P r Z U (tg M) S T N J (Y.setIfInBounds i true) (a.put gt.dst v) w->Any P r Z U (tg M) S T N (J+1) Y a w:=by
 have Ym:∀(j:Nat) (eF:cc),U[j]?=some eF->kW eF.op=true/\∀cs b,eF.op≠.select cs b:=λj eF l=>by have:=zy.1 Ye eF (th l);exact Uh
 intro J;induction J with
 |zero=>
  intro Y a w _ y _ f x eo H;refine⟨λh=>RV,λj l=>?_⟩;by_cases Yf:j=i
  .subst Yf;exact f.kX am x ⟨eo,λ_ _=>x,H⟩
  .have:=ti l Yf;rw[H.1]at this;cases this
 |succ J s=>
  intro Y a w Yp y Yh f x eo H;have Yi:=(r8.1 y).1;refine⟨λh=>RV,λj l=>?_⟩;by_cases Yf:j=i
  .subst Yf;exact f.kX am x ⟨eo,λ_ _=>x,H⟩
  .have g:=H.2 j (ti l Yf);obtain⟨Yq,eF,Yj,Yg⟩:=r8.1 l;have Yn:∀e∈eF.after,Region.binds Z e=true->e.on≠i:=λe m L Yo=>by
    have g:=Yg e m L;rw[Yo]at g;rcases o9 i Y.size with hH|hH
    .simp[hH]at Yi g;rw[Yi]at g;cases g
    .simp[zG hH]at g
   have Yt:N.contains j=false:=by
    cases z:N.contains j with
    |false=>rfl
    |true=>
     have o:j∈N:=Td
     have:=hk.1 c j o;have p:=GP Yh 12 (λYu Yk=>by rw[Yj]at Yk;cases Yk;exact Yg) this;rcases o9 i Y.size with hH|hH
     .simp[hH]at Yi p;rw[Yi]at p;cases p
     .simp[zG hH]at p
   have d:=Cj Yj (Yp j eF Yj Yf Yq Yn) (Ym i gt am).2 (Ym j eF Yj).2 (Ym j eF Yj).1 f g;have Yr:∀k ok,U[k]?=some ok->k≠i->(Y.setIfInBounds j true).getD k true=false->
     (∀e∈ok.after,Region.binds Z e=true->e.on≠i)->gt.apart U ok=true:=λk ok t Ys Yi Yc=>by
    refine Yp k ok t Ys ?_ Yc
    by_cases Yl:j=k
    .subst Yl;exact Yq
    .rw[getD_set_ne true Yl]at Yi;exact Yi
   refine Ck (λf g p=>⟨p.2.1,p.2.2.1,s (Y.setIfInBounds j true) f g Yr (ti y (ox Yf)) (Yh.step l) p.1 (p.2.2.1 x Yt) p.2.1 ?_⟩) d;rw[Ga _ _ Yf];exact p.2.2.2
end
section
variable{r:aT Nat}{C:bJ}{G:ab ay}
variable{F T:ab ay}{N:ab Nat}
variable{K:Nat}{E:Op}{q:a8}{X:String}{R:Array Edge}{u:aT (Nat×Bool)}
def GQ(U:Array cc)(N:ab Nat)(Y:Array Bool)(i:Nat):Bool:=
 v2 U&&GO .any U N i&&Region.free .any U Y i&&(Region.ready .any U Y).contains i&&Cl .any U Y
def af.Zu{v:aj}(i:Nat)(am:U[i]?=some ⟨some K,E,q,X,R,u⟩)(g:aN P n C F ⟨some K,E,q,X,R,u⟩ v)(h:af P r W D n U M F T N true J (Y.setIfInBounds i true) ((K,v)::C) G)(f:GQ U N Y i=true:=by kernel_rfl)(L:hT C U u=some true:=by exact rfl)(l:kW E=true:=by exact rfl)(c:Nat.blt K n.n=true:=by exact rfl):af P r W D n U M F T N true (J+1) Y C G:=by have i:=g.get;unfold af at h⊢;intro a w p b j y;simp only[GQ,c1]at f;obtain⟨⟨⟨⟨g,d⟩,o⟩,m⟩,t⟩:=f;exact Any.acC am g d J Y a w (Cn am o) (by simpa using m) (qt.of t) (.inl ⟨r4 p L,l,λf z=>i a f p z⟩) (y rfl) j (h _ _ (p.put c v) b j y)
end
section
variable{X F:Type}
variable{b8:X->aj}{aU:F->aj}
variable{r:aT Nat}{U:bJ}{M:ab ay}{w:a2}{l Y:ab (X×F)}
variable{u:a8}{E:aT (Nat×Bool)}
def zX(w:a2)(b q:Nat)(l Y:ab (aj×aj))(s:aT (aj×aj)):Prop:=
 ∃m K i seen g,w.heap[b]?=some (.map m K)/\m.toList.map (λe=>(e.key,e.val))=l/\(∀e,e∈m.toList->e.born<K)/\(m.toList.map (·.born)).Nodup/\
  w.heap[q]?=some (.mapIter (some b) i seen g)/\(∀e,e∈m.toList->e.born<i)/\i<=g/\i<=K/\(leftOf m seen).toList.map (λe=>(e.key,e.val))=Y/\
  ∀p,s=some p->g=K/\∃(e:MapEntry) (i:Array Nat),e∈m.toList/\seen=i.push e.born/\(e.key,e.val)=p
@[irreducible] def x3(b q:Nat)(l Y:List (Value×Value))(last:Option (Value×Value)):ay where
 gJ:=[b,q]
 holds w:=zX w b q l Y last
 loc w jk h cE:=by obtain⟨es,tz,GR,seen,eR,bN,bf,bW,cd,aV,rest⟩:=cE;exact⟨es,tz,GR,seen,eR,TO,bf,bW,cd,by rw[h q VK];exact aV,rest⟩
 lt w h x b6:=by
  obtain⟨es,tz,GR,seen,eR,bN,bf,bW,cd,aV,rest⟩:=h;have:x=b\/x=q:=TU
  rcases this with rfl|rfl
  .exact(Array.getElem?_eq_some_iff.1 bN).1
  .exact(Array.getElem?_eq_some_iff.1 aV).1
def afi(b q l Y s):(x3 b q l Y s).gJ=[b,q]:=by unfold x3;rfl
def wu(b q l Y s w):(x3 b q l Y s).holds w↔zX w b q l Y s:=by unfold x3;rfl
def lC(b8:X->aj)(aU:F->aj)(b q:Nat)(l Y:ab (X×F))(s:aT (X×F)):ay:=x3 b q (l.map λp=>(b8 p.1,aU p.2)) (Y.map λp=>(b8 p.1,aU p.2)) (s.map λp=>(b8 p.1,aU p.2))
def wv(b q:Nat){s:aT (X×F)}:(lC b8 aU b q l Y s).gJ=[b,q]:=by unfold lC;rw[afi]
def GS(b:Nat):(bz b8 aU b l).gJ=[b]:=by unfold bz;rw[uW]
def zX.ne{l Y:ab (aj×aj)}{s:aT (aj×aj)}(h:zX w b q l Y s):b≠q:=by obtain⟨m,o,i,seen,f,g,K,R,d,aV,x⟩:=h;rintro rfl;rw[g]at aV;cases aV
def H.Zv{s:aT (X×F)}(h:H W D (lC b8 aU b q l Y s::Z) w):H W D (bz b8 aU b l::Z) w:=by
 have R:=h.gq _ (er ..);unfold lC at R;rw[wu]at R;have c:(br (bz b8 aU b l::Z)).Sublist (br (lC b8 aU b q l Y s::Z)):=by rw[jl,jl,wv,GS];exact List.Sublist.append (qD _ (List.nil_sublist _)) (vR _)
 refine⟨λe j=>?_,h.nodup.sublist c,λx K=>h.own x (c.subset K),h.cu,h.size,h.os,h.tape,h.output,h.pP⟩;rcases cQ.1 j with rfl|j
 .unfold bz;rw[qy];obtain⟨m,o,i,seen,f,g,K,q,d,aV,x⟩:=R;exact⟨m,o,g,K,q,d⟩
 .exact h.gq e (e0 _ j)
def Out.Zv{e:dY}{s:aT (X×F)}(h:Out W D n Q e U (bz b8 aU b l::Z)):Out W D n Q e U (lC b8 aU b q l Y s::Z):=Out.iE (λ_ s=>s.Zv) h
def aw.aaY{t e:a8}{x:bj}{M:Nat->ab ay}(j:hX P t T e=true)(g:aR U x=some (.map (some b)))(f:∀q,aB Z (bz b8 aU b l) (lC b8 aU b q l l none) (M q))(s:∀q,C ((J,av q 0)::U) (M q))(m:Nat.blt J n.n=true:=by exact rfl):aw P r W D n ⟨some J,.range t x,u,N,G,E⟩ U Z C:=aw.of λK Q Yh a w y i=>by
 have Yf:bz b8 aU b l∈Z:=by obtain⟨l,r,rfl,_⟩:=(f 0).split;simp
 have h:=i.mem Yf;unfold bz at h;rw[qy]at h;obtain⟨es,Ye,o,z,R,d⟩:=h;have Yc:=(pT.1 o).1;have Yg:=run_range_map (P:=P) w t T e b es Ye (tA j) o;refine kh (t:=w.alloc (.mapIter (some b) Ye #[] Ye)) rfl ?_ (Yh _ _ (s w.heap.size) _ _ (y.put m _) ?_)
 .simp only[execOp,y.eval g,cW,Yg,ed,eW]
 .refine i.o8 (f _) ⟨λx g=>?_,?_,λx g=>?_,λk L c=>MapKept.heap_alloc w _|>.2 k L,VK,rfl,rfl,rfl,cx _⟩
  .obtain rfl:x=_:=by simpa using g
   unfold lC;rw[wu];refine⟨es,Ye,Ye,#[],Ye,((MapKept.heap_alloc w _).2 b Yc).trans o,z,R,d,Gu _ _,R,cx _,cx _,?_,λp v=>by cases v⟩;rw[<-z];congr 1;unfold leftOf;rw[zY,ww];intro x _;simp
  .simp only[br,fW,nY,db,wv,ki,cQ,kq,gl,rh,mT,nm];omega
  .simp only[br,fW,nY,db,wv,cQ,kq,gl]at g;rcases g with rfl|rfl
   .left;rw[GS];simp
   .exact .inr (cx _)
def ai1{seen:Array Nat}{e:MapEntry}(y:(m.toList.map (·.born)).Nodup){j:Nat}(v:(leftOf m seen).toList[j]?=some e):(leftOf m (seen.push e.born)).toList=(leftOf m seen).toList.eraseIdx j:=by
 have K:(leftOf m (seen.push e.born)).toList=(leftOf m seen).toList.filter (λx=>!(x.born==e.born)):=by unfold leftOf;rw[zY,zY,List.filter_filter];congr 1;funext x;simp only[Array.contains_push,Bool.not_or];rw[Bool.and_comm]
 rw[K];have i:((leftOf m seen).toList.map (·.born)).Nodup:=by unfold leftOf;rw[zY];exact y.sublist (List.Sublist.map _ CQ)
 generalize(leftOf m seen).toList=L at v i;clear K y;induction L generalizing j with
 |nil=>simp at v
 |cons x L R=>
  simp only[eE,ki]at i;cases j with
  |zero=>
   simp only[ra,fj]at v;subst v;rw[ro,aG VK,List.eraseIdx_cons_zero,ww];intro y K;have:y.born≠x.born:=λq=>i.1 (by rw[<-q];exact dQ.2 ⟨y,K,rfl⟩);simpa using this
  |succ j=>
   rw[pV]at v;have K:x.born≠e.born:=λq=>i.1 (by rw[q];exact dQ.2 ⟨e,im v,rfl⟩);rw[ro,aJ (by simpa using K),CF,R v i.2]
def aw.aaZ{x:bj}{Ye:aT (X×F)}(g:aR U x=some (av q 0))(f:lC b8 aU b q l [] Ye∈Z)(z:C ((J,.tuple #[.bool false])::U) Z)(c:Nat.blt J n.n=true:=by exact rfl):aw P r W D n ⟨some J,.next x false,u,N,G,E⟩ U Z C:=aw.of λK Q Yh a w p m=>by
 have h:=m.mem f;unfold lC at h;rw[wu]at h;obtain⟨k,Yc,Yg,seen,y,o,R,d,L,aV,i,v,jr,s,_⟩:=h;simp only[lq,CR]at s;rcases run_next_at (P:=P) w u q b Yg y seen k Yc aV o i v with⟨t,Yf⟩|⟨e,j,_⟩
 .refine kh rfl ?_ (Yh _ _ z _ _ (p.put c _) m);simp only[execOp,p.eval g,cW,Yf,ed,eW]
 .rw[s]at j;cases j
def aw.aa0{x:bj}{Yh:aT (X×F)}{M:Nat->X×F->ab ay}(z:Y≠[])(g:aR U x=some (av q 0))(f:∀j p,aB Z (lC b8 aU b q l Y Yh) (lC b8 aU b q l (Y.eraseIdx j) (some p)) (M j p))(dG:∀j p,Y[j]?=some p->C ((J,.tuple #[.bool true,b8 p.1,aU p.2])::U) (M j p))(s:Nat.blt J n.n=true:=by exact rfl):aw P r W D n ⟨some J,.next x false,u,N,G,E⟩ U Z C:=aw.of λK Q Yl a w m cr=>by
 have Yq:∃p,p∈Y:=List.exists_mem_of_ne_nil _ z;have Yg:lC b8 aU b q l Y Yh∈Z:=by obtain⟨p,_⟩:=Yq;obtain⟨l,r,rfl,_⟩:=(f 0 p).split;simp
 have h:=cr.mem Yg;unfold lC at h;rw[wu]at h;have Ye:=h.ne;obtain⟨es,Yf,Yk,seen,eR,o,R,d,t,aV,gw,jJ,jr,lD,_⟩:=h;rcases run_next_at (P:=P) w u q b Yk eR seen es Yf aV o gw jJ with⟨Yr,Yi⟩|⟨e,y,fi,Yo,Yi⟩
 .exfalso;have:leftOf es seen=#[]:=Array.eq_empty_of_size_eq_zero Yr;rw[this]at lD;simp at lD;exact z lD
 .obtain⟨j,c⟩:=tB y;have mv:(Y.map λp=>(b8 p.1,aU p.2))[j]?=some (e.key,e.val):=by rw[<-lD,h5,c];rfl
  rw[h5]at mv;obtain⟨p,v,Yn⟩:=qs.1 mv;simp only[nV]at Yn;have Yp:=Yi;rw[<-Yn.1,<-Yn.2]at Yp;have Yj:H W D Z fi:=by
   rcases Yo with rfl|rfl
   .exact cr
   .exact cr.drew
  have Ys:fi.heap[q]?=some (.mapIter (some b) Yk seen eR):=by rcases Yo with rfl|rfl<;>exact aV
  have Ym:fi.heap[b]?=some (.map es Yf):=by rcases Yo with rfl|rfl<;>exact o
  have Yc:=(pT.1 Ys).1;refine kh rfl ?_ (Yl _ _ (dG j p v) _ _ (m.put s _) (Yj.o8 (fi:=fi.putObj q (.mapIter (some b) Yk (seen.push e.born) Yf)) (f j p) ?_))
  .simp only[execOp,m.eval g,cW,Yp,ed,eW];rfl
  .refine⟨λx g=>?_,?_,λx g=>?_,λk L i=>?_,VK,rfl,rfl,rfl,cx _⟩
   .obtain rfl:x=_:=by simpa using g
    unfold lC;rw[wu];refine⟨es,Yf,Yk,seen.push e.born,Yf,(vZ Ye).trans Ym,R,d,t,tu Yc,gw,jr,jr,?_,λf q=>⟨rfl,e,seen,?_,rfl,?_⟩⟩;rotate_left
    .unfold leftOf at y;rw[zY]at y;exact(mU.1 y).1
    .simp only[p2,fj]at q;rw[<-q,Yn.1,Yn.2]
    rw[ai1 t c,CS,lD,<-CS]
   .simp only[br,fW,nY,db,wv,ki,cQ,kq,gl,rh,mT,nm];exact Ye
   .left;simpa[br,wv]using g
   .exact vZ (by simp only[wv,cQ,kq,gl,nt]at i;exact i.2)
def aN.Xb{x:bj}{p:X×F}(R:aR U x=some (av q 0))(d:lC b8 aU b q l Y (some p)∈Z):aN P n U Z ⟨some J,.entry x,u,N,G,E⟩ (.tuple #[b8 p.1,aU p.2]):=aN.of λa w y m=>by have h:=m.get _ d;unfold lC at h;rw[wu]at h;obtain⟨k,Yc,Ye,seen,L,f,K,g,o,aV,i,t,s,c,v⟩:=h;obtain⟨rfl,e,Yf,j,rfl,z⟩:=v _ rfl;simp only[nV]at z;have s:=run_entry_at (P:=P) w q b Ye Yf k L e aV f j o;rw[z.1,z.2]at s;simp only[execOp,y.eval R,cW,s,ed,eW]
end
section
variable{r:aT Nat}{U:bJ}
end
def zZ(P:b1)(s f off T:Nat):Bool:=match P.underlying s with
 |some (.struct a)=>match a[f]? with
  |some q=>q.offset==off&&q.type==T
  |none=>false
 |_=>false
def V.Xn(ad:cj P){U:bJ}{u:a8}{E:aT (Nat×Bool)}{s f off T:Nat}{x:bj}{cs c:ab aj}(R:aR U x=some (A cs))(k:zZ P s f off T=true)(K:bT ad.agg T=some q:=by exact rfl)(d:Nat.ble (off+q) cs.length=true:=by exact rfl)(o:fk off q cs c:=by infer_instance):aN P n U Z ⟨some J,.field s x f,u,N,G,E⟩ (A c):=aN.of λa w p _=>by
 unfold zZ at k;split at k
 .rename_i y z;split at k
  .rename_i j v;simp only[c1,c9]at k;obtain⟨g,L⟩:=k;have t:jD P T off cs (A c):=jD.agg (ad.WC K) d o.eq;have am:(Instr.field s (A cs) f).run P w=.ok (A c) w:=by unfold Instr.field;simp only[cW,eD z,ed,v,asAgg,eW,g,L,t.part w]
   simp only[execOp,p.eval R,am,cW,ed,eW]
  .cases k
 .cases k
section
variable{r:aT Nat}{Y:bJ}{J:ab ay}{M:Type}{f:M->ab aj}
variable{U:Nat}{F:a8}{T:Array Edge}
def V.aa1(ad:cj P){t e:a8}{x:bj}{c:aT Addr}{L Q:Nat}(K:aR Y x=some (.slice c L Q):=by exact rfl)(o:bT ad.fw t=some e:=by exact rfl):aN P n Y J ⟨some U,.call ⟨.builtin .cap,#[x],#[t]⟩,F,N,T,X⟩ (I (Q:Int)):=aN.of λa w p _=>by
 have g:(Builtin.cap_ #[t] F #[.slice c L Q]).run P w=.ok (I (Q:Int)) w:=by simp[Builtin.cap_,eD (gV (ad.V8 o)),goInt]
 simp only[execOp,resolve,invoke,builtin,tF,eE,lq,p.eval K,cW,eW,ed,g]
def x4{g E R o Q:Nat}{l:ab M}{w:a2}(h:(rows f (.slice (some ⟨g,0,none⟩) o Q) E R l).holds w):l.length=o/\∃L:Array aj,w.heap[g]?=some (.cells L E (0,0))/\o<=Q/\Q<=maxLen/\L.size=Q*R/\L.toList.take (o*R)=l.flatMap f:=by
 rw[fM,i0]at h;rcases h.2 with⟨j,_⟩|⟨k,i,L,j,_,G,t,d,u,q⟩
 .cases j
 .simp only[sb,fj,xS]at j;obtain⟨⟨rfl,_⟩,rfl,rfl⟩:=j;exact⟨rfl,L,G,t,d,u,q⟩
def CT{g Q o R:Nat}(h:o<Q):partAt (some ⟨g,0,none⟩) Q o R=some ⟨g,o*R,none⟩:=MK
def GU{g E R o i:Nat}{l:ab M}{w:a2}{L:Array aj}(v:∀x,(f x).length=R)(G:w.heap[g]?=some (.cells L E (0,0)))(Q:L.toList.take (o*R)=l.flatMap f)(am:i<=l.length):∀(k:Nat) (u:aj),((l.drop i).flatMap f)[k]?=some u->w.cell? ((⟨g,i*R,none⟩:Addr).add k)=some u:=by
 intro k u K;rw[<-wt v l i am,l0,<-Q,mN]at K;split at K
 .have q:L[i*R+k]?=some u:=by simpa using K
  simp only[we,World.cell?,G];simpa using q
 .cases K
def Mh(A B E:ab aj)(m:Nat)(h:A.length+B.length<=m):(A++(B++E)).take m=A++(B++E.take (m-(A.length+B.length))):=by rw[sd,lr ac,sd,lr ac,Nat.sub_sub]
def aw.ZQ(ad:cj P){t cD E R hm g ce G o po:Nat}{x y:bj}{u:aj}{j s:ab M}(b6:aR Y x=some (.slice (partAt (some ⟨g,0,none⟩) G o R) b po))(fX:aR Y y=some u)(bV:cz P J f R cD u s)(dI:aB J (rows f (.slice (some ⟨g,0,none⟩) ce G) E R j) (rows f (.slice (some ⟨g,0,none⟩) ce G) E R (j.take o++(s++j.drop (o+s.length)))) Z)(Yf:s.length<=b)(ej:o+b<=ce)(Yh:o<G)(c:∀x,(f x).length=R)(v:jU f)(dG:C ((U,I (s.length:Int))::Y) Z)(du:Nat.blt U n.n=true:=by exact rfl)(cB:bT ad.fw t=some E:=by exact rfl)(l:bT ad.ht E=some R:=by exact rfl)(h:bT ad.mO E=some hm:=by exact rfl)(L:jm ad.jE E=some jo:=by exact rfl):aw P r W D n ⟨some U,.call ⟨.builtin .copy,#[x,y],#[t,cD]⟩,F,N,T,X⟩ Y J C:=aw.of λK Q cJ a w m i=>by
 obtain⟨tD,z,am,Yc,k,Ye,Yg⟩:=ad.info l h L;have d:rows f (.slice (some ⟨g,0,none⟩) ce G) E R j∈J:=LN
 obtain⟨z,L,bG,l,y,Q,q⟩:=x4 (i.mem d);have z:Src P R cD u s.length (s.flatMap f) w:=bV w i.hold;have p:L.toList.length=G*R:=by simpa using Q
 obtain⟨Q,d⟩:∃Q,Q=s.flatMap f:=⟨_,rfl⟩
 have a:Q.length=s.length*R:=by rw[d,lw c]
 have x:∀u∈Q,u.oneCell'=true:=by rw[d];exact hk.1 (v.flat _)
 have h:o*R+s.length*R<=G*R:=LI
 have v:=uH P g (o*R) E Q 0 L w bG (by simp only[hj,a];omega) x;simp only[hj]at v;rw[<-d]at z;have h:(Builtin.copy_ #[t,cD] F #[.slice (some ⟨g,o*R,none⟩) b po,u]).run P w=
   .ok (I (s.length:Int)) (w.setRow g (L.toList.take (o*R)++Q++L.toList.drop (o*R+Q.length)).toArray):=by
  have t:=z.cells
  rw[<-k]at t v⊢
  simp[Builtin.copy_,eD (gV (ad.V8 cB)),sizeOf,typeInfo,am,z.len,qw Yf,t,v,goInt]
 have t:(j.take o++(s++j.drop (o+s.length))).length=ce:=VG
 have z:(j.take o++(s++j.drop (o+s.length))).flatMap f=(j.take o).flatMap f++(Q++(j.drop (o+s.length)).flatMap f):=by rw[l3,l3,d]
 have K:L.toList.take (o*R)=(j.take o).flatMap f:=by rw[<-tC c j o ac,<-q,tE,qw (kY _ ac)]
 have b:o*R+s.length*R<=ce*R:=LI
 have d:ce*R<=G*R:=kY _ l;have d:(L.toList.drop (o*R+Q.length)).take (ce*R-(o*R+Q.length))=(j.drop (o+s.length)).flatMap f:=by rw[<-wt c j (o+s.length) ac,<-q,List.drop_take,a,fK]
 have l:H W D Z (w.setRow g (L.toList.take (o*R)++Q++L.toList.drop (o*R+Q.length)).toArray):=by
  refine H.Ya i dI t.symm ⟨lw c _,.inr ⟨g,G,_,rfl,cG _,r3 w g L _ E _ bG,by rw[t];omega,y,?_,?_⟩⟩
  .simp only[pW,bQ,e8,jn,p];omega
  .have v:(L.toList.take (o*R)).length=o*R:=by simp only[e8,p];omega
   rw[ck,t,Mh _ _ _ _ (by rw[v,a];omega),v,z,<-K,<-d]
 rw[CT Yh]at b6;refine kh (v:=I (s.length:Int)) rfl ?_ (cJ _ _ dG _ _ (m.put du _) l);simp only[execOp,resolve,invoke,builtin,tF,eE,lq,m.eval b6,m.eval fX,cW,eW,ed,h]
def aw.acD(ad:cj P){t E R hm g o d i z1 h Yw k:Nat}{x y:bj}{l:ab M}(b6:aR Y x=some (.slice (partAt (some ⟨g,0,none⟩) d (i+1) R) z1 Yw))(fX:aR Y y=some (.slice (partAt (some ⟨g,0,none⟩) d i R) h k))(dI:aB J (rows f (.slice (some ⟨g,0,none⟩) o d) E R l) (rows f (.slice (some ⟨g,0,none⟩) (o+1) d) E R (l.take (i+1)++l.drop i)) Z)(Yr:z1=o-i)(Ym:h=o+1-i)(am:i<o)(cN:o+1<=d)(s:∀x,(f x).length=R)(bf:jU f)(dG:C ((U,I ((o-i:Nat):Int))::Y) Z)(du:Nat.blt U n.n=true:=by exact rfl)(cB:bT ad.fw t=some E:=by exact rfl)(Yc:bT ad.ht E=some R:=by exact rfl)(Yl:bT ad.mO E=some hm:=by exact rfl)(Yo:jm ad.jE E=some jo:=by exact rfl):aw P r W D n ⟨some U,.call ⟨.builtin .copy,#[x,y],#[t,t]⟩,F,N,T,X⟩ Y J C:=aw.of λK Q cJ a w c0 cr=>by
 obtain⟨tD,z,Yu,Yf,Ye,Yg,Yp⟩:=ad.info Yc Yl Yo;have Yh:rows f (.slice (some ⟨g,0,none⟩) o d) E R l∈J:=LN
 obtain⟨Yq,j,bG,Yn,Yi,Yk,v⟩:=x4 (cr.mem Yh);have Yj:j.toList.length=d*R:=by simpa using Yk
 obtain⟨G,L⟩:∃G,G=(l.drop i).flatMap f:=⟨_,rfl⟩
 have b:G.length=(o-i)*R:=by rw[L,lw s,jn,Yq]
 have Yt:∀u∈G,u.oneCell'=true:=by rw[L];exact hk.1 (bf.flat _)
 have m:(i+1)*R+(o-i)*R=(o+1)*R:=by rw[<-fK];congr 1;omega
 have Yv:(o+1)*R<=d*R:=kY _ cN;have c:=uH P g ((i+1)*R) E G 0 j w bG T3 Yt;simp only[hj]at c;have Ys:=wg (P:=P) w R (o-i) ⟨g,i*R,none⟩ h k G b (by rw[L];exact GU s bG v ac);have c2:(Builtin.copy_ #[t,t] F #[.slice (some ⟨g,(i+1)*R,none⟩) z1 Yw,.slice (some ⟨g,i*R,none⟩) h k]).run P w=
   .ok (I ((o-i:Nat):Int)) (w.setRow g (j.toList.take ((i+1)*R)++G++j.toList.drop ((i+1)*R+G.length)).toArray):=by
  have Yx:Nat.min h z1=o-i:=by subst Yr Ym;exact Nat.min_eq_right ac
  rw[<-Ye]at Ys c⊢
  simp[Builtin.copy_,Builtin.lenOf,eD (gV (ad.V8 cB)),sizeOf,typeInfo,Yu,Yx,Ys,c,goInt]
 have t:(l.take (i+1)++l.drop i).length=o+1:=VG
 have q:(l.take (i+1)++l.drop i).flatMap f=(l.take (i+1)).flatMap f++G:=by rw[l3,L]
 have K:j.toList.take ((i+1)*R)=(l.take (i+1)).flatMap f:=by rw[<-tC s l (i+1) ac,<-v,tE,qw (kY _ ac)]
 have c:((l.take (i+1)).flatMap f).length=(i+1)*R:=by rw[lw s];congr 1;simp;omega
 have l:H W D Z (w.setRow g (j.toList.take ((i+1)*R)++G++j.toList.drop ((i+1)*R+G.length)).toArray):=by
  refine H.Ya cr dI t.symm ⟨lw s _,.inr ⟨g,d,_,rfl,cG _,r3 w g j _ E _ bG,by rw[t];omega,Yi,?_,?_⟩⟩
  .simp only[pW,bQ,e8,jn,Yj];omega
  .rw[t,q,K,<-m,<-b,<-c,<-bQ];exact pX
 rw[CT ac]at b6 fX;refine kh (v:=I ((o-i:Nat):Int)) rfl ?_ (cJ _ _ dG _ _ (c0.put du _) l);exact O0
def aw.acE(ad:cj P){t nu E o hm g Yc i k:Nat}{GV:IntKind}{x y:bj}{l:ab M}(p:M)(b6:aR Y x=some (.slice (some ⟨g,0,none⟩) i q))(fX:aR Y y=some (I (k:Int)))(dI:rows f (.slice (some ⟨g,0,none⟩) Yc q) E o l∈J)(am:i<=Yc)(ca:q<i+k)(Yq:i+k<=1000000)(h:∀x,(f x).length=o)(dG:∀jZ d,i+k<=d->C ((U,.slice (some ⟨jZ,0,none⟩) (i+k) d)::Y) (rows f (.slice (some ⟨jZ,0,none⟩) (i+k) d) E o (l.take i++List.replicate k p)::J))(du:Nat.blt U n.n=true:=by exact rfl)(cB:bT ad.fw t=some E:=by exact rfl)(YB:nk ad.ints nu=some GV:=by exact rfl)(Yg:bT ad.ht E=some o:=by exact rfl)(Yp:bT ad.mO E=some hm:=by exact rfl)(Yv:jm ad.jE E=some jo:=by exact rfl)(YE:jo=f p:=by exact rfl)(Yr:Nat.ble hm 1000000=true:=by exact rfl)(Yj:Nat.blt 0 o=true:=by exact rfl):aw P r W D n ⟨some U,.call ⟨.builtin .append,#[x,y],#[t,nu]⟩,F,N,T,X⟩ Y J C:=aw.of λK Q cJ a w c0 cr=>by
 obtain⟨L,z,YF,Yi,Yh,Yl,Yt⟩:=ad.info Yg Yp Yv;have YG:=pQ Yr;have m:0<o:=by simpa using Yj
 obtain⟨Yx,Yf,bG,Ys,Ym,Yn,Yo⟩:=x4 (cr.mem dI);obtain⟨G,c⟩:∃G,G=(l.take i).flatMap f:=⟨_,rfl⟩
 have YA:G.length=i*o:=by rw[c,lw h];congr 1;simp;omega
 have Yy:=wg (P:=P) w.drew o i ⟨g,0,none⟩ i q G YA (by
  intro j u hu;have eV:=GU (i:=0) h bG Yo (cG _) j u (by
   rw[Co];rw[c,<-tC h l i ac,mN]at hu;split at hu
   .exact hu
   .cases hu)
  simpa using eV)
 have v:z.cells.size=o:=by rw[<-pg,Yt,YE,h]
 have YD:(i+k)*hm<=1000000*1000000:=CU Yq YG;have YI:k*hm<=(i+k)*hm:=kY _ ac;subst Yh;subst Yl;have c2:=Lib.run_append_grow_zeros (P:=P) w t nu F E L z .i64 GV (gV (ad.V8 cB)) (ad.Wn YB) YF Yi (some ⟨g,0,none⟩) i q G Yy k ac m ca ac ac (zO ac ac);have Yu:=zL w (i+k) q E;have YH:grownCap w (i+k) q E<=maxLen:=zM w (i+k) q E P7;have Yw:(Builtin.zeroCells z.cells k).toList=(List.replicate k p).flatMap f:=by
  apply pi;intro j;by_cases dK:j<k*L.size
  .rw[GJ (h p) k j dK];have Ye:j%L.size<z.cells.size:=by rw[v];exact Nat.mod_lt _ m
   have Yz:z.cells[j%L.size]?=(f p)[j%L.size]?:=by rw[<-YE,<-Yt];simp
   rw[<-Yz];simp[Builtin.zeroCells,dK,v,getElem!_pos z.cells (j%L.size) Ye]
  .rw[qE (by simp[Builtin.zeroCells,v];omega),qE];have R:=GK (h p) k;omega
 have s:(l.take i++List.replicate k p).length=i+k:=VG
 have Yk:H W D (rows f (.slice (some ⟨w.heap.size,0,none⟩) (i+k) (grownCap w (i+k) q E)) E L.size (l.take i++List.replicate k p)::J)
   (w.drew.alloc (.cells (G.toArray++Builtin.zeroCells z.cells k++Builtin.zeroCells z.cells (grownCap w (i+k) q E-(i+k))) E)):=by
  refine H.new (zv:=[rows f (.slice (some ⟨w.heap.size,0,none⟩) (i+k) (grownCap w (i+k) q E)) E L.size (l.take i++List.replicate k p)]) cr ⟨λe dg=>?_,?_,λb bN=>?_,λtf YC _=>uE w.drew _ YC,VK,rfl,rfl,rfl,xQ _⟩
  .obtain rfl:e=_:=by simpa only[fF]using dg
   rw[fM,i0,s]
   have R:((l.take i++List.replicate k p).flatMap f).length=(i+k)*L.size:=by rw[lw h,s]
   refine⟨R,.inr ⟨w.heap.size,_,_,rfl,cG _,zw w.drew _,Yu,YH,?_,?_⟩⟩
   .simp only[zN,pW,Cy,v,YA,<-fK]
    congr 1
    omega
   .simp only[Cz,Yw]
    rw[show G.toArray.toList++(List.replicate k p).flatMap f=(l.take i++List.replicate k p).flatMap f by rw[l3,c],<-R]
    exact pX
  exact Tx
  .rw[jl,fM,iA]at bN
   right
   have:b=w.heap.size:=by simpa[br,Value.ownBlock]using bN
   omega
 refine kh (v:=.slice (some ⟨w.heap.size,0,none⟩) (i+k) (grownCap w (i+k) q E)) rfl ?_ (cJ _ _ (dG _ _ Yu) _ _ (c0.put du _) Yk);exact O0
def V.acF(ad:cj P){s:fb}{fn:Func}{x5 CV E R g h L G i z m:Nat}{x y:bj}{d:Array a8}{l t:ab M}(k:P.funcs[s]?=some fn)(Yg:(fn.name== "runtime.NumGoroutine")=false)(q:fn.body.isNone=true)(Yf:Extern.findNext fn=none)(Ye:Extern.find fn=some (Extern.SlicesOverlaps.overlaps #[x5,x5] #[CV]))(K:aR Y x=some (.slice (some ⟨h,0,none⟩) 1 1))(u:aR Y y=some (.slice (partAt (some ⟨g,0,none⟩) G i R) z m))(c:rows f (.slice (some ⟨h,0,none⟩) 1 1) E R t∈J)(Q:rows f (.slice (some ⟨g,0,none⟩) L G) E R l∈J)(j:h≠g)(am:i<G)(o:bT ad.fw x5=some E:=by exact rfl)(l:bT ad.ht E=some R:=by exact rfl)(v:Nat.blt 0 R=true:=by exact rfl):aN P n Y J ⟨some U,.call ⟨.value (.func s),#[x,y],d⟩,F,N,T,X⟩ (.bool false):=aN.of λa w p b=>by
 have Yc:0<R:=P1
 obtain⟨_,G,v,s,_,d,_⟩:=x4 (b.get _ c);obtain⟨_,c,s,d,_,Yh,_⟩:=x4 (b.get _ Q);rw[CT am]at u;have d:=run_callFunc_extern (P:=P) k Yg q Yf Ye #[.slice (some ⟨h,0,none⟩) 1 1,.slice (some ⟨g,i*R,none⟩) z m] w;rw[Lib.run_overlaps_apart w x5 CV E (gV (ad.V8 o)) R (λw=>qv (ad.WW l) w) ⟨h,0,none⟩ ⟨g,i*R,none⟩ 1 1 z m j E E G.size c.size (by simp[World.shape?,v]) (by simp[World.shape?,s])
  (by rw[Yh];exact Nat.ne_of_gt (Nat.mul_pos ac Yc)) (by simp[World.frozen?,v]) (by simp[World.frozen?,v])]at d
 have j:(#[x,y].map a.eval)=#[.slice (some ⟨h,0,none⟩) 1 1,.slice (some ⟨g,i*R,none⟩) z m]:=by simp[p.eval K,p.eval u]
 simp only[execOp,resolve,cW,j];simp[Act.eval,Deferred.ofValue,invoke,d]
def Mi{w:a2}{g x o Q y u E c R:Nat}{l K:ab M}{t:M->ab aj}(h:H W D (rows f (.slice (some ⟨g,0,none⟩) o Q) E R l::rows t (.slice (some ⟨x,0,none⟩) y u) c b K::J) w):x≠g:=by have:=h.nodup;rw[jl,jl,fM,fM,iA,iA]at this;simp only[Value.ownBlock,x6,tH,ki,cQ,nt]at this;exactλe=>this.1.1 e.symm
def ar.known{f:fb}{args:ab aj}{p:Prop}(z:∀w,H w (br J) J w->p)(h:p->ar P f args J R):ar P f args J R:=
 ar.of λw o=>(h (z w o.start)).get w o
end
section
variable{r:aT Nat}{Y Z:bJ}{J U M:ab ay}{C:Array cc}{N:ab cc}{w:a2}
def GW(P:b1)(f:fb)(u:ab aj){T i:Type}(Z:T->ab ay)(F:i->ab aj)(step:Nat->i->T->T->Prop)(stop:Nat->T->Prop)(j b:ab ay)(z:T):Prop:=
 ∀(N l:Nat) (o:Type) (ct:o->T) (G X:Nat->o->Prop) (S:o->ay) (g:o),(∀k c,G k c->k<=N)->ct g=z->G 0 g->
  (∀k i c K,G k c->step k i (ct c) K->lx P l (F i) (S c::Z K) (λv U=>∃d t,v=.bool t/\(t=true->G (k+1) d)/\(t=false->X (k+1) d)/\U=S d::Z (ct d)))->
  ar P f (.func (.yield l) #[] #[]::u) (S g::j) (λ_ U=>∃d k,((G k d/\stop k (ct d))\/X k d)/\U=S d::(Z (ct d)++b))
def ah.acG{L mo o:Type}{g:bj}{aX:ab Tmp}{assign body:Code}{kn:fb}{z:ab aj}{Z:L->ab ay}{R:mo->ab aj}{step:Nat->mo->L->L->Prop}{stop:Nat->L->Prop}{j m F:ab ay}{fx:L}(iG:GW P kn z Z R step stop j m fx)(ct:o->L)(S:o->ab ay)(G:Nat->o->Prop)(X:dY->Nat->o->Prop)(f:o)(N:Nat)(oI:∀k c,G k c->k<=N)(Yk:ct f=fx)(eV:G 0 f)(round:∀k i c u l rec,G k c->step k i (ct c) u->re rec->∀(eK:a2) (jV:ab Nat) (K:da),(∀e d,gA e=true->wq G X (k+1) e d->∀a w,H eK jV (kl l rec::(S d++Z (ct d))) w->K e a w)->ah P (some l) eK jV ⟨n.n,[]⟩ (Exit.then (sf P l body K) tt) assign (rf aX (R i) Y) (cm l rec .normal::(S c++Z u)))(done:∀k c b,G k c->stop k (ct c)->Out W D ⟨n.n,b::n.ds⟩ Q .normal Y (gK b::(S c++(Z (ct c)++(m++F)))))(left:∀k c b e,gA e=true->fu e=false->X e k c->Out W D ⟨n.n,b::n.ds⟩ Q e Y (gK b::(S c++(Z (ct c)++(m++F)))))(bG:aR Y g=some (.func (.func kn) #[] z.toArray):=by exact rfl)(Ye:lp P kn=true:=by kernel_rfl)(Yg:ak J (S f++j) F:=by(repeat(first|exact ak.nil|exact al.here|apply ak.cons|apply al.there)))(dd:∀x,aX.length=(R x).length:=by intro _;rfl)(cn:(aX.all λp=>Nat.blt p n.n)=true:=by exact rfl):ah P none W D n Q (.rangeFunc g aX.toArray assign body) Y J:=by
 have Yh:∀(l:ab ay) (s:ay),ak (s::(l++F)) (s::l) F:=by
  intro l s;refine ak.cons al.here ?_;induction l with
  |nil=>exact ak.nil
  |cons x l mj=>exact ak.cons al.here mj
 have Yj:∀{e:dY} {k:Nat} {c:o},gA e=true->wq G X k e c->(fu e=true/\G k c)\/(fu e=false/\X e k c):=by
  intro e k c q h;cases e with
  |normal=>exact .inl ⟨rfl,h⟩
  |ret=>exact .inr ⟨rfl,h⟩
  |exit id=>exact .inr ⟨rfl,h⟩
  |_=>cases q
 have Yc:ah P none W D n Q (.rangeFunc g aX.toArray assign body) Y (aK (S f)::(j++F)):=by
  refine ah.XF (mo:={p:Nat×mo×o×L//G p.1 p.2.2.1/\step p.1 p.2.1 (ct p.2.2.1) p.2.2.2}) (s:=j) (k:=F) (λi=>R i.1.2.1) (aK (S f)) (λi=>aK (aK (S i.1.2.2.1)::Z i.1.2.2.2)) (λi e cL=>∃d,cL=aK (aK (S d)::Z (ct d))/\wq G X (i.1.1+1) e d)
   (λe t=>∃d k,t=aK (S d)::(Z (ct d)++m)/\((e=.normal/\G k d/\stop k (ct d))\/(fu e=false/\X e k d))) bG Ye (Yh _ _) (λi=>dd _) cn ?_ ?_ ?_
  .rintro⟨⟨k,i,c,u⟩,dA,bV⟩ l rec c2 eK K cJ;have E:∀(c:o) (b:L) (e:ay),aP [e,aK (aK (S c)::Z b)] (e::(S c++Z b)):=λc b e=>
    aP.cons e (aP.aK.trans (aP.append (ao:=[aK (S c)]) aP.aK (aP.refl (Z b))))
   have:=round k i c u l rec dA bV c2 eK (br [cm l rec .normal,aK (aK (S c)::Z u)]) K (λe d q eo a w cr=>cJ e _ q ⟨d,rfl,eo⟩ a w (cr.eqv (E d (ct d) _).symm));exact ah.eqv (E c u _) this
  .intro l rec fX;have dT:=iG N l (dY×o) (λp=>ct p.2) (λk p=>p.1=.normal/\G k p.2) (λk p=>gA p.1=true/\fu p.1=false/\X p.1 k p.2) (λp=>aK [cm l rec p.1,aK (S p.2)]) (.normal,f) (λk p h=>oI k p.2 h.2) Yk ⟨rfl,eV⟩ ?_
   .refine dT.eqv (ao:=cm l rec .normal::aK (S f)::j) ?_ ?_
    exact T5
    .rintro v U⟨⟨e,d⟩,k,bN,rfl⟩;refine⟨cm l rec e::aK (S d)::(Z (ct d)++m),⟨e,_,?_,⟨d,k,rfl,?_⟩,rfl⟩,aP.append (ao:=[aK [cm l rec e,aK (S d)]]) aP.aK (aP.refl _)⟩
     .rcases bN with⟨⟨h,_⟩,_⟩|⟨h,_⟩
      exact Qv
      .exact h
     .rcases bN with⟨⟨h,y⟩,cd⟩|⟨_,cd,gw⟩
      .exact .inl ⟨h,y,cd⟩
      .exact .inr ⟨cd,gw⟩
   .rintro k i⟨e,c⟩ u⟨dg,dA⟩ bV;simp only at dg dA bV;subst dg;refine(fX ⟨(k,i,c,u),dA,bV⟩).eqv (ao:=aK [cm l rec .normal,aK (S c)]::Z u) ?_ ?_
    .have T:=aP.append (ao:=[aK [cm l rec .normal,aK (S c)]]) aP.aK (aP.refl (Z u));refine T.trans ?_;exact aP.cons _ (aP.aK (bg:=aK (S c)::Z u)).symm
    .rintro v U⟨e,cL,rfl,q,⟨d,rfl,eo⟩,rfl⟩;refine⟨aK [cm l rec e,aK (S d)]::Z (ct d),⟨(e,d),fu e,rfl,λh=>?_,λh=>?_,rfl⟩,?_⟩
     .rcases Yj q eo with⟨T,y⟩|⟨T,y⟩
      .refine⟨?_,y⟩;cases e<;>first|rfl|cases T
      .rw[T]at h;cases h
     .rcases Yj q eo with⟨T,y⟩|⟨T,y⟩
      .rw[T]at h;cases h
      .exact⟨q,T,y⟩
     .exact Mz
  .rintro b e t q⟨d,k,rfl,bN⟩;have conv:∀{e:dY},Out W D ⟨n.n,b::n.ds⟩ Q e Y (gK b::(S d++(Z (ct d)++(m++F))))->Out W D ⟨n.n,b::n.ds⟩ Q e Y (gK b::(aK (S d)::(Z (ct d)++m)++F)):=λh=>
    Out.eqv (aP.cons _ (by have:=aP.append (ao:=[aK (S d)]) aP.aK (aP.refl (Z (ct d)++(m++F)));simpa using this)) h
   rcases bN with⟨rfl,dA,Yf⟩|⟨Yi,jp⟩
   .exact conv (done k d b dA Yf)
   .exact conv (left k d b e q Yi jp)
 exact U6
end
end Go.az
