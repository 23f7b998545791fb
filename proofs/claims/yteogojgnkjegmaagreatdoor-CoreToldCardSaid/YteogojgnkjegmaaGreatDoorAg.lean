/-
 Part of the proof.
-/
import Derived.Test.YteogojgnkjegmaaGreatDoorAf
set_option linter.all false
set_option maxRecDepth 8000
set_option maxHeartbeats 8000000
namespace Go.Proofs.YteogojgnkjegmaaGreatDoor
open Go.az Go.Proofs.Tryz
variable{k:Nat}{Y:Type}{N:ab bp}{b:Nat}{D:ab Nat}{F:ab ay}
variable[Inhabited Y]
structure aL(Y:Type) where
 aE:Int
 xs:ab (ab Y)
 bV:ab (ab Bool)
def aL.x(p:aL Y)(k:Nat):ab Y:=p.xs.getD k []
def aL.h(p:aL Y)(k:Nat):ab Bool:=p.bV.getD k []
structure aL.wf(p:aL Y):Prop where
 ae9:0<=p.aE
 am:p.aE<=7
 nZ:p.xs.length=7
 n0:p.bV.length=7
 same:∀k,(p.x k).length=(p.h k).length
 pr:∀k,(p.x k).length<=64
def bt(x:ag)(n:Int):Bool:=decide (0<=x.a1)&&decide (x.a1<n)&&decide (1<=x.bX)&&decide (x.bX<=64)
def hK(l:ab Y)(n:Nat)(d:Y):ab Y:=l++List.replicate (n-l.length) d
def aL.set(p:aL Y)(x:ag)(v:Y):aL Y:=
 if bt x p.aE then{p with xs:=p.xs.set x.a1.toNat ((hK (p.x x.a1.toNat) x.bX.toNat default).set (x.bX-1).toNat v),bV:=p.bV.set x.a1.toNat ((hK (p.h x.a1.toNat) x.bX.toNat false).set (x.bX-1).toNat true)}else p
def aL.at(p:aL Y)(x:ag):aT Y:=if bt x p.aE/\(p.h x.a1.toNat).getD (x.bX-1).toNat false=true then some ((p.x x.a1.toNat).getD (x.bX-1).toNat default)else none
def aL.top(p:aL Y)(M:Int):Nat:=if 0<=M/\M<p.aE then(p.x M.toNat).length else 0
def aL.new(n:Int):aL Y:=⟨Min.min (Max.max n 0) 7,List.replicate 7 [],List.replicate 7 []⟩
def cA(R k:ab aj)(p:aL Y):ab aj:=I p.aE::(R++k)
def eG(f:Y->ab aj)(B E R:Nat)(b:Nat)(g k:ab aj)(p:aL Y):ay:=aK [cells b B (cA g k p),hw f E R g p.xs,hw fq 4 1 k p.bV]
def gC(f:Y->ab aj)(B E R:Nat)(b:Nat)(g s:ab aj)(p:aL Y)(k:Nat)(v u:aj)(x:ab Y)(h:ab Bool):ab ay:=
 [cells b B (cA (g.set k v) (s.set k u) p),rows f v E R x,rows fq u 4 1 h,hw f E R (g.eraseIdx k) (p.xs.eraseIdx k),hw fq 4 1 (s.eraseIdx k) (p.bV.eraseIdx k)]
def eG.open{f:Y->ab aj}{B E aM:Nat}{R s:ab aj}{p:aL Y}{v u:aj}(t:R[k]?=some v)(M:s[k]?=some u)(J:k<p.xs.length)(w:k<p.bV.length):aP [eG f B E aM b R s p] (gC f B E aM b R s p k v u (p.x k) (p.h k)):=by
 have y:R.set k v=R:=by
  apply pi;intro j;rw[i2];split
  .subst_vars;split<;>simp_all
  .rfl
 have N:s.set k u=s:=by
  apply pi;intro j;rw[i2];split
  .subst_vars;split<;>simp_all
  .rfl
 have U:p.xs[k]?=some (p.x k):=by simp[aL.x,J]
 have Z:p.bV[k]?=some (p.h k):=by simp[aL.h,w]
 unfold eG gC;rw[y,N];refine aP.aK.trans (aP.cons _ ?_);refine(aP.append (ao:=[hw f E aM R p.xs]) (hw.open t U) (hw.open M Z)).trans ?_;exact aP.We (tp _ (hV ..))
def eG.shut{f:Y->ab aj}{B E R:Nat}{g s:ab aj}{p:aL Y}{v u:aj}{x:ab Y}{h:ab Bool}(t:k<g.length)(J:k<s.length)(U:k<p.xs.length)(w:k<p.bV.length):aP (gC f B E R b g s p k v u x h) [eG f B E R b (g.set k v) (s.set k u) {p with xs:=p.xs.set k x,bV:=p.bV.set k h}]:=by unfold eG gC;refine aP.symm ?_;refine aP.aK.trans (aP.cons _ ?_);refine(aP.append (ao:=[hw f E R (g.set k v) (p.xs.set k x)]) (hw.shut t U).symm (hw.shut J w).symm).trans ?_;exact aP.We (tp _ (hV ..))
def eG.bare{f:Y->ab aj}{B E R:Nat}{g k:ab aj}{p:aL Y}:aP [eG f B E R b g k p] [cells b B (cA g k p),hw f E R g p.xs,hw fq 4 1 k p.bV]:=aP.aK
def cA.v{R us:ab aj}{p:aL Y}{v:aj}(h:k<R.length):(cA (R.set k v) us p)[1+k*1]?=some v:=by simp only[cA,p3];rw[Nat.add_comm,pV,pU VR];simp[h]
def cA.u{R s:ab aj}{p:aL Y}{v:aj}(t:R.length=7)(h:k<s.length):(cA R (s.set k v) p)[8+k*1]?=some v:=by simp only[cA,p3];rw[show 8+k=(7+k)+1 by omega,pV,iC ac,t];simp[h]
def cA.cU{R s:ab aj}{p:aL Y}{v L:aj}(h:k<R.length):ey (1+k*1) [L] (cA (R.set k v) s p)=cA (R.set k L) s p:=by
 apply pi;intro j;rw[uP _ _ _ _ (by simp[cA];omega)];simp only[cA,p3,df,gv];rcases j with _|j
 .simp
 .simp only[pV,G4,cy,i2];by_cases e:k=j
  .subst e;simp[h,show¬(k+1<1+k) by omega,show k+1<1+k+1 by omega,show k+1-(1+k)=0 by omega]
  .split<;>split<;>simp_all<;>omega
def cA.ZS{R s:ab aj}{p:aL Y}{v L:aj}(t:R.length=7)(h:k<s.length):ey (8+k*1) [L] (cA R (s.set k v) p)=cA R (s.set k L) p:=by
 apply pi;intro j;rw[uP _ _ _ _ (by simp[cA];omega)];simp only[cA,p3,df,gv];rcases j with _|j
 .simp
 .simp only[pV,G4,t,i2];by_cases e:j=7+k
  .subst e;simp[h,show¬(7+k+1<8+k) by omega,show 7+k+1<8+k+1 by omega,show 7+k+1-(8+k)=0 by omega,show¬7+k<7 by omega,show 7+k-7=k by omega]
  .by_cases p:j<7
   .simp[p,show j+1<8+k by omega]
   .have:¬k=j-7:=by omega
    simp[p,this];intro U Z;omega
def cA.r{R k:ab aj}{p:aL Y}:(cA R k p)[0]?=some (I p.aE):=rfl
def wy(l:ab Y)(n:Nat)(d:Y):(hK l n d).length=Max.max l.length n:=by simp[hK];omega
def wz{l:ab Y}{m n:Nat}{d:Y}(U:m=0\/l.length+m<=n)(Z:n<=l.length+m):l++List.replicate m d=hK l n d:=by
 have:m=n-l.length:=ac
 rw[hK,this]
def wA(l:ab Y)(m:Nat)(d:Y):l++List.replicate (m+1) d=(l++List.replicate m d)++[d]:=by rw[List.replicate_succ',ck]
def aL.row(p:aL Y)(k m:Nat):ab (ag×Y):=(List.range m).filterMap λj:Nat=>(p.at ⟨(k:Int),(j:Int)+1⟩).map λt=>(⟨(k:Int),(j:Int)+1⟩,t)
def aL.upto(p:aL Y)(k:Nat):ab (ag×Y):=(List.range k).flatMap λk=>p.row k (p.top k)
def aL.all(p:aL Y):ab (ag×Y):=p.upto 7
def aL.Zw(p:aL Y)(k m:Nat):p.row k (m+1)=p.row k m++((p.at ⟨(k:Int),(m:Int)+1⟩).map λt=>((⟨(k:Int),(m:Int)+1⟩:ag),t)).toList:=by unfold aL.row;rw[sk,List.filterMap_append];cases h:p.at ⟨(k:Int),(m:Int)+1⟩<;>simp[h]
def aL.XM(p:aL Y)(k:Nat):p.upto (k+1)=p.upto k++p.row k (p.top k):=by unfold aL.upto;rw[sk,l3];simp
def aL.aa4(p:aL Y)(k:Nat):∀d m:Nat,∃w,p.row k (m+d)=p.row k m++w
 |0,m=>⟨[],VK⟩
 |d+1,m=>by obtain⟨w,h⟩:=aL.aa4 p k d m;exact⟨_,by rw[<-pd,aL.Zw,h,ck]⟩
def aL.aa5(p:aL Y):∀d k:Nat,∃w,p.upto (k+d)=p.upto k++w
 |0,k=>⟨[],VK⟩
 |d+1,k=>by obtain⟨w,h⟩:=aL.aa5 p d k;exact⟨_,by rw[<-pd,aL.XM,h,ck]⟩
def aL.acP(p:aL Y){m:Nat}{t:Y}(T:k<7)(K:m<p.top k)(f:p.at ⟨(k:Int),(m:Int)+1⟩=some t):∃w,p.all=(p.upto k++p.row k m)++(⟨(k:Int),(m:Int)+1⟩,t)::w:=by obtain⟨y,U⟩:=aL.aa5 p (7-(k+1)) (k+1);obtain⟨x,Z⟩:=aL.aa4 p k (p.top k-(m+1)) (m+1);rw[show k+1+(7-(k+1))=7 by omega]at U;rw[show m+1+(p.top k-(m+1))=p.top k by omega]at Z;refine⟨x++y,?_⟩;rw[aL.all,U,aL.XM,Z,aL.Zw,f];simp
def aL.aa6{p:aL Y}(s:p.wf)(r:Int):p.top r<=64:=by
 unfold aL.top;split
 .exact s.pr _
 .omega
def aL.aa7{p:aL Y}(s:p.wf):∀k:Nat,(p.upto k).length<=64*k
 |0=>by simp[aL.upto]
 |k+1=>by
  rw[aL.XM,bQ];have U:=aL.aa7 s k;have Z:(p.row k (p.top k)).length<=p.top k:=by have:=List.length_filterMap_le (λj:Nat=>(p.at ⟨(k:Int),(j:Int)+1⟩).map λt=>((⟨(k:Int),(j:Int)+1⟩:ag),t)) (List.range (p.top k));simpa[aL.row]using this
  have D:=aL.aa6 s (k:Int);omega
def aL.Xc{p:aL Y}(s:p.wf):p.all.length<=448:=aL.aa7 s 7
structure aL.ok(p:aL Y):Prop extends p.wf where
 last:∀k m,(p.h k).length=m+1->(p.h k)[m]?=some true
def G5(l:ab (ab Y))(k j:Nat)(r:ab Y)(T:k<l.length):(l.set k r).getD j []=if j=k then r else l.getD j []:=by
 simp only[hn,i2];by_cases e:k=j
 .subst e;simp[T]
 .simp[e,show¬j=k fromλh=>e h.symm]
def mV{x:ag}{n:Int}(h:bt x n=true):0<=x.a1/\x.a1<n/\1<=x.bX/\x.bX<=64:=by simp only[bt,c1,cO]at h;omega
def aL.Xd(p:aL Y)(x:ag)(v:Y):(p.set x v).aE=p.aE:=by unfold aL.set;split<;>rfl
def aL.Wo(n:Int):(aL.new n:aL Y).ok:=by
 have U:∀k,(aL.new n:aL Y).x k=[]:=λk=>by simp only[aL.x,aL.new,hn,u0];split<;>rfl
 have v:∀k,(aL.new n:aL Y).h k=[]:=λk=>Od
 refine⟨⟨?_,?_,rfl,rfl,λk=>by rw[U,v];rfl,λk=>MN⟩,λk m h=>by rw[v]at h;simp at h⟩
 .show 0<=Min.min (Max.max n 0) 7;omega
 .show Min.min (Max.max n 0) 7<=7;omega
def aL.ZT{p:aL Y}(s:p.wf){x:ag}{v:Y}(G:bt x p.aE=true)(k:Nat):(p.set x v).x k=if k=x.a1.toNat then(hK (p.x x.a1.toNat) x.bX.toNat default).set (x.bX-1).toNat v else p.x k:=by have h:=mV G;have am:=s.am;have d:=s.nZ;rw[aL.set,aJ G];exact G5 _ _ _ _ ac
def aL.ZU{p:aL Y}(s:p.wf){x:ag}{v:Y}(G:bt x p.aE=true)(k:Nat):(p.set x v).h k=if k=x.a1.toNat then(hK (p.h x.a1.toNat) x.bX.toNat false).set (x.bX-1).toNat true else p.h k:=by have h:=mV G;have am:=s.am;have W:=s.n0;rw[aL.set,aJ G];exact G5 _ _ _ _ ac
def aL.Xe{p:aL Y}(z:p.ok)(x:ag)(v:Y):(p.set x v).ok:=by
 by_cases G:bt x p.aE=true
 .have h:=mV G;have s:=z.towf;refine⟨⟨by rw[aL.Xd];exact s.ae9,by rw[aL.Xd];exact s.am,?_,?_,λk=>?_,λk=>?_⟩,λk m K=>?_⟩
  .rw[aL.set,aJ G];simpa using s.nZ
  .rw[aL.set,aJ G];simpa using s.n0
  .rw[aL.ZT s G,aL.ZU s G];split
   .simp[wy,s.same]
   .exact s.same k
  .rw[aL.ZT s G];split
   .have:=s.pr x.a1.toNat;simp[wy];omega
   .exact s.pr k
  .rw[aL.ZU s G]at K⊢;split
   .rename_i e;rw[aJ e,cy,wy]at K;rw[i2];split
    .rename_i U;rw[aJ (by rw[wy];omega)]
    .rename_i U;have u:x.bX.toNat<=(p.h x.a1.toNat).length:=by omega
     have:hK (p.h x.a1.toNat) x.bX.toNat false=p.h x.a1.toNat:=by rw[hK,show x.bX.toNat-(p.h x.a1.toNat).length=0 by omega];simp
     rw[this];exact z.last _ m ac
   .rename_i e;rw[aG e]at K;exact z.last k m K
 .have:p.set x v=p:=by rw[aL.set,aG G]
  rw[this];exact z
def aL.W4(n:Int)(x:ag):(aL.new n:aL Y).at x=none:=by
 have v:∀k,(aL.new n:aL Y).h k=[]:=λk=>Od
 simp[aL.at,v]
def G6(l:ab Y)(n j:Nat)(d:Y):(hK l n d).getD j d=l.getD j d:=by
 simp only[hK,hn,G4,u0];split
 .rfl
 .rename_i h;rw[qE ac];split<;>rfl
def G7(l:ab Y)(k j:Nat)(r d:Y)(T:k<l.length):(l.set k r).getD j d=if j=k then r else l.getD j d:=by
 simp only[hn,i2];by_cases e:k=j
 .subst e;simp[T]
 .simp[e,show¬j=k fromλh=>e h.symm]
def aL.WN{p:aL Y}(z:p.ok)(x:ag)(v:Y)(y:ag):(p.set x v).at y=if bt x p.aE=true/\y=x then some v else p.at y:=by
 by_cases G:bt x p.aE=true
 .have h:=mV G;have s:=z.towf;by_cases C:bt y p.aE=true
  .have Z:=mV C;have o:(x.bX-1).toNat<(hK (p.h x.a1.toNat) x.bX.toNat false).length:=by rw[wy];omega
   have J:(x.bX-1).toNat<(hK (p.x x.a1.toNat) x.bX.toNat default).length:=by rw[wy];omega
   unfold aL.at;rw[aL.Xd,aL.ZU s G,aL.ZT s G];by_cases e:y.a1=x.a1
   .rw[e];simp only[ik];rw[G7 _ _ _ _ _ o,G7 _ _ _ _ _ J,G6,G6];by_cases U:y.bX=x.bX
    .have:y=x:=by cases x;cases y;simp_all
     subst this;simp[G]
    .have R:¬(y.bX-1).toNat=(x.bX-1).toNat:=by omega
     have k:¬y=x:=λe=>U (by rw[e]);simp only[R,iH,k,p4]
   .have R:¬y.a1.toNat=x.a1.toNat:=by omega
    have k:¬y=x:=λU=>e (by rw[U]);simp[R,k]
  .have k:¬y=x:=λU=>C (by rw[U];exact G);have i:(p.set x v).at y=none:=by unfold aL.at;rw[aL.Xd];simp[C]
   have M:p.at y=none:=by unfold aL.at;simp[C]
   rw[i,M,aG (λe=>k e.2)]
 .have:p.set x v=p:=by rw[aL.set,aG G]
  rw[this,aG (λe=>G e.1)]
def aL.Zx{p:aL Y}{x:ag}{t:Y}(h:p.at x=some t):bt x p.aE=true:=by
 unfold aL.at at h;split at h
 .rename_i f;exact f.1
 .cases h
def aL.Zy{p:aL Y}(z:p.ok){x:ag}{t:Y}(h:p.at x=some t):(x.bX-1).toNat<p.top x.a1:=by
 have G:=mV (aL.Zx h);unfold aL.at at h;split at h
 .rename_i f;have Z:=f.2;rw[hn]at Z;have n:(x.bX-1).toNat<(p.h x.a1.toNat).length:=by
   rcases o9 (x.bX-1).toNat (p.h x.a1.toNat).length with q|q
   .exact q
   .rw[qE q]at Z;cases Z
  rw[aL.top,aJ ⟨G.1,G.2.1⟩,z.same];exact n
 .cases h
def aL.aa8{p:aL Y}(z:p.ok){m:Nat}(h:p.top (k:Int)=m+1):(p.at ⟨(k:Int),(m:Int)+1⟩).isSome=true:=by
 unfold aL.top at h;split at h
 .rename_i f;have Z:=z.pr k;have E:=z.same k;have u:=z.last k m (by rw[<-E];simpa using h);have am:=z.am;simp only[hY]at h;have G:bt ⟨(k:Int),(m:Int)+1⟩ p.aE=true:=by simp only[bt,c1,cO];omega
  unfold aL.at;have D:(p.h (⟨(k:Int),(m:Int)+1⟩:ag).a1.toNat).getD ((⟨(k:Int),(m:Int)+1⟩:ag).bX-1).toNat false=true:=by simp[hn,u]
  rw[aJ ⟨G,D⟩];rfl
 .cases h
def aL.mem_row{p:aL Y}{m:Nat}{y:ag×Y}:y∈p.row k m↔∃j,j<m/\y.1=⟨(k:Int),(j:Int)+1⟩/\p.at y.1=some y.2:=by
 unfold aL.row;simp only[List.mem_filterMap,mi,qs];constructor
 .rintro⟨j,v,t,f,rfl⟩;exact⟨j,v,rfl,f⟩
 .rintro⟨j,v,U,Z⟩;refine⟨j,v,y.2,by rw[<-U];exact Z,?_⟩;rw[<-U]
def aL.aa9{p:aL Y}{y:ag×Y}:y∈p.upto k↔∃i j:Nat,i<k/\j<p.top i/\y.1=⟨(i:Int),(j:Int)+1⟩/\p.at y.1=some y.2:=by
 unfold aL.upto;simp only[wB,mi,aL.mem_row];constructor
 .rintro⟨i,am,j,v,h⟩;exact⟨i,j,am,v,h⟩
 .rintro⟨i,j,am,v,h⟩;exact⟨i,am,j,v,h⟩
def aL.WJ{p:aL Y}(z:p.ok){y:ag×Y}:y∈p.all↔p.at y.1=some y.2:=by
 unfold aL.all;rw[aL.aa9];constructor
 .rintro⟨i,j,_,_,_,h⟩;exact h
 .intro h;have G:=mV (aL.Zx h);have u:=aL.Zy z h;have am:=z.am;obtain⟨⟨M,num⟩,t⟩:=y;simp only at G u h;have e:(⟨M,num⟩:ag)=⟨(M.toNat:Int),((num-1).toNat:Int)+1⟩:=by simp only[ag.mk.injEq];omega
  have x:((M.toNat:Nat):Int)=M:=ac
  exact⟨M.toNat,(num-1).toNat,ac,by rw[x];exact u,e,h⟩
def p5(x y:ag):Prop:=x.a1<y.a1\/(x.a1=y.a1/\x.bX<y.bX)
def aL.aba(p:aL Y)(k:Nat):∀m,(p.row k m).Pairwise λx y=>p5 x.1 y.1
 |0=>by simp[aL.row]
 |m+1=>by
  rw[aL.Zw,List.pairwise_append];refine⟨aL.aba p k m,?_,?_⟩
  .cases p.at ⟨(k:Int),(m:Int)+1⟩<;>simp
  .intro x J y C;obtain⟨j,v,U,_⟩:=aL.mem_row.1 J;have:y.1=⟨(k:Int),(m:Int)+1⟩:=by
    cases h:p.at ⟨(k:Int),(m:Int)+1⟩with
    |none=>rw[h]at C;simp at C
    |some t=>rw[h]at C;simp at C;rw[C]
   rw[U,this];right;exact⟨rfl,by show(j:Int)+1<(m:Int)+1;omega⟩
def aL.abb(p:aL Y):∀k,(p.upto k).Pairwise λx y=>p5 x.1 y.1
 |0=>by simp[aL.upto]
 |k+1=>by
  rw[aL.XM,List.pairwise_append];refine⟨aL.abb p k,aL.aba p k _,?_⟩;intro x J y C;obtain⟨i,j,am,_,U,_⟩:=aL.aa9.1 J;obtain⟨J,_,Z,_⟩:=aL.mem_row.1 C;rw[U,Z];left;show(i:Int)<(k:Int)
  omega
def aL.ZV(p:aL Y):p.all.Pairwise λx y=>p5 x.1 y.1:=aL.abb p 7
def rt(a b:ag):Bool:=if a.bX=b.bX then decide (a.a1<b.a1)else decide (a.bX<b.bX)
def n1(x:ag)(n:Int):dH prog 82 [A x.c,I n] (B (bt x n)):=by
 refine aF func82 λW=>?_;refine aq 2 λx=>?_;refine aa 9 ?_;refine ai.aX (λJ=>?_) (λJ=>?_);refine aa 6 ?_;refine VQ (λZ t=>?_) (λZ t=>?_) λZ=>?_;refine aa 9 ?_
 .simp[bt, *]
 refine aa 9 ?_
 .simp[bt, *]
 refine aa 14 ?_
 .simp[bt, *]
 refine aa 20 ?_
 .simp[bt, *]
def sl{o:Type}(f:o->ab aj)(E R:Nat){W:a2}{D:ab Nat}{F:ab ay}{w:a2}(h:H W D F w):∀m:Nat,H W D (tv f E R (List.replicate m (.slice none 0 0)) (List.replicate m [])++F) w
 |0=>h
 |m+1=>(sl f E R h m).XE f E R
def H.sl{o:Type}(f:o->ab aj)(E R m:Nat){W:a2}{w:a2}(h:H W D F w):H W D (hw f E R (List.replicate m (.slice none 0 0)) (List.replicate m [])::F) w:=(Go.Proofs.YteogojgnkjegmaaGreatDoor.sl f E R h m).toBag
def CY(a b:ag):dH prog 109 [A a.c,A b.c] (B (rt a b)):=by
 refine aF func109 λW=>?_;refine aq 2 λY=>?_;refine aq 0 λx=>?_;refine aa 11 ?_;refine ai.aX (λk=>?_) (λk=>?_);refine aa 18 ?_
 exact Qb
 refine Px (λs=>?_) λs=>?_;refine aa 12 ?_
 exact Qb
 refine aa 12 ?_
 exact Qb
def akK(n:Int):ar prog 145 [I n] [] (λv J=>∃b,v=av b 0/\J=[eG aO.c 323 52 14 b (List.replicate 7 (.slice none 0 0)) (List.replicate 7 (.slice none 0 0)) (aL.new n:aL aO)]):=by
 have h:ar prog 145 [I n] [] (λv J=>∃b,v=av b 0/\J=[cells b 323 (cA (List.replicate 7 (.slice none 0 0)) (List.replicate 7 (.slice none 0 0)) (aL.new n:aL aO))]):=by refine aF func145 λW=>?_;refine aq 11 λo=>?_;exact aQ 5
 refine FC λb W D w v=>?_;have Y:=H.sl aO.c 52 14 7 (H.sl fq 4 1 7 v);exact NB
def x9:aT aO->aj
 |none=>.tuple #[A aO.z.c,B false]
 |some t=>.tuple #[A t.c,B true]
def ya(b:Nat)(d N:ab aj)(p:aL aO)(x:ag)(s:p.wf)(t:d.length=7)(Z:N.length=7):ar prog 148 [av b 0,A x.c] [eG aO.c 323 52 14 b d N p] (λr J=>r=x9 (p.at x)/\J=[eG aO.c 323 52 14 b d N p]):=by
 by_cases G:bt x p.aE=true
 .have D:dH prog 82 [A x.c,I p.aE] (B true):=G▸n1 x p.aE;simp only[bt,c1,cO]at G;obtain⟨k,k1⟩:=ru G.1.1.1;have T:x.a1.toNat=k:=by omega
  have am:=s.am;have nZ:=s.nZ;have n0:=s.n0;have Q:=s.same k;obtain⟨v,a⟩:=cl (g:=d) (k:=k) ac;obtain⟨u,Yc⟩:=cl (g:=N) (k:=k) ac;have w:=eG.open (f:=aO.c) (B:=323) (E:=52) (aM:=14) (b:=b) (p:=p) a Yc ac ac;refine Mp λaR tK=>?_;refine ar.eqv w (R:=λr J=>r=x9 (p.at x)/\J=gC aO.c 323 52 14 b d N p k v u (p.x k) (p.h k)) ?_ L6;have L:p.at x=if(p.h k).getD (x.bX-1).toNat false=true then some ((p.x k).getD (x.bX-1).toNat default)else none:=N8
  rw[L];unfold gC;refine aF func148 λW=>?_;by_cases m:((p.x k).length:Int)<x.bX
  .have:(p.h k).getD (x.bX-1).toNat false=false:=by rw[hn,qE (by rw[<-Q];omega)];rfl
   rw[this];exact Rp
  .refine ah.form (f:=fq) (v:=u) (l:=p.h k) VF (λo Y=>?_) (λg q Yf=>?_)
   .have:(p.x k).length=0:=by rw[Q,Y];rfl
    omega
   refine ah.form (f:=aO.c) (v:=v) (l:=p.x k) VF (λo Y=>?_) (λC K F=>?_)
   .have:(p.x k).length=0:=by rw[Y];rfl
    omega
   subst Yf F;obtain⟨X,Ye⟩:=cl (g:=p.h k) (k:=(x.bX-1).toNat) ac;obtain⟨i,P⟩:=cl (g:=p.x k) (k:=(x.bX-1).toNat) ac;have y:(p.h k).getD (x.bX-1).toNat false=X:=by rw[hn,Ye];rfl
   have U:(p.x k).getD (x.bX-1).toNat default=i:=by rw[hn,P];rfl
   rw[y,U];cases X
   exact dV
   exact O2
 .have D:dH prog 82 [A x.c,I p.aE] (B false):=by
   have j:bt x p.aE=false:=MC
   exact j▸n1 x p.aE
  have L:p.at x=none:=by simp[aL.at,G]
  rw[L];refine ar.eqv eG.bare (R:=λr J=>r=x9 none/\J=[cells b 323 (cA d N p),hw aO.c 52 14 d p.xs,hw fq 4 1 N p.bV]) ?_ PR;refine aF func148 λW=>?_;exact U1
def Mt(b:Nat)(d s:ab aj)(p:aL aO)(x:ag)(t:aO)(Z:p.wf)(dO:d.length=7)(hu:s.length=7):ar prog 149 [av b 0,A x.c,A t.c] [eG aO.c 323 52 14 b d s p] (λr J=>∃j w,j.length=7/\w.length=7/\r=B (bt x p.aE)/\J=[eG aO.c 323 52 14 b j w (p.set x t)]):=by
 by_cases P:bt x p.aE=true
 .refine Oy λdA D=>?_
  rw[D];simp only[bt,c1,cO]at P;obtain⟨k,k1⟩:=ru P.1.1.1;have ca:x.a1.toNat=k:=ac
  rw[ca];have am:=Z.am;have nZ:=Z.nZ;have n0:=Z.n0;have bV:=Z.same k;have Yp:=Z.pr k;obtain⟨v,Yg⟩:=cl (g:=d) (k:=k) ac;obtain⟨u,Yh⟩:=cl (g:=s) (k:=k) ac;have mX:=eG.open (f:=aO.c) (B:=323) (E:=52) (aM:=14) (b:=b) (p:=p) Yg Yh ac ac;refine ar.eqv mX (R:=λr J=>∃ez j0,r=B true/\J=gC aO.c 323 52 14 b d s p k ez j0 ((hK (p.x k) x.bX.toNat default).set (x.bX-1).toNat t) ((hK (p.h k) x.bX.toNat false).set (x.bX-1).toNat true)) ?_ Vv
  unfold gC;refine aF func149 λW=>?_;have Yj:∀{n:dF} {M:bJ} {Q:da} {c:Go.Code},(((p.x k).length=0\/∃g q N i,v=.slice (some ⟨g,0,none⟩) (p.x k).length q/\u=.slice (some ⟨N,0,none⟩) (p.h k).length i)->ah prog none W (br (gC aO.c 323 52 14 b d s p k v u (p.x k) (p.h k))) n Q c M (gC aO.c 323 52 14 b d s p k v u (p.x k) (p.h k)))->ah prog none W (br (gC aO.c 323 52 14 b d s p k v u (p.x k) (p.h k))) n Q c M (gC aO.c 323 52 14 b d s p k v u (p.x k) (p.h k)):=by intro n M Q c h;refine ah.form (f:=aO.c) (v:=v) (l:=p.x k) OB (λ_ bf=>h (.inl (by rw[bf];rfl))) (λN i Yf=>?_);refine ah.form (f:=fq) (v:=u) (l:=p.h k) OB (λ_ bf=>h (.inl (by rw[bV,bf];rfl))) (λg q Yi=>h (.inr ⟨_,_,_,_,Yf,Yi⟩))
  refine Yj λYo=>?_;clear Yj;refine O8 λU Ym F=>?_
  have o:∀{a b de},bH (8+k*1) [de] (cA (d.set k a) (s.set k b) p) (cA (d.set k a) (s.set k de) p):=λ{a b de}=>⟨cA.ZS OU ac⟩
  have L:∀{a b},b.length=7->Nat.blt (1+k*1) (cA (d.set k a) b p).length=true:=λ{a b} bN=>TJ
  have z:∀{a b},Nat.blt (8+k*1) (cA (d.set k a) (s.set k b) p).length=true:=λ{a b}=>TJ
  have T:∀{b},(s.set k b).length=7:=λ{b}=>Mj
  refine Q2 λfO n2=>?_;refine ah.p' ?_ aC.d'.d'.d'.d'.d'.d'.j;refine QY ?_;refine ae 3 8 ?_;refine aa 7 ?_;refine ah.cq [5,4,0] (λy:aj×aj×ab aO×ab Bool=>(∃m,y.2.2.1=p.x k++List.replicate m default/\y.2.2.2=p.h k++List.replicate m false/\(m=0\/(((p.x k).length+m:Nat):Int)<=x.bX))/\
    (y.2.2.1.length=0\/∃g q N i,y.1=.slice (some ⟨g,0,none⟩) y.2.2.1.length q/\y.2.1=.slice (some ⟨N,0,none⟩) y.2.2.2.length i)) (λy=>[])
   (λy=>[cells b 323 (cA (d.set k y.1) (s.set k y.2.1) p),rows aO.c y.1 52 14 y.2.2.1,rows fq y.2.1 4 1 y.2.2.2]) (λy=>x.bX.toNat-y.2.2.1.length) (v,u,p.x k,p.h k) ⟨⟨0,VK,VK,.inl rfl⟩,Yo⟩ ?_
  rintro⟨ez,j0,X,qF⟩⟨⟨m,jp,cr,dI⟩,dq⟩ K cJ;dsimp only at jp cr dI dq;refine bh ?_;have yb:X.length=(p.x k).length+m:=by rw[jp];simp
  have G8:qF.length=X.length:=by rw[cr,yb];simp[bV]
  by_cases Yc:(X.length:Int)<x.bX
  .refine OD λnv=>?_;refine af.bx 14 23 rfl rfl ?_ ?_;refine O.V' ad aO.c [_] rfl (bP.agg rfl bP.nil) rfl rfl (λYq=>?_);refine au ?_;refine af.bx 15 23 rfl rfl ?_ ?_;refine O.Z' ad rfl rfl Vz (cz.rows ad VF aO.J') (λYn C=>?_);refine au ?_;refine dr 23 λYk=>?_;refine NK λYl Y=>?_;rotate_left;refine O.lit ad (λYk=>?_);refine au ?_;refine af.y' 15 rfl (O.Z' ad rfl rfl Vz (cz.rows ad VF aO.J') (λYn C=>?_));refine au ?_;refine NK λYl Y=>?_;rotate_left;refine O.lit ad (λYk=>?_);refine au ?_;refine af.y' 14 rfl (O.V' ad aO.c [_] rfl (bP.agg rfl bP.nil) rfl rfl (λYq=>?_));refine au ?_;refine af.y' 15 rfl (O.Z' ad rfl rfl Vz (cz.rows ad VF aO.J') (λYn C=>?_));refine au ?_;refine NK λYl Y=>?_;rotate_left;all_goals exact Out.C' cJ (_,_,X++[default],qF++[false]) ⟨⟨m+1,by rw[wA,<-jp],by rw[wA,<-cr],.inr RG⟩,.inr ⟨_,_,_,_,rfl,rfl⟩⟩ VG
  .have Yr:X=hK (p.x k) x.bX.toNat default:=by rw[jp];exact wz ac ac
   have Ye:qF=hK (p.h k) x.bX.toNat false:=Rz
   rw[<-Yr,<-Ye];rcases dq with dq|⟨g,q,N,i,rfl,rfl⟩
   .omega
   .refine NH ?_;refine af.y' 22 rfl (O.N' ad (f:=aO.c) (a:=t) rfl rfl VS rfl ac aO.len aO.J' ?_);refine Nd ?_
    exact Mx
 .have G:bt x p.aE=false:=by simpa using P
  refine Pb λdA D=>?_
  rw[D,G];refine ar.eqv eG.bare (R:=λr J=>r=B false/\J=[cells b 323 (cA d s p),hw aO.c 52 14 d p.xs,hw fq 4 1 s p.bV]) ?_ OW;refine aF func149 λW=>?_;exact Eo
def akR(n:Int):ar prog 146 [I n] [] (λv J=>∃b,v=av b 0/\J=[eG fq 325 4 1 b (List.replicate 7 (.slice none 0 0)) (List.replicate 7 (.slice none 0 0)) (aL.new n:aL Bool)]):=by
 have h:ar prog 146 [I n] [] (λv J=>∃b,v=av b 0/\J=[cells b 325 (cA (List.replicate 7 (.slice none 0 0)) (List.replicate 7 (.slice none 0 0)) (aL.new n:aL Bool))]):=by refine aF func146 λW=>?_;refine aq 11 λo=>?_;exact aQ 5
 refine FC λb W D w v=>?_;have Y:=H.sl fq 4 1 7 (H.sl fq 4 1 7 v);exact NB
def CZ:aT Bool->aj
 |none=>.tuple #[B false,B false]
 |some t=>.tuple #[B t,B true]
def Mv(b:Nat)(d N:ab aj)(p:aL Bool)(x:ag)(s:p.wf)(t:d.length=7)(Z:N.length=7):ar prog 254 [av b 0,A x.c] [eG fq 325 4 1 b d N p] (λr J=>r=CZ (p.at x)/\J=[eG fq 325 4 1 b d N p]):=by
 by_cases G:bt x p.aE=true
 .have D:dH prog 82 [A x.c,I p.aE] (B true):=G▸n1 x p.aE;simp only[bt,c1,cO]at G;obtain⟨k,k1⟩:=ru G.1.1.1;have T:x.a1.toNat=k:=by omega
  have am:=s.am;have nZ:=s.nZ;have n0:=s.n0;have Q:=s.same k;obtain⟨v,F⟩:=cl (g:=d) (k:=k) ac;obtain⟨u,j⟩:=cl (g:=N) (k:=k) ac;have w:=eG.open (f:=fq) (B:=325) (E:=4) (aM:=1) (b:=b) (p:=p) F j ac ac;refine Mp λaR tK=>?_;refine ar.eqv w (R:=λr J=>r=CZ (p.at x)/\J=gC fq 325 4 1 b d N p k v u (p.x k) (p.h k)) ?_ L6;have L:p.at x=if(p.h k).getD (x.bX-1).toNat false=true then some ((p.x k).getD (x.bX-1).toNat default)else none:=N8
  rw[L];unfold gC;refine aF func254 λW=>?_;by_cases m:((p.x k).length:Int)<x.bX
  .have:(p.h k).getD (x.bX-1).toNat false=false:=by rw[hn,qE (by rw[<-Q];omega)];rfl
   rw[this];refine PF λM=>?_;refine QY ?_;exact MX
  .refine ah.form (f:=fq) (v:=u) (l:=p.h k) VF (λo Y=>?_) (λg q Yc=>?_)
   .have:(p.x k).length=0:=by rw[Q,Y];rfl
    omega
   refine ah.form (f:=fq) (v:=v) (l:=p.x k) VF (λo Y=>?_) (λC i K=>?_)
   .have:(p.x k).length=0:=by rw[Y];rfl
    omega
   subst Yc K;obtain⟨X,a⟩:=cl (g:=p.h k) (k:=(x.bX-1).toNat) ac;obtain⟨n,z⟩:=cl (g:=p.x k) (k:=(x.bX-1).toNat) ac;have y:(p.h k).getD (x.bX-1).toNat false=X:=by rw[hn,a];rfl
   have U:(p.x k).getD (x.bX-1).toNat default=n:=by rw[hn,z];rfl
   rw[y,U];cases X
   .refine PF λM=>?_;refine QY ?_;refine S0 ?_;exact aQ 13
   .refine PF λM=>?_;refine QY ?_;refine S0 ?_;refine aa 6 ?_;refine ah.p' ?_ aC.d'.d'.d'.d'.d'.d';refine ae 6 0 ?_;refine af.n' 6 rfl (V.F' ad (z:=aR)) ?_;refine ae 4 7 ?_;refine af.n' 11 rfl (V.Wm ad rfl VF (λ_=>rfl) VV) ?_;refine ae 2 12 ?_;exact aQ 4
 .have D:dH prog 82 [A x.c,I p.aE] (B false):=by
   have P:bt x p.aE=false:=MC
   exact P▸n1 x p.aE
  have L:p.at x=none:=by simp[aL.at,G]
  rw[L];refine ar.eqv eG.bare (R:=λr J=>r=CZ none/\J=[cells b 325 (cA d N p),hw fq 4 1 d p.xs,hw fq 4 1 N p.bV]) ?_ PR;refine aF func254 λW=>?_;refine aq 2 λM=>?_;refine aa 11 ?_;refine ah.p' ?_ aC.d'.d'.d'.d';refine QY ?_;refine ae 31 8 ?_;exact aQ 13
def ah3(b:Nat)(d s:ab aj)(p:aL Bool)(x:ag)(t:Bool)(Z:p.wf)(dO:d.length=7)(hu:s.length=7):ar prog 257 [av b 0,A x.c,B t] [eG fq 325 4 1 b d s p] (λr J=>∃j w,j.length=7/\w.length=7/\r=B (bt x p.aE)/\J=[eG fq 325 4 1 b j w (p.set x t)]):=by
 by_cases P:bt x p.aE=true
 .refine Oy λdA D=>?_
  rw[D];simp only[bt,c1,cO]at P;obtain⟨k,k1⟩:=ru P.1.1.1;have ca:x.a1.toNat=k:=ac
  rw[ca];have am:=Z.am;have nZ:=Z.nZ;have n0:=Z.n0;have bV:=Z.same k;have Yp:=Z.pr k;obtain⟨v,Yg⟩:=cl (g:=d) (k:=k) ac;obtain⟨u,Yh⟩:=cl (g:=s) (k:=k) ac;have mX:=eG.open (f:=fq) (B:=325) (E:=4) (aM:=1) (b:=b) (p:=p) Yg Yh ac ac;refine ar.eqv mX (R:=λr J=>∃ez j0,r=B true/\J=gC fq 325 4 1 b d s p k ez j0 ((hK (p.x k) x.bX.toNat default).set (x.bX-1).toNat t) ((hK (p.h k) x.bX.toNat false).set (x.bX-1).toNat true)) ?_ Vv
  unfold gC;refine aF func257 λW=>?_;have Yj:∀{n:dF} {M:bJ} {Q:da} {c:Go.Code},(((p.x k).length=0\/∃g q N i,v=.slice (some ⟨g,0,none⟩) (p.x k).length q/\u=.slice (some ⟨N,0,none⟩) (p.h k).length i)->ah prog none W (br (gC fq 325 4 1 b d s p k v u (p.x k) (p.h k))) n Q c M (gC fq 325 4 1 b d s p k v u (p.x k) (p.h k)))->ah prog none W (br (gC fq 325 4 1 b d s p k v u (p.x k) (p.h k))) n Q c M (gC fq 325 4 1 b d s p k v u (p.x k) (p.h k)):=by intro n M Q c h;refine ah.form (f:=fq) (v:=v) (l:=p.x k) OB (λ_ bf=>h (.inl (by rw[bf];rfl))) (λN i Yf=>?_);refine ah.form (f:=fq) (v:=u) (l:=p.h k) OB (λ_ bf=>h (.inl (by rw[bV,bf];rfl))) (λg q Yi=>h (.inr ⟨_,_,_,_,Yf,Yi⟩))
  refine Yj λYo=>?_;clear Yj;refine O8 λU Ym F=>?_
  have o:∀{a b de},bH (8+k*1) [de] (cA (d.set k a) (s.set k b) p) (cA (d.set k a) (s.set k de) p):=λ{a b de}=>⟨cA.ZS OU ac⟩
  have L:∀{a b},b.length=7->Nat.blt (1+k*1) (cA (d.set k a) b p).length=true:=λ{a b} bN=>TJ
  have z:∀{a b},Nat.blt (8+k*1) (cA (d.set k a) (s.set k b) p).length=true:=λ{a b}=>TJ
  have T:∀{b},(s.set k b).length=7:=λ{b}=>Mj
  refine aq 2 λfO=>?_;refine aa 5 ?_;refine ah.p' ?_ aC.d'.d'.d'.d'.d'.d';refine QY ?_;refine ae 3 8 ?_;refine aa 7 ?_;refine ah.cq [4,0,2] (λy:aj×aj×ab Bool×ab Bool=>(∃m,y.2.2.1=p.x k++List.replicate m default/\y.2.2.2=p.h k++List.replicate m false/\(m=0\/(((p.x k).length+m:Nat):Int)<=x.bX))/\
    (y.2.2.1.length=0\/∃g q N i,y.1=.slice (some ⟨g,0,none⟩) y.2.2.1.length q/\y.2.1=.slice (some ⟨N,0,none⟩) y.2.2.2.length i)) (λy=>[])
   (λy=>[cells b 325 (cA (d.set k y.1) (s.set k y.2.1) p),rows fq y.1 4 1 y.2.2.1,rows fq y.2.1 4 1 y.2.2.2]) (λy=>x.bX.toNat-y.2.2.1.length) (v,u,p.x k,p.h k) ⟨⟨0,VK,VK,.inl rfl⟩,Yo⟩ ?_
  rintro⟨ez,j0,X,qF⟩⟨⟨m,jp,cr,dI⟩,dq⟩ K cJ;dsimp only at jp cr dI dq;refine bh ?_;have yb:X.length=(p.x k).length+m:=by rw[jp];simp
  have G8:qF.length=X.length:=by rw[cr,yb];simp[bV]
  by_cases Yc:(X.length:Int)<x.bX
  .refine aa 2 ?_;refine ah.p' ?_ aC.d'.d'.d'.d'.d'.d';refine NP ?_;refine af.n' 7 rfl (V.Xf ad) ?_;refine ae 3 8 ?_;refine aa 11 ?_;refine ah.V9 [28,32] ?_ aC.j.j.d'.j.j.d' aC.j.j.d'.j.j.j;refine ae 12 0 ?_;refine ae 1 13 ?_;refine ae 6 16 ?_;refine ae 2 25 ?_;refine ae 2 29 ?_;refine af.t 12 rfl (V.F' ad (z:=U)) ?_;refine af.t 22 rfl (V.F' ad (z:=Ym)) ?_;refine af.bx 14 23 rfl rfl ?_ ?_;refine O.lit ad (λYq=>?_);refine au ?_;refine af.bx 15 23 rfl rfl ?_ ?_;refine O.Z' ad rfl rfl Vz (cz.one ad VF pY) (λYn C=>?_);refine au ?_;refine dr 23 λYk=>?_;refine NK λYl Y=>?_;rotate_left;refine O.lit ad (λYk=>?_);refine au ?_;refine af.y' 15 rfl (O.Z' ad rfl rfl Vz (cz.one ad VF pY) (λYn C=>?_));refine au ?_;refine NK λYl Y=>?_;rotate_left;refine O.lit ad (λYk=>?_);refine au ?_;refine dr 14 λYq=>?_;refine af.y' 15 rfl (O.Z' ad rfl rfl Vz (cz.one ad VF pY) (λYn C=>?_));refine au ?_;refine NK λYl Y=>?_;rotate_left;all_goals exact Out.C' cJ (_,_,X++[default],qF++[false]) ⟨⟨m+1,by rw[wA,<-jp],by rw[wA,<-cr],.inr RG⟩,.inr ⟨_,_,_,_,rfl,rfl⟩⟩ VG
  .have Yr:X=hK (p.x k) x.bX.toNat default:=by rw[jp];exact wz ac ac
   have Ye:qF=hK (p.h k) x.bX.toNat false:=Rz
   rw[<-Yr,<-Ye];rcases dq with dq|⟨g,q,N,i,rfl,rfl⟩
   .omega
   .refine aa 2 ?_;refine ah.p' ?_ aC.d'.d'.d'.d'.d'.d';refine NP ?_;refine ae 4 7 ?_;refine aa 9 ?_;refine ah.p' ?_ aC.j.j.d'.j.j.d';refine NP ?_;refine Ov ?_;refine af.y' 22 rfl (O.Xu ad (f:=fq) (a:=t) rfl rfl rfl rfl VS rfl ac (λ_=>rfl) ?_);refine Nd ?_
    exact Mx
 .have G:bt x p.aE=false:=by simpa using P
  refine Pb λdA D=>?_
  rw[D,G];refine ar.eqv eG.bare (R:=λr J=>r=B false/\J=[cells b 325 (cA d s p),hw fq 4 1 d p.xs,hw fq 4 1 s p.bV]) ?_ OW;refine aF func257 λW=>?_;refine aq 2 λfO=>?_;refine aa 5 ?_;refine ah.p' ?_ aC.d'.d'.d'.d';refine QY ?_;refine ae 3 8 ?_;exact aQ 11
def fY(a b:bp):Bool:=decide (a.Round<b.Round)||(decide (a.Round=b.Round)&&decide (a.a1<b.a1))
def sn(a b:bp):Int:=if a=b then 0 else if fY a b then-1 else 1
def yc{a b:bp}:fY a b=true↔a.Round<b.Round\/a.Round=b.Round/\a.a1<b.a1:=by simp[fY]
def G9{a b:bp}:a=b↔a.Round=b.Round/\a.a1=b.a1:=by cases a;cases b;simp
def ad7(a b:bp):dH prog 204 [A a.c,A b.c] (I (sn a b)):=by
 by_cases h:a=b
 .rw[show sn a b=0 by simp[sn,h]];refine aF func204 λW=>?_;refine aq 2 λY=>?_;refine aq 0 λx=>?_;exact aQ 23
 .by_cases u:fY a b=true
  .rw[show sn a b=-1 by simp[sn,h,u]];rw[yc]at u;refine aF func204 λW=>?_;refine aq 2 λY=>?_;refine aq 0 λx=>?_;refine aa 22 ?_;refine ai.aX (λU=>?_) (λU=>?_);exact aQ 26;exact aQ 27
  .rw[show sn a b=1 by simp[sn,h,u]];rw[yc]at u;refine aF func204 λW=>?_;refine aq 2 λY=>?_;refine aq 0 λx=>?_;refine aa 29 ?_;refine ai.aX (λx=>?_) (λx=>?_);exact aQ 21;exact aQ 21
def C0{a:bp}:fY a a=false:=by rw[<-mh,yc];omega
def afG(a b:bp):decide (sn a b<0)=fY a b:=by
 unfold sn;by_cases h:a=b
 .subst h;rw[C0];simp
 .cases u:fY a b<;>simp[h]
def u1(a b:bp):dH prog 139 [A a.c,A b.c] (B (fY a b)):=by
 refine aF func139 λW=>?_;refine aq 2 λx=>?_;refine aq 0 λx=>?_;refine aa 7 ?_;refine ai.o (aw.fn rfl (ad7 _ _) ?_);refine aa 6 ?_
 .rw[<-afG]
def z8(n:Int):dH prog 58 [I n] (A (bp.c ⟨0,n⟩)):=by refine aF func58 λW=>?_;refine aq 2 λx=>?_;exact aQ 11
def cg(n:Int):Int:=(Max.max n 1-1)/2
def C1(n:Int)(y:n<=9223372036854775807):dH prog 200 [I n] (I (cg n)):=by refine aF func200 λW=>?_;exact aQ 16
def Aa(n:Int)(y:n<=4611686018427387904):dH prog 136 [I n] (I (cg n+1)):=by
 have l:=C1 n ac;have:0<=cg n/\cg n<=4611686018427387904:=Tc
 refine aF func136 λW=>?_;exact aQ 15
def akT(n:Int)(y:n<=4611686018427387904)(W:0<=n):dH prog 268 [I n] (I (2*cg n)):=by
 have l:=C1 n ac;have:cg n<=2305843009213693952:=Tc
 have:0<=cg n:=Tc
 refine aF func268 λW=>?_;refine aa 9 ?_;refine ai.v (V.mul) ?_;exact aQ 5
def Ha(n:Int)(y:n<=9223372036854775807):dH prog 19 [I n] (I (cg n)):=by
 by_cases h:n<1
 .rw[show cg n=0 by unfold cg;omega];refine aF func19 λW=>?_;exact aQ 21
 .rw[show cg n=(n-1)/2 by unfold cg;omega];refine aF func19 λW=>?_;exact aQ 25
def ip(a b:bp):Bool:=if a.Round≠b.Round then decide (a.Round<b.Round)else decide (a.a1<b.a1)
def qG(a b:bp):Int:=if a=b then 0 else if a.Round<b.Round\/(a.Round=b.Round/\a.a1<b.a1)then-1 else 1
def less(a b:bp):Bool:=decide (qG a b<0)
def aiu(a b:bp):less a b=ip a b:=by
 unfold less qG ip;cases a;cases b;simp only[bp.mk.injEq];split
 .rename_i h;simp[h.1,h.2]
 .split
  .rename_i Y Z;rcases Z with Z|Z
   .have:¬(_:Int)=_:=Int.ne_of_lt Z;simp[Z,this]
   .simp[Z.1,Z.2]
  .rename_i Y Z;simp only[nt,not_and,Int.not_lt]at Z;split
   .simp;omega
   .simp;omega
def ct(x:aY×Bool):aj:=.tuple #[A x.1.c,B x.2]
def promise(i:aY)(b:bp):aY×Bool:=if ip b i.bO then(i,false)else({i with bO:=b},true)
def i3(i:aY)(b:bp)(s:Int)(c:aO)(same:Bool):aY×Bool:=
 if ip b i.bO=true\/i.Status=3 then(i,false)
 else if i.bZ=b/\s<=i.Status then({i with bO:=b},decide (i.Status=s))
 else({bO:=b,bZ:=b,Status:=s,Call:=c,cZ:=same},true)
def p6(i:aY)(c:aO):aY×Bool:=if i.Status=3 then(i,false)else({i with Status:=3,Call:=c,cZ:=false},true)
def Hb(a b:bp):dH prog 204 [A a.c,A b.c] (I (qG a b)):=by
 refine aF func204 λW=>?_;refine Tu λU x=>?_;refine Nq (λf=>?_) λf=>?_
 .simp_all[qG]
 refine aa 8 ?_;refine ai.aX (λY=>?_) (λY=>?_);refine aa 26 ?_
 .simp_all[qG]
 refine Px (λZ=>?_) λZ=>?_;refine aa 10 ?_;refine Nq (λD=>?_) λD=>?_
 .simp_all[qG]
 refine aa 10 ?_
 .simp_all[qG]
 refine aa 21 ?_
 .simp_all[qG]
def ajN(a b:bp):dH prog 139 [A a.c,A b.c] (B (less a b)):=by refine aF func139 λW=>?_;refine aq 2 λx=>?_;refine aq 0 λx=>?_;refine aa 7 ?_;refine ai.o (aw.fn rfl (Hb _ _) ?_);exact aQ 6
def C2(a b:bp):dH prog 139 [A a.c,A b.c] (B (ip a b)):=aiu a b▸ajN a b
def Hc(i:aY)(b:bp):dH prog 235 [A i.c,A b.c] (ct (promise i b)):=by
 refine aF func235 λW=>?_;refine VN λx x q=>?_;refine aa 9 ?_;refine ai.o (aw.fn rfl (C2 _ _) ?_);refine UR (λW=>?_) λW=>?_;refine aa 10 ?_
 .simp[ct,promise, *]
 refine aa 18 ?_
 .simp[ct,promise, *]
def aft(i:aY)(b:bp)(s:Int):dH prog 277 [A i.c,A b.c,I s] (B (decide (i.bZ=b/\s<=i.Status))):=by
 refine aF func277 λW=>?_;refine aq 2 λx=>?_;refine aq 0 λq=>?_;refine OK (λW=>?_) λW=>?_;refine aa 10 ?_
 .simp[*]
 refine aa 10 ?_
 .simp[*]
def Hd(i:aY)(b:bp)(s:Int)(c:aO)(same:Bool):dH prog 263 [A i.c,A b.c,I s,A c.c,B same] (ct (i3 i b s c same)):=by
 refine aF func263 λW=>?_;refine VN λa p F=>?_;refine aq 0 λQ=>?_;refine aa 7 ?_;refine ai.o (aw.fn rfl (Hc _ _) ?_);refine aq 3 λk=>?_;refine aa 11 ?_;refine ai.aX (λf=>?_) (λf=>?_);refine aa 19 ?_;rotate_left;refine aa 7 ?_;refine ah.cs (λY=>?_) (λY=>?_);refine aa 11 ?_;rotate_left;refine aa 5 ?_;refine ai.o (aw.fn rfl (aft _ _ _) ?_);refine Tf (λZ=>?_) λZ=>?_;refine au ?_;refine ah.p' ?_ aC.d'.j.j.j.d';refine ae 7 0 ?_;refine aa 6 ?_;rotate_left;refine aa 4 ?_;refine ah.p' ?_ aC.j.d'.d'.j.j;refine ae 12 0 ?_;refine aa 11 ?_;rotate_left;all_goals
  by_cases u:ip b i.bO=true
  .have t:i3 i b s c same=(i,false):=aJ (.inl u);simp_all[promise,ct]
  .by_cases D:i.Status=3
   .have t:i3 i b s c same=(i,false):=aJ (.inr D);simp_all[promise,ct]
   .by_cases m:i.bZ=b/\s<=i.Status
    .have t:i3 i b s c same=({i with bO:=b},decide (i.Status=s)):=by unfold i3;rw[aG (by simp_all),aJ m]
     rw[t];simp_all[promise,ct]
    .have t:i3 i b s c same=({bO:=b,bZ:=b,Status:=s,Call:=c,cZ:=same},true):=by unfold i3;rw[aG (by simp_all),aG m]
     rw[t];have z:promise i b=({i with bO:=b},true):=aG u;first
      |(rw[z];rfl)
      |rfl
      |(exfalso;exact D VV)
      |(exfalso;exact m VV)
      |(exfalso;rw[z]at f;cases f;done)
      |(exfalso;simp_all;done)
def afH(i:aY)(b:bp)(c:aO)(same:Bool):dH prog 232 [A i.c,A b.c,A c.c,B same] (ct (i3 i b 1 c same)):=by refine aF func232 λW=>?_;refine aq 2 λq=>?_;refine aq 0 λa=>?_;refine aq 0 λp=>?_;refine aq 0 λF=>?_;refine aa 9 ?_;refine ai.o (aw.fn rfl (Hd _ _ _ _ _) ?_);exact aQ 8
def al9(i:aY)(b:bp)(c:aO):dH prog 234 [A i.c,A b.c,A c.c] (ct (i3 i b 2 c false)):=by refine aF func234 λW=>?_;refine aq 2 λx=>?_;refine aq 0 λq=>?_;refine aq 0 λa=>?_;refine aq 0 λp=>?_;refine aa 8 ?_;refine ai.o (aw.fn rfl (Hd _ _ _ _ _) ?_);exact aQ 8
def aha(i:aY)(c:aO):dH prog 182 [A i.c,A c.c] (ct (p6 i c)):=by
 refine aF func182 λW=>?_;refine VN λY x q=>?_;refine aa 11 ?_;refine ah.cs (λf=>?_) (λf=>?_);refine aa 10 ?_
 .simp_all[ct,p6]
 refine aa 3 ?_;refine ah.p' ?_ aC.j.d'.j;refine ae 7 0 ?_;refine aa 11 ?_
 .simp_all[ct,p6]
def cX(b:bp)(n:Int):Bool:=decide (0<=b.Round/\b.Round<=1099511627776/\0<=b.a1/\b.a1<n)
def kF(m x:bp):bp:=if 0<qG x m then x else m
def lE:ab bp->bp
 |[]=>bp.z
 |x::l=>l.foldl kF x
def aiN(Y:1<=k)(T:k<N.length):lE (N.take (k+1))=kF (lE (N.take k)) (N.getD k default):=by
 cases N with
 |nil=>simp at T
 |cons x l=>
  obtain⟨j,rfl⟩:∃j,k=j+1:=⟨k-1,ac⟩
  have v:j<l.length:=Pf
  simp only[ws,lE];rw[F2 v,wC];simp[v]
def ahA(h:0<N.length):lE (N.take 1)=N.getD 0 default:=by
 cases N with
 |nil=>simp at h
 |cons x l=>simp[lE]
def aez{x:bp}(Y:1<=k)(U:N[k]?=some x):lE (N.take (k+1))=kF (lE (N.take k)) x:=by have T:k<N.length:=(cF.1 U).1;rw[aiN Y T];congr 1;simp[List.getD,U]
def Ab(b:bp)(n:Int):dH prog 168 [A b.c,I n] (B (cX b n)):=by
 refine aF func168 λW=>?_;refine aq 2 λx=>?_;refine aa 9 ?_;refine VQ (λJ Z=>?_) (λJ Z=>?_) λJ=>?_;refine VE (λt=>?_) λt=>?_;refine aa 10 ?_
 .simp_all[cX]<;>omega
 refine aa 10 ?_
 .simp_all[cX]<;>omega
 refine aa 15 ?_
 .simp_all[cX]<;>omega
 refine aa 20 ?_
 .simp_all[cX]<;>omega
def afZ(e:ay)(n:aT Go.Addr)(Q b off:Nat)(N:ab bp)(o:Rd e n N.length b off 2 (N.map bp.c))(w:0<N.length):ar prog 203 [.slice n N.length Q,.func (.func 204) #[] #[]] [e] (λv J=>v=A (lE N).c/\J=[e]):=by
 have F:=o.len;obtain⟨j,E⟩:=cl w;have f:lE (N.take 1)=j:=by rw[ahA w];simp[List.getD,E]
 refine aF func203 λW=>?_;refine aq 2 λq=>?_;refine aq 18 λa=>?_;refine aa 10 ?_;refine ah.cq [5,4,0,1] (λk:Nat=>1<=k/\k<=N.length) (λk=>[(6,I (k:Int))]) (λk=>[cells a 48 (lE (N.take k)).c]) (λk=>N.length-k) 1 ⟨cx _,w⟩ ?_ (t:=by rw[f];exact ak.cons al.here ak.nil);rintro k⟨Y,T⟩ K i;refine bh ?_;by_cases l:k<N.length
 .obtain⟨x,U⟩:=cl l;have p:=aez Y U;refine aa 15 ?_;refine ah.p' ?_ aC.d'.j.d';refine ae 3 0 ?_;refine af.n' 3 rfl (V.W9 ad rfl rfl VV) ?_;refine af.n' 4 rfl (V.Wb ad rfl VV (kk VV)) ?_;refine ae 1 5 ?_;refine af.y' 6 rfl (aw.X5 rfl rfl (Hb _ _) ?_);refine au ?_;refine ae 1 7 ?_;refine UR (λZ=>?_) λZ=>?_;refine aa 14 ?_;rotate_left;refine aa 8 ?_;rotate_left
  .rw[kF,aJ VV]at p;rw[<-p];exact Out.C' i (k+1) ⟨ac,ac⟩ ac
  .rw[kF,aG VV]at p;rw[<-p];exact Out.C' i (k+1) ⟨ac,ac⟩ ac
 .obtain rfl:k=N.length:=by omega
  rw[iI];exact aQ 23
def He(e:ay)(n:aT Go.Addr)(Q b off:Nat)(N:ab bp)(f:Rd e n N.length b off 2 (N.map bp.c)):ar prog 138 [.slice n N.length Q] [e] (λv J=>v=A (lE N).c/\J=[e]):=by
 by_cases w:0<N.length
 .have R:=afZ e n Q b off N f w;refine aF func138 λW=>?_;refine aq 2 λx=>?_;exact aQ 23
 .obtain rfl:N=[]:=ml ac;refine aF func138 λW=>?_;refine aq 2 λx=>?_;exact aQ 20
def so(M:Int)(N:ab bp):bp:=if ip (lE N) ⟨max (lE N).Round 1,M⟩then⟨max (lE N).Round 1,M⟩else⟨max (lE N).Round 1+1,M⟩
def ag4(e:ay)(n:aT Go.Addr)(Q b off:Nat)(M:Int)(N:ab bp)(f:Rd e n N.length b off 2 (N.map bp.c))(X:(lE N).Round<=4611686018427387904):ar prog 100 [I M,.slice n N.length Q] [e] (λv J=>v=A (so M N).c/\J=[e]):=by have R:=He e n Q b off N f;refine aF func100 λW=>?_;refine aq 2 λq=>?_;refine aq 7 λa=>?_;refine aq 10 λp=>?_;refine aa 8 ?_;refine ai.o (aw.fn rfl (C2 _ _) ?_);refine aa 3 ?_;refine ah.cs (λU=>?_) (λU=>?_);refine aa 16 ?_;rotate_left;refine aa 10 ?_;rotate_left;all_goals(unfold so;simp only[*];first|exact⟨_,_,⟨rfl,rfl⟩,ak.cons al.here ak.nil⟩|rfl)
end Go.Proofs.YteogojgnkjegmaaGreatDoor
