/-
 Part of the proof.
-/
import Derived.Test.YteogojgnkjegmaaGreatDoorAz
set_option linter.all false
set_option maxRecDepth 8000
set_option maxHeartbeats 8000000
namespace Go.Proofs.YteogojgnkjegmaaGreatDoor
open Go.ay Go.Proofs.Tryz
variable[Go.ay.b4]
inductive Tok where
 |P (i:Nat)
 |A (i:Nat)
 |C (i:Nat)
noncomputable def Tok.let(R:Nat)(x:ag)(c:aN):Tok->b8
 |.P i=>⟨(R:Int),(i:Int),gM (h5 x c i)⟩
 |.A i=>⟨(i:Int),(R:Int),gM (ha x c i)⟩
 |.C i=>⟨(R:Int),(i:Int),gM (k6 x c i)⟩
structure z7 where
 st:Nat->Nat
 cw:aT ((Nat->Bool)×Int)
 lG:ab Tok
structure lX(n:Int)(R:Nat)(Y:ag->aT aN)(x:ag)(c:aN):Prop where
 cM:n=3\/n=5\/n=7
 ew:(R:Int)<n
 nZ:x.a1=(R:Int)
 new:Y x=none
 uF:bq x n=true
 gc:eJ c n=true
 nL:c.cv.Kind≠0
 prev:∀m:Int,1<=m->m<x.bT->(Y ⟨x.a1,m⟩).isSome=true
 Jk:∀y∈qH c.eG,y≠x->(Y y).isSome=true
 iO:∀s:bR,s.ok->s.n=n->(∀y c,Y y=some c->∃j,s.p.at y=some j/\j.Status=3/\j.Call=c)->(∀y,Y y=none->s.p.at y=none)->(fm s.p c.cv x).1=c.eG/\(fm s.p c.cv x).2=c.Seq
structure Du(n:Int)(Y:ag->aT aN)(x:ag)(c:aN)(i:Nat)(st:Nat)(s:aC):Prop where
 leads:s.leads=[]
 out:s.out=[]
 told:s.told=[]
 gh:jU n i (if st=2 then nt Y x c else Y) (if st=1 then rV x c elseλ_=>none) s
def acz(n:Int)(R:Nat)(Y:ag->aT aN)(x:ag)(c:aN)(U:g5)(s:aC):aT ((Nat->Bool)×Int)->Prop
 |some (Q,k)=>qd n R Y x c Q k s/\s.M.s=U
 |none=>jU n R (nt Y x c) (λ_=>none) s/\s.leads=[]
def n0(t:gi):ag×Int:=(t.t.Item,t.t.gP)
structure kz(n:Int)(R:Nat)(Y:ag->aT aN)(x:ag)(c:aN)(U:g5)(J:ab (ag×Int))(u:z7)(q:bw):Prop where
 aI:q.n=n
 y:∃k,dc k q
 cut:∀a b,lo q.cut a b=false
 bo:q.bo=u.lG.map (Tok.let R x c)
 wi:∀i:Nat,(i:Int)<n->i≠R->∃b L s,q.aH[i]?=some (.up b L s)/\Du n Y x c i (u.st i) s
 aA:∃b L s,q.aH[R]?=some (.up b L s)/\s.out=[]/\s.told=[]/\acz n R Y x c U s u.cw
 told:q.told.map n0=J++(if u.cw.isNone then[(x,(il U c.cv).1.gP)]else[])
def mo(f:Nat->Nat)(i v:Nat):Nat->Nat:=λk=>if k=i then v else f k
section
variable{n:Int}{R:Nat}{Y:ag->aT aN}{x:ag}{c:aN}{U:g5}{J:ab (ag×Int)}{u:z7}{q Z:bw}{e:Int}
def wj{i:Nat}(h:(i:Int)<n)(a:n=3\/n=5\/n=7):je (i:Int)=true:=by unfold je;rw[c5,dl,dl];omega
def ahc{n:Int}{i:Nat}{m:aD}(G:c3 m n=true)(j:m.bK≠(i:Int)):hD n (i:Int) [m]=[⟨(i:Int),m.bK,gM m⟩]:=by unfold hD;rw[Sz (by rw[G,lg j];rfl)];rfl
def kz.ll{i:Nat}{s2:aC}{l:ab b8}(h:kz n R Y x c U J u q)(ao:(i:Int)<n)(Q:z6 q i l s2 Z):(∃b L,Z.aH[i]?=some (.up b L s2.flush))/\∀j,j≠i->Z.aH[j]?=q.aH[j]?:=by
 obtain⟨b,L,f⟩:=Q.aH;obtain⟨k,F⟩:=h.y;have T:=F.len;rw[h.aI]at T;refine⟨⟨b,L,?_⟩,λj y=>?_⟩
 .rw[f,l0,aQ rfl,aQ ac]
 .rw[f,l0,aM (o5 y)]
def acO(D:lX n R Y x c)(h:kz n R Y x c U J u q){i:Nat}{K:ab Tok}(p:u.lG=.P i::K)(ao:(i:Int)<n)(o:i≠R)(g:u.st i=0)(T:u.lG.length<=100)(r:nW q 0 e Z):kz n R Y x c U J ⟨mo u.st i 1,u.cw,K++[.A i]⟩ Z:=by
 obtain⟨k,F⟩:=h.y;obtain⟨b,L,s,M,E⟩:=h.wi i ao o;have w:=F.up i b L s M;have z:q.bo=⟨(R:Int),(i:Int),gM (h5 x c i)⟩::K.map (Tok.let R x c):=by rw[h.bo,p];rfl
 have Yc:=E.gh;rw[g,aM T6,aM T6]at Yc;have G:c3 (h5 x c i) n=true:=Dr D.uF D.gc ac;have Yf:c3 (ha x c i) n=true:=Jb D.uF D.gc ac;have Yg:x.a1≠(i:Int):=by rw[D.nZ];omega
 obtain⟨s1,s2,N,C,f⟩:=Dt (by have:=D.cM;rw[h.aI];omega) F.len h.cut z (by rw[h.aI];exact G) D.nZ rfl (o5 o) M Yc.self r;have l:=D.iO s.aA w.y.aA (by rw[w.y.en,Yc.n]) Yc.rU Yc.no;obtain⟨W,d,a,nR⟩:=Yc.abF E.leads w.y.aA w.y.en D.new Yg (by rw[Yc.n];exact G) l N;have Ye:=x7 (x8 C W.q2) W.ea;subst Ye;rw[E.out,Yc.n,Yc.self,ahc Yf Yg,gJ]at a;have v:=f (by
  intro y F;rw[a,i2]at F;rw[F];refine⟨wj ao D.cM,?_⟩;show je x.a1=true
  rw[D.nZ];exact wj D.ew D.cM) (by rw[a,eT];rw[p]at T;simp at T⊢;omega)
 obtain⟨⟨X,Q,t⟩,Yh⟩:=h.ll ao v;refine⟨v.n.trans h.aI,⟨_,r.cQ F⟩,NA,?_,?_,?_,?_⟩
 .rw[v.bo,a,jo];show _++[(⟨(i:Int),x.a1,gM (ha x c i)⟩:b8)]=_
  rw[D.nZ];rfl
 .intro j m Yi;by_cases e:j=i
  .subst e;refine⟨X,Q,_,t,d,rfl,rfl,?_⟩;show jU n j (if mo u.st j 1 j=2 then _ else _) (if mo u.st j 1 j=1 then _ else _) _
   unfold mo;rw[aQ rfl,aM T6,aQ rfl];exact W.flush
  .obtain⟨F,D,s2,g,G⟩:=h.wi j m Yi;refine⟨F,D,s2,by rw[Yh j e];exact g,?_⟩;show Du n Y x c j (mo u.st i 1 j) s2
   unfold mo;rw[aM e];exact G
 .obtain⟨F,D,s2,g,G⟩:=h.aA;exact⟨F,D,s2,by rw[Yh R (o5 o)];exact g,G⟩
 .rw[v.told,nR,E.told];show(q.told++[]).map n0=_
  rw[dT];exact h.told
end
end Go.Proofs.YteogojgnkjegmaaGreatDoor
namespace Go.Proofs.YteogojgnkjegmaaGreatDoor
open Go.ay Go.Proofs.Tryz
variable[Go.ay.b4]
def gT(n:Int)(R:Nat):ab Nat:=(List.range n.toNat).filter λi:Nat=>decide (i≠R)
def Dv(n:Int)(R:Nat):(gT n R).length<=n.toNat:=by unfold gT;grind
section
variable{n:Int}{R:Nat}{Y:ag->aT aN}{x:ag}{c:aN}{Z:g5}{U:ab (ag×Int)}{u:z7}{q J:bw}{e:Int}
def Jl(d:lX n R Y x c)(h:kz n R Y x c Z U u q){i:Nat}{l:ab Tok}(Ye:u.lG=.C i::l)(ao:(i:Int)<n)(P:i≠R)(o:u.st i=0\/u.st i=1)(T:u.lG.length<=100)(r:nW q 0 e J):kz n R Y x c Z U ⟨mo u.st i 2,u.cw,l⟩ J:=by
 obtain⟨k,X⟩:=h.y;obtain⟨b,L,s,M,Q⟩:=h.wi i ao P;have Yc:=X.up i b L s M;have z:q.bo=⟨(R:Int),(i:Int),gM (k6 x c i)⟩::l.map (Tok.let R x c):=by rw[h.bo,Ye];rfl
 have Yf:=Q.gh;have K:u.st i≠2:=ac
 rw[aM K]at Yf;have G:c3 (k6 x c i) n=true:=Ds d.uF d.gc ac;obtain⟨s1,s2,N,K,f⟩:=Dt (by have:=d.cM;rw[h.aI];omega) X.len h.cut z (by rw[h.aI];exact G) d.nZ rfl (o5 P) M Yf.self r;have Yh:∀y,y≠x->(if u.st i=1 then rV x c elseλ_=>none) y=none:=by grind [rV]
 have Yg:(bP s.aA.p x).Status≠3:=by
  unfold bP;rw[Yf.no x d.new];split
  .grind [rV]
  .show¬((0:Int)=3);decide
 obtain⟨a,W,qW,t,nR,v1,_⟩:=Yf.comm (by rw[Q.leads];rfl) Yc.y.aA Yc.y.en Yc.y.run d.new Yh Yg (by rw[Yf.n];exact G) d.Jk N K;have Yk:(a8 s.dX x).getD false=false:=by
  cases F:a8 s.dX x with
  |none=>rfl
  |some v=>
   exfalso;have:=Yf.dX x v F;rw[d.nZ]at this;omega
 rw[Yk,vu,aM T6]at v1;obtain rfl:=Ff.1 v1;rw[Q.out]at qW;rw[Q.told]at nR;have w:=f Uh Uh;obtain⟨⟨E,D,g⟩,Yi⟩:=h.ll ao w;refine⟨w.n.trans h.aI,⟨_,r.cQ X⟩,by rw[w.cut];exact h.cut,?_,?_,?_,?_⟩
 .rw[w.bo,qW,dT]
 .intro j m Yj;by_cases e:j=i
  .subst e;refine⟨E,D,_,g,W,rfl,rfl,?_⟩;show jU n j (if mo u.st j 2 j=2 then _ else _) (if mo u.st j 2 j=1 then _ else _) _
   unfold mo;rw[aQ rfl,aQ rfl,aM T6];exact a.flush
  .obtain⟨F,D,s2,g,G⟩:=h.wi j m Yj;grind [mo]
 .obtain⟨F,D,s2,g,G⟩:=h.aA;grind
 .rw[w.told,nR];show(q.told++[]).map n0=_
  rw[dT];exact h.told
def Dw(N:lX n R Y x c)(h:kz n R Y x c Z U u q){i:Nat}{l:ab Tok}(Yg:u.lG=.A i::l)(ao:(i:Int)<n)(Ye:i≠R)(dz:u.lG.length<=100)(cN:nW q 0 e J):(u.cw=none->kz n R Y x c Z U ⟨u.st,none,l⟩ J)/\∀p k,u.cw=some (p,k)->p i=false->(k+1<2*cY n->kz n R Y x c Z U ⟨u.st,some (oV p i,k+1),l⟩ J)/\(2*cY n<=k+1->kz n R Y x c Z U ⟨u.st,none,l++(gT n R).map .C⟩ J):=by
 obtain⟨k,X⟩:=h.y;obtain⟨b,L,s,b3,dy,T,F⟩:=h.aA;have g:=X.up R b L s b3;have cu:q.bo=⟨(i:Int),(R:Int),gM (ha x c i)⟩::l.map (Tok.let R x c):=by rw[h.bo,Yg];rfl
 have bF:c3 (ha x c i) n=true:=Jb N.uF N.gc ac;have E:s.self=(R:Int):=g.self;obtain⟨s1,s2,bg,bY,cd⟩:=Dt (by have:=N.cM;rw[h.aI];omega) X.len h.cut cu (by rw[h.aI];exact bF) rfl N.nZ Ye b3 E cN;have Yc:l.length<=99:=Uh
 have o (lC:Nat->Nat) (v:z6 q R (l.map (Tok.let R x c)) s2 J):∀j:Nat,(j:Int)<n->j≠R->∃b L s,J.aH[j]?=some (.up b L s)/\Du n Y x c j (u.st j) s:=by intro j dR Yi;obtain⟨_,Q⟩:=h.ll N.ew v;obtain⟨kr,g4,s2,kU,rE⟩:=h.wi j dR Yi;grind
 constructor
 .intro Yf;rw[Yf]at F;obtain⟨m,a⟩:=F;have dx:=m.abG a bg;subst dx;have r:=x7 (x8 bY m.q2) m.ea;subst r;have v:=cd Uh Uh;obtain⟨⟨G,d,f⟩,Q⟩:=h.ll N.ew v;refine⟨v.n.trans h.aI,⟨_,cN.cQ X⟩,NA,?_,o u.st v,⟨G,d,_,f,rfl,rfl,m.flush,a⟩,?_⟩
  .rw[v.bo,dy,dT]
  .rw[v.told,T];show(q.told++[]).map n0=_
   rw[dT];have:=h.told;grind
 .intro p r8 K eh;rw[K]at F;obtain⟨P,pn⟩:=F;constructor
  .intro cc;obtain⟨W,jI,w,nR,z,x1⟩:=P.UM N.cM ao eh cc bg;have r:=x7 (x8 bY W.gh.q2) W.gh.ea;subst r;rw[dy]at jI;rw[T]at w;have v:=cd Uh Uh;obtain⟨⟨G,d,f⟩,Q⟩:=h.ll N.ew v;refine⟨v.n.trans h.aI,⟨_,cN.cQ X⟩,NA,?_,o u.st v,⟨G,d,_,f,rfl,rfl,W.flush,?_⟩,?_⟩
   .rw[v.bo,jI,dT]
   .show s2.M.s=Z;rw[nR];exact pn
   .rw[v.told,w];show(q.told++[]).map n0=_
    rw[dT];have:=h.told;grind
  .intro cc;obtain⟨W,jI,w,t,nR,z,x1⟩:=P.tc N.cM ao eh cc g.y.aA g.y.en g.y.run N.new N.uF N.gc N.Jk bg bY;rw[dy,gJ]at w;rw[T,gJ]at nR;rw[aQ N.nL]at z;have Yh:s2.out.length<=7:=by rw[w];unfold qc;rw[eT];have:=Dv n R;unfold gT at this;have:=N.cM;omega
   have v:=cd (by rw[w];intro y X;unfold qc at X;obtain⟨j,dR,rfl⟩:=eS.1 X;have dR:=pC.1 (oz.1 dR).1;exact⟨wj N.ew N.cM,wj ac N.cM⟩) Uh
   obtain⟨⟨G,d,f⟩,Q⟩:=h.ll N.ew v;refine⟨v.n.trans h.aI,⟨_,cN.cQ X⟩,NA,?_,o u.st v,⟨G,d,_,f,rfl,rfl,W.flush,jI⟩,?_⟩
   .rw[v.bo,w,jo,uq];rfl
   .rw[v.told,nR,jo,h.told,K];obtain⟨D,rfl⟩:∃D,t=[D]:=by
     cases t with
     |nil=>cases z
     |cons a l=>
      cases l with
      |nil=>exact⟨a,rfl⟩
      |cons b l=>simp at z
    have G:D.Item=x:=LX
    have k:=x1 D gS;rw[pn]at k;show U++[]++[(D.Item,D.gP)]=U++[(x,_)]
    grind
end
end Go.Proofs.YteogojgnkjegmaaGreatDoor
namespace Go.Proofs.YteogojgnkjegmaaGreatDoor
open Go.ay Go.Proofs.Tryz
variable[Go.ay.b4]
variable{n:Int}{R:Nat}{U:ab (ag×Int)}
def z8{i:Nat}(a:0<=n):i∈gT n R↔(i:Int)<n/\i≠R:=by unfold gT;grind
def Dx(n:Int)(R:Nat):(gT n R).Nodup:=List.Pairwise.filter _ List.nodup_range
def SE(R:Nat):∀N:Nat,((List.range N).filter λi:Nat=>decide (i≠R)).length+(if R<N then 1 else 0)=N:=by
 intro N;induction N with
 |zero=>rfl
 |succ N d=>
  rw[tP,nH,b2];grind
def Dy(f:(R:Int)<n):(gT n R).length+1=n.toNat:=by have:=SE R n.toNat;rw[aQ ac]at this;exact this
section
variable{Y:ag->aT aN}{x:ag}{c:aN}{J:g5}{q Z:bw}{e:Int}
inductive kc(n:Int)(R:Nat)(Y:ag->Option aN)(x:ag)(c:aN)(J:g5)(U:List (ag×Int))(O:List Nat):Nat->bw->Prop where
 |s1 {q:bw} {dn td:List Nat} {st:Nat->Nat} (l4:O=dn++td) (bg:∀i,i∉dn->st i=0) (bY:∀i∈dn,st i=1) (h:kz n R Y x c J U ⟨st,some (oV (λ_=>false) R,1),td.map .P++dn.map .A⟩ q):kc n R Y x c J U O (td.length+O.length+(gT n R).length) q
 |s2 {q:bw} {dn td:List Nat} {st:Nat->Nat} {b7:Nat->Bool} (l4:O=dn++td) (bg:∀i,st i=0\/st i=1) (bY:∀i∈td,b7 i=false) (cc:(1:Int)+dn.length<2*cY n) (h:kz n R Y x c J U ⟨st,some (b7,1+(dn.length:Int)),td.map .A⟩ q):kc n R Y x c J U O (td.length+(gT n R).length) q
 |g0 {q:bw} {dn td:List Nat} {st:Nat->Nat} (l4:O=dn++td) (bg:∀i,st i=0\/st i=1) (h:kz n R Y x c J U ⟨st,none,td.map .A++(gT n R).map .C⟩ q):kc n R Y x c J U O (td.length+(gT n R).length) q
 |oF {q:bw} {dn td:List Nat} {st:Nat->Nat} (l4:gT n R=dn++td) (bg:∀i∈td,st i=0\/st i=1) (bY:∀i∈dn,st i=2) (h:kz n R Y x c J U ⟨st,none,td.map .C⟩ q):kc n R Y x c J U O td.length q
def kc.step{O:ab Nat}{k:Nat}(F:lX n R Y x c)(a:∀i∈O,(i:Int)<n/\i≠R)(E:O.Nodup)(w:O.length<=6)(f:2*cY n<=(O.length:Int)+1)(h:kc n R Y x c J U O k q)(z:q.bo≠[])(v:nW q 0 e Z):∃C,k=C+1/\kc n R Y x c J U O C Z:=by
 have o:(gT n R).length<=7:=by have:=Dv n R;have:=F.cM;omega
 have t:0<=n:=by have:=F.cM;omega
 have r:1<=cY n:=by rcases F.cM with rfl|rfl|rfl<;>decide
 cases h with
 |@s1 _ dn s st G N M h=>
  cases s with
  |nil=>
   rw[dT]at G;subst G;cases O with
   |nil=>simp at f;omega
   |cons i O=>
    have ao:=a i gS;have K:kz n R Y x c J U ⟨st,some (oV (λ_=>false) R,1),(i::O).map .A⟩ q:=h;obtain⟨_,b⟩:=Dw F K rfl ao.1 ao.2 (by simp at w⊢;omega) v;have X:∀j,st j=0\/st j=1:=λj=>Uh
    obtain⟨m,D⟩:=b _ _ rfl (by unfold oV;simp[ao.2]);refine⟨O.length+(gT n R).length,Ui,?_⟩
    .by_cases u:(1:Int)+1<2*cY n
     .refine kc.s2 (dn:=[i]) (td:=O) rfl X ?_ Q3 (by simpa using m u);grind [List.nodup_cons.1,List.mem_cons_of_mem,oV]
     .exact kc.g0 (dn:=[i]) (td:=O) rfl X (D ac)
  |cons i s=>
   have d:i∈O:=Kq
   have ao:=a i d;have g:i∉dn:=Uh
   have K:kz n R Y x c J U ⟨st,some (oV (λ_=>false) R,1),.P i::(s.map .P++dn.map .A)⟩ q:=h;have T:dn.length+(s.length+1)<=6:=Uh
   have Q:=acO F K rfl ao.1 ao.2 (N i g) Ui v;refine⟨s.length+O.length+(gT n R).length,Ui,?_⟩;refine kc.s1 (dn:=dn++[i]) (td:=s) Kq ?_ ?_ (by
    have e:s.map Tok.P++(dn++[i]).map Tok.A=s.map Tok.P++dn.map Tok.A++[Tok.A i]:=T3
    rw[e];exact Q)
   .grind [List.mem_singleton,mo]
   .intro j y;unfold mo;grind
 |@s2 _ dn s st Q G N M u h=>
  cases s with
  |nil=>
   grind
  |cons i s=>
   have d:i∈O:=Kq
   have ao:=a i d;have K:kz n R Y x c J U ⟨st,some (Q,1+(dn.length:Int)),.A i::s.map .A⟩ q:=h;have T:dn.length+(s.length+1)<=6:=Uh
   obtain⟨_,b⟩:=Dw F K rfl ao.1 ao.2 Ui v;obtain⟨m,D⟩:=b _ _ rfl (M i gS);refine⟨s.length+(gT n R).length,Ui,?_⟩;by_cases u:(1:Int)+(dn.length:Int)+1<2*cY n
   .refine kc.s2 (dn:=dn++[i]) (td:=s) Kq N ?_ Ui (by
     have e:(1:Int)+((dn++[i]).length:Int)=1+(dn.length:Int)+1:=Ui
     rw[e];exact m u)
    grind [List.nodup_append.1,List.nodup_cons.1,oV,List.mem_cons_of_mem]
   .exact kc.g0 (dn:=dn++[i]) (td:=s) Kq N (D ac)
 |@g0 _ dn s st G N h=>
  cases s with
  |nil=>
   cases p:gT n R with
   |nil=>
    exfalso;have:=Dy F.ew;rw[p]at this;have:=F.cM;simp at*;omega
   |cons i l=>
    have ao:=(z8 t).1 (show i∈gT n R by grind);have K:kz n R Y x c J U ⟨st,none,.C i::l.map .C⟩ q:=by rw[p]at h;exact h
    rw[p]at o;have Q:=Jl F K rfl ao.1 ao.2 (N i) (by simp at o⊢;omega) v;refine⟨l.length,T3,?_⟩;refine kc.oF (dn:=[i]) (td:=l) (by rw[p];rfl) ?_ ?_ Q
    .intro j y;have u:=Dx n R;rw[p]at u;have X:j≠i:=λe=>(la.1 u).1 (e▸y);grind [mo]
    .grind [List.mem_singleton,mo]
  |cons i s=>
   have d:i∈O:=Kq
   have ao:=a i d;have K:kz n R Y x c J U ⟨st,none,.A i::(s.map .A++(gT n R).map .C)⟩ q:=h;have T:dn.length+(s.length+1)<=6:=Uh
   obtain⟨b,_⟩:=Dw F K rfl ao.1 ao.2 Ui v;exact⟨s.length+(gT n R).length,Ui,kc.g0 (dn:=dn++[i]) (td:=s) Kq N (b rfl)⟩
 |@oF _ dn s st G N M h=>
  cases s with
  |nil=>exact absurd h.bo z
  |cons i s=>
   have ao:=(z8 t).1 (show i∈gT n R by rw[G];simp);have K:kz n R Y x c J U ⟨st,none,.C i::s.map .C⟩ q:=h;have u:=Dx n R;rw[G]at u o;have Q:=Jl F K rfl ao.1 ao.2 (N i gS) (by simp at o⊢;omega) v;refine⟨s.length,T3,kc.oF (dn:=dn++[i]) (td:=s) Kq ?_ ?_ Q⟩
   .grind [List.nodup_append.1,List.nodup_cons.1,mo,List.mem_cons_of_mem]
   .intro j y;unfold mo;grind
end
end Go.Proofs.YteogojgnkjegmaaGreatDoor
namespace Go.Proofs.YteogojgnkjegmaaGreatDoor
open Go.ay Go.Proofs.Tryz
variable[Go.ay.b4]
variable{K:ag->aT aN}{n:Int}{W:ab (ag×Int)}{R:Nat}{d:bN}{e:Int}{q:bw}
theorem afF{x:ag}(h:pf x x):False:=by unfold pf at h;omega
theorem SG{x y:ag}(h:pf x y)(k:pf y x):False:=by grind [pf]
def Jm:∀{l m:ab ag},l.Pairwise pf->m.Pairwise pf->(∀y,y∈l↔y∈m)->l=m
 |[],[],_,_,_=>rfl
 |[],b::m,_,_,h=>absurd ((h b).2 gS) T3
 |a::l,[],_,_,h=>absurd ((h a).1 gS) T3
 |a::l,b::m,T,K,h=>by
  rw[List.pairwise_cons]at T K;have q:a=b:=by grind [List.mem_cons_self,SG]
  subst q;congr 1;refine Jm T.2 K.2 λy=>?_;grind [afF]
theorem Dz{p:aJ aX}(z:p.ok)(y:ag):y∈p.all.map (·.1)↔(p.at y).isSome=true:=by
 rw[eS];constructor
 .grind [aJ.Ve]
 .intro h;obtain⟨t,j⟩:=uT.1 h;exact⟨(y,t),(aJ.Ve z).2 j,rfl⟩
def aiT{p r:aJ aX}(z:p.ok)(f:r.ok)(h:∀y,(p.at y).map (·.Call)=(r.at y).map (·.Call))(d:bN)(b:ag):fm p d b=fm r d b:=by
 have Y:p.all.map (·.1)=r.all.map (·.1):=by refine Jm ((aJ.WS p).map _ λ_ _ h=>h) ((aJ.WS r).map _ λ_ _ h=>h) λy=>?_;grind [Dz,Option.isSome,Option.isSome_map]
 have N:∀y,(bP p y).Call=(bP r y).Call:=λy=>by have:=h y;unfold bP;cases c:p.at y<;>cases U:r.at y<;>rw[c,U]at this<;>simp at this⊢;exact this
 unfold fm ps;rw[Y];have R:jc p d b=jc r d b:=by grind [jc]
 rw[R]
theorem SI(D:bX)(x:ag)(k:Nat)(m:Int)(h:(kp D x).l[k]?=some m):D.l[k]?=some m\/(x.a1=(k:Int)/\x.bT=m):=by
 obtain⟨F,s,Q,R,G,i,w⟩:=D;simp only[kp,bX.l]at h⊢;rcases k with _|_|_|_|_|_|_|k;all_goals simp only[qk,sf,eY,List.getElem?_nil,reduceCtorEq]at h⊢
 all_goals(split at h<;>omega)
def ag5(p:aJ aX)(d:bN)(c:ag):∀(Z:ab ag) (o:bX×Int) (k:Nat) (m:Int),(Z.foldl (jc p d c) o).1.l[k]?=some m->o.1.l[k]?=some m\/∃y∈Z,y.a1=(k:Int)/\y.bT=m:=by
 intro Z;induction Z with
 |nil=>intro o k m h;exact wg h
 |cons x Z d=>
  grind [jc,SI,List.mem_cons_self,List.mem_cons_of_mem]
def afa(p:aJ aX)(d:bN)(c:ag)(Z:ab ag)(k:Nat)(m:Int)(h:(ps p d c Z).1.l[k]?=some m):m=0\/∃y∈Z,y.a1=(k:Int)/\y.bT=m:=by
 rcases ag5 p d c Z _ k m h with h|h
 .left;change([0,0,0,0,0,0,0]:ab Int)[k]?=some m at h;grind
 .exact u0 h
def ah3{D:bX}{y:ag}(h:y∈qH D):∃k:Nat,∃m:Int,D.l[k]?=some m/\y.a1=(k:Int)/\1<=y.bT/\y.bT<=m:=by grind [qH,l6,List.mem_flatMap.1,List.mem_range.1,i5]
structure te(n:Int)(e5:ag->aT aN)(q:bw):Prop where
 cM:n=3\/n=5\/n=7
 aI:q.n=n
 y:∃k,dc k q
 cut:∀a b,lo q.cut a b=false
 bo:q.bo=[]
 up:∀i:Nat,(i:Int)<n->∃b L s,q.aH[i]?=some (.up b L s)/\jU n i e5 (λ_=>none) s/\s.leads=[]/\s.out=[]/\s.told=[]
 DA:∀y,(e5 y).isSome=true->∀m:Int,1<=m->m<=y.bT->(e5 ⟨y.a1,m⟩).isSome=true
def lX.of{s o:aC}{x:ag}(a:n=3\/n=5\/n=7)(f:(R:Int)<n)(J:jU n R K (λ_=>none) s)(W:s.aA.ok)(U:x=fW s.aA s.self)(h:Ji n R K s d x o)(L:∀y,(K y).isSome=true->∀m:Int,1<=m->m<=y.bT->(K ⟨y.a1,m⟩).isSome=true):lX n R K x (jV s.aA.p d x):=by
 have D:∀y,(s.aA.p.at y).isSome=true->(K y).isSome=true:=λy F=>by
  cases X:K y with
  |some c=>rfl
  |none=>rw[J.no y X]at F;cases F
 refine⟨a,f,h.nZ,h.new,h.uF,h.gc,h.ok.2,?_,?_,?_⟩
 .intro m Y N;have v:x.bT=(s.aA.p.top (R:Int):Int)+1:=by rw[U];show(s.aA.p.top s.self:Int)+1=_;rw[J.self]
  obtain⟨t,j⟩:∃t,s.aA.p.top (R:Int)=t+1:=⟨s.aA.p.top (R:Int)-1,ac⟩
  have R:=D _ (aJ.X7 W.p j);have:=L _ R m Y Uh;rw[h.nZ];exact this
 .intro y F _;obtain⟨k,m,Y,N,R,Z⟩:=ah3 F;rcases afa _ _ _ _ _ _ Y with a|⟨z,v,a,M⟩
  .omega
  .have b:=D z ((Dz W.p z).1 v);have:=L z b y.bT R ac;rw[a,<-N]at this;exact this
 .intro t j k X v;have:fm t.p d x=fm s.aA.p d x:=by
   refine aiT j.p W.p (λy=>?_) d x;cases F:K y with
   |none=>rw[v y F,J.no y F]
   |some c=>
    obtain⟨j,b,_,Y⟩:=X y c F;obtain⟨M,k,_,N⟩:=J.rU y c F;grind
  show(fm t.p d x).1=(fm s.aA.p d x).1/\(fm t.p d x).2=(fm s.aA.p d x).2
  grind
def ae3{E:ag->aT aN}{a:bw}{K:Int}{x:ag}(h:te n E q)(Q:nr q K d x e a):(e≠0/\te n E a/\a.told.map n0=q.told.map n0)\/(e=0/\∃R b L s,K=((R:Nat):Int)/\q.aH[R]?=some (.up b L s)/\lX n R E x (jV s.aA.p d x)/\kz n R E x (jV s.aA.p d x) s.M.s (q.told.map n0) ⟨λ_=>0,some (oV (λ_=>false) R,1),(gT n R).map .P⟩ a):=by
 obtain⟨k,F⟩:=h.y;have Yl:=Q.cQ F;rcases Q with⟨Y,_,N,rfl⟩|⟨_,i,Z,w,s1,G,s2,mx,U,Ye,Yf⟩
 .exact wg ⟨by rw[N];exact Y,h,rfl⟩
 .have Yg:i<q.aH.length:=by
   rcases o1 i q.aH.length with h|h
   .exact h
   .grind
  have Yh:(i:Int)<n:=by have:=F.len;rw[h.aI]at this;omega
  obtain⟨J,u,o,Yc,C,T,c,r⟩:=h.up i Yh;rw[U]at Yc;cases Yc;have l:=F.up i Z w s1 U;have t:=λc T=>Jj (J:=q) (l:=[]) (b:=Z) (L:=G) (s2:=s2) Yg (by rw[h.bo]) h.cut c T Yf;rcases agL C T h.cM Yh l.y.aA l.y.en Ye with⟨z,rfl⟩|⟨z,aW⟩
  .left;have v:=t (by rw[c];intro y F;cases F) (by rw[c];simp);obtain⟨D,G,f⟩:=v.aH;refine⟨z,⟨h.cM,v.n.trans h.aI,⟨_,Yl⟩,NA,by rw[v.bo,c];rfl,?_,h.DA⟩,by rw[v.told,r];simp⟩;intro j m;by_cases e:j=i
   .subst e;exact⟨D,G,_,by rw[f,l0,aQ rfl,aQ Yg],C.flush,T,rfl,rfl⟩
   .obtain⟨W,Aa,g0,g⟩:=h.up j m;exact⟨W,Aa,g0,Uh,g.2⟩
  .right;have Yk:x=fW s1.aA s1.self:=by
    rcases Ye with⟨_,_,Yi,_⟩|⟨_,_,_,Yi,_⟩|⟨_,_,h,_⟩
    .rw[Yi]at z;exact absurd z T6
    .rw[Yi]at z;exact absurd z T6
    .exact h
   have X:=lX.of h.cM Yh C l.y.aA Yk aW h.DA;have Yj:=aW.out;rw[c,gJ]at Yj;have v:=t (by
    rw[Yj];intro y F;unfold qc at F;obtain⟨j,m,rfl⟩:=eS.1 F;have m:=pC.1 (oz.1 m).1;exact⟨wj Yh h.cM,wj ac h.cM⟩) (by
    rw[Yj];unfold qc;rw[eT];have:=Dv n i;unfold gT at this;have:=h.cM;simp only[gv];omega)
   obtain⟨D,G,f⟩:=v.aH;refine⟨z,i,Z,w,s1,mx,U,X,v.n.trans h.aI,⟨_,Yl⟩,NA,?_,?_,⟨D,G,_,by rw[f,l0,aQ rfl,aQ Yg],rfl,rfl,aW.ls.flush,?_⟩,?_⟩
   .rw[v.bo,Yj,gJ,uq];rfl
   .intro j m Y;obtain⟨W,Aa,g0,i,C,w,L,N⟩:=h.up j m;refine⟨W,Aa,g0,by rw[f,l0,aM (o5 Y)];exact i,w,L,N,?_⟩;show jU n j (if(0:Nat)=2 then _ else E) (if(0:Nat)=1 then _ else _) g0
    grind
   .show s2.M.s=s1.M.s;rw[aW.M]
   .rw[v.told,aW.told,r];simp
def kc.fin{x:ag}{c:aN}{t:g5}{O:ab Nat}{k:Nat}(M:lX n R K x c)(L:∀y,(K y).isSome=true->∀m:Int,1<=m->m<=y.bT->(K ⟨y.a1,m⟩).isSome=true)(D:2*cY n<=(O.length:Int)+1)(h:kc n R K x c t W O k q)(z:q.bo=[]):te n (nt K x c) q/\q.told.map n0=W++[(x,(il t c.cv).1.gP)]:=by
 have r:0<=n:=by have:=M.cM;omega
 have P:1<=cY n:=by rcases M.cM with rfl|rfl|rfl<;>decide
 have E:∀y,(nt K x c y).isSome=true->∀m:Int,1<=m->m<=y.bT->(nt K x c ⟨y.a1,m⟩).isSome=true:=by
  intro y F m Y N;unfold nt at F⊢;by_cases U:(⟨y.a1,m⟩:ag)=x
  .rw[aQ U];rfl
  .rw[aM U];by_cases e:y=x
   .subst e;refine M.prev m Y ?_;rcases Int.lt_or_eq_of_le N with f|f
    .exact f
    .exfalso;apply U;rw[f]
   .grind
 cases h with
 |@s1 _ dn l st G Y N h=>
  exfalso;have T:=dp List.length (h.bo.symm.trans z);grind
 |@s2 _ dn l st Q G Y N u h=>
  exfalso;have T:=dp List.length (h.bo.symm.trans z);grind
 |@g0 _ dn l st G Y h=>
  exfalso;have T:=dp List.length (h.bo.symm.trans z);have:=Dy M.ew;have f:=M.cM;grind
 |@oF _ dn l st G Y N h=>
  have T:=dp List.length (h.bo.symm.trans z);simp at T;subst T;rw[dT]at G;subst G;refine⟨⟨M.cM,h.aI,h.y,h.cut,z,?_,E⟩,h.told⟩;intro i ao;by_cases e:i=R
  .subst e;obtain⟨b,L,s,l,K,j,W,M⟩:=h.aA;grind
  .obtain⟨b,L,s,l,K⟩:=h.wi i ao e;have:=K.gh;have f:st i=2:=N i ((z8 r).2 ⟨ao,e⟩);have Z:({st:=st,cw:=none,lG:=List.map Tok.C []}:z7).st i=2:=f;rw[Z,aQ rfl,aM T6]at this;exact⟨b,L,s,l,this,K.leads,K.out,K.told⟩
def kc.settle{x:ag}{c:aN}{f:g5}{O:ab Nat}{k j:Nat}{a:bw}(M:lX n R K x c)(r:∀i∈O,(i:Int)<n/\i≠R)(J:O.Nodup)(w:O.length<=6)(D:2*cY n<=(O.length:Int)+1)(h:kc n R K x c f W O k q)(Q:qa q j a):∃U,k=U+j/\kc n R K x c f W O U a:=by
 induction Q with
 |nil=>exact⟨k,rfl,h⟩
 |step _ z j d=>
  obtain⟨U,e,Y⟩:=d;obtain⟨u,U,N⟩:=Y.step M r J w D z j;grind
def acA{T:ag->aT aN}{g D:bw}{J G:Int}{x:ag}(h:te n T q)(Q:nr q J d x e g)(K:20<=G)(E:rT g G D):(e≠0/\te n T D/\D.told.map n0=q.told.map n0)\/(e=0/\∃R b L s c,J=((R:Nat):Int)/\q.aH[R]?=some (.up b L s)/\c.cv=d/\te n (nt T x c) D/\D.told.map n0=q.told.map n0++[(x,(il s.M.s d).1.gP)]):=by
 obtain⟨j,y,u,Yc⟩:=E;rcases ae3 h Q with⟨z,aW,v⟩|⟨z,R,b,L,s,mx,U,X,m⟩
 .left;cases y with
  |nil=>exact⟨z,aW,v⟩
  |@step A2 C _ l Y P N=>
   exfalso;have Z:∀{j:Nat} {a:bw},qa g j a->a=g/\j=0:=by
    intro j a F;induction F with
    |nil=>exact⟨rfl,rfl⟩
    |step _ P _ o=>rw[o.1]at P;exact absurd aW.bo P
   rw[(Z Y).1]at P;exact P aW.bo
 .right;have k:0<=n:=by have:=h.cM;omega
  have W:=Dy X.ew;have r:2*cY n+1=n:=by rcases h.cM with rfl|rfl|rfl<;>decide
  have f:2*cY n<=((gT n R).length:Int)+1:=ac
  have Ye:(gT n R).length<=6:=by have:=h.cM;omega
  have w:∀i∈gT n R,(i:Int)<n/\i≠R:=λi ao=>(z8 k).1 ao;have t:kc n R T x (jV s.aA.p d x) s.M.s (q.told.map n0) (gT n R) _ g:=kc.s1 (dn:=[]) (td:=gT n R) (st:=λ_=>0) rfl (λ_ _=>rfl) (λi ao=>by cases ao) (by simpa using m);obtain⟨Y,u,v⟩:=t.settle X w (Dx n R) Ye f y;have P:D.bo=[]:=Uh
  obtain⟨i,C⟩:=v.fin X h.DA f P;exact⟨z,R,b,L,s,_,mx,U,rfl,i,C⟩
def ahq{X N:Int}{l:ab eK}{r:db}{st:Int×ab br}(h:rQ n X N l r st)(T:l=[]):r=db.new n/\st=(0,[]):=by
 cases h with
 |nil=>exact⟨rfl,rfl⟩
 |ut h _ _=>simp at T
 |iN h _=>simp at T
theorem Jn(n:Int):(aJ.new n:aJ aX).all=[]:=by rw[Iv];grind [aJ.Ve,aJ.UL,aJ.Vw]
def aek(a:n=3\/n=5\/n=7){c:bw}(h:ns n c):te n (λ_=>none) c/\∀(i b:Nat) (L:cW) (s:aC),c.aH[i]?=some (.up b L s)->s.M.s=g5.z:=by
 have f:∀(i b:Nat) (L:cW) (s:aC),c.aH[i]?=some (.up b L s)->jU n i (λ_=>none) (λ_=>none) s/\s.leads=[]/\s.out=[]/\s.told=[]/\s.M.s=g5.z:=by
  intro i b L s U;obtain⟨k,T,d,e,X,M,r,st,_,_,⟨_,j⟩,w,m⟩:=h.up i _ U;cases e;have P:(hQ n [] [] 0).p=aJ.new n:=rfl;rw[P,Jn]at w;obtain⟨rfl,rfl⟩:=ahq w rfl;have:=x7 m rfl;clear m;generalize s.bQ=g at this;subst this;have t:∀y,(aJ.new n:aJ aX).at y=none:=λy=>aJ.Vw n y;refine⟨⟨rfl,rfl,rfl,rfl,rfl,(λy c F=>K6),(λy _=>t y),(λy=>?_),(λy=>?_),(λy v F=>K6)⟩,rfl,rfl,rfl,j⟩
  .show((aJ.new n:aJ aN).at y).isSome=false;rw[aJ.Vw];rfl
  .show((aJ.new n:aJ Bool).at y).isSome=false;rw[aJ.Vw];rfl
 refine⟨⟨a,h.aI,⟨_,h.y a⟩,?_,h.bo,?_,λy F=>K6⟩,λi b L s U=>(f i b L s U).2.2.2.2⟩
 .intro a b;rw[h.cut];unfold lo;grind
 .intro i ao;have T:=h.len;have e:c.aH[i]?=some (c.aH[i]' ac):=hs ac;obtain⟨b,L,s,Y,_⟩:=h.up i _ e;grind
def adN{a:bw}{x:ag}(h:te n K q)(g:(R:Int)<n)(w:s5 d)(X:∀y,K y=none)(Q:nr q (R:Int) d x e a):e=0:=by
 obtain⟨b,L,s,U,J,_⟩:=h.up R g;obtain⟨k,F⟩:=h.y;rcases Q with⟨Y,_⟩|⟨_,i,Z,z,s1,D,s2,mx,c,M,_⟩
 .exfalso;apply Y;unfold g7;rw[h.aI,aM ac,i3,U];rfl
 .have:i=R:=by omega
  subst this;rw[U]at c;cases c;have W:=(F.up i b L s U).y.aA;rcases M with⟨Y,_⟩|⟨_,Y,_⟩|⟨_,_,_,Y,_⟩
  .exact absurd w Y
  .exfalso;have N:64<(s.aA.p.top s.self:Int)+1:=Y;rw[J.self]at N;obtain⟨t,j⟩:∃t,s.aA.p.top (i:Int)=t+1:=⟨s.aA.p.top (i:Int)-1,ac⟩
   have f:=aJ.X7 W.p j;rw[J.no _ (X _)]at f;cases f
  .exact Y
def Jo:s5 x5:=⟨T6,T6⟩
def ac4:(il g5.z x5).1.gP=1:=by unfold il;rw[Jo.1,aM T6,aQ T6];rfl
def SS{c:bw}(h:Dn c):x6 c.told=true:=by
 obtain⟨Y,U,x,e,u,v,f⟩:=h;obtain⟨aW,K⟩:=aek ac u;have z:=adN (R:=0) aW T6 Jo (λ_=>rfl) v;rcases acA aW v T6 f with⟨Y,_⟩|⟨_,R,b,L,s,o,_,U,_,_,j⟩
 .exact absurd z Y
 .rw[u.told,K R b L s U,ac4]at j;have N:=dp (List.map Prod.snd) j;rw[uq]at N;unfold x6;rw[dl];exact N
end Go.Proofs.YteogojgnkjegmaaGreatDoor
namespace Go.ay
open Go
section
variable{P:bU}{r:aT Nat}{W:aZ}{D:ab Nat}{N:Nat}{Q:cU}{Y Z:bC}{U M J:ab ax}{w:aZ}
def ah.abH{t:Type}{c:Code}{F:ab Nat}(k:ab Nat)(J:t->Prop)(E:t->bC)(S:t->ab ax)(G:t->Nat)(l:t){T:bC}{X:ab ax}(o:J l) (h:∀x z,J x->∀K:Act->aZ->Prop,(∀y f,J y->G y<G x->∀a w,dd ⟨N,f⟩ (E y++T) a->H W D (S y++(aL (fY f)::X)) w->K a w)->ah P r W D ⟨N,z⟩ (Exit.then K Q) c (E x++T) (S x++(aL (fY z)::X))) (u:kH Y k T:=by(repeat(first|exact kH.nil|apply kH.cons rfl))) (L:de Y (E l):=by(repeat(first|exact de.nil|refine de.cons rfl rfl ?_))) (q:ak U (S l++[aL (fY F)]) X:=by(repeat(first|exact ak.nil|exact al.here|apply ak.cons|apply al.there))):ah P r W D ⟨N,F⟩ Q (.loop c) Y U:=ah.of λa w v p=>by
 classical
 let I:Act->aZ->Prop:=λa w=>∃x z,J x/\dd ⟨N,z⟩ (E x++T) a/\H W D (S x++(aL (fY z)::X)) w;let M:Act->aZ->Nat->Prop:=λa w k=>∃x z,J x/\G x=k/\dd ⟨N,z⟩ (E x++T) a/\H W D (S x++(aL (fY z)::X)) w;have ex:∀a w,I a w->∃k,M a w k/\∀j,j<k->¬M a w j:=λa w ⟨x,z,C,k⟩=>Az _ (G x) ⟨x,z,C,rfl,k⟩;let m:Act->aZ->Nat:=λa w=>if h:I a w then Classical.choose (ex a w h)else 0
 have mspec:∀a w (h:I a w),M a w (m a w)/\∀j,j<m a w->¬M a w j:=λa w h=>NR
 have K:H W D (S l++(aL (fY F)::X)) w:=by have:=p.UP q;rw[cn]at this;exact this
 refine wpIn_loop I m ⟨l,F,o,v.sub (L.app u.sub).get,K⟩ λa w b=>?_;obtain⟨⟨x,z,K,C,k,j⟩,_⟩:=mspec a w b;refine tr (ah.get (h x z K (λa w=>∃y f,J y/\G y<G x/\dd ⟨N,f⟩ (E y++T) a/\H W D (S y++(aL (fY f)::X)) w) (λy f C K a w R F=>⟨y,f,C,K,R,F⟩)) a w k j) λe b X aW=>?_;cases e with
 |normal=>
  obtain⟨y,f,L,F,t,g⟩:=aW;refine⟨⟨y,f,L,t,g⟩,?_⟩;have T:I b X:=⟨y,f,L,t,g⟩
  have:=(mspec b X T).2 (G y);rcases o1 (G y) (m b X)with c|h
  .exact absurd ⟨y,f,L,rfl,t,g⟩ (this c)
  .omega
 |_=>exact aW
def Out.abI{t:Type}{J G:t->Prop}{E:t->bC}{S:t->ab ax}{C:bC}{h R:ab ax}{K:Act->aZ->Prop}{z:ab Nat} (b:∀y q,J y->G y->∀a w,dd ⟨N,q⟩ (E y++C) a->H W D (S y++(aL (fY q)::h)) w->K a w) (y:t) (x:J y) (f:G y) (L:de Y (E y++C):=by(repeat(first|exact de.nil|refine de.cons rfl rfl ?_))) (q:ak U (S y++(aL (fY z)::h)) R:=by(repeat(first|exact ak.nil|exact al.here|apply ak.cons|apply al.there))):Out W D ⟨N,z⟩ (Exit.then K Q) .normal Y U:=Out.of λa w j v=>b y z x f a w (j.sub L.get) (v.gW q)
def ah.pt{n:dq}{c:Code}{rj wk R:ab ax}(L:aO rj wk)(h:ah P r W D n Q c Y (wk++R))(q:ak U rj R:=by(repeat(first|exact ak.nil|exact al.here|apply ak.cons|apply al.there))):ah P r W D n Q c Y U:=
 ah.eqv ((aO.UA q.perm).trans (L.append (aO.refl R))) h
def Out.pt{n:dq}{e:dI}{rj wk R:ab ax}(L:aO rj wk)(h:Out W D n Q e Y (wk++R))(q:ak U rj R:=by(repeat(first|exact ak.nil|exact al.here|apply ak.cons|apply al.there))):Out W D n Q e Y U:=
 Out.eqv ((aO.UA q.perm).trans (L.append (aO.refl R))) h
def Jp{m l J R:ab ax}(h:ak l J R):ak (l++m) (m++J) R:=by
 induction m generalizing l with
 |nil=>rw[dT];exact h
 |cons x m d=>exact ak.cons (Fl x m l) (d h)
end
end Go.ay
namespace Go.Proofs.YteogojgnkjegmaaGreatDoor
open Go.ay Go.Proofs.Tryz
variable[Go.ay.b4]
variable{G:ab cC}{L:cW}
def Jq:ar prog 8 [] [cJ] (λr J=>r=B true/\J=[cJ]):=by refine ar.mono Sj ?_;rintro r J⟨c,b,Y,N⟩;rw[SS b]at Y;exact⟨Y,N⟩
def Ab(Z:ab fS):Prop:=∀x∈Z,(x.cv.Key.length<=140737488351232/\x.cv.Value.length<=140737488351232)/\(0<=x.ss/\x.ss<256)
def Jr(n:Int)(p:n=3\/n=5\/n=7):ar prog 10 [I n] [cJ] (λr J=>∃y T u,(ns n u.c/\u.n=n/\u.my=[]/\u.dZ=0)/\r=aw y 0/\J=[aL (lq y T u)]):=by refine ar.UB (ahu n p) ?_;rintro v J W D w⟨y,T,u,Y,rfl,rfl⟩ a;exact⟨_,⟨y,T,u,Y,rfl,rfl⟩,a.eqv aO.aL.symm⟩
def Js(p:Nat)(T:we)(u:nY)(a:fS)(k:Nat)(h:dc k u.c)(E:k<=70000000000)(j:0<=u.dZ/\u.dZ<=1000000)(q:0<=a.ss/\a.ss<256):ar prog 11 [aw p 0,A a.c] [aL (lq p T u)] (λr J=>∃c y,x4 u a y/\r=.tuple #[]/\J=[aL (lq p c y)]):=by
 have Y:=ar.W8 (Q:=λz r=>x4 u a z.2/\r=.tuple #[]) (T:=λz:we×nY=>lq p z.1 z.2) (ar.mono (Sd p T u a k h E j q) (by rintro r J⟨c,y,Y,N,R⟩;exact⟨(c,y),⟨Y,N⟩,R⟩))
 refine ar.mono Y ?_;rintro r J⟨⟨c,y⟩,⟨Y,N⟩,R⟩;exact⟨c,y,Y,N,R⟩
def uG(b:Nat)(L:cW)(s:aC):ab ax:=
 [cells b 95 (eN L s),bz cg c0 L.e3 s.leads,fh jd s.leads,bz cg c0 L.hi s.bp,fh gQ s.bp,kv L s,jP L.el L.dP s.run,mg s.M,bz cg iX L.eb s.dX,bz cg ln L.bH s.high,
  ej aD.c L.e0 176 25 s.inbox,rows b8.c L.dN 143 3 s.out,rows fF.c L.bS 65 6 s.told]
def Ac(G:ab cC)(i b:Nat)(L:cW)(s:aC):ax:=aL (ta L.ec s.bQ s.X s.aA++(uG b L s++[fq (G.eraseIdx i)]))
def Jt{i b:Nat}{s:aC}(h:G[i]?=some (.up b L s)):aO [kT s.X.ee s.X.R s.aA.p,Ac G i b L s] [fq G]:=by
 refine aO.trans ?_ (Db h).symm;show aO _ (cb b L s++[fq (G.eraseIdx i)])
 have Y:aO (cb b L s++[fq (G.eraseIdx i)]) ([fE L.ec s.bQ s.X s.aA]++(uG b L s++[fq (G.eraseIdx i)])):=by refine aO.UA ?_;unfold cb uG;exact hK ..
 refine aO.trans ?_ Y.symm;have N:=(C7 L.ec s.bQ s.X s.aA).append (aO.refl (uG b L s++[fq (G.eraseIdx i)]));refine aO.trans ?_ N.symm;unfold Ac;refine(aO.refl [kT s.X.ee s.X.R s.aA.p]).append ?_;refine aO.aL.trans ?_;exact(aO.aL (be:=ta L.ec s.bQ s.X s.aA)).symm.append (aO.refl _)
def Ju{i b:Nat}{s:aC}(h:G[i]?=some (.up b L s)):ar prog 13 [aw b 0] [fq G] (λr J=>r=aw L.ec 0/\J=[fq G]):=by
 have Y:ar prog 13 [aw b 0] (cC.up b L s).es (λr J=>∃_:Unit,r=aw L.ec 0/\J=[]++(cC.up b L s).es):=ar.mono (adt b L s) λr J ⟨Y,M⟩=>⟨(),Y,M⟩
 refine ar.mono (ar.Wg (N:=λ_=>.up b L s) (T:=λ_=>[]) (Q:=λr _=>r=aw L.ec 0) h Y) ?_;rintro r J⟨_,M,R⟩;rw[uv h]at R;exact⟨M,R⟩
def Jv{i b:Nat}{s:aC}(h:G[i]?=some (.up b L s)):ar prog 14 [aw L.ec 0] [fq G] (λr J=>∃q,r=.func (.func 80) #[] #[aw q 0]/\J=[cells q 117 [aw s.X.ee 0],kT s.X.ee s.X.R s.aA.p,Ac G i b L s]):=by
 have l:aO [fq G] ([fE L.ec s.bQ s.X s.aA]++(uG b L s++[fq (G.eraseIdx i)])):=by
  refine(Db h).trans ?_;refine aO.UA ?_;show(cb b L s++[fq (G.eraseIdx i)]).Perm _
  unfold cb uG;exact hK ..
 refine ar.eqv l (ar.frame (be:=uG b L s++[fq (G.eraseIdx i)]) (Iz L.ec s.bQ s.X s.aA)) ?_;rintro r J⟨W,⟨q,Y,rfl⟩,rfl⟩;refine⟨_,⟨q,Y,rfl⟩,?_⟩;refine(aO.refl [cells q 117 [aw s.X.ee 0],kT s.X.ee s.X.R s.aA.p]).append ?_;unfold Ac;refine aO.trans ?_ aO.aL.symm;exact(aO.aL (be:=ta L.ec s.bQ s.X s.aA)).append (aO.refl _)
def Jw{c:bw}{i:Nat}{x:cC}(a:(i:Int)<c.n)(h:c.aH[i]?=some x):uB c (i:Int)=x.ptr:=by unfold uB;rw[aM ac,i3,h]
def wl(w:aZ):(Go.zeroValue 29).run prog w=.ok (A bN.z.c) w:=rfl
end Go.Proofs.YteogojgnkjegmaaGreatDoor
namespace Go.Proofs.YteogojgnkjegmaaGreatDoor
variable[Go.ay.b4]
def bk(b:bm):Int:=b.Round*8+b.a1
structure c7 where
 pre:Int->aN->Prop
 acc:Int->aN->Prop
 ed:Int->Int->Prop
 cF:Int->Prop
 eD:Int->Int->Int->Int->aN->Bool->Prop
def nu(n k:Int)(p:Int->Prop):Prop:=∃l:ab Int,l.Nodup/\(∀j∈l,(0<=j/\j<n)/\p j)/\k<=(l.length:Int)
def nu.mono{n k:Int}{p q:Int->Prop}(h:nu n k p)(Z:∀j,p j->q j):nu n k q:=by obtain⟨l,J,N,f⟩:=h;exact⟨l,J,λj y=>⟨(N j y).1,Z j (N j y).2⟩,f⟩
def DB:∀(m:Nat) (l:ab Int),l.Nodup->(∀j∈l,0<=j/\j<(m:Int))->l.length<=m
 |0,[],_,_=>cD _
 |0,a::l,_,h=>by grind [List.mem_cons_self]
 |m+1,l,a,h=>by
  have J:=DB m (l.erase (m:Int)) (a.erase _) λj y=>Uh
  grind
def nu.meet{n k Z:Int}{p q:Int->Prop}(h:nu n k p)(L:nu n Z q)(a:0<=n)(u:n<k+Z):∃j,(0<=j/\j<n)/\p j/\q j:=by
 obtain⟨l,J,M,f⟩:=h;obtain⟨m,i,C,r⟩:=L;by_cases w:∃j∈l,j∈m
 .grind
 .exfalso;have x:(l++m).Nodup:=by grind
  obtain⟨N,rfl⟩:=rt a;have:=DB N (l++m) x λj y=>Uh
  grind
def ajb{n k:Int}{p:Int->Prop}(h:nu n k p){j m:Int}(W:j≠m)(c:0<=j/\j<n)(K:0<=m/\m<n)(J:¬p j)(M:¬p m):k+2<=n:=by
 obtain⟨l,s,Q,f⟩:=h;obtain⟨N,rfl⟩:=rt (show 0<=n by omega);have:=DB N (j::m::l) (by
  rw[la,la];refine⟨?_,?_,s⟩
  .rw[dk];grind
  .intro h;exact M (Q m h).2) λy X=>by
  rcases dk.1 X with rfl|X
  .exact c
  grind
 simp only[dD]at this;omega
section
variable(n F R:Int)(B:Int->aX)(G:c7)
def rW(b:Int):Prop:=nu n (F+1) λj=>b<bk (B j).bO/\¬G.ed j b
def pw:Prop:=R<bk (B R).bO\/(∃c,G.acc R c)\/∃j m,j≠m/\((0<=j/\j<n)/\(0<=m/\m<n))/\(R<bk (B j).bO/\¬G.cF j)/\(R<bk (B m).bO/\¬G.cF m)
def Safe(b:Int)(c:aN):Prop:=rW n F B G b\/G.acc b c
def n1(b:Int):Prop:=b=R\/8<=b
structure ya(j:Int)(I:aX):Prop where
 rX:bk I.b0<=bk I.bO
 st:0<=I.Status/\I.Status<=3
 s1:I.Status=1->(∃c,G.pre (bk I.b0) c)/\(I.cL=true->bk I.b0=R/\G.pre R I.Call)
 s2:I.Status=2->G.acc (bk I.b0) I.Call
 ed:∀b,G.ed j b->b<=bk I.bO/\(I.Status=3\/(b<bk I.b0/\1<=I.Status)\/(bk I.b0=b/\I.Status=2))
 cF:G.cF j->R<=bk I.bO/\(I.Status=3\/(R<bk I.b0/\1<=I.Status)\/(bk I.b0=R/\I.Status=2)\/(bk I.b0=R/\I.Status=1/\I.cL=true))
 eD:∀b v st c sm,G.eD j b v st c sm->b<=bk I.bO
structure wm(j b v st:Int)(c:aN)(sm:Bool):Prop where
 Cw:v<=b
 Ad:0<=st/\st<=2
 s1:st=1->(∃cx,G.pre v cx)/\(sm=true->v=R/\G.pre R c)
 s2:st=2->G.acc v c
 ed:∀dm,dm<b->G.ed j dm->(st=2/\dm<=v)\/(st=1/\dm<v)
 cF:R<b->G.cF j->(1<=st/\R<v)\/(v=R/\st=2)\/(v=R/\st=1/\sm=true)
structure e6:Prop where
 e5:∀j,ya R G j (B j)
 eD:∀j b v st c sm,G.eD j b v st c sm->wm R G j b v st c sm
 wn:∀b c cx,G.acc b c->G.acc b cx->c=cx
 wo:∀b c cx,G.pre b c->G.pre b cx->c=cx
 jS:∀b c,G.acc b c->n1 R b
 jR:∀b c,G.pre b c->n1 R b
 wq:∀b c,G.acc b c->∀dm,dm<b->n1 R dm->Safe n F B G dm c
 wr:∀b c,G.acc b c->b≠R->G.pre R c\/pw n R B G
 ka:∀b c,G.pre b c->b≠R->(∀dm,dm<b->n1 R dm->rW n F B G dm)/\pw n R B G
 own:∀b c,(G.acc b c\/G.pre b c)->b≠R->b<=bk (B (b%8)).bO
 Ae:∀j b,G.ed j b->∃c,G.acc b c
 Af:∀j,G.cF j->∃c,G.pre R c
 yb:∀c,G.acc R c->∃cx,G.pre R cx
def rY(c:aN):Prop:=∃b,G.acc b c/\nu n (F+1) λj=>G.ed j b
structure rZ(c:aN):Prop where
 pre:G.pre R c
 cF:nu n (2*F) G.cF
 no:∀cx,¬G.acc R cx
 p:bk (B R).bO<=R
end
section
variable{n F R:Int}{B U:Int->aX}{G Y:c7}
def e6.ZJ(h:e6 n F R B G)(a:n=2*F+1)(o:0<=n){c g:aN}{b s:Int}(J:G.acc b c)(N:nu n (F+1) λj=>G.ed j b)(f:G.acc s g)(y:b<s):c=g:=by
 rcases h.wq s g f b y (h.jS b c J)with X|K
 .obtain⟨j,_,Z,a⟩:=nu.meet N X o ac;exact absurd Z a.2
 .exact h.wn b c g J K
def e6.abJ(h:e6 n F R B G)(a:n=2*F+1){c:aN}(J:rZ n F R B G c)(w:pw n R B G):False:=by
 rcases w with w|⟨g,w⟩|⟨j,m,W,⟨y,K⟩,N,f⟩
 .have:=J.p;omega
 .exact J.no g w
 .have:=ajb J.cF W y K N.2 f.2;omega
def e6.ZK(h:e6 n F R B G)(a:n=2*F+1){c g:aN}(J:rY n F G c)(N:rZ n F R B G g):c=g:=by
 obtain⟨b,f,_⟩:=J;by_cases X:b=R
 .subst X;exact absurd f (N.no c)
 .rcases h.wr b c f X with Z|Z
  .exact h.wo R c g Z N.pre
  .exact(h.abJ a N Z).elim
def e6.agree(h:e6 n F R B G)(a:n=2*F+1)(o:0<=n){c g:aN}(J:rY n F G c\/rZ n F R B G c)(N:rY n F G g\/rZ n F R B G g):c=g:=by
 rcases J with J|J
 .rcases N with N|N
  .obtain⟨b,l,Q⟩:=J;obtain⟨s,f,D⟩:=N;rcases Int.lt_trichotomy b s with X|X|X
   .exact h.ZJ a o l Q f X
   .subst X;exact h.wn b c g l f
   .exact(h.ZJ a o f D l X).symm
  .exact h.ZK a J N
 .rcases N with N|N
  .exact(h.ZK a N J).symm
  .exact h.wo R c g J.pre N.pre
structure gI(R:Int)(B:Int->aX)(G:c7)(U:Int->aX)(Y:c7):Prop where
 p:∀j,bk (B j).bO<=bk (U j).bO
 pre:∀b c,G.pre b c->Y.pre b c
 acc:∀b c,G.acc b c->Y.acc b c
 ed:∀j b,G.ed j b->Y.ed j b
 cF:∀j,G.cF j->Y.cF j
 eD:∀j b v st c sm,G.eD j b v st c sm->Y.eD j b v st c sm
 Ag:∀j b,b<bk (B j).bO->Y.ed j b->G.ed j b
 yc:∀j,R<bk (B j).bO->Y.cF j->G.cF j
def gI.rfl:gI R B G B G:=⟨λ_=>gg _,λ_ _ h=>h,λ_ _ h=>h,λ_ _ h=>h,λ_ h=>h,λ_ _ _ _ _ _ h=>h,λ_ _ _ h=>h,λ_ _ h=>h⟩
def gI.Wh(e:gI R B G U Y){b:Int}(h:rW n F B G b):rW n F U Y b:=
 h.mono λj ⟨J,N⟩=>⟨yd J (e.p j),λf=>N (e.Ag j b J f)⟩
def gI.dead(e:gI R B G U Y)(h:pw n R B G):pw n R U Y:=by
 rcases h with h|⟨c,h⟩|⟨j,m,W,o,J,N⟩
 .exact .inl (yd h (e.p R))
 .exact .inr (.inl ⟨c,e.acc _ _ h⟩)
 .exact .inr (.inr ⟨j,m,W,o,⟨yd J.1 (e.p j),λf=>J.2 (e.yc j J.1 f)⟩,⟨yd N.1 (e.p m),λf=>N.2 (e.yc m N.1 f)⟩⟩)
def gI.safe(e:gI R B G U Y){b:Int}{c:aN}(h:Safe n F B G b c):Safe n F U Y b c:=h.imp e.Wh (e.acc b c)
def gI.jM(e:gI R B G U Y){c:aN}(h:rY n F G c):rY n F Y c:=by obtain⟨b,J,N⟩:=h;exact⟨b,e.acc _ _ J,N.mono λj h=>e.ed j b h⟩
def e6.ext(h:e6 n F R B G)(e:gI R B G U Y)(cu:∀b c,Y.pre b c->G.pre b c)(fI:∀b c,Y.acc b c->G.acc b c) (ai4:∀j,ya R Y j (U j)) (ye:∀j b v st c sm,Y.eD j b v st c sm->wm R Y j b v st c sm) (r0:∀j b,Y.ed j b->G.ed j b\/∃c,G.acc b c) (r1:∀j,Y.cF j->G.cF j\/∃c,G.pre R c):e6 n F R U Y where
 e5:=ai4
 eD:=ye
 wn b c cx bg bY:=h.wn b c cx (fI _ _ bg) (fI _ _ bY)
 wo b c cx bg bY:=h.wo b c cx (cu _ _ bg) (cu _ _ bY)
 jS b c bg:=h.jS b c (fI _ _ bg)
 jR b c bg:=h.jR b c (cu _ _ bg)
 wq b c bg dm bH dU:=e.safe (h.wq b c (fI _ _ bg) dm bH dU)
 wr b c bg bH:=(h.wr b c (fI _ _ bg) bH).imp (e.pre R c) e.dead
 ka b c bg bH:=⟨λdm adB dU=>e.Wh ((h.ka b c (cu _ _ bg) bH).1 dm adB dU),e.dead (h.ka b c (cu _ _ bg) bH).2⟩
 own b c bg bH:=mM (h.own b c (bg.imp (fI _ _) (cu _ _)) bH) (e.p _)
 Ae j b bg:=by
  rcases r0 j b bg with bY|⟨c,bY⟩
  .obtain⟨c,cd⟩:=h.Ae j b bY;exact⟨c,e.acc _ _ cd⟩
  .exact⟨c,e.acc _ _ bY⟩
 Af j bg:=by
  rcases r1 j bg with bY|⟨c,bY⟩
  .obtain⟨c,cd⟩:=h.Af j bY;exact⟨c,e.pre _ _ cd⟩
  .exact⟨c,e.pre _ _ bY⟩
 yb c bg:=by obtain⟨cx,bY⟩:=h.yb c (fI _ _ bg);exact⟨cx,e.pre _ _ bY⟩
end
end Go.Proofs.YteogojgnkjegmaaGreatDoor
