/-
 Part of the proof.
-/
import Derived.Test.YteogojgnkjegmaaGreatDoorXz
set_option linter.all false
set_option maxRecDepth 8000
set_option maxHeartbeats 8000000
namespace Go.Proofs.YteogojgnkjegmaaGreatDoor
open Go.ay Go.Proofs.Tryz
variable[Go.ay.bR]
inductive Tok where
 |P (i:Nat)
 |A (i:Nat)
 |C (i:Nat)
noncomputable def Tok.let(R:Nat)(x:ag)(c:aV):Tok->b0
 |.P i=>⟨(R:Int),(i:Int),gj (hk x c i)⟩
 |.A i=>⟨(i:Int),(R:Int),gj (gz x c i)⟩
 |.C i=>⟨(R:Int),(i:Int),gj (j1 x c i)⟩
structure yd where
 st:Nat->Nat
 cC:aQ ((Nat->Bool)×Int)
 kt:ab Tok
structure kI(n:Int)(R:Nat)(Y:ag->aQ aV)(x:ag)(c:aV):Prop where
 c6:n=3\/n=5\/n=7
 eU:(R:Int)<n
 mK:x.be=(R:Int)
 new:Y x=none
 sQ:bB x n=true
 gc:eQ c n=true
 oF:c.cz.Kind≠0
 prev:∀m:Int,1<=m->m<x.bH->(Y ⟨x.be,m⟩).isSome=true
 GZ:∀y∈pj c.dX,y≠x->(Y y).isSome=true
 iw:∀s:bE,s.ok->s.n=n->(∀y c,Y y=some c->∃j,s.p.at y=some j/\j.Status=3/\j.Call=c)->(∀y,Y y=none->s.p.at y=none)->(eV s.p c.cz x).1=c.dX/\(eV s.p c.cz x).2=c.Seq
structure Bm(n:Int)(Y:ag->aQ aV)(x:ag)(c:aV)(i:Nat)(st:Nat)(s:aC):Prop where
 leads:s.leads=[]
 out:s.out=[]
 told:s.told=[]
 fA:i3 n i (if st=2 then mb Y x c else Y) (if st=1 then qs x c elseλ_=>none) s
def ady(n:Int)(R:Nat)(Y:ag->aQ aV)(x:ag)(c:aV)(F:gn)(s:aC):aQ ((Nat->Bool)×Int)->Prop
 |some (Q,k)=>oV n R Y x c Q k s/\s.M.s=F
 |none=>i3 n R (mb Y x c) (λ_=>none) s/\s.leads=[]
def mL(t:ft):ag×Int:=(t.t.Item,t.t.ge)
structure jD(n:Int)(R:Nat)(Y:ag->aQ aV)(x:ag)(c:aV)(F:gn)(J:ab (ag×Int))(u:yd)(q:bo):Prop where
 aG:q.n=n
 y:∃k,cP k q
 cut:∀a b,hP q.cut a b=false
 bQ:q.bQ=u.kt.map (Tok.let R x c)
 ux:∀i:Nat,(i:Int)<n->i≠R->∃b L s,q.aS[i]?=some (.up b L s)/\Bm n Y x c i (u.st i) s
 aH:∃b L s,q.aS[R]?=some (.up b L s)/\s.out=[]/\s.told=[]/\ady n R Y x c F s u.cC
 told:q.told.map mL=J++(if u.cC.isNone then[(x,(hw F c.cz).1.ge)]else[])
def k6(f:Nat->Nat)(i v:Nat):Nat->Nat:=λk=>if k=i then v else f k
section
variable{n:Int}{R:Nat}{Y:ag->aQ aV}{x:ag}{c:aV}{F:gn}{J:ab (ag×Int)}{u:yd}{q U:bo}{e:Int}
def uy{i:Nat}(h:(i:Int)<n)(v:n=3\/n=5\/n=7):hx (i:Int)=true:=by unfold hx;rw[cZ,da,da];omega
def Qg{n:Int}{i:Nat}{m:aD}(D:eo m n=true)(j:m.b3≠(i:Int)):gx n (i:Int) [m]=[⟨(i:Int),m.b3,gj m⟩]:=by unfold gx;rw[Qd (by rw[D,kc j];rfl)];rfl
def jD.kf{i:Nat}{s2:aC}{l:ab b0}(h:jD n R Y x c F J u q)(ao:(i:Int)<n)(Q:yc q i l s2 U):(∃b L,U.aS[i]?=some (.up b L s2.flush))/\∀j,j≠i->U.aS[j]?=q.aS[j]?:=by
 obtain⟨b,L,o⟩:=Q.aS;obtain⟨k,G⟩:=h.y;have E:=G.len;rw[h.aG]at E;refine⟨⟨b,L,?_⟩,λj p=>?_⟩
 .rw[o,kq,aT rfl,aT ac]
 .rw[o,kq,aN (nz p)]
def Qh(X:kI n R Y x c)(h:jD n R Y x c F J u q){i:Nat}{l:ab Tok}(f:u.kt=.P i::l)(ao:(i:Int)<n)(T:i≠R)(Q:u.st i=0)(E:u.kt.length<=100)(r:mI q 0 e U):jD n R Y x c F J ⟨k6 u.st i 1,u.cC,l++[.A i]⟩ U:=by
 obtain⟨k,G⟩:=h.y;obtain⟨b,L,s,N,C⟩:=h.ux i ao T;have W:=G.up i b L s N;have v:q.bQ=⟨(R:Int),(i:Int),gj (hk x c i)⟩::l.map (Tok.let R x c):=by rw[h.bQ,f];rfl
 have Yc:=C.fA;rw[Q,aN XG,aN XG]at Yc;have D:eo (hk x c i) n=true:=Bi X.sQ X.gc ac;have Yi:eo (gz x c i) n=true:=GS X.sQ X.gc ac;have Yf:x.be≠(i:Int):=by rw[X.mK];omega
 obtain⟨s1,s2,Z,M,g⟩:=Bl (by have:=X.c6;rw[h.aG];omega) G.len h.cut v (by rw[h.aG];exact D) X.mK rfl (nz T) N Yc.self r;have m:=X.iw s.aH W.y.aH (by rw[W.y.eF,Yc.n]) Yc.qr Yc.no;obtain⟨z,d,w,mE⟩:=Yc.Xq C.leads W.y.aH W.y.eF X.new Yf (by rw[Yc.n];exact D) m Z;have Ye:=rD (uu M z.pF) z.cF;subst Ye;rw[C.out,Yc.n,Yc.self,Qg Yi Yf,gi]at w;have a:=g (by
  intro y G;rw[w,iz]at G;rw[G];refine⟨uy ao X.c6,?_⟩;show hx x.be=true
  rw[X.mK];exact uy X.eU X.c6) (by rw[w,ev];rw[f]at E;simp at E⊢;omega)
 obtain⟨⟨t,K,o⟩,Yg⟩:=h.kf ao a;refine⟨a.n.trans h.aG,⟨_,r.cx G⟩,by rw[a.cut];exact h.cut,?_,?_,?_,?_⟩
 .rw[a.bQ,w,iA];show _++[(⟨(i:Int),x.be,gj (gz x c i)⟩:b0)]=_
  rw[X.mK];rfl
 .intro j p Yh;by_cases e:j=i
  .subst e;refine⟨t,K,_,o,d,rfl,rfl,?_⟩;show i3 n j (if k6 u.st j 1 j=2 then _ else _) (if k6 u.st j 1 j=1 then _ else _) _
   unfold k6;rw[aT rfl,aN XG,aT rfl];exact z.flush
  .obtain⟨l,v,s2,f,X⟩:=h.ux j p Yh;refine⟨l,v,s2,by rw[Yg j e];exact f,?_⟩;show Bm n Y x c j (k6 u.st i 1 j) s2
   unfold k6;rw[aN e];exact X
 .obtain⟨l,v,s2,f,X⟩:=h.aH;exact⟨l,v,s2,by rw[Yg R (nz T)];exact f,X⟩
 .rw[a.told,mE,C.told];show(q.told++[]).map mL=_
  rw[dk];exact h.told
end
end Go.Proofs.YteogojgnkjegmaaGreatDoor
namespace Go.Proofs.YteogojgnkjegmaaGreatDoor
open Go.ay Go.Proofs.Tryz
variable[Go.ay.bR]
def gk(n:Int)(R:Nat):ab Nat:=(List.range n.toNat).filter λi:Nat=>decide (i≠R)
def Bn(n:Int)(R:Nat):(gk n R).length<=n.toNat:=by unfold gk;grind
section
variable{n:Int}{R:Nat}{Y:ag->aQ aV}{x:ag}{c:aV}{J:gn}{U:ab (ag×Int)}{u:yd}{q F:bo}{e:Int}
def G0(T:kI n R Y x c)(h:jD n R Y x c J U u q){i:Nat}{l:ab Tok}(Ye:u.kt=.C i::l)(ao:(i:Int)<n)(W:i≠R)(z:u.st i=0\/u.st i=1)(E:u.kt.length<=100)(P:mI q 0 e F):jD n R Y x c J U ⟨k6 u.st i 2,u.cC,l⟩ F:=by
 obtain⟨k,G⟩:=h.y;obtain⟨b,L,s,N,X⟩:=h.ux i ao W;have Yc:=G.up i b L s N;have r:q.bQ=⟨(R:Int),(i:Int),gj (j1 x c i)⟩::l.map (Tok.let R x c):=by rw[h.bQ,Ye];rfl
 have Yf:=X.fA;have M:u.st i≠2:=ac
 rw[aN M]at Yf;have D:eo (j1 x c i) n=true:=Bj T.sQ T.gc ac;obtain⟨s1,s2,Z,M,g⟩:=Bl (by have:=T.c6;rw[h.aG];omega) G.len h.cut r (by rw[h.aG];exact D) T.mK rfl (nz W) N Yf.self P;have Yh:∀y,y≠x->(if u.st i=1 then qs x c elseλ_=>none) y=none:=by grind [qs]
 have Yg:(b7 s.aH.p x).Status≠3:=by
  unfold b7;rw[Yf.no x T.new];split
  .grind [qs]
  .show¬((0:Int)=3);decide
 obtain⟨m,f,sG,t,mE,ug,_⟩:=Yf.comm (by rw[X.leads];rfl) Yc.y.aH Yc.y.eF Yc.y.run T.new Yh Yg (by rw[Yf.n];exact D) T.GZ Z M;have Yk:(br s.dw x).getD false=false:=by
  cases K:br s.dw x with
  |none=>rfl
  |some v=>
   exfalso;have:=Yf.dw x v K;rw[T.mK]at this;omega
 rw[Yk,tC,aN XG]at ug;obtain rfl:=CW.1 ug;rw[X.out]at sG;rw[X.told]at mE;have a:=g XK XK;obtain⟨⟨d,Q,o⟩,Yi⟩:=h.kf ao a;refine⟨a.n.trans h.aG,⟨_,P.cx G⟩,by rw[a.cut];exact h.cut,?_,?_,?_,?_⟩
 .rw[a.bQ,sG,dk]
 .intro j w Yj;by_cases e:j=i
  .subst e;refine⟨d,Q,_,o,f,rfl,rfl,?_⟩;show i3 n j (if k6 u.st j 2 j=2 then _ else _) (if k6 u.st j 2 j=1 then _ else _) _
   unfold k6;rw[aT rfl,aT rfl,aN XG];exact m.flush
  .obtain⟨l,v,s2,f,X⟩:=h.ux j w Yj;grind [k6]
 .obtain⟨l,v,s2,f,X⟩:=h.aH;grind
 .rw[a.told,mE];show(q.told++[]).map mL=_
  rw[dk];exact h.told
def Bo(Z:kI n R Y x c)(h:jD n R Y x c J U u q){i:Nat}{l:ab Tok}(Yg:u.kt=.A i::l)(ao:(i:Int)<n)(Ye:i≠R)(fE:u.kt.length<=100)(c8:mI q 0 e F):(u.cC=none->jD n R Y x c J U ⟨u.st,none,l⟩ F)/\∀w k,u.cC=some (w,k)->w i=false->(k+1<2*cD n->jD n R Y x c J U ⟨u.st,some (nt w i,k+1),l⟩ F)/\(2*cD n<=k+1->jD n R Y x c J U ⟨u.st,none,l++(gk n R).map .C⟩ F):=by
 obtain⟨k,X⟩:=h.y;obtain⟨b,L,s,cr,dz,Q,G⟩:=h.aH;have E:=X.up R b L s cr;have ei:q.bQ=⟨(i:Int),(R:Int),gj (gz x c i)⟩::l.map (Tok.let R x c):=by rw[h.bQ,Yg];rfl
 have bU:eo (gz x c i) n=true:=GS Z.sQ Z.gc ac;have T:s.self=(R:Int):=E.self;obtain⟨s1,s2,cm,dd,cp⟩:=Bl (by have:=Z.c6;rw[h.aG];omega) X.len h.cut ei (by rw[h.aG];exact bU) rfl Z.mK Ye cr T c8;have Yc:l.length<=99:=XK
 have W (iD:Nat->Nat) (r:yc q R (l.map (Tok.let R x c)) s2 F):∀j:Nat,(j:Int)<n->j≠R->∃b L s,F.aS[j]?=some (.up b L s)/\Bm n Y x c j (u.st j) s:=by intro j eB Yi;obtain⟨_,D⟩:=h.kf Z.eU r;obtain⟨vS,pu,s2,nh,xx⟩:=h.ux j eB Yi;grind
 constructor
 .intro Yf;rw[Yf]at G;obtain⟨m,p⟩:=G;have eu:=m.Xs p cm;subst eu;have K:=rD (uu dd m.pF) m.cF;subst K;have r:=cp XK XK;obtain⟨⟨d,f,o⟩,D⟩:=h.kf Z.eU r;refine⟨r.n.trans h.aG,⟨_,c8.cx X⟩,KO,?_,W u.st r,⟨d,f,_,o,rfl,rfl,m.flush,p⟩,?_⟩
  .rw[r.bQ,dz,dk]
  .rw[r.told,Q];show(q.told++[]).map mL=_
   rw[dk];have:=h.told;grind
 .intro w qB N dK;rw[N]at G;obtain⟨a,nW⟩:=G;constructor
  .intro cc;obtain⟨P,lR,z,mE,v,wk⟩:=a.Sa Z.c6 ao dK cc cm;have K:=rD (uu dd P.fA.pF) P.fA.cF;subst K;rw[dz]at lR;rw[Q]at z;have r:=cp XK XK;obtain⟨⟨d,f,o⟩,D⟩:=h.kf Z.eU r;refine⟨r.n.trans h.aG,⟨_,c8.cx X⟩,KO,?_,W u.st r,⟨d,f,_,o,rfl,rfl,P.flush,?_⟩,?_⟩
   .rw[r.bQ,lR,dk]
   .show s2.M.s=J;rw[mE];exact nW
   .rw[r.told,z];show(q.told++[]).map mL=_
    rw[dk];have:=h.told;grind
  .intro cc;obtain⟨P,lR,z,t,mE,v,wk⟩:=a.Xr Z.c6 ao dK cc E.y.aH E.y.eF E.y.run Z.new Z.sQ Z.gc Z.GZ cm dd;rw[dz,gi]at z;rw[Q,gi]at mE;rw[aT Z.oF]at v;have Yh:s2.out.length<=7:=by rw[z];unfold oU;rw[ev];have:=Bn n R;unfold gk at this;have:=Z.c6;omega
   have r:=cp (by rw[z];intro y X;unfold oU at X;obtain⟨j,eB,rfl⟩:=fh.1 X;have eB:=qD.1 (r3.1 eB).1;exact⟨uy Z.eU Z.c6,uy ac Z.c6⟩) XK
   obtain⟨⟨d,f,o⟩,D⟩:=h.kf Z.eU r;refine⟨r.n.trans h.aG,⟨_,c8.cx X⟩,KO,?_,W u.st r,⟨d,f,_,o,rfl,rfl,P.flush,lR⟩,?_⟩
   .rw[r.bQ,z,iA,wc];rfl
   .rw[r.told,mE,iA,h.told,N];obtain⟨g,rfl⟩:∃g,t=[g]:=by
     cases t with
     |nil=>cases v
     |cons a l=>
      cases l with
      |nil=>exact⟨a,rfl⟩
      |cons b l=>simp at v
    have G:g.Item=x:=ZQ
    have i:=wk g iT;rw[nW]at i;show U++[]++[(g.Item,g.ge)]=U++[(x,_)]
    grind
end
end Go.Proofs.YteogojgnkjegmaaGreatDoor
namespace Go.Proofs.YteogojgnkjegmaaGreatDoor
open Go.ay Go.Proofs.Tryz
variable[Go.ay.bR]
variable{n:Int}{R:Nat}{F:ab (ag×Int)}
def ye{i:Nat}(v:0<=n):i∈gk n R↔(i:Int)<n/\i≠R:=by unfold gk;grind
def Bp(n:Int)(R:Nat):(gk n R).Nodup:=List.Pairwise.filter _ List.nodup_range
def Qi(R:Nat):∀N:Nat,((List.range N).filter λi:Nat=>decide (i≠R)).length+(if R<N then 1 else 0)=N:=by
 intro N;induction N with
 |zero=>rfl
 |succ N u=>
  rw[se,mq,bM];grind
def Bq(T:(R:Int)<n):(gk n R).length+1=n.toNat:=by have:=Qi R n.toNat;rw[aT ac]at this;exact this
section
variable{Y:ag->aQ aV}{x:ag}{c:aV}{U:gn}{q J:bo}{e:Int}
inductive jj(n:Int)(R:Nat)(Y:ag->Option aV)(x:ag)(c:aV)(U:gn)(F:List (ag×Int))(O:List Nat):Nat->bo->Prop where
 |s1 {q:bo} {dn td:List Nat} {st:Nat->Nat} (kP:O=dn++td) (cm:∀i,i∉dn->st i=0) (dd:∀i∈dn,st i=1) (h:jD n R Y x c U F ⟨st,some (nt (λ_=>false) R,1),td.map .P++dn.map .A⟩ q):jj n R Y x c U F O (td.length+O.length+(gk n R).length) q
 |s2 {q:bo} {dn td:List Nat} {st:Nat->Nat} {cf:Nat->Bool} (kP:O=dn++td) (cm:∀i,st i=0\/st i=1) (dd:∀i∈td,cf i=false) (cc:(1:Int)+dn.length<2*cD n) (h:jD n R Y x c U F ⟨st,some (cf,1+(dn.length:Int)),td.map .A⟩ q):jj n R Y x c U F O (td.length+(gk n R).length) q
 |i9 {q:bo} {dn td:List Nat} {st:Nat->Nat} (kP:O=dn++td) (cm:∀i,st i=0\/st i=1) (h:jD n R Y x c U F ⟨st,none,td.map .A++(gk n R).map .C⟩ q):jj n R Y x c U F O (td.length+(gk n R).length) q
 |nc {q:bo} {dn td:List Nat} {st:Nat->Nat} (kP:gk n R=dn++td) (cm:∀i∈td,st i=0\/st i=1) (dd:∀i∈dn,st i=2) (h:jD n R Y x c U F ⟨st,none,td.map .C⟩ q):jj n R Y x c U F O td.length q
def jj.step{O:ab Nat}{k:Nat}(G:kI n R Y x c)(u:∀i∈O,(i:Int)<n/\i≠R)(b:O.Nodup)(g:O.length<=6)(f:2*cD n<=(O.length:Int)+1)(h:jj n R Y x c U F O k q)(v:q.bQ≠[])(r:mI q 0 e J):∃y,k=y+1/\jj n R Y x c U F O y J:=by
 have W:(gk n R).length<=7:=by have:=Bn n R;have:=G.c6;omega
 have z:0<=n:=by have:=G.c6;omega
 have L:1<=cD n:=by rcases G.c6 with rfl|rfl|rfl<;>decide
 cases h with
 |@s1 _ dn D st o Z M h=>
  cases D with
  |nil=>
   rw[dk]at o;subst o;cases O with
   |nil=>simp at f;omega
   |cons i O=>
    have ao:=u i iT;have K:jD n R Y x c U F ⟨st,some (nt (λ_=>false) R,1),(i::O).map .A⟩ q:=h;obtain⟨_,d⟩:=Bo G K rfl ao.1 ao.2 (by simp at g⊢;omega) r;have C:∀j,st j=0\/st j=1:=λj=>XK
    obtain⟨t,X⟩:=d _ _ rfl (by unfold nt;simp[ao.2]);refine⟨O.length+(gk n R).length,XM,?_⟩
    .by_cases T:(1:Int)+1<2*cD n
     .refine jj.s2 (dn:=[i]) (td:=O) rfl C ?_ ZS (by simpa using t T);grind [List.nodup_cons.1,List.mem_cons_of_mem,nt]
     .exact jj.i9 (dn:=[i]) (td:=O) rfl C (X ac)
  |cons i D=>
   have a:i∈O:=ZA
   have ao:=u i a;have l:i∉dn:=XK
   have K:jD n R Y x c U F ⟨st,some (nt (λ_=>false) R,1),.P i::(D.map .P++dn.map .A)⟩ q:=h;have E:dn.length+(D.length+1)<=6:=XK
   have Q:=Qh G K rfl ao.1 ao.2 (Z i l) XM r;refine⟨D.length+O.length+(gk n R).length,XM,?_⟩;refine jj.s1 (dn:=dn++[i]) (td:=D) ZA ?_ ?_ (by
    have e:D.map Tok.P++(dn++[i]).map Tok.A=D.map Tok.P++dn.map Tok.A++[Tok.A i]:=XE
    rw[e];exact Q)
   .grind [List.mem_singleton,k6]
   .intro j p;unfold k6;grind
 |@s2 _ dn D st Q o Z M T h=>
  cases D with
  |nil=>
   grind
  |cons i D=>
   have a:i∈O:=ZA
   have ao:=u i a;have K:jD n R Y x c U F ⟨st,some (Q,1+(dn.length:Int)),.A i::D.map .A⟩ q:=h;have E:dn.length+(D.length+1)<=6:=XK
   obtain⟨_,d⟩:=Bo G K rfl ao.1 ao.2 XM r;obtain⟨t,X⟩:=d _ _ rfl (M i iT);refine⟨D.length+(gk n R).length,XM,?_⟩;by_cases T:(1:Int)+(dn.length:Int)+1<2*cD n
   .refine jj.s2 (dn:=dn++[i]) (td:=D) ZA Z ?_ XM (by
     have e:(1:Int)+((dn++[i]).length:Int)=1+(dn.length:Int)+1:=XM
     rw[e];exact t T)
    grind [List.nodup_append.1,List.nodup_cons.1,nt,List.mem_cons_of_mem]
   .exact jj.i9 (dn:=dn++[i]) (td:=D) ZA Z (X ac)
 |@i9 _ dn D st o Z h=>
  cases D with
  |nil=>
   cases N:gk n R with
   |nil=>
    exfalso;have:=Bq G.eU;rw[N]at this;have:=G.c6;simp at*;omega
   |cons i l=>
    have ao:=(ye z).1 (show i∈gk n R by grind);have K:jD n R Y x c U F ⟨st,none,.C i::l.map .C⟩ q:=by rw[N]at h;exact h
    rw[N]at W;have Q:=G0 G K rfl ao.1 ao.2 (Z i) (by simp at W⊢;omega) r;refine⟨l.length,XE,?_⟩;refine jj.nc (dn:=[i]) (td:=l) (by rw[N];rfl) ?_ ?_ Q
    .intro j p;have X:=Bp n R;rw[N]at X;have t:j≠i:=λe=>(lf.1 X).1 (e▸p);grind [k6]
    .grind [List.mem_singleton,k6]
  |cons i D=>
   have a:i∈O:=ZA
   have ao:=u i a;have K:jD n R Y x c U F ⟨st,none,.A i::(D.map .A++(gk n R).map .C)⟩ q:=h;have E:dn.length+(D.length+1)<=6:=XK
   obtain⟨d,_⟩:=Bo G K rfl ao.1 ao.2 XM r;exact⟨D.length+(gk n R).length,XM,jj.i9 (dn:=dn++[i]) (td:=D) ZA Z (d rfl)⟩
 |@nc _ dn D st o Z M h=>
  cases D with
  |nil=>exact absurd h.bQ v
  |cons i D=>
   have ao:=(ye z).1 (show i∈gk n R by rw[o];simp);have K:jD n R Y x c U F ⟨st,none,.C i::D.map .C⟩ q:=h;have X:=Bp n R;rw[o]at X W;have Q:=G0 G K rfl ao.1 ao.2 (Z i iT) (by simp at W⊢;omega) r;refine⟨D.length,XE,jj.nc (dn:=dn++[i]) (td:=D) ZA ?_ ?_ Q⟩
   .grind [List.nodup_append.1,List.nodup_cons.1,k6,List.mem_cons_of_mem]
   .intro j p;unfold k6;grind
end
end Go.Proofs.YteogojgnkjegmaaGreatDoor
namespace Go.Proofs.YteogojgnkjegmaaGreatDoor
open Go.ay Go.Proofs.Tryz
variable[Go.ay.bR]
variable{n:Int}{R:Nat}{J:ag->aQ aV}{d:bP}{e:Int}{q:bo}
theorem aeb{x:ag}(h:nM x x):False:=by unfold nM at h;omega
theorem afR{x y:ag}(h:nM x y)(k:nM y x):False:=by grind [nM]
def G1:∀{l m:ab ag},l.Pairwise nM->m.Pairwise nM->(∀y,y∈l↔y∈m)->l=m
 |[],[],_,_,_=>rfl
 |[],b::m,_,_,h=>absurd ((h b).2 iT) XE
 |a::l,[],_,_,h=>absurd ((h a).1 iT) XE
 |a::l,b::m,E,K,h=>by
  rw[List.pairwise_cons]at E K;have R:a=b:=by grind [List.mem_cons_self,afR]
  subst R;congr 1;refine G1 E.2 K.2 λy=>?_;grind [aeb]
theorem G2{p:aJ ba}(r:p.ok)(y:ag):y∈p.all.map (·.1)↔(p.at y).isSome=true:=by
 rw[fh];constructor
 .grind [aJ.Sp]
 .intro h;obtain⟨t,j⟩:=sZ.1 h;exact⟨(y,t),(aJ.Sp r).2 j,rfl⟩
def Ql{p r:aJ ba}(v:p.ok)(o:r.ok)(h:∀y,(p.at y).map (·.Call)=(r.at y).map (·.Call))(d:bP)(q:ag):eV p d q=eV r d q:=by
 have F:p.all.map (·.1)=r.all.map (·.1):=by refine G1 ((aJ.T6 p).map _ λ_ _ h=>h) ((aJ.T6 r).map _ λ_ _ h=>h) λy=>?_;grind [G2,Option.isSome,Option.isSome_map]
 have M:∀y,(b7 p y).Call=(b7 r y).Call:=λy=>by have:=h y;unfold b7;cases b:p.at y<;>cases J:r.at y<;>rw[b,J]at this<;>simp at this⊢;exact this
 unfold eV nZ;rw[F];have g:ip p d q=ip r d q:=by grind [ip]
 rw[g]
theorem Qm(D:bI)(x:ag)(k:Nat)(m:Int)(h:(js D x).l[k]?=some m):D.l[k]?=some m\/(x.be=(k:Int)/\x.bH=m):=by
 obtain⟨q,m,Z,z,b,c,t⟩:=D;simp only[js,bI.l]at h⊢;rcases k with _|_|_|_|_|_|_|k;all_goals simp only[oZ,qJ,er,List.getElem?_nil,reduceCtorEq]at h⊢
 all_goals(split at h<;>omega)
def aeG(p:aJ ba)(d:bP)(q:ag):∀(Z:ab ag) (o:bI×Int) (k:Nat) (m:Int),(Z.foldl (ip p d q) o).1.l[k]?=some m->o.1.l[k]?=some m\/∃y∈Z,y.be=(k:Int)/\y.bH=m:=by
 intro Z;induction Z with
 |nil=>intro o k m h;exact ut h
 |cons x Z u=>
  grind [ip,Qm,List.mem_cons_self,List.mem_cons_of_mem]
def afC(p:aJ ba)(d:bP)(q:ag)(Z:ab ag)(k:Nat)(m:Int)(h:(nZ p d q Z).1.l[k]?=some m):m=0\/∃y∈Z,y.be=(k:Int)/\y.bH=m:=by
 rcases aeG p d q Z _ k m h with h|h
 .left;change([0,0,0,0,0,0,0]:ab Int)[k]?=some m at h;grind
 .exact s8 h
def acT{D:bI}{y:ag}(h:y∈pj D):∃k:Nat,∃m:Int,D.l[k]?=some m/\y.be=(k:Int)/\1<=y.bH/\y.bH<=m:=by grind [pj,kQ,List.mem_flatMap.1,List.mem_range.1,il]
structure rE(n:Int)(fu:ag->aQ aV)(q:bo):Prop where
 c6:n=3\/n=5\/n=7
 aG:q.n=n
 y:∃k,cP k q
 cut:∀a b,hP q.cut a b=false
 bQ:q.bQ=[]
 up:∀i:Nat,(i:Int)<n->∃b L s,q.aS[i]?=some (.up b L s)/\i3 n i fu (λ_=>none) s/\s.leads=[]/\s.out=[]/\s.told=[]
 Br:∀y,(fu y).isSome=true->∀m:Int,1<=m->m<=y.bH->(fu ⟨y.be,m⟩).isSome=true
def kI.of{s z:aC}{x:ag}(v:n=3\/n=5\/n=7)(T:(R:Int)<n)(l:i3 n R J (λ_=>none) s)(i:s.aH.ok)(U:x=h2 s.aH s.self)(h:GX n R J s d x z)(f:∀y,(J y).isSome=true->∀m:Int,1<=m->m<=y.bH->(J ⟨y.be,m⟩).isSome=true):kI n R J x (i4 s.aH.p d x):=by
 have q:∀y,(s.aH.p.at y).isSome=true->(J y).isSome=true:=λy G=>by
  cases X:J y with
  |some c=>rfl
  |none=>rw[l.no y X]at G;cases G
 refine⟨v,T,h.mK,h.new,h.sQ,h.gc,h.ok.2,?_,?_,?_⟩
 .intro m F M;have k:x.bH=(s.aH.p.top (R:Int):Int)+1:=by rw[U];show(s.aH.p.top s.self:Int)+1=_;rw[l.self]
  obtain⟨t,j⟩:∃t,s.aH.p.top (R:Int)=t+1:=⟨s.aH.p.top (R:Int)-1,ac⟩
  have g:=q _ (aJ.Vg i.p j);have:=f _ g m F XK;rw[h.mK];exact this
 .intro y G _;obtain⟨k,m,F,M,g,z⟩:=acT G;rcases afC _ _ _ _ _ _ F with N|⟨z,w,N,E⟩
  .omega
  .have k:=q z ((G2 i.p z).1 w);have:=f z k y.bH g ac;rw[N,<-M]at this;exact this
 .intro t j k X C;have:eV t.p d x=eV s.aH.p d x:=by
   refine Ql j.p i.p (λy=>?_) d x;cases G:J y with
   |none=>rw[C y G,l.no y G]
   |some c=>
    obtain⟨j,w,_,F⟩:=X y c G;obtain⟨r,g,_,M⟩:=l.qr y c G;grind
  show(eV t.p d x).1=(eV s.aH.p d x).1/\(eV t.p d x).2=(eV s.aH.p d x).2
  grind
def aeJ{K:ag->aQ aV}{c:bo}{Y:Int}{x:ag}(h:rE n K q)(Q:ma q Y d x e c):(e≠0/\rE n K c/\c.told.map mL=q.told.map mL)\/(e=0/\∃R b L s,Y=((R:Nat):Int)/\q.aS[R]?=some (.up b L s)/\kI n R K x (i4 s.aH.p d x)/\jD n R K x (i4 s.aH.p d x) s.M.s (q.told.map mL) ⟨λ_=>0,some (nt (λ_=>false) R,1),(gk n R).map .P⟩ c):=by
 obtain⟨k,G⟩:=h.y;have Yk:=Q.cx G;rcases Q with⟨F,_,C,rfl⟩|⟨_,i,f,X,s1,a,s2,lg,U,Ye,Yc⟩
 .exact ut ⟨by rw[C];exact F,h,rfl⟩
 .have Yf:i<q.aS.length:=by
   rcases n4 i q.aS.length with h|h
   .exact h
   .grind
  have Yg:(i:Int)<n:=by have:=G.len;rw[h.aG]at this;omega
  obtain⟨D,J,W,T,l,E,Z,r⟩:=h.up i Yg;rw[U]at T;cases T;have t:=G.up i f X s1 U;have u:=λZ E=>GY (r:=q) (n:=[]) (b:=f) (L:=a) (s2:=s2) Yf (by rw[h.bQ]) h.cut Z E Yc;rcases afP l E h.c6 Yg t.y.aH t.y.eF Ye with⟨z,rfl⟩|⟨z,bb⟩
  .left;have v:=u (by rw[Z];intro y G;cases G) (by rw[Z];simp);obtain⟨m,a,o⟩:=v.aS;refine⟨z,⟨h.c6,v.n.trans h.aG,⟨_,Yk⟩,by rw[v.cut];exact h.cut,by rw[v.bQ,Z];rfl,?_,h.Br⟩,by rw[v.told,r];simp⟩;intro j w;by_cases e:j=i
   .subst e;exact⟨m,a,_,by rw[o,kq,aT rfl,aT Yf],l.flush,E,rfl,rfl⟩
   .obtain⟨qb,Bs,i9,g⟩:=h.up j w;exact⟨qb,Bs,i9,XK,g.2⟩
  .right;have Yi:x=h2 s1.aH s1.self:=by
    rcases Ye with⟨_,_,Yh,_⟩|⟨_,_,_,Yh,_⟩|⟨_,_,h,_⟩
    .rw[Yh]at z;exact absurd z XG
    .rw[Yh]at z;exact absurd z XG
    .exact h
   have N:=kI.of h.c6 Yg l t.y.aH Yi bb h.Br;have Yj:=bb.out;rw[Z,gi]at Yj;have v:=u (by
    rw[Yj];intro y G;unfold oU at G;obtain⟨j,w,rfl⟩:=fh.1 G;have w:=qD.1 (r3.1 w).1;exact⟨uy Yg h.c6,uy ac h.c6⟩) (by
    rw[Yj];unfold oU;rw[ev];have:=Bn n i;unfold gk at this;have:=h.c6;simp only[fY];omega)
   obtain⟨m,a,o⟩:=v.aS;refine⟨z,i,f,X,s1,lg,U,N,v.n.trans h.aG,⟨_,Yk⟩,by rw[v.cut];exact h.cut,?_,?_,⟨m,a,_,by rw[o,kq,aT rfl,aT Yf],rfl,rfl,bb.ls.flush,?_⟩,?_⟩
   .rw[v.bQ,Yj,gi,wc];rfl
   .intro j w t;obtain⟨qb,Bs,i9,m,C,z,R,y⟩:=h.up j w;refine⟨qb,Bs,i9,by rw[o,kq,aN (nz t)];exact m,z,R,y,?_⟩;show i3 n j (if(0:Nat)=2 then _ else K) (if(0:Nat)=1 then _ else _) i9
    grind
   .show s2.M.s=s1.M.s;rw[bb.M]
   .rw[v.told,bb.told,r];simp
def jj.fin{U:ag->aQ aV}{x:ag}{c:aV}{D:gn}{z:ab (ag×Int)}{O:ab Nat}{k:Nat}(Y:kI n R U x c)(f:∀y,(U y).isSome=true->∀m:Int,1<=m->m<=y.bH->(U ⟨y.be,m⟩).isSome=true)(C:2*cD n<=(O.length:Int)+1)(h:jj n R U x c D z O k q)(r:q.bQ=[]):rE n (mb U x c) q/\q.told.map mL=z++[(x,(hw D c.cz).1.ge)]:=by
 have t:0<=n:=by have:=Y.c6;omega
 have L:1<=cD n:=by rcases Y.c6 with rfl|rfl|rfl<;>decide
 have b:∀y,(mb U x c y).isSome=true->∀m:Int,1<=m->m<=y.bH->(mb U x c ⟨y.be,m⟩).isSome=true:=by
  intro y G m F M;unfold mb at G⊢;by_cases J:(⟨y.be,m⟩:ag)=x
  .rw[aT J];rfl
  .rw[aN J];by_cases e:y=x
   .subst e;refine Y.prev m F ?_;rcases Int.lt_or_eq_of_le M with g|g
    .exact g
    .exfalso;apply J;rw[g]
   .grind
 cases h with
 |@s1 _ dn u st o F M h=>
  exfalso;have E:=db List.length (h.bQ.symm.trans r);grind
 |@s2 _ dn u st Q o F M T h=>
  exfalso;have E:=db List.length (h.bQ.symm.trans r);grind
 |@i9 _ dn u st o F h=>
  exfalso;have E:=db List.length (h.bQ.symm.trans r);have:=Bq Y.eU;have g:=Y.c6;grind
 |@nc _ dn u st o F M h=>
  have E:=db List.length (h.bQ.symm.trans r);simp at E;subst E;rw[dk]at o;subst o;refine⟨⟨Y.c6,h.aG,h.y,h.cut,r,?_,b⟩,h.told⟩;intro i ao;by_cases e:i=R
  .subst e;obtain⟨b,L,s,m,K,z,C,y⟩:=h.aH;grind
  .obtain⟨b,L,s,m,K⟩:=h.ux i ao e;have:=K.fA;have g:st i=2:=M i ((ye t).2 ⟨ao,e⟩);have z:({st:=st,cC:=none,kt:=List.map Tok.C []}:yd).st i=2:=g;rw[z,aT rfl,aN XG]at this;exact⟨b,L,s,m,this,K.leads,K.out,K.told⟩
def jj.settle{F:ag->aQ aV}{x:ag}{c:aV}{E:gn}{g:ab (ag×Int)}{O:ab Nat}{k j:Nat}{w:bo}(Y:kI n R F x c)(T:∀i∈O,(i:Int)<n/\i≠R)(b:O.Nodup)(d:O.length<=6)(G:2*cD n<=(O.length:Int)+1)(h:jj n R F x c E g O k q)(Q:oP q j w):∃y,k=y+j/\jj n R F x c E g O y w:=by
 induction Q with
 |nil=>exact⟨k,rfl,h⟩
 |step _ r j u=>
  obtain⟨y,e,F⟩:=u;obtain⟨E,J,M⟩:=F.step Y T b d G r j;grind
def Qr{Z:ag->aQ aV}{f X:bo}{Y y:Int}{x:ag}(h:rE n Z q)(Q:ma q Y d x e f)(K:20<=y)(k:n2 f y X):(e≠0/\rE n Z X/\X.told.map mL=q.told.map mL)\/(e=0/\∃R b L s c,Y=((R:Nat):Int)/\q.aS[R]?=some (.up b L s)/\c.cz=d/\rE n (mb Z x c) X/\X.told.map mL=q.told.map mL++[(x,(hw s.M.s d).1.ge)]):=by
 obtain⟨j,w,D,v⟩:=k;rcases aeJ h Q with⟨z,bb,P⟩|⟨z,R,b,L,s,lg,U,J,N⟩
 .left;cases w with
  |nil=>exact⟨z,bb,P⟩
  |@step yS W _ m F r C=>
   exfalso;have l:∀{j:Nat} {a:bo},oP f j a->a=f/\j=0:=by
    intro j a o;induction o with
    |nil=>exact⟨rfl,rfl⟩
    |step _ r _ u=>rw[u.1]at r;exact absurd bb.bQ r
   rw[(l F).1]at r;exact r bb.bQ
 .right;have T:0<=n:=by have:=h.c6;omega
  have G:=Bq J.eU;have g:2*cD n+1=n:=by rcases h.c6 with rfl|rfl|rfl<;>decide
  have t:2*cD n<=((gk n R).length:Int)+1:=ac
  have Ye:(gk n R).length<=6:=by have:=h.c6;omega
  have E:∀i∈gk n R,(i:Int)<n/\i≠R:=λi ao=>(ye T).1 ao;have Yc:jj n R Z x (i4 s.aH.p d x) s.M.s (q.told.map mL) (gk n R) _ f:=jj.s1 (dn:=[]) (td:=gk n R) (st:=λ_=>0) rfl (λ_ _=>rfl) (λi ao=>by cases ao) (by simpa using N);obtain⟨y,T,v⟩:=Yc.settle J E (Bp n R) Ye t w;have r:X.bQ=[]:=XK
  obtain⟨m,M⟩:=v.fin J h.Br t r;exact⟨z,R,b,L,s,_,lg,U,rfl,m,M⟩
def G3{U k:Int}{l:ab dY}{r:cQ}{st:Int×ab bi}(h:oL n U k l r st)(E:l=[]):r=cQ.new n/\st=(0,[]):=by
 cases h with
 |nil=>exact⟨rfl,rfl⟩
 |sH h _ _=>simp at E
 |hC h _=>simp at E
def Qs(n:Int):(aJ.new n:aJ ba).all=[]:=by rw[F8];grind [aJ.Sp,aJ.R8,aJ.SM]
def afv(w:n=3\/n=5\/n=7){c:bo}(h:lK n c):rE n (λ_=>none) c/\∀(i b:Nat) (L:cO) (s:aC),c.aS[i]?=some (.up b L s)->s.M.s=gn.z:=by
 have o:∀(i b:Nat) (L:cO) (s:aC),c.aS[i]?=some (.up b L s)->i3 n i (λ_=>none) (λ_=>none) s/\s.leads=[]/\s.out=[]/\s.told=[]/\s.M.s=gn.z:=by
  intro i b L s U;obtain⟨q,l,W,e,X,M,r,st,_,_,⟨_,N⟩,m,d⟩:=h.up i _ U;cases e;have a:(gG n [] [] 0).p=aJ.new n:=rfl;rw[a,Qs]at m;obtain⟨rfl,rfl⟩:=G3 m rfl;have:=rD d rfl;clear d;generalize s.bD=Q at this;subst this;have u:∀y,(aJ.new n:aJ ba).at y=none:=λy=>aJ.SM n y;refine⟨⟨rfl,rfl,rfl,rfl,rfl,(λy c G=>XW),(λy _=>u y),(λy=>?_),(λy=>?_),(λy v G=>XW)⟩,rfl,rfl,rfl,N⟩
  .show((aJ.new n:aJ aV).at y).isSome=false;rw[aJ.SM];rfl
  .show((aJ.new n:aJ Bool).at y).isSome=false;rw[aJ.SM];rfl
 refine⟨⟨w,h.aG,⟨_,h.y w⟩,?_,h.bQ,?_,λy G=>XW⟩,λi b L s U=>(o i b L s U).2.2.2.2⟩
 .intro a b;rw[h.cut];unfold hP;grind
 .intro i ao;have E:=h.len;have e:c.aS[i]?=some (c.aS[i]' ac):=gM ac;obtain⟨b,L,s,J,_⟩:=h.up i _ e;grind
def afi{w:bo}{x:ag}(h:rE n J q)(T:(R:Int)<n)(l:sE d)(X:∀y,J y=none)(Q:ma q (R:Int) d x e w):e=0:=by
 obtain⟨b,L,s,U,Y,_⟩:=h.up R T;obtain⟨k,G⟩:=h.y;rcases Q with⟨F,_⟩|⟨_,i,W,u,s1,v,s2,lg,E,D,_⟩
 .exfalso;apply F;unfold gy;rw[h.aG,aN ac,iB,U];rfl
 .have:i=R:=by omega
  subst this;rw[U]at E;cases E;have Z:=(G.up i b L s U).y.aH;rcases D with⟨F,_⟩|⟨_,F,_⟩|⟨_,_,_,F,_⟩
  .exact absurd l F
  .exfalso;have M:64<(s.aH.p.top s.self:Int)+1:=F;rw[Y.self]at M;obtain⟨t,j⟩:∃t,s.aH.p.top (i:Int)=t+1:=⟨s.aH.p.top (i:Int)-1,ac⟩
   have g:=aJ.Vg Z.p j;rw[Y.no _ (X _)]at g;cases g
  .exact F
def G4:sE wm:=⟨XG,XG⟩
def Qv:(hw gn.z wm).1.ge=1:=by unfold hw;rw[G4.1,aN XG,aT XG];rfl
def afp{c:bo}(h:Bf c):wn c.told=true:=by
 obtain⟨P,z,x,e,a,r,Z⟩:=h;obtain⟨bb,K⟩:=afv ac a;have d:=afi (R:=0) bb XG G4 (λ_=>rfl) r;rcases Qr bb r XG Z with⟨F,_⟩|⟨_,R,b,L,s,v,_,U,_,_,j⟩
 .exact absurd d F
 .rw[a.told,K R b L s U,Qv]at j;have M:=db (List.map Prod.snd) j;rw[wc]at M;unfold wn;rw[da];exact M
end Go.Proofs.YteogojgnkjegmaaGreatDoor
namespace Go.ay
open Go
section
variable{P:bF}{r:aQ Nat}{W:aY}{D:ab Nat}{N:Nat}{Q:cE}{Y U:bv}{J Z F:ab ax}{w:aY}
def Out.kj{n:c7}{e:dj}{X i K:ab ax}(d:aL X i)(h:Out W D n Q e Y (i++K))(u:ak J X K:=by(repeat(first|exact ak.nil|exact al.here|apply ak.cons|apply al.there))):Out W D n Q e Y J:=
 Out.eqv ((aL.RS u.perm).trans (d.append (aL.refl K))) h
def afZ{m l F K:ab ax}(h:ak l F K):ak (l++m) (m++F) K:=by
 induction m generalizing l with
 |nil=>rw[dk];exact h
 |cons x m u=>exact ak.cons (C2 x m l) (u h)
end
end Go.ay
namespace Go.Proofs.YteogojgnkjegmaaGreatDoor
open Go.ay Go.Proofs.Tryz
variable[Go.ay.bR]
def aa1:ar prog 8 [] [cv] (λr Y=>r=B true/\Y=[cv]):=by refine ar.mono aeT ?_;rintro r Y⟨c,L,F,M⟩;rw[afp L]at F;exact⟨F,M⟩
def G5(Z:ab gs):Prop:=∀x∈Z,(x.cz.Key.length<=140737488351232/\x.cz.Value.length<=140737488351232)/\(0<=x.o5/\x.o5<256)
def aa7(n:Int)(a:n=3\/n=5\/n=7):ar prog 10 [I n] [cv] (λr Y=>∃j T u,(lK n u.c/\u.n=n/\u.mh=[]/\u.c4=0)/\r=au j 0/\Y=[aI (oS j T u)]):=by refine ar.RR (PP n a) ?_;rintro v Y W D w⟨j,T,u,F,rfl,rfl⟩ f;exact⟨_,⟨j,T,u,F,rfl,rfl⟩,f.eqv aL.aI.symm⟩
def QA(f:Nat)(T:qq)(u:oR)(a:gs)(k:Nat)(h:cP k u.c)(q:k<=70000000000)(j:0<=u.c4/\u.c4<=1000000)(E:0<=a.o5/\a.o5<256):ar prog 11 [au f 0,A a.c] [aI (oS f T u)] (λr Y=>∃K i,ur u a i/\r=.tuple #[]/\Y=[aI (oS f K i)]):=by
 have F:=ar.Um (Q:=λz r=>ur u a z.2/\r=.tuple #[]) (T:=λz:qq×oR=>oS f z.1 z.2) (ar.mono (PQ f T u a k h q j E) (by rintro r Y⟨K,i,F,M,g⟩;exact⟨(K,i),⟨F,M⟩,g⟩))
 refine ar.mono F ?_;rintro r Y⟨⟨K,i⟩,⟨F,M⟩,g⟩;exact⟨K,i,F,M,g⟩
def sR(b:Nat)(L:cO)(s:aC):ab ax:=
 [cells b 95 (ec L s),bn bW cL L.eE s.leads,eS iq s.leads,bn bW cL L.gH s.bp,eS gg s.bp,jy L s,i0 L.dJ L.dr s.run,k1 s.M,bn bW h6 L.dA s.dw,bn bW kh L.bY s.high,
  dF aD.c L.ey 176 25 s.inbox,rows b0.c L.dH 143 3 s.out,rows ff.c L.bC 65 6 s.told]
def yf(j:ab c5)(i b:Nat)(L:cO)(s:aC):ax:=aI (rA L.dC s.bD s.X s.aH++(sR b L s++[e3 (j.eraseIdx i)]))
def QB{j:ab c5}{i b:Nat}{L:cO}{s:aC}(h:j[i]?=some (.up b L s)):aL [jP s.X.dG s.X.R s.aH.p,yf j i b L s] [e3 j]:=by
 refine aL.trans ?_ (A2 h).symm;show aL _ (bX b L s++[e3 (j.eraseIdx i)])
 have F:aL (bX b L s++[e3 (j.eraseIdx i)]) ([fe L.dC s.bD s.X s.aH]++(sR b L s++[e3 (j.eraseIdx i)])):=by refine aL.RS ?_;unfold bX sR;exact gZ ..
 refine aL.trans ?_ F.symm;have M:=(AY L.dC s.bD s.X s.aH).append (aL.refl (sR b L s++[e3 (j.eraseIdx i)]));refine aL.trans ?_ M.symm;unfold yf;refine(aL.refl [jP s.X.dG s.X.R s.aH.p]).append ?_;refine aL.aI.trans ?_;exact(aL.aI (bc:=rA L.dC s.bD s.X s.aH)).symm.append (aL.refl _)
def ae0{j:ab c5}{i b:Nat}{L:cO}{s:aC}(h:j[i]?=some (.up b L s)):ar prog 13 [au b 0] [e3 j] (λr Y=>r=au L.dC 0/\Y=[e3 j]):=by
 have F:ar prog 13 [au b 0] (c5.up b L s).es (λr Y=>∃_:Unit,r=au L.dC 0/\Y=[]++(c5.up b L s).es):=ar.mono (OC b L s) λr Y ⟨F,M⟩=>⟨(),F,M⟩
 refine ar.mono (ar.Tv (N:=λ_=>.up b L s) (T:=λ_=>[]) (Q:=λr _=>r=au L.dC 0) h F) ?_;rintro r Y⟨_,M,g⟩;rw[wg h]at g;exact⟨M,g⟩
def QD{j:ab c5}{i b:Nat}{L:cO}{s:aC}(h:j[i]?=some (.up b L s)):ar prog 14 [au L.dC 0] [e3 j] (λr Y=>∃q,r=.func (.func 80) #[] #[au q 0]/\Y=[cells q 117 [au s.X.dG 0],jP s.X.dG s.X.R s.aH.p,yf j i b L s]):=by
 have z:aL [e3 j] ([fe L.dC s.bD s.X s.aH]++(sR b L s++[e3 (j.eraseIdx i)])):=by
  refine(A2 h).trans ?_;refine aL.RS ?_;show(bX b L s++[e3 (j.eraseIdx i)]).Perm _
  unfold bX sR;exact gZ ..
 refine ar.eqv z (ar.frame (bc:=sR b L s++[e3 (j.eraseIdx i)]) (Gd L.dC s.bD s.X s.aH)) ?_;rintro r Y⟨Q,⟨q,F,rfl⟩,rfl⟩;refine⟨_,⟨q,F,rfl⟩,?_⟩;refine(aL.refl [cells q 117 [au s.X.dG 0],jP s.X.dG s.X.R s.aH.p]).append ?_;unfold yf;refine aL.trans ?_ aL.aI.symm;exact(aL.aI (bc:=rA L.dC s.bD s.X s.aH)).append (aL.refl _)
def abH{c:bo}{i:Nat}{x:c5}(v:(i:Int)<c.n)(h:c.aS[i]?=some x):sP c (i:Int)=x.ptr:=by unfold sP;rw[aN ac,iB,h]
section
variable{n:Int}{R:Nat}{U:ag->aQ aV}{x:ag}{c:aV}{J:gn}{F:ab (ag×Int)}{q Y:bo}{O:ab Nat}
end
end Go.Proofs.YteogojgnkjegmaaGreatDoor
namespace Go.Proofs.YteogojgnkjegmaaGreatDoor
open Go.ay Go.Proofs.Tryz
variable[Go.ay.bR]
def Bt(f:Nat)(T:qq)(u:oR):aL [aI (oS f T u)] [cells f 41 (iR.c ⟨au T.gP 0,u.n,.map (some T.kr),.map (some T.jT),u.c4⟩),bn bW oQ T.kr u.mh,bn bW ew T.jT u.w,aI (bJ T.gP T.L u.c)]:=by refine aL.aI.trans ?_;unfold oS;exact(aL.refl _).append aL.aI.symm
def aay(n:Int)(v:n=3\/n=5\/n=7):ar prog 10 [I n] [cv] (λr Y=>∃(f:Nat) (T:qq) (u:oR),(lK n u.c/\u.n=n/\u.mh=[]/\u.c4=0)/\r=au f 0/\Y=[cells f 41 (iR.c ⟨au T.gP 0,u.n,.map (some T.kr),.map (some T.jT),u.c4⟩),bn bW oQ T.kr u.mh,bn bW ew T.jT u.w,aI (bJ T.gP T.L u.c)]):=by refine ar.eqv (aL.refl _) (aa7 n v) ?_;rintro r Y⟨f,T,u,F,M,rfl⟩;exact⟨_,⟨f,T,u,F,M,rfl⟩,Bt f T u⟩
def QG(q:Nat)(T:qq)(u:oR)(a:gs)(k:Nat)(h:cP k u.c)(E:k<=70000000000)(j:0<=u.c4/\u.c4<=1000000)(Q:0<=a.o5/\a.o5<256):ar prog 11 [au q 0,A a.c] [cells q 41 (iR.c ⟨au T.gP 0,u.n,.map (some T.kr),.map (some T.jT),u.c4⟩),bn bW oQ T.kr u.mh,bn bW ew T.jT u.w,aI (bJ T.gP T.L u.c)] (λr Y=>∃(K:qq) (i:oR),ur u a i/\r=.tuple #[]/\Y=[cells q 41 (iR.c ⟨au K.gP 0,i.n,.map (some K.kr),.map (some K.jT),i.c4⟩),bn bW oQ K.kr i.mh,bn bW ew K.jT i.w,aI (bJ K.gP K.L i.c)]):=by refine ar.eqv (Bt q T u).symm (QA q T u a k h E j Q) ?_;rintro r Y⟨K,i,F,M,rfl⟩;exact⟨_,⟨K,i,F,M,rfl⟩,Bt q K i⟩
def n2.Xt{k:Nat}{c P:bo}{m:Int}(h:cP k c)(K:0<=m)(Q:n2 c m P):cP (k+1042300*m.toNat) P:=by
 obtain⟨j,p,M,_⟩:=Q;have g:j<=m.toNat:=ac
 have z:=Nat.mul_le_mul_left 1042300 g;exact(p.cx h).mono ac
end Go.Proofs.YteogojgnkjegmaaGreatDoor
namespace Go.Proofs.YteogojgnkjegmaaGreatDoor
variable[Go.ay.bR]
structure mM where
 pre:Int->aV->Prop
 acc:Int->aV->Prop
 adP:Int->Int->Prop
 ij:Int->Prop
 Bu:Int->Int->Int->Int->aV->Bool->Prop
def G6:∀(m:Nat) (l:ab Int),l.Nodup->(∀j∈l,0<=j/\j<(m:Int))->l.length<=m
 |0,[],_,_=>cl _
 |0,a::l,_,h=>by grind [List.mem_cons_self]
 |m+1,l,v,h=>by
  have J:=G6 m (l.erase (m:Int)) (v.erase _) λj p=>XK
  grind
section
variable(n F R:Int)(B:Int->ba)(G:mM)
end
section
variable{n F R:Int}{B U:Int->ba}{G Y:mM}
end
end Go.Proofs.YteogojgnkjegmaaGreatDoor
namespace Go.Proofs.YteogojgnkjegmaaGreatDoor
variable[Go.ay.bR]
section
variable{n F R:Int}{B U:Int->ba}{G Y:mM}
end
end Go.Proofs.YteogojgnkjegmaaGreatDoor
namespace Go.Proofs.YteogojgnkjegmaaGreatDoor
variable[Go.ay.bR]
section
variable{n F R:Int}{B:Int->ba}{G:mM}{b:Int}{Y:ab aD}
end
end Go.Proofs.YteogojgnkjegmaaGreatDoor
namespace Go.Proofs.YteogojgnkjegmaaGreatDoor
open Go.ay Go.Proofs.Tryz
variable[Go.ay.bR]
section
variable{n F R:Int}{B Y:Int->ba}{G U:mM}{Q:aV->Prop}{i:Int}{x:ag}{l:a2}{m:aD}
def G7{D:Type}{l:ab D}{h:ab Bool}:∀k,∀p∈h5 l h k,p.1<k
 |0,p,r=>by simp[h5]at r
 |k+1,p,r=>by
  rw[nj,eN]at r;rcases r with r|r
  .have:=G7 k p r;omega
  .rw[Option.mem_toList]at r;unfold im at r;split at r
   .cases J:l[k]? with
    |none=>rw[J]at r;cases r
    |some y=>rw[J]at r;cases r;exact Nat.lt_succ_self _
   .cases r
def G8{D:Type}{l:ab D}{h:ab Bool}:∀k,((h5 l h k).map (·.1)).Nodup
 |0=>by simp[h5]
 |k+1=>by
  rw[nj,iA,gV];refine⟨G8 k,?_,?_⟩
  .cases im l h k<;>simp
  .intro a o b X e;obtain⟨p,r,rfl⟩:=fh.1 o;have J:=G7 k p r;obtain⟨q,bb,rfl⟩:=fh.1 X;rw[Option.mem_toList]at bb;unfold im at bb;split at bb
   .cases M:l[k]? with
    |none=>rw[M]at bb;cases bb
    |some y=>rw[M]at bb;cases bb;dsimp only at e;omega
   .cases bb
def aa3{l:ab Nat}(h:l.Nodup):(l.map λk:Nat=>(k:Int)).Nodup:=by
 induction l with
 |nil=>exact oh
 |cons a l u=>
  rw[lf]at h;rw[eK,lf];refine⟨λJ=>?_,u h.2⟩;obtain⟨b,X,d⟩:=fh.1 J;have:b=a:=ac
  exact h.1 (this▸X)
def G9(k:Nat):¬(List.replicate 7 false).getD k false=true:=by rw[jM,w3];split<;>simp
def aaR{n J:Int}{x:ag}{b:bk}{c:aV}{p:Int}{q:Nat×aD}(h:q∈fd (lB n J x b c p).pl (lB n J x b c p).c2):False:=G9 q.1 (yb h).1
end
end Go.Proofs.YteogojgnkjegmaaGreatDoor
namespace Go.Proofs.YteogojgnkjegmaaGreatDoor
open Go.ay Go.Proofs.Tryz
variable[Go.ay.bR]
section
variable{n F R:Int}{B Y:Int->ba}{G U:mM}{Q:aV->Prop}{i:Int}{x:ag}{r:bO}{m:aD}{b:Int}
end
end Go.Proofs.YteogojgnkjegmaaGreatDoor
namespace Go.Proofs.YteogojgnkjegmaaGreatDoor
open Go.ay Go.Proofs.Tryz
variable[Go.ay.bR]
def Bv(m:aD):Prop:=m.Kind=1\/m.Kind=3\/m.Kind=6
inductive n3(n R:Int)(I:ba)(m:aD):ba->aD->Bool->Prop where
 |sH (cc:Bv m) (cp:I.Status=3):n3 n R I m I {nn m 5 with Call:=I.Call} true
 |pre {c:aV} {sm:Bool} (cc:m.Kind=1) (cp:I.Status≠3) (bY:i7 m.ch I.cJ=false) (ej:¬(I.cY=m.ch/\1<=I.Status)) (ef:c.cz=m.Call.cz) (eJ:eQ c n=true) (cf:sm=true->m.ch=⟨0,R⟩/\c=m.Call):n3 n R I m ⟨m.ch,m.ch,1,c,sm⟩ {nn m 2 with dB:=sm,Call:=c} true
 |sn (cc:m.Kind=1) (bY:i7 m.ch I.cJ=false) (ej:I.cY=m.ch) (cm:I.Status=1):n3 n R I m {I with cJ:=m.ch} {nn m 2 with dB:=I.dB,Call:=I.Call} true
 |acc (cc:m.Kind=3) (cp:I.Status≠3) (bY:i7 m.ch I.cJ=false) (ej:¬(I.cY=m.ch/\2<=I.Status)):n3 n R I m ⟨m.ch,m.ch,2,m.Call,false⟩ (nn m 4) true
 |Ha (cc:m.Kind=3) (bY:i7 m.ch I.cJ=false) (ej:I.cY=m.ch) (dd:I.Status=2):n3 n R I m {I with cJ:=m.ch} (nn m 4) true
 |Bu (cc:m.Kind=6) (cp:I.Status≠3) (bY:i7 m.ch I.cJ=false):n3 n R I m {I with cJ:=m.ch} {nn m 7 with cY:=I.cY,Status:=I.Status,dB:=I.dB,Call:=I.Call} true
 |Hb (cc:Bv m) (cp:I.Status≠3) (bY:i7 m.ch I.cJ=true):n3 n R I m I {nn m 8 with ch:=I.cJ} true
 |no (cc:m.Kind=1) (cp:I.Status≠3) (cm:1<=I.Status):n3 n R I m I aD.z false
 |Hc (cc:m.Kind=5) (cp:I.Status=3):n3 n R I m I aD.z false
 |new (cc:m.Kind=5) (cp:I.Status≠3):n3 n R I m {I with Status:=3,Call:=m.Call,dB:=false} aD.z false
def yg{s:bE}(h:s.ok){x:ag}(Z:bB x s.n=true){C k:ba}(b:C=b7 s.p x):b7 (k2 s x C k).p x=k/\∀y,y≠x->(k2 s x C k).p.at y=s.p.at y:=by
 unfold k2;split
 .rename_i e;exact⟨by rw[<-e,b],λ_ _=>rfl⟩
 .refine⟨by grind [b7,uv],λy M=>by grind [uv]⟩
def QJ{s:bE}(h:s.ok)(x:ag):0<=(b7 s.p x).Status/\(b7 s.p x).Status<=3:=by have:=nS (tZ h x);grind
def Bw{n R:Int}{I:ba}{m:aD}(T:Bv m)(g:I.Status≠3)(h:i7 m.ch I.cJ=true\/(m.Kind=1/\1<=I.Status)):n3 n R I m I (kg m I).1 (kg m I).2:=by
 unfold kg;split
 .rename_i e;exact .Hb T g e
 .rename_i e;exact .no (h.resolve_left e).1 g (h.resolve_left e).2
def ad8{s:bE}(h:s.ok){m:aD}(q:eo m s.n=true)(L:l5 m):n3 s.n m.Item.be (b7 s.p m.Item) m (b7 (cN s m.b3 m).1.p m.Item) (cN s m.b3 m).2.1 (cN s m.b3 m).2.2/\∀y,y≠m.Item->(cN s m.b3 m).1.p.at y=s.p.at y:=by
 have K:=iY.1 q;have k:=QJ h m.Item;unfold cN;rw[aT ⟨q,rfl⟩];unfold kz;dsimp only;generalize j:b7 s.p m.Item=I at*;split
 .rename_i Z;dsimp only;rw[j];exact⟨.sH Z.1 Z.2,λ_ _=>rfl⟩
 rename_i Z;split
 .rename_i T;have g:I.Status≠3:=λe=>Z ⟨.inl T,e⟩;unfold k3;dsimp only;have P:eQ m.Call s.n=true:=by have:=K.call;rw[T]at this;exact this
  split
  .rename_i o;dsimp only;obtain⟨b,N⟩:=yg h K.item (k:=(ik I m.ch 1 (py s m) (pz s m)).1) j.symm;rw[b];refine⟨?_,N⟩;unfold ik at o⊢;by_cases z:i7 m.ch I.cJ=true\/I.Status=3
   .grind
   rw[aN z]at o⊢;simp only[q4,k7]at z;by_cases M:I.cY=m.ch/\1<=I.Status
   .rw[aT M]at o⊢;dsimp only at o⊢;exact .sn T z.1 M.1 (by simpa using o)
   .rw[aN M];dsimp only;refine .pre T g z.1 M rfl (xP h P) λu=>?_;unfold pz at u;grind
  .rename_i o;dsimp only;rw[j];refine⟨Bw (.inl T) g ?_,λ_ _=>rfl⟩;grind [ik,i7]
 rename_i w;split
 .rename_i T;have g:I.Status≠3:=λe=>Z ⟨.inr (.inl T),e⟩;unfold lC;dsimp only;split
  .rename_i o;dsimp only;obtain⟨b,N⟩:=yg h K.item (k:=(ik I m.ch 2 m.Call false).1) j.symm;rw[b];refine⟨?_,N⟩;unfold ik at o⊢;by_cases z:i7 m.ch I.cJ=true\/I.Status=3
   .grind
   rw[aN z]at o⊢;simp only[q4,k7]at z;by_cases M:I.cY=m.ch/\2<=I.Status
   .rw[aT M]at o⊢;dsimp only at o⊢;exact .Ha T z.1 M.1 (by simpa using o)
   .rw[aN M];dsimp only;exact .acc T g z.1 M
  .rename_i o;dsimp only;rw[j];refine⟨Bw (.inr (.inl T)) g (.inl ?_),λ_ _=>rfl⟩;grind [ik,i7]
 rename_i C;split
 .rename_i T;have g:I.Status≠3:=λe=>Z ⟨.inr (.inr T),e⟩;unfold lD;dsimp only;split
  .rename_i o;dsimp only;obtain⟨b,N⟩:=yg h K.item (k:=(lm I m.ch).1) j.symm;rw[b];refine⟨?_,N⟩;unfold lm at o⊢;split
   .grind
   .rename_i z;exact .Bu T g ZG
  .rename_i o;dsimp only;rw[j];refine⟨Bw (.inr (.inr T)) g (.inl ?_),λ_ _=>rfl⟩;grind [lm,i7]
 rename_i l;have r:m.Kind=5:=by
  rcases L with h|h|h|h
  .exact absurd h w
  .exact absurd h C
  .exact absurd h l
  .exact h
 rw[aT r];dsimp only;obtain⟨b,N⟩:=yg h K.item (k:=(oo I m.Call).1) j.symm;rw[b];refine⟨?_,N⟩;unfold oo;split
 .rename_i z;exact .Hc r z
 .rename_i z;exact .new r z
section
variable{n F R:Int}{B Y:Int->ba}{G J:mM}{Q:aV->Prop}{i:Int}{x:ag}{m a:aD}{U:ba}{t:Bool}
end
end Go.Proofs.YteogojgnkjegmaaGreatDoor
namespace Go.Proofs.YteogojgnkjegmaaGreatDoor
open Go.ay Go.Proofs.Tryz
variable[Go.ay.bR]
structure pG where
 l:aQ a2
 r:aQ bO
 dy:ab aD
 nu:aD->Prop
section
variable{n F R:Int}{B U:Int->ba}{G Z:mM}{Q:aV->Prop}{i:Int}{x:ag}{m a:aD}{J:ba}{t:Bool}{L:Int->pG}{Y:pG}{P:aD->Prop}{c:aV}
end
end Go.Proofs.YteogojgnkjegmaaGreatDoor
namespace Go.Proofs.YteogojgnkjegmaaGreatDoor
open Go.ay Go.Proofs.Tryz
variable[Go.ay.bR]
section
variable{n F R:Int}{B J:Int->ba}{G N:mM}{Q:aV->Prop}{i:Int}{x:ag}{m a:aD}{Z:ba}{t:Bool}{L:Int->pG}{U Y:pG}{P:aD->Prop}{c:aV}
def QL{r:bO}(h:r.lost=true):r.C'=[]:=by
 unfold bO.lost at h;unfold bO.C';split
 .rfl
 .rename_i M;rw[ib]at h;grind [EZ]
end
end Go.Proofs.YteogojgnkjegmaaGreatDoor
namespace Go.Proofs.YteogojgnkjegmaaGreatDoor
open Go.ay Go.Proofs.Tryz
variable[Go.ay.bR]
section
variable{n F R:Int}{B J:Int->ba}{G C:mM}{Q Z:aV->Prop}{i:Int}{x:ag}{m a:aD}{M:ba}{t:Bool}{L:Int->pG}{U Y:pG}{P N:aD->Prop}{c:aV}
end
end Go.Proofs.YteogojgnkjegmaaGreatDoor
namespace Go.Proofs.YteogojgnkjegmaaGreatDoor
open Go.ay Go.Proofs.Tryz
variable[Go.ay.bR]
def abZ{s Y:aC}{y:ab aD}(u:g8 s y Y)(o:aD):o∈Y.inbox↔o∈s.inbox\/(o∈y/\o.b3=s.self):=by rw[u.1,eN];unfold ez;grind
section
variable{n:Int}{F:ag->Int->ba}{U:ag->Int->pG}{P:aD->Prop}{Q:ag->aV->Prop}{i:Int}{G:ag->mM}{s Y J:aC}{m:aD}
end
end Go.Proofs.YteogojgnkjegmaaGreatDoor
namespace Go.Proofs.YteogojgnkjegmaaGreatDoor
open Go.ay Go.Proofs.Tryz
variable[Go.ay.bR]
section
variable{n:Int}{F:ag->Int->ba}{U:ag->Int->pG}{P:aD->Prop}{Q:ag->aV->Prop}{i:Int}{G:ag->mM}{s Y J:aC}{m:aD}
end
end Go.Proofs.YteogojgnkjegmaaGreatDoor
namespace Go.Proofs.YteogojgnkjegmaaGreatDoor
open Go.ay Go.Proofs.Tryz
variable[Go.ay.bR]
section
variable{n:Int}{F:ag->Int->ba}{U:ag->Int->pG}{P:aD->Prop}{Q:ag->aV->Prop}{i:Int}{G:ag->mM}{s Y J:aC}{m:aD}
def aes(s:aC)(m:aD)(w:Nat)(l:(s.bp.map (·.1)).Nodup):(s.RO m w).leads=s.leads/\(∀y,y≠m.Item->br (s.RO m w).bp y=br s.bp y)/\∀e,br s.bp m.Item=some e->(br (s.RO m w).bp m.Item).map (·.v)=if(e.v.z' m).2=true/\(e.v.z' m).1.lost=true then none else some (e.v.z' m).1:=by
 unfold aC.RO;cases q:br s.bp m.Item with
 |none=>exact⟨rfl,λ_ _=>rfl,λe d=>by cases d⟩
 |some e=>
  dsimp only;by_cases C:(e.v.z' m).2=true
  .rw[aT C];by_cases g:(e.v.z' m).1.lost=true
   .rw[aT g];dsimp only;have b:=p1 (k:=m.Item) (v:=(⟨e.p,w,(e.v.z' m).1⟩:dQ bO)) l;refine⟨rfl,λy M=>?_,λc Z=>?_⟩
    .grind [w1,kM]
    .grind [w1]
   .rw[aN g];refine⟨rfl,λy M=>?_,λc Z=>?_⟩
    .show br (bw s.bp m.Item _) y=_;rw[kM,aN M]
    .cases Z;show(br (bw s.bp m.Item _) m.Item).map _=_
     grind [kM]
  .grind [br,bw,kM]
def QO(h:iH s Y):Y.n=s.n/\Y.self=s.self:=by
 induction h with
 |refl=>exact⟨rfl,rfl⟩
 |step _ _ K T=>
  obtain⟨y,u⟩:=K.Sl;exact⟨u.2.2.1.trans T.1,u.2.2.2.trans T.2⟩
end
end Go.Proofs.YteogojgnkjegmaaGreatDoor
namespace Go.Proofs.YteogojgnkjegmaaGreatDoor
open Go.ay Go.Proofs.Tryz
variable[Go.ay.bR]
section
variable{n:Int}{F:ag->Int->ba}{U:ag->Int->pG}{P:aD->Prop}{Q:ag->aV->Prop}{i:Int}{G:ag->mM}{s Y J t:aC}{m:aD}{x:ag}
end
end Go.Proofs.YteogojgnkjegmaaGreatDoor
