/-
 Part of the proof.
-/
import Derived.Test.YteogojgnkjegmaaGreatDoorAz
set_option linter.all false
set_option maxRecDepth 8000
set_option maxHeartbeats 8000000
namespace Go.Proofs.YteogojgnkjegmaaGreatDoor
open Go.az Go.Proofs.Tryz
variable[Go.az.b5]
variable{F:ag->aT aO}{n:Int}{R:Nat}{k e:Int}{J:ab (ag×Int)}{b:Nat}
def KJ(R:Nat):∀N,R<N->(List.range N).filter (λi:Nat=>decide ((i:Int)=(R:Int)))=[R]:=by
 intro N;induction N with
 |zero=>intro h;omega
 |succ N X=>
  intro h;rw[sk,nA];by_cases e:R=N
  .subst e;rw[Kp.2,E5 VK]
   .rfl
   .intro a J;have:=mi.1 J;simp;omega
  .rw[X ac,E2 VG];rfl
noncomputable def q3(N R:Nat)(f:Int->aD):ab b2:=((List.range N).filter λi:Nat=>decide (i≠R)).map λi:Nat=>⟨(R:Int),(i:Int),gP (f i)⟩
def KK{N:Nat}(h:R<N)(f:Int->aD)(o:∀i,(f i).bI=i):fa (R:Int) ((List.range N).map λi:Nat=>f i)=[f R]:=by
 unfold fa;rw[Ex];have:(List.filter ((λm:aD=>decide (m.bI=(R:Int)))∘λi:Nat=>f i) (List.range N))=[R]:=by
  rw[<-KJ R N h];refine JO λi _=>?_;show decide ((f i).bI=(R:Int))=_
  rw[o]
 rw[this];rfl
def KL{N:Nat}(f:Int->aD)(o:∀i,(f i).bI=i)(G:∀i:Nat,i<N->c4 (f i) n=true):g2 n (R:Int) ((List.range N).map λi:Nat=>f i)=q3 N R f:=by
 unfold g2 q3;rw[Ex,sN];have:(List.filter ((λm:aD=>!decide (m.bI=(R:Int))&&c4 m n)∘λi:Nat=>f i) (List.range N))=(List.range N).filter λi:Nat=>decide (i≠R):=by
  refine JO λi am=>?_;show(!decide ((f i).bI=(R:Int))&&c4 (f i) n)=_
  rw[o,G i (mi.1 am),Bool.and_true];by_cases e:i=R
  .simp[e]
  .simp[e];omega
 rw[this];refine A5 λi _=>?_;show(⟨(R:Int),(f i).bI,gP (f i)⟩:b2)=_
 rw[o]
structure KM(s s1:aA)(x:ag)(c:aO):Prop where
 n:s1.n=s.n
 self:s1.self=s.self
 bq:s1.bq=[]
 leads:s1.leads=s.leads
 run:s1.run=s.run
 M:s1.M=s.M
 cR:s1.cR=s.cR
 told:s1.told=s.told
 ax:s1.ax=s.ax.add x ⟨⟨0,x.a1⟩,⟨0,x.a1⟩,1,c,true⟩
 inbox:s1.inbox=s.inbox++fa s.self [hF x c s.self]
 out:s1.out=s.out++g2 s.n s.self [hF x c s.self]
def TY{s r:aA}{x:ag}{c:aO}(N:s.bq=[])(u:s.Wu x ⟨0,x.a1⟩=s.leads)(T:s.ax.ok)(b:s.ax.n=s.n)(U:s.ax.p.at x=none)(G:c4 (h2 x c s.self) s.n=true)(q:(fH s.ax.p c.cv x).1=c.eX/\(fH s.ax.p c.cv x).2=c.Seq)(v:fs s (h2 x c s.self) r):KM s r x c:=by
 have K:=gZ.1 G;have z:=KF T U (b▸G) q;have Q:=λy=>uq T (x:=x) (by rw[b];exact K.item) ⟨⟨0,x.a1⟩,⟨0,x.a1⟩,1,c,true⟩ y;rcases v with⟨_,X,_,_,w⟩|⟨t,_⟩
 .have y:(h2 x c s.self).Item=x:=rfl;unfold aA.U' at w;rw[y,z]at w;dsimp only at w;rw[aJ rfl]at w;have h:bn (s.ax.add x ⟨⟨0,x.a1⟩,⟨0,x.a1⟩,1,c,true⟩).p x=⟨⟨0,x.a1⟩,⟨0,x.a1⟩,1,c,true⟩:=by
   show(aL.at _ x).getD _=_
   rw[Q,aJ rfl];rfl
  rcases w with⟨D,_⟩|⟨_,J⟩
  .rw[h]at D;exact absurd D (by show¬((1:Int)=3);decide)
  .unfold je at J;dsimp only[aA.send]at J;rw[h]at J;have K:aA.Wv s x ⟨0,x.a1⟩=[]:=by unfold aA.Wv;rw[N];rfl
   constructor
   .rw[J]
   .rw[J]
   .rw[J];exact K
   .rw[J];exact u
   all_goals rw[J]
 .exact absurd (q1 rfl) t
structure q4(n:Int)(R:Nat)(dm:ag->aT aO)(x:ag)(c:aO)(bV:Nat->Bool)(k:Int)(s:aA):Prop where
 gx:kB n R dm (sV x c) s
 o2:x.a1=(R:Int)
 ce:∃p q l,s.leads=[(x,⟨p,q,l⟩)]/\q2 l n x c bV/\l.eA=k
 cR:aZ s.cR x=some true
def q4.Ws{x:ag}{c:aO}{E:Nat->Bool}{s r:aA}(h:q4 n R F x c E k s)(b:n=3\/n=5\/n=7){i:Nat}(am:(i:Int)<n)(U:E i=false)(T:k+1<2*cg n)(v:fs s (hF x c i) r):q4 n R F x c (lX E i) (k+1) r/\r.out=s.out/\r.told=s.told/\r.M=s.M/\r.run=s.run/\r.ax=s.ax:=by
 obtain⟨p,q,l,Y,Z,D⟩:=h.ce;rcases v with⟨N,_⟩|⟨_,C,aV⟩
 .rcases N with h|h|h|h<;>exact absurd (show(2:Int)=_ from h) VI
 .have P:({s with high:=s.Wa (hF x c i)}:aA)=s:=by unfold aA.Wa;rw[aG SH]
  rw[P]at aV;unfold aA.V1 at aV;rw[h.gx.bq,mu]at aV;dsimp only at aV;unfold aA.V7 at aV;have y:(hF x c i).Item=x:=rfl;have J:aZ s.leads x=some (⟨p,q,l⟩:eI a6):=by rw[Y,kE,aJ rfl]
  rw[y,J]at aV;dsimp only at aV;have t:¬2*cg n<=l.eA+1:=ac
  rw[Z.B' b am U,aG t,aG Bool.false_ne_true]at aV;dsimp only at aV;rw[Y,lB,aJ rfl]at aV;obtain⟨_,z,u⟩:=Z.put ac U (m:=hF x c i) rfl;subst aV;exact⟨⟨⟨h.gx.n,h.gx.self,h.gx.bq,h.gx.rX,h.gx.dc,h.gx.sU,h.gx.no,h.gx.is,h.gx.over,h.gx.cR⟩,h.o2,⟨p,q,_,rfl,z,by rw[u,D]⟩,h.cR⟩,rfl,rfl,rfl,rfl,rfl⟩
def q2.H'{l:a6}{x:ag}{c:aO}{E:Nat->Bool}(h:q2 l n x c E):l.H'=(List.range n.toNat).map (λi:Nat=>h2 x c i)/\({l with phase:=3}:a6).H'=(List.range n.toNat).map (λi:Nat=>lW x c i):=by
 constructor
 .unfold a6.H' a6.Wc;rw[aJ (q1 h.phase),h.n];refine A5 λi _=>?_;unfold qf mD h2;rw[h.phase,h.self,h.item,h.bm,h.call];rfl
 .unfold a6.H' a6.Wc;rw[aJ (qu (qu rfl))];dsimp only;rw[h.n];refine A5 λi _=>?_;unfold qf mD lW;dsimp only;rw[h.self,h.item,h.bm,h.call];rfl
def q4.ur{x:ag}{c:aO}{E:Nat->Bool}{s r q:aA}(h:q4 n R F x c E k s)(m:n=3\/n=5\/n=7){i:Nat}(am:(i:Int)<n)(N:E i=false)(T:2*cg n<=k+1)(a:s.ax.ok)(f:s.ax.n=s.n)(Y:hp s.n s.run)(J:F x=none)(k:bt x n=true)(w:e1 c n=true)(K:∀y∈rB c.eX,y≠x->(F y).isSome=true)(v:fs s (hF x c i) r)(G:jB r q):kB n R (oj F x c) (λ_=>none) q/\q.leads=[]/\q.out=s.out++q3 n.toNat R (lW x c)/\∃t,q.told=s.told++t/\t.map (·.Item)=(if c.cv.Kind≠0 then[x]else[])/\∀y∈t,y.gR=(ic s.M.s c.cv).1.gR:=by
 obtain⟨p,q,l,U,Z,D⟩:=h.ce;have o:(R:Int)<n:=by have:=(mV k).2.1;rw[h.o2]at this;exact this
 rcases v with⟨C,_⟩|⟨_,X,aV⟩
 .rcases C with h|h|h|h<;>exact absurd (show(2:Int)=_ from h) VI
 .have z:({s with high:=s.Wa (hF x c i)}:aA)=s:=by unfold aA.Wa;rw[aG SH]
  rw[z]at aV;unfold aA.V1 at aV;rw[h.gx.bq,mu]at aV;dsimp only at aV;unfold aA.V7 at aV;have b:(hF x c i).Item=x:=rfl;have C:aZ s.leads x=some (⟨p,q,l⟩:eI a6):=by rw[U,kE,aJ rfl]
  rw[b,C]at aV;dsimp only at aV;have u:2*cg n<=l.eA+1:=ac
  rw[Z.B' m am N,aJ u,aJ rfl]at aV;dsimp only at aV;rw[aG VI,U,lB,aJ rfl]at aV;obtain⟨_,z,T⟩:=Z.put ac N (m:=hF x c i) rfl;rw[z.H'.2]at aV;unfold aA.send at aV;dsimp only at aV;have N:s.self=(R:Int):=h.gx.self;rw[N,h.gx.n,KK ac (lW x c) (λ_=>rfl),KL (lW x c) (λ_=>rfl) (λj v=>E4 k w ac),h.gx.rX]at aV;have L:r.n=s.n:=by rw[aV];exact h.gx.n.symm
  have P:r.self=s.self:=by rw[aV];exact N.symm
  have W:∃e,r.leads=[(x,e)]:=⟨_,Mk⟩
  have v:r.bq=s.bq:=Mk
  have g:r.inbox=[lW x c R]:=by rw[aV];rfl
  have T:r.out=s.out++q3 n.toNat R (lW x c):=Mk
  have E:r.told=s.told:=Mk
  have Z:r.ax=s.ax:=Mk
  have o:r.cR=s.cR:=Mk
  have U:r.M=s.M:=Mk
  have d:r.run=s.run:=Mk
  clear aV;obtain⟨C,q,D⟩:=Bk G g;have z:kB n R F (sV x c) {r with inbox:=[]}:=by
   refine⟨?_,?_,?_,rfl,?_,?_,?_,?_,?_,?_⟩
   .show r.n=n;rw[L,h.gx.n]
   .show r.self=_;rw[P,h.gx.self]
   .show r.bq=[];rw[v,h.gx.bq]
   .show r.run.dc=[];rw[d,h.gx.dc]
   .show∀y c,F y=some c->∃j,r.ax.p.at y=some j/\_;rw[Z];exact h.gx.sU
   .show∀y,F y=none->r.ax.p.at y=_;rw[Z];exact h.gx.no
   .show∀y,r.run.g.is y=_;rw[d];exact h.gx.is
   .show∀y,r.run.g.over y=_;rw[d];exact h.gx.over
   .show∀y v,aZ r.cR y=some v->_;rw[o];exact h.gx.cR
  obtain⟨e,W⟩:=W;have X:(bn r.ax.p x).Status≠3:=by
   unfold bn;rw[Z,h.gx.no x J];unfold sV;rw[aJ rfl];show¬((1:Int)=3)
   decide
  obtain⟨P,N,j,t,u,F,v⟩:=z.comm (by show fm r.leads x=[];rw[W,uY,aJ rfl]) (by show r.ax.ok;rw[Z];exact a) (by show r.ax.n=r.n;rw[Z,L];exact f)
   (by show hp r.n r.run;rw[L,d];exact Y) J (λy C=>by unfold sV;rw[aG C]) X (by show c4 _ r.n=true;rw[L,h.gx.n];exact E4 k w ac) K q D
  refine⟨P,N,by rw[j];exact T,t,by rw[u];show r.told++t=_;rw[E],?_,?_⟩
  .rw[F];show(if decide (c.cv.Kind≠0)&&(aZ r.cR x).getD false then[x]else[])=_
   rw[o,h.cR];simp
  .intro y C;have:=v y C;change y.gR=(ic r.M.s c.cv).1.gR at this;rw[U]at this;exact this
def jC(p:aL aY)(d:bF)(x:ag):aO:=⟨d,(fH p d x).1,(fH p d x).2⟩
structure KN(n:Int)(R:Nat)(dm:ag->aT aO)(s:aA)(d:bF)(x:ag)(cL:aA):Prop where
 ok:uf d
 o2:x.a1=(R:Int)
 new:dm x=none
 vG:bt x n=true
 gc:e1 (jC s.ax.p d x) n=true
 ls:q4 n R dm x (jC s.ax.p d x) (lX (λ_=>false) R) 1 cL
 out:cL.out=s.out++q3 n.toNat R (h2 x (jC s.ax.p d x))
 told:cL.told=s.told
 M:cL.M=s.M
def aiD{s cL:aA}{d:bF}{x:ag}(h:kB n R F (λ_=>none) s)(dz:s.leads=[])(cN:n=3\/n=5\/n=7)(Yj:(R:Int)<n)(a:s.ax.ok)(f:s.ax.n=s.n)(ir:oX s d x e cL):(e≠0/\cL=s)\/(e=0/\KN n R F s d x cL):=by
 rcases ir with⟨_,_,P,bV⟩|⟨_,_,_,P,bV⟩|⟨du,K,J,P,p,D⟩
 .exact q1 ⟨by rw[P];decide,bV⟩
 .exact q1 ⟨by rw[P];decide,bV⟩
 .right;refine⟨P,?_⟩;have N:=h.self;have E:x.a1=(R:Int):=by rw[J];exact N
  have Yf:x.bX=(s.ax.p.top (R:Int):Int)+1:=by rw[J];show(s.ax.p.top s.self:Int)+1=_;rw[N]
  have Y:bt x n=true:=by rw[<-J]at K;simp only[bt,c1,cO];omega
  have l:F x=none:=by
   cases bN:F x with
   |none=>rfl
   |some c=>
    obtain⟨j,dK,_⟩:=h.sU x c bN;have:=aL.Zy a.p dK;rw[E]at this;omega
  have Yc:s.ax.p.at x=none:=h.no x l;obtain⟨fi,oE,mn⟩:=El a d x;have w:e1 (jC s.ax.p d x) n=true:=by rw[f,h.n]at fi;unfold e1 jC;rw[du.1,fi,iq oE,iq mn];rfl
  have u:q2 (s.VY d) n x (jC s.ax.p d x) (λ_=>false):=by
   unfold aA.VY;rw[<-J];refine⟨DW _ _ _ _ _ _,h.n,?_,rfl,?_,rfl,rfl,?_,?_⟩
   .show s.self=x.a1;rw[E,N]
   .show(⟨0,s.self⟩:bp)=_;rw[E,N]
   .intro k T;show(List.replicate 7 false).getD k false=false
    rw[hn,u0];split<;>rfl
   .intro k m T;exfalso;change(List.replicate 7 false).getD k false=true at T;rw[hn,u0]at T;split at T<;>cases T
  obtain⟨W,o⟩:∃W,W=s.V3 d p:=⟨_,rfl⟩
  rw[<-o]at D;unfold aA.V3 aA.send aA.WA at o;dsimp only at o;rw[u.H'.1,N,h.n,KK ac (h2 x (jC s.ax.p d x)) (λ_=>rfl),KL (h2 x (jC s.ax.p d x)) (λ_=>rfl) (λj dK=>E3 Y w ac),h.rX,dz]at o;rw[<-N,<-J,N]at o;have f1:W.n=n:=Ur
  have z:W.self=(R:Int):=Ur
  have f3:W.leads=[(x,⟨p,0,s.VY d⟩)]:=by rw[o];rfl
  have f4:W.bq=[]:=by rw[o];exact h.bq
  have f5:W.inbox=[h2 x (jC s.ax.p d x) R]:=by rw[o];rfl
  have f6:W.out=s.out++q3 n.toNat R (h2 x (jC s.ax.p d x)):=Ur
  have f7:W.told=s.told:=Ur
  have Z:W.ax=s.ax:=Ur
  have Bl:W.cR=bA s.cR x true:=Ur
  have Yh:W.M=s.M:=Ur
  have Ye:W.run=s.run:=Ur
  clear o;obtain⟨q,dd,X⟩:=Bk D f5;have t:KM {W with inbox:=[]} q x (jC s.ax.p d x):=by
   refine TY (by show W.bq=[];exact f4) ?_ (by show W.ax.ok;rw[Z];exact a) (by show W.ax.n=W.n;rw[Z,f1,<-h.n];exact f) (by show W.ax.p.at x=none;rw[Z];exact Yc) ?_ ?_ ?_
   .unfold aA.Wu;show(match aZ W.leads x with|some e=>_|none=>W.leads)=W.leads
    rw[f3,kE,aJ rfl];dsimp only;rw[u.bm,aG];simp[fY]
   .show c4 (h2 x _ W.self) W.n=true;rw[f1,z];exact E3 Y w ac
   .show(fH W.ax.p _ x).1=_/\_;rw[Z];exact⟨rfl,rfl⟩
   .have fE:h2 x (jC s.ax.p d x) (R:Int)=h2 x (jC s.ax.p d x) W.self:=by rw[z]
    rw[fE]at dd;exact dd
  have v5:=t.inbox;have Q:({W with inbox:=[]}:aA).self=(R:Int):=z;have r:fa (R:Int) [hF x (jC s.ax.p d x) (R:Int)]=[hF x (jC s.ax.p d x) (R:Int)]:=by unfold fa;rw[E5 (by rw[cO];exact E)];rfl
  have Yk:g2 n (R:Int) [hF x (jC s.ax.p d x) (R:Int)]=[]:=by
   unfold g2;rw[E2]
   .rfl
   .have:decide ((hF x (jC s.ax.p d x) (R:Int)).bI=(R:Int))=true:=by rw[cO];exact E
    rw[this];simp
  rw[Q,r]at v5;obtain⟨kt,nE,G⟩:=Bk X v5;have hh:q.n=n:=by rw[t.n];exact f1
  have lL:q.self=(R:Int):=by rw[t.self];exact z
  have v3:q.leads=[(x,⟨p,0,s.VY d⟩)]:=by rw[t.leads];exact f3
  have oW:q.out=s.out++q3 n.toNat R (h2 x (jC s.ax.p d x)):=by
   rw[t.out];show W.out++g2 W.n W.self _=_
   have fL:({W with inbox:=[]}:aA).self=(R:Int):=z;rw[fL,f1,Yk,f6,db]
  have vc:q.told=s.told:=by rw[t.told];exact f7
  have w6:q.ax=s.ax.add x ⟨⟨0,x.a1⟩,⟨0,x.a1⟩,1,jC s.ax.p d x,true⟩:=by rw[t.ax];show W.ax.add _ _=_;rw[Z]
  have v9:q.cR=bA s.cR x true:=by rw[t.cR];exact Bl
  have Yi:q.M=s.M:=by rw[t.M];exact Yh
  have L:q.run=s.run:=by rw[t.run];exact Ye
  have U:=λy=>uq a (x:=x) (by rw[f,h.n];exact Y) ⟨⟨0,x.a1⟩,⟨0,x.a1⟩,1,jC s.ax.p d x,true⟩ y;have Yg:q4 n R F x (jC s.ax.p d x) (λ_=>false) 0 {q with inbox:=[]}:=by
   refine⟨⟨hh,lL,t.bq,rfl,?_,?_,?_,?_,?_,?_⟩,E,⟨p,0,_,v3,u,rfl⟩,?_⟩
   .show q.run.dc=[];rw[L];exact h.dc
   .intro y c C;show∃j,q.ax.p.at y=some j/\_
    rw[w6,U,aG (by rintro rfl;rw[l]at C;cases C)];exact h.sU y c C
   .intro y C;show q.ax.p.at y=_
    rw[w6,U,h.no y C];rfl
   .show∀y,q.run.g.is y=_;rw[L];exact h.is
   .show∀y,q.run.g.over y=_;rw[L];exact h.over
   .intro y v C;change aZ q.cR y=some v at C;rw[v9,gX]at C;split at C
    .rename_i e;rw[e];exact E
    .exact h.cR y v C
   .show aZ q.cR x=some true;rw[v9,gX,aJ rfl]
  have c0:(0:Int)+1<2*cg n:=by rcases cN with rfl|rfl|rfl<;>decide
  obtain⟨md,jZ,lQ,nf,oe,ul⟩:=Yg.Ws cN (i:=R) Yj rfl c0 nE;have b:=uo (xg G md.gx.rX) md.gx.dc;subst b;exact⟨du,E,l,Y,w,md,by rw[jZ];exact oW,by rw[lQ];exact vc,by rw[nf];exact Yi⟩
def kB.adr{i:Nat}{ex:ag->aT aY}{s r:aA}{x:ag}{c:aO}{j:Int}(h:kB n i F ex s)(u:s.leads=[])(v:fs s (hF x c j) r):r=s:=by
 rcases v with⟨J,_⟩|⟨_,m,aV⟩
 .rcases J with h|h|h|h<;>exact absurd (show(2:Int)=_ from h) VI
 .have t:({s with high:=s.Wa (hF x c j)}:aA)=s:=by unfold aA.Wa;rw[aG SH]
  rw[t]at aV;unfold aA.V1 at aV;rw[h.bq,mu]at aV;dsimp only at aV;unfold aA.V7 at aV;rw[u,mu]at aV;exact aV
def kB.flush{i:Nat}{ex:ag->aT aY}{s:aA}(h:kB n i F ex s):kB n i F ex s.flush:=
 ⟨h.n,h.self,h.bq,h.rX,h.dc,h.sU,h.no,h.is,h.over,h.cR⟩
def q4.flush{x:ag}{c:aO}{E:Nat->Bool}{s:aA}(h:q4 n R F x c E k s):q4 n R F x c E k s.flush:=⟨h.gx.flush,h.o2,h.ce,h.cR⟩
def T0{c:ab Bool}(q:∀a b,jf c a b=false):∀(N l:ab b2),(∀x∈N,iU x.bc=true/\iU x.bI=true)->l.length+N.length<=256->∀k,N.foldl (kR c) (l,k)=(l++N,k):=by
 intro N;induction N with
 |nil=>intro l _ _ k;rw[db];rfl
 |cons x N T=>
  intro l U u k;have Y:=U x er;simp only[df]at u;have X:oh c l x=false:=by unfold oh;rw[Y.1,Y.2,q];simp;omega
  rw[pc];have e:kR c (l,k) x=(l++[x],k):=by unfold kR;rw[X];rfl
  rw[e,T (l++[x]) (λy C=>U y (e0 _ C)) VG,ck];rfl
structure Bn(c:bo)(i:Nat)(rest:ab b2)(s2:aA)(bs:bo):Prop where
 n:bs.n=c.n
 cut:bs.cut=c.cut
 now:bs.now=c.now
 lost:bs.lost=c.lost
 aE:∃b L,bs.aE=c.aE.set i (.up b L s2.flush)
 bi:bs.bi=rest++s2.out
 told:bs.told=c.told++s2.told.map (mf i c.now)
def KO{g c d:bo}{i:Nat}{U:ab b2}{L:cT}{D:aA}(am:i<g.aE.length)(q:c={g with bi:=U,aE:=g.aE.set i (.up b L D)})(j:∀a b,jf g.cut a b=false)(p:∀x∈D.out,iU x.bc=true/\iU x.bI=true)(u:U.length+D.out.length<=256)(h:kS c i d):Bn g i U D d:=by
 obtain⟨k,K,r,J,Y,rfl⟩:=h;have e:c.aE[i]?=some (.up b L D):=by
  rw[q];show(g.aE.set i _)[i]?=_
  rw[i2,aJ rfl,aJ am]
 rw[e]at Y;cases Y;have E:=T0 j D.out U p u 0;subst q;unfold bo.Wi hs;dsimp only;rw[E];refine⟨rfl,rfl,rfl,by show g.lost+0=_;omega,⟨b,J,?_⟩,rfl,rfl⟩;show(g.aE.set i _).set i _=_
 rw[vC]
def E6{c d:bo}{f t:Nat}{m:aD}{M:ab b2}{L:cT}{s:aA}(y:c.n<=7)(w:(c.aE.length:Int)=c.n)(Yg:∀a b,jf c.cut a b=false)(z:c.bi=⟨(f:Int),(t:Int),gP m⟩::M)(G:c4 m c.n=true)(k:m.bc=(f:Int))(o:m.bI=(t:Int))(Yc:f≠t)(U:c.aE[t]?=some (.up b L s))(E:s.self=(t:Int))(h:lU c 0 e d):∃r R,fs s m r/\jB r R/\((∀x∈R.out,iU x.bc=true/\iU x.bI=true)->M.length+R.out.length<=256->Bn c t M R d):=by
 have Q:iV c.bi 0=some ⟨(f:Int),(t:Int),gP m⟩:=by unfold iV;rw[aJ VI,z];rfl
 rcases h with⟨Ye,_⟩|⟨j,J,X,r,qz,F,R,⟨x,N,Y,Z,D,i,P,jr,T,mv⟩,_,Yf⟩
 .exfalso;rcases Ye with⟨Y,_⟩|⟨x,Y,Z,_⟩|⟨x,j,g,v,l,nh,W,Y,_,D,i,_⟩
  .rw[Q]at Y;cases Y
  .rw[Yg]at Z;cases Z
  .rw[Q]at Y;cases Y;have:t=j:=by have D:(t:Int)=(j:Int):=D;omega
   subst this;rw[U]at i;cases i
 .rw[Q]at Y;cases Y;have:t=j:=by have D:(t:Int)=(j:Int):=D;omega
  subst this;rw[U]at i;cases i;have K:m=qz:=Bj y G jr P;subst K;rcases mv with⟨q,_⟩|⟨_,_,_,kt,lN,Yh⟩
  .exfalso;rcases q with q|q
   .exact q (by rw[o,E])
   .rw[k,E]at q;omega
  .refine⟨kt,R,lN,Yh,λp u=>?_⟩;have C:t<c.aE.length:=by
    rcases o9 t c.aE.length with h|h
    .exact h
    .rw[qE h]at U;cases U
   refine KO (b:=b) (L:=F) C ?_ Yg p u Yf;unfold bo.less;rw[z];rfl
inductive Tok where
 |P (i:Nat)
 |A (i:Nat)
 |C (i:Nat)
noncomputable def Tok.let(R:Nat)(x:ag)(c:aO):Tok->b2
 |.P i=>⟨(R:Int),(i:Int),gP (h2 x c i)⟩
 |.A i=>⟨(i:Int),(R:Int),gP (hF x c i)⟩
 |.C i=>⟨(R:Int),(i:Int),gP (lW x c i)⟩
structure Bo where
 st:Nat->Nat
 ce:aT ((Nat->Bool)×Int)
 my:ab Tok
structure l1(n:Int)(R:Nat)(Y:ag->aT aO)(x:ag)(c:aO):Prop where
 cN:n=3\/n=5\/n=7
 ep:(R:Int)<n
 o2:x.a1=(R:Int)
 new:Y x=none
 vG:bt x n=true
 gc:e1 c n=true
 oT:c.cv.Kind≠0
 prev:∀m:Int,1<=m->m<x.bX->(Y ⟨x.a1,m⟩).isSome=true
 KP:∀y∈rB c.eX,y≠x->(Y y).isSome=true
 iF:∀s:bS,s.ok->s.n=n->(∀y c,Y y=some c->∃j,s.p.at y=some j/\j.Status=3/\j.Call=c)->(∀y,Y y=none->s.p.at y=none)->(fH s.p c.cv x).1=c.eX/\(fH s.p c.cv x).2=c.Seq
structure Bp(n:Int)(Y:ag->aT aO)(x:ag)(c:aO)(i:Nat)(st:Nat)(s:aA):Prop where
 leads:s.leads=[]
 out:s.out=[]
 told:s.told=[]
 gx:kB n i (if st=2 then oj Y x c else Y) (if st=1 then sV x c elseλ_=>none) s
def agi(n:Int)(R:Nat)(Y:ag->aT aO)(x:ag)(c:aO)(U:hq)(s:aA):aT ((Nat->Bool)×Int)->Prop
 |some (E,k)=>q4 n R Y x c E k s/\s.M.s=U
 |none=>kB n R (oj Y x c) (λ_=>none) s/\s.leads=[]
def ll(t:eZ):ag×Int:=(t.t.Item,t.t.gR)
structure jg(n:Int)(R:Nat)(Y:ag->aT aO)(x:ag)(c:aO)(U:hq)(J:ab (ag×Int))(u:Bo)(q:bo):Prop where
 aM:q.n=n
 y:∃k,cC k q
 cut:∀a b,jf q.cut a b=false
 bi:q.bi=u.my.map (Tok.let R x c)
 vH:∀i:Nat,(i:Int)<n->i≠R->∃b L s,q.aE[i]?=some (.up b L s)/\Bp n Y x c i (u.st i) s
 ax:∃b L s,q.aE[R]?=some (.up b L s)/\s.out=[]/\s.told=[]/\agi n R Y x c U s u.ce
 told:q.told.map ll=J++(if u.ce.isNone then[(x,(ic U c.cv).1.gR)]else[])
def lY(f:Nat->Nat)(i v:Nat):Nat->Nat:=λk=>if k=i then v else f k
section
variable{Y:ag->aT aO}{x:ag}{c:aO}{U:hq}{u:Bo}{q Z:bo}
def xj{i:Nat}(h:(i:Int)<n)(y:n=3\/n=5\/n=7):iU (i:Int)=true:=by unfold iU;rw[c1,cO,cO];omega
def T2{i:Nat}{m:aD}(G:c4 m n=true)(f:m.bI≠(i:Int)):g2 n (i:Int) [m]=[⟨(i:Int),m.bI,gP m⟩]:=by unfold g2;rw[E5 (by rw[G,l5 f];rfl)];rfl
def jg.l8{i:Nat}{D:aA}{N:ab b2}(h:jg n R Y x c U J u q)(am:(i:Int)<n)(E:Bn q i N D Z):(∃b L,Z.aE[i]?=some (.up b L D.flush))/\∀j,j≠i->Z.aE[j]?=q.aE[j]?:=by
 obtain⟨b,L,g⟩:=E.aE;obtain⟨k,C⟩:=h.y;have E:=C.len;rw[h.aM]at E;refine⟨⟨b,L,?_⟩,λj v=>?_⟩
 .rw[g,i2,aJ rfl,aJ ac]
 .rw[g,i2,aG (ox v)]
def KQ(W:l1 n R Y x c)(h:jg n R Y x c U J u q){i:Nat}{X:ab Tok}(Yc:u.my=.P i::X)(am:(i:Int)<n)(t:i≠R)(w:u.st i=0)(E:u.my.length<=100)(f:lU q 0 e Z):jg n R Y x c U J ⟨lY u.st i 1,u.ce,X++[.A i]⟩ Z:=by
 obtain⟨k,K⟩:=h.y;obtain⟨b,L,s,M,l⟩:=h.vH i am t;have p:=K.up i b L s M;have z:q.bi=⟨(R:Int),(i:Int),gP (h2 x c i)⟩::X.map (Tok.let R x c):=by rw[h.bi,Yc];rfl
 have Ye:=l.gx;rw[w,aG VI,aG VI]at Ye;have G:c4 (h2 x c i) n=true:=E3 W.vG W.gc ac;have Yg:c4 (hF x c i) n=true:=KI W.vG W.gc ac;have Yi:x.a1≠(i:Int):=by rw[W.o2];omega
 obtain⟨r,d,N,C,D⟩:=E6 (by have:=W.cN;rw[h.aM];omega) K.len h.cut z (by rw[h.aM];exact G) W.o2 rfl (ox t) M Ye.self f;have F:=W.iF s.ax p.y.ax (by rw[p.y.en,Ye.n]) Ye.sU Ye.no;obtain⟨a,o,lQ,nf⟩:=Ye.adq l.leads p.y.ax p.y.en W.new Yi (by rw[Ye.n];exact G) F N;have Yf:=uo (xg C a.rX) a.dc;subst Yf;rw[l.out,Ye.n,Ye.self,T2 Yg Yi,g4]at lQ;have m:=D (by
  intro y K;rw[lQ,fF]at K;rw[K];refine⟨xj am W.cN,?_⟩;show iU x.a1=true
  rw[W.o2];exact xj W.ep W.cN) (by rw[lQ,dZ];rw[Yc]at E;simp at E⊢;omega)
 obtain⟨⟨T,Q,g⟩,Yh⟩:=h.l8 am m;refine⟨m.n.trans h.aM,⟨_,f.cu K⟩,Rv,?_,?_,?_,?_⟩
 .rw[m.bi,lQ,hJ];show _++[(⟨(i:Int),x.a1,gP (hF x c i)⟩:b2)]=_
  rw[W.o2];rfl
 .intro j v Yj;by_cases e:j=i
  .subst e;refine⟨T,Q,_,g,o,rfl,rfl,?_⟩;show kB n j (if lY u.st j 1 j=2 then _ else _) (if lY u.st j 1 j=1 then _ else _) _
   unfold lY;rw[aJ rfl,aG VI,aJ rfl];exact a.flush
  .obtain⟨N,M,d,D,s⟩:=h.vH j v Yj;refine⟨N,M,d,by rw[Yh j e];exact D,?_⟩;show Bp n Y x c j (lY u.st i 1 j) d
   unfold lY;rw[aG e];exact s
 .obtain⟨N,M,d,D,s⟩:=h.ax;exact⟨N,M,d,by rw[Yh R (ox t)];exact D,s⟩
 .rw[m.told,nf,l.told];show(q.told++[]).map ll=_
  rw[db];exact h.told
end
end Go.Proofs.YteogojgnkjegmaaGreatDoor
namespace Go.Proofs.YteogojgnkjegmaaGreatDoor
open Go.az Go.Proofs.Tryz
variable[Go.az.b5]
def g7(n:Int)(R:Nat):ab Nat:=(List.range n.toNat).filter λi:Nat=>decide (i≠R)
def E7(n:Int)(R:Nat):(g7 n R).length<=n.toNat:=by unfold g7;exact iB (rC _ _) (by rw[List.length_range];exact cx _)
section
variable{n:Int}{R:Nat}{Y:ag->aT aO}{x:ag}{c:aO}{Z:hq}{U:ab (ag×Int)}{u:Bo}{q J:bo}{e:Int}
def KR(o:l1 n R Y x c)(h:jg n R Y x c Z U u q){i:Nat}{T:ab Tok}(Yf:u.my=.C i::T)(am:(i:Int)<n)(a:i≠R)(Yc:u.st i=0\/u.st i=1)(E:u.my.length<=100)(f:lU q 0 e J):jg n R Y x c Z U ⟨lY u.st i 2,u.ce,T⟩ J:=by
 obtain⟨k,F⟩:=h.y;obtain⟨b,L,s,M,l⟩:=h.vH i am a;have Ye:=F.up i b L s M;have z:q.bi=⟨(R:Int),(i:Int),gP (lW x c i)⟩::T.map (Tok.let R x c):=by rw[h.bi,Yf];rfl
 have Yg:=l.gx;have K:u.st i≠2:=ac
 rw[aG K]at Yg;have G:c4 (lW x c i) n=true:=E4 o.vG o.gc ac;obtain⟨r,W,N,K,D⟩:=E6 (by have:=o.cN;rw[h.aM];omega) F.len h.cut z (by rw[h.aM];exact G) o.o2 rfl (ox a) M Yg.self f;have Yj:∀y,y≠x->(if u.st i=1 then sV x c elseλ_=>none) y=none:=by
  intro y F;split
  .unfold sV;rw[aG F]
  .rfl
 have Yh:(bn s.ax.p x).Status≠3:=by
  unfold bn;rw[Yg.no x o.new];split
  .unfold sV;rw[aJ rfl];show¬((1:Int)=3)
   decide
  .show¬((0:Int)=3);decide
 obtain⟨md,P,lQ,t,nf,oe,_⟩:=Yg.comm (by rw[l.leads];rfl) Ye.y.ax Ye.y.en Ye.y.run o.new Yj Yh (by rw[Yg.n];exact G) o.KP N K;have Yl:(aZ s.cR x).getD false=false:=by
  cases X:aZ s.cR x with
  |none=>rfl
  |some v=>
   exfalso;have:=Yg.cR x v X;rw[o.o2]at this;omega
 rw[Yl,wI,aG VI]at oe;obtain rfl:=CR.1 oe;rw[l.out]at lQ;rw[l.told]at nf;have m:=D (by rw[lQ];intro y F;cases F) (by rw[lQ,dZ];rw[Yf]at E;simp at E⊢;omega);obtain⟨⟨Q,d,g⟩,Yi⟩:=h.l8 am m;refine⟨m.n.trans h.aM,⟨_,f.cu F⟩,Rv,?_,?_,?_,?_⟩
 .rw[m.bi,lQ,db]
 .intro j w Yk;by_cases e:j=i
  .subst e;refine⟨Q,d,_,g,P,rfl,rfl,?_⟩;show kB n j (if lY u.st j 2 j=2 then _ else _) (if lY u.st j 2 j=1 then _ else _) _
   unfold lY;rw[aJ rfl,aJ rfl,aG VI];exact md.flush
  .obtain⟨N,M,W,D,s⟩:=h.vH j w Yk;refine⟨N,M,W,by rw[Yi j e];exact D,?_⟩;show Bp n Y x c j (lY u.st i 2 j) W
   unfold lY;rw[aG e];exact s
 .obtain⟨N,M,W,D,s⟩:=h.ax;exact⟨N,M,W,by rw[Yi R (ox a)];exact D,s⟩
 .rw[m.told,nf];show(q.told++[]).map ll=_
  rw[db];exact h.told
def Bq(K:l1 n R Y x c)(h:jg n R Y x c Z U u q){i:Nat}{N:ab Tok}(Yf:u.my=.A i::N)(am:(i:Int)<n)(Ye:i≠R)(dz:u.my.length<=100)(cB:lU q 0 e J):(u.ce=none->jg n R Y x c Z U ⟨u.st,none,N⟩ J)/\∀bV k,u.ce=some (bV,k)->bV i=false->(k+1<2*cg n->jg n R Y x c Z U ⟨u.st,some (lX bV i,k+1),N⟩ J)/\(2*cg n<=k+1->jg n R Y x c Z U ⟨u.st,none,N++(g7 n R).map .C⟩ J):=by
 obtain⟨k,F⟩:=h.y;obtain⟨b,L,s,b6,a,o,z⟩:=h.ax;have r:=F.up R b L s b6;have cn:q.bi=⟨(i:Int),(R:Int),gP (hF x c i)⟩::N.map (Tok.let R x c):=by rw[h.bi,Yf];rfl
 have bG:c4 (hF x c i) n=true:=KI K.vG K.gc ac;have X:s.self=(R:Int):=r.self;obtain⟨s1,d,bf,bW,cd⟩:=E6 (by have:=K.cN;rw[h.aM];omega) F.len h.cut cn (by rw[h.aM];exact bG) rfl K.o2 Ye b6 X cB;have Yc:N.length<=99:=by rw[Yf]at dz;simp at dz;omega
 have G (j0:Nat->Nat) (m:Bn q R (N.map (Tok.let R x c)) d J):∀j:Nat,(j:Int)<n->j≠R->∃b L s,J.aE[j]?=some (.up b L s)/\Bp n Y x c j (u.st j) s:=by intro j dK Yh;obtain⟨_,f⟩:=h.l8 K.ep m;obtain⟨jN,gG,d,j3,qL⟩:=h.vH j dK Yh;exact⟨jN,gG,d,by rw[f j Yh];exact j3,qL⟩
 constructor
 .intro l;rw[l]at z;obtain⟨P,Yj⟩:=z;have c5:=P.adr Yj bf;subst c5;have v:=uo (xg bW P.rX) P.dc;subst v;have m:=cd (by rw[a];intro y F;cases F) (by rw[a,dZ];simp;omega);obtain⟨⟨Q,D,g⟩,f⟩:=h.l8 K.ep m;refine⟨m.n.trans h.aM,⟨_,cB.cu F⟩,Rv,?_,G u.st m,⟨Q,D,_,g,rfl,rfl,P.flush,Yj⟩,?_⟩
  .rw[m.bi,a,db]
  .rw[m.told,o];show(q.told++[]).map ll=_
   rw[db];have:=h.told;rw[l]at this;exact this
 .intro bV tf p dq;rw[p]at z;obtain⟨Yi,qe⟩:=z;constructor
  .intro ca;obtain⟨W,T,w,nf,oe,ul⟩:=Yi.Ws K.cN am dq ca bf;have v:=uo (xg bW W.gx.rX) W.gx.dc;subst v;rw[a]at T;rw[o]at w;have m:=cd (by rw[T];intro y F;cases F) (by rw[T,dZ];simp;omega);obtain⟨⟨Q,D,g⟩,f⟩:=h.l8 K.ep m;refine⟨m.n.trans h.aM,⟨_,cB.cu F⟩,Rv,?_,G u.st m,⟨Q,D,_,g,rfl,rfl,W.flush,?_⟩,?_⟩
   .rw[m.bi,T,db]
   .show d.M.s=Z;rw[nf];exact qe
   .rw[m.told,w];show(q.told++[]).map ll=_
    rw[db];have:=h.told;rw[p]at this;exact this
  .intro ca;obtain⟨W,T,w,t,nf,oe,ul⟩:=Yi.ur K.cN am dq ca r.y.ax r.y.en r.y.run K.new K.vG K.gc K.KP bf bW;rw[a,g4]at w;rw[o,g4]at nf;rw[aJ K.oT]at oe;have Yg:d.out.length<=7:=by rw[w];unfold q3;rw[dZ];have:=E7 n R;unfold g7 at this;have:=K.cN;omega
   have m:=cd (by rw[w];intro y F;unfold q3 at F;obtain⟨j,dK,rfl⟩:=dQ.1 F;have dK:=mi.1 (mU.1 dK).1;exact⟨xj K.ep K.cN,xj ac K.cN⟩) U0
   obtain⟨⟨Q,D,g⟩,f⟩:=h.l8 K.ep m;refine⟨m.n.trans h.aM,⟨_,cB.cu F⟩,Rv,?_,G u.st m,⟨Q,D,_,g,rfl,rfl,W.flush,T⟩,?_⟩
   .rw[m.bi,w,hJ,sN];rfl
   .rw[m.told,nf,hJ,h.told,p];obtain⟨E,rfl⟩:∃E,t=[E]:=by
     cases t with
     |nil=>cases oe
     |cons a l=>
      cases l with
      |nil=>exact⟨a,rfl⟩
      |cons b l=>simp at oe
    have i:E.Item=x:=by simpa using oe
    have m:=ul E er;rw[qe]at m;show U++[]++[(E.Item,E.gR)]=U++[(x,_)]
    rw[i,m,db]
end
end Go.Proofs.YteogojgnkjegmaaGreatDoor
namespace Go.Proofs.YteogojgnkjegmaaGreatDoor
open Go.az Go.Proofs.Tryz
variable[Go.az.b5]
variable{n:Int}{R:Nat}{U:ab (ag×Int)}
def za{i:Nat}(y:0<=n):i∈g7 n R↔(i:Int)<n/\i≠R:=by unfold g7;rw[mU,mi,cO];omega
def Br(n:Int)(R:Nat):(g7 n R).Nodup:=List.Pairwise.filter _ List.nodup_range
def agb(R:Nat):∀N:Nat,((List.range N).filter λi:Nat=>decide (i≠R)).length+(if R<N then 1 else 0)=N:=by
 intro N;induction N with
 |zero=>rfl
 |succ N X=>
  rw[sk,nA,bQ];by_cases e:N=R
  .subst e;rw[aG ac]at X;rw[aJ ac,E2 VK,yN,gv];omega
  .rw[E5 (by simpa using e),yN,nX];by_cases h:R<N
   .rw[aJ h]at X;rw[aJ ac];omega
   .rw[aG h]at X;rw[aG ac];omega
def Bs(f:(R:Int)<n):(g7 n R).length+1=n.toNat:=by have:=agb R n.toNat;rw[aJ ac]at this;exact this
section
variable{Y:ag->aT aO}{x:ag}{c:aO}{J:hq}{q Z:bo}{e:Int}
inductive kT(n:Int)(R:Nat)(Y:ag->Option aO)(x:ag)(c:aO)(J:hq)(U:List (ag×Int))(O:List Nat):Nat->bo->Prop where
 |s1 {q:bo} {dn td:List Nat} {st:Nat->Nat} (mX:O=dn++td) (bf:∀i,i∉dn->st i=0) (bW:∀i∈dn,st i=1) (h:jg n R Y x c J U ⟨st,some (lX (λ_=>false) R,1),td.map .P++dn.map .A⟩ q):kT n R Y x c J U O (td.length+O.length+(g7 n R).length) q
 |s2 {q:bo} {dn td:List Nat} {st:Nat->Nat} {bV:Nat->Bool} (mX:O=dn++td) (bf:∀i,st i=0\/st i=1) (bW:∀i∈td,bV i=false) (ca:(1:Int)+dn.length<2*cg n) (h:jg n R Y x c J U ⟨st,some (bV,1+(dn.length:Int)),td.map .A⟩ q):kT n R Y x c J U O (td.length+(g7 n R).length) q
 |kt {q:bo} {dn td:List Nat} {st:Nat->Nat} (mX:O=dn++td) (bf:∀i,st i=0\/st i=1) (h:jg n R Y x c J U ⟨st,none,td.map .A++(g7 n R).map .C⟩ q):kT n R Y x c J U O (td.length+(g7 n R).length) q
 |tU {q:bo} {dn td:List Nat} {st:Nat->Nat} (mX:g7 n R=dn++td) (bf:∀i∈td,st i=0\/st i=1) (bW:∀i∈dn,st i=2) (h:jg n R Y x c J U ⟨st,none,td.map .C⟩ q):kT n R Y x c J U O td.length q
def kT.step{O:ab Nat}{k:Nat}(F:l1 n R Y x c)(b:∀i∈O,(i:Int)<n/\i≠R)(s:O.Nodup)(y:O.length<=6)(Yc:2*cg n<=(O.length:Int)+1)(h:kT n R Y x c J U O k q)(z:q.bi≠[])(f:lU q 0 e Z):∃d,k=d+1/\kT n R Y x c J U O d Z:=by
 have Yg:(g7 n R).length<=7:=by have:=E7 n R;have:=F.cN;omega
 have Ye:0<=n:=by have:=F.cN;omega
 have w:1<=cg n:=by rcases F.cN with rfl|rfl|rfl<;>decide
 cases h with
 |@s1 _ dn td st W N M h=>
  cases td with
  |nil=>
   rw[db]at W;subst W;cases O with
   |nil=>simp at Yc;omega
   |cons i O=>
    have am:=b i er;have K:jg n R Y x c J U ⟨st,some (lX (λ_=>false) R,1),(i::O).map .A⟩ q:=h;obtain⟨_,p⟩:=Bq F K rfl am.1 am.2 (by simp at y⊢;omega) f;have Q:∀j,st j=0\/st j=1:=λj=>by
     by_cases v:j∈i::O
     .exact qu (M j v)
     .exact q1 (N j v)
    obtain⟨o,t⟩:=p _ _ rfl (by unfold lX;simp[am.2]);refine⟨O.length+(g7 n R).length,VG,?_⟩
    .by_cases T:(1:Int)+1<2*cg n
     .refine kT.s2 (dn:=[i]) (td:=O) rfl Q ?_ Pf (by simpa using o T);intro j v;have G:=(ki.1 s).1;have m:j≠i:=λe=>G (e▸v);have:=(b j (e0 _ v)).2;unfold lX;simp[m,this]
     .exact kT.kt (dn:=[i]) (td:=O) rfl Q (t ac)
  |cons i td=>
   have Yi:i∈O:=TC
   have am:=b i Yi;have Yf:i∉dn:=by rw[W]at s;intro D;exact(gr.1 s).2.2 i D i er rfl
   have K:jg n R Y x c J U ⟨st,some (lX (λ_=>false) R,1),.P i::(td.map .P++dn.map .A)⟩ q:=h;have u:dn.length+(td.length+1)<=6:=Rt
   have E:=KQ F K rfl am.1 am.2 (N i Yf) VG f;refine⟨td.length+O.length+(g7 n R).length,VG,?_⟩;refine kT.s1 (dn:=dn++[i]) (td:=td) TC ?_ ?_ (by
    have e:td.map Tok.P++(dn++[i]).map Tok.A=td.map Tok.P++dn.map Tok.A++[Tok.A i]:=VK
    rw[e];exact E)
   .intro j v;simp only[eh,fF,nt]at v;unfold lY;rw[aG v.2];exact N j v.1
   .intro j v;unfold lY;split
    .rfl
    exact UL
 |@s2 _ dn td st E W N M T h=>
  cases td with
  |nil=>
   rw[db]at W;subst W;omega
  |cons i td=>
   have Yi:i∈O:=TC
   have am:=b i Yi;have K:jg n R Y x c J U ⟨st,some (E,1+(dn.length:Int)),.A i::td.map .A⟩ q:=h;have u:dn.length+(td.length+1)<=6:=Rt
   obtain⟨_,p⟩:=Bq F K rfl am.1 am.2 VG f;obtain⟨o,t⟩:=p _ _ rfl (M i er);refine⟨td.length+(g7 n R).length,VG,?_⟩;by_cases T:(1:Int)+(dn.length:Int)+1<2*cg n
   .refine kT.s2 (dn:=dn++[i]) (td:=td) TC N ?_ VG (by
     have e:(1:Int)+((dn++[i]).length:Int)=1+(dn.length:Int)+1:=VG
     rw[e];exact o T)
    intro j v;have m:j≠i:=by rw[W]at s;have:=(gr.1 s).2.1;exactλe=>(ki.1 this).1 (e▸v)
    unfold lX;simp[m,M j (e0 _ v)]
   .exact kT.kt (dn:=dn++[i]) (td:=td) TC N (t ac)
 |@kt _ dn td st W N h=>
  cases td with
  |nil=>
   cases a:g7 n R with
   |nil=>
    exfalso;have:=Bs F.ep;rw[a]at this;have:=F.cN;simp at*;omega
   |cons i l=>
    have am:=(za Ye).1 (show i∈g7 n R by rw[a];exact er);have K:jg n R Y x c J U ⟨st,none,.C i::l.map .C⟩ q:=Nk
    rw[a]at Yg;have E:=KR F K rfl am.1 am.2 (N i) (by simp at Yg⊢;omega) f;refine⟨l.length,VK,?_⟩;refine kT.tU (dn:=[i]) (td:=l) (by rw[a];rfl) ?_ ?_ E
    .intro j v;have Yh:=Br n R;rw[a]at Yh;have m:j≠i:=λe=>(ki.1 Yh).1 (e▸v);unfold lY;rw[aG m];exact N j
    .intro j v;rw[fF]at v;unfold lY;rw[aJ v]
  |cons i td=>
   have Yi:i∈O:=TC
   have am:=b i Yi;have K:jg n R Y x c J U ⟨st,none,.A i::(td.map .A++(g7 n R).map .C)⟩ q:=h;have u:dn.length+(td.length+1)<=6:=Rt
   obtain⟨p,_⟩:=Bq F K rfl am.1 am.2 VG f;exact⟨td.length+(g7 n R).length,VG,kT.kt (dn:=dn++[i]) (td:=td) TC N (p rfl)⟩
 |@tU _ dn td st W N M h=>
  cases td with
  |nil=>exact absurd h.bi z
  |cons i td=>
   have am:=(za Ye).1 (show i∈g7 n R by rw[W];simp);have K:jg n R Y x c J U ⟨st,none,.C i::td.map .C⟩ q:=h;have Yh:=Br n R;rw[W]at Yh Yg;have E:=KR F K rfl am.1 am.2 (N i er) (by simp at Yg⊢;omega) f;refine⟨td.length,VK,kT.tU (dn:=dn++[i]) (td:=td) TC ?_ ?_ E⟩
   .intro j v;have:=(gr.1 Yh).2.1;have m:j≠i:=λe=>(ki.1 this).1 (e▸v);unfold lY;rw[aG m];exact N j (e0 _ v)
   .intro j v;unfold lY;split
    .rfl
    exact UL
end
end Go.Proofs.YteogojgnkjegmaaGreatDoor
namespace Go.Proofs.YteogojgnkjegmaaGreatDoor
open Go.az Go.Proofs.Tryz
variable[Go.az.b5]
variable{F:ag->aT aO}{n:Int}{M:ab (ag×Int)}{R:Nat}{d:bF}{e:Int}{q:bo}
def KS{x:ag}(h:p5 x x):False:=by unfold p5 at h;omega
def af0{x y:ag}(h:p5 x y)(k:p5 y x):False:=by unfold p5 at h k;omega
def KT:∀{l m:ab ag},l.Pairwise p5->m.Pairwise p5->(∀y,y∈l↔y∈m)->l=m
 |[],[],_,_,_=>rfl
 |[],b::m,_,_,h=>absurd ((h b).2 er) VK
 |a::l,[],_,_,h=>absurd ((h a).1 er) VK
 |a::l,b::m,u,K,h=>by
  rw[AF]at u K;have F:a=b:=by
   have Y:=(h a).1 er;have Z:=(h b).2 er;rw[cQ]at Y Z;rcases Y with Y|Y
   .exact Y
   .rcases Z with Z|Z
    .exact Z.symm
    .exact(af0 (u.1 b Z) (K.1 a Y)).elim
  subst F;congr 1;refine KT u.2 K.2 λy=>?_;have Y:=h y;rw[cQ,cQ]at Y;constructor
  .intro C;rcases Y.1 (qu C)with rfl|Z
   .exact(KS (u.1 y C)).elim
   .exact Z
  .intro C;rcases Y.2 (qu C)with rfl|Z
   .exact(KS (K.1 y C)).elim
   .exact Z
def Bt{p:aL aY}(P:p.ok)(y:ag):y∈p.all.map (·.1)↔(p.at y).isSome=true:=by
 rw[dQ];constructor
 .rintro⟨z,v,rfl⟩;rw[(aL.WJ P).1 v];rfl
 .intro h;obtain⟨t,f⟩:=uK.1 h;exact⟨(y,t),(aL.WJ P).2 f,rfl⟩
def af6{p r:aL aY}(z:p.ok)(g:r.ok)(h:∀y,(p.at y).map (·.Call)=(r.at y).map (·.Call))(d:bF)(U:ag):fH p d U=fH r d U:=by
 have Y:p.all.map (·.1)=r.all.map (·.1):=by refine KT ((aL.ZV p).map _ λ_ _ h=>h) ((aL.ZV r).map _ λ_ _ h=>h) λy=>?_;rw[Bt z,Bt g];have:=c7 Option.isSome (h y);rw[Option.isSome_map,Option.isSome_map]at this;rw[this]
 have Z:∀y,(bn p y).Call=(bn r y).Call:=λy=>by have:=h y;unfold bn;cases c:p.at y<;>cases x:r.at y<;>rw[c,x]at this<;>simp at this⊢;exact this
 unfold fH qi;rw[Y];have D:jP p d U=jP r d U:=by funext o y;unfold jP;rw[Z]
 rw[D]
def aeA(D:b4)(x:ag)(k:Nat)(m:Int)(h:(k6 D x).l[k]?=some m):D.l[k]?=some m\/(x.a1=(k:Int)/\x.bX=m):=by
 obtain⟨x,i,M,u,r,s,y⟩:=D;simp only[k6,b4.l]at h⊢;rcases k with _|_|_|_|_|_|_|k;all_goals simp only[ra,pV,fj,List.getElem?_nil,reduceCtorEq]at h⊢
 all_goals(split at h<;>omega)
def aeO(p:aL aY)(d:bF)(x:ag):∀(N:ab ag) (o:b4×Int) (k:Nat) (m:Int),(N.foldl (jP p d x) o).1.l[k]?=some m->o.1.l[k]?=some m\/∃y∈N,y.a1=(k:Int)/\y.bX=m:=by
 intro N;induction N with
 |nil=>intro o k m h;exact q1 h
 |cons x N X=>
  intro o k m h;rw[pc]at h;rcases X _ k m h with h|⟨y,C,h⟩
  .unfold jP at h;split at h
   .rcases aeA _ _ _ _ h with h|h
    .exact q1 h
    .exact qu ⟨x,er,h⟩
   .exact q1 h
  .exact qu ⟨y,e0 _ C,h⟩
def akA(p:aL aY)(d:bF)(x:ag)(N:ab ag)(k:Nat)(m:Int)(h:(qi p d x N).1.l[k]?=some m):m=0\/∃y∈N,y.a1=(k:Int)/\y.bX=m:=by
 rcases aeO p d x N _ k m h with h|h
 .left;change([0,0,0,0,0,0,0]:ab Int)[k]?=some m at h;have:=im h;simpa using this
 .exact qu h
def ah5{D:b4}{y:ag}(h:y∈rB D):∃k:Nat,∃m:Int,D.l[k]?=some m/\y.a1=(k:Int)/\1<=y.bX/\y.bX<=m:=by
 unfold rB mY at h;obtain⟨k,T,h⟩:=wB.1 h;have T:=mi.1 T;unfold jK at h;obtain⟨i,am,rfl⟩:=dQ.1 h;have am:=mi.1 am;have u:D.l.length=7:=rfl;have e:D.l[k]?=some (D.l[k]' ac):=hl ac;rw[hn,e]at am;refine⟨k,_,e,rfl,?_,?_⟩
 .show(1:Int)<=(i:Int)+1;omega
 .show(i:Int)+1<=_;have:i<(D.l[k]' ac).toNat:=am;omega
structure rY(n:Int)(dm:ag->aT aO)(q:bo):Prop where
 cN:n=3\/n=5\/n=7
 aM:q.n=n
 y:∃k,cC k q
 cut:∀a b,jf q.cut a b=false
 bi:q.bi=[]
 up:∀i:Nat,(i:Int)<n->∃b L s,q.aE[i]?=some (.up b L s)/\kB n i dm (λ_=>none) s/\s.leads=[]/\s.out=[]/\s.told=[]
 E8:∀y,(dm y).isSome=true->∀m:Int,1<=m->m<=y.bX->(dm ⟨y.a1,m⟩).isSome=true
def l1.of{s L:aA}{x:ag}(b:n=3\/n=5\/n=7)(f:(R:Int)<n)(l:kB n R F (λ_=>none) s)(a:s.ax.ok)(U:x=fz s.ax s.self)(h:KN n R F s d x L)(i:∀y,(F y).isSome=true->∀m:Int,1<=m->m<=y.bX->(F ⟨y.a1,m⟩).isSome=true):l1 n R F x (jC s.ax.p d x):=by
 have j:∀y,(s.ax.p.at y).isSome=true->(F y).isSome=true:=λy C=>by
  cases X:F y with
  |some c=>rfl
  |none=>rw[l.no y X]at C;cases C
 refine⟨b,f,h.o2,h.new,h.vG,h.gc,h.ok.2,?_,?_,?_⟩
 .intro m Y Z;have n:x.bX=(s.ax.p.top (R:Int):Int)+1:=by rw[U];show(s.ax.p.top s.self:Int)+1=_;rw[l.self]
  obtain⟨t,f⟩:∃t,s.ax.p.top (R:Int)=t+1:=⟨s.ax.p.top (R:Int)-1,ac⟩
  have D:=j _ (aL.aa8 a.p f);have:=i _ D m Y (by show m<=(t:Int)+1;omega);rw[h.o2];exact this
 .intro y C _;obtain⟨k,m,Y,Z,D,n⟩:=ah5 C;rcases akA _ _ _ _ _ _ Y with P|⟨z,v,P,b⟩
  .omega
  .have w:=j z ((Bt a.p z).1 v);have:=i z w y.bX D ac;rw[P,<-Z]at this;exact this
 .intro t f U X z;have:fH t.p d x=fH s.ax.p d x:=by
   refine af6 f.p a.p (λy=>?_) d x;cases C:F y with
   |none=>rw[z y C,l.no y C]
   |some c=>
    obtain⟨j,v,_,Y⟩:=X y c C;obtain⟨U,J,_,Z⟩:=l.sU y c C;rw[v,J];show some j.Call=some U.Call
    rw[Y,Z]
  show(fH t.p d x).1=(fH s.ax.p d x).1/\(fH t.p d x).2=(fH s.ax.p d x).2
  rw[this];exact⟨rfl,rfl⟩
def KU{X:ag->aT aO}{D:bo}{K:Int}{x:ag}(h:rY n X q)(bV:lT q K d x e D):(e≠0/\rY n X D/\D.told.map ll=q.told.map ll)\/(e=0/\∃R b L s,K=((R:Nat):Int)/\q.aE[R]?=some (.up b L s)/\l1 n R X x (jC s.ax.p d x)/\jg n R X x (jC s.ax.p d x) s.M.s (q.told.map ll) ⟨λ_=>0,some (lX (λ_=>false) R,1),(g7 n R).map .P⟩ D):=by
 obtain⟨k,C⟩:=h.y;have l:=bV.cu C;rcases bV with⟨bf,_,bW,rfl⟩|⟨_,i,o,fr,N,F,s2,k1,Z,U,Yc⟩
 .exact q1 ⟨by rw[bW];exact bf,h,rfl⟩
 .have J:i<q.aE.length:=by
   rcases o9 i q.aE.length with h|h
   .exact h
   .rw[qE h]at Z;cases Z
  have Y:(i:Int)<n:=by have:=C.len;rw[h.aM]at this;omega
  obtain⟨de,bD,cL,u,f,E,a,cB⟩:=h.up i Y;rw[Z]at u;cases u;have v:=C.up i o fr N Z;have T:=λa E=>KO (g:=q) (U:=[]) (b:=o) (L:=F) (D:=s2) J (by rw[h.bi]) h.cut a E Yc;rcases aiD f E h.cN Y v.y.ax v.y.en U with⟨r,rfl⟩|⟨r,aV⟩
  .left;have m:=T (by rw[a];intro y C;cases C) My;obtain⟨t,F,W⟩:=m.aE;refine⟨r,⟨h.cN,m.n.trans h.aM,⟨_,l⟩,Rv,by rw[m.bi,a];rfl,?_,h.E8⟩,by rw[m.told,cB];simp⟩;intro j w;by_cases e:j=i
   .subst e;exact⟨t,F,_,by rw[W,i2,aJ rfl,aJ J],f.flush,E,rfl,rfl⟩
   .obtain⟨z,rZ,G,g⟩:=h.up j w;exact⟨z,rZ,G,by rw[W,i2,aG (ox e)];exact g.1,g.2⟩
  .right;have Ye:x=fz N.ax N.self:=by
    rcases U with⟨_,_,Q,_⟩|⟨_,_,_,Q,_⟩|⟨_,_,h,_⟩
    .rw[Q]at r;exact absurd r VI
    .rw[Q]at r;exact absurd r VI
    .exact h
   have lF:=l1.of h.cN Y f v.y.ax Ye aV h.E8;have c:=aV.out;rw[a,g4]at c;have m:=T (by
    rw[c];intro y C;unfold q3 at C;obtain⟨j,w,rfl⟩:=dQ.1 C;have w:=mi.1 (mU.1 w).1;exact⟨xj Y h.cN,xj ac h.cN⟩) (by
    rw[c];unfold q3;rw[dZ];have:=E7 n i;unfold g7 at this;have:=h.cN;simp only[gv];omega)
   obtain⟨t,F,W⟩:=m.aE;refine⟨r,i,o,fr,N,k1,Z,lF,m.n.trans h.aM,⟨_,l⟩,Rv,?_,?_,⟨t,F,_,by rw[W,i2,aJ rfl,aJ J],rfl,rfl,aV.ls.flush,?_⟩,?_⟩
   .rw[m.bi,c,g4,sN];rfl
   .intro j w c;obtain⟨z,rZ,G,d,x,P,u,Y⟩:=h.up j w;refine⟨z,rZ,G,by rw[W,i2,aG (ox c)];exact d,P,u,Y,?_⟩;show kB n j (if(0:Nat)=2 then _ else X) (if(0:Nat)=1 then _ else _) G
    rw[aG VI,aG VI];exact x
   .show s2.M.s=N.M.s;rw[aV.M]
   .rw[m.told,aV.told,cB];simp
def kT.fin{x:ag}{c:aO}{f:hq}{O:ab Nat}{k:Nat}(K:l1 n R F x c)(s:∀y,(F y).isSome=true->∀m:Int,1<=m->m<=y.bX->(F ⟨y.a1,m⟩).isSome=true)(b:2*cg n<=(O.length:Int)+1)(h:kT n R F x c f M O k q)(z:q.bi=[]):rY n (oj F x c) q/\q.told.map ll=M++[(x,(ic f c.cv).1.gR)]:=by
 have l:0<=n:=by have:=K.cN;omega
 have w:1<=cg n:=by rcases K.cN with rfl|rfl|rfl<;>decide
 have N:∀y,(oj F x c y).isSome=true->∀m:Int,1<=m->m<=y.bX->(oj F x c ⟨y.a1,m⟩).isSome=true:=by
  intro y C m Y Z;unfold oj at C⊢;by_cases U:(⟨y.a1,m⟩:ag)=x
  .rw[aJ U];rfl
  .rw[aG U];by_cases e:y=x
   .subst e;refine K.prev m Y ?_;rcases Int.lt_or_eq_of_le Z with D|D
    .exact D
    .exfalso;apply U;rw[D]
   .rw[aG e]at C;exact s y C m Y Z
 cases h with
 |@s1 _ dn g st j Y Z h=>
  exfalso;have u:=c7 List.length (h.bi.symm.trans z);have:O.length=dn.length+g.length:=by rw[j,bQ]
  simp at u;have Q:O=[]:=by rw[j,u.1,u.2];rfl
  rw[Q]at b;simp at b;omega
 |@s2 _ dn g st E j Y Z T h=>
  exfalso;have u:=c7 List.length (h.bi.symm.trans z);have:O.length=dn.length+g.length:=by rw[j,bQ]
  simp at u;subst u;simp at this;omega
 |@kt _ dn g st j Y h=>
  exfalso;have u:=c7 List.length (h.bi.symm.trans z);have:=Bs K.ep;have D:=K.cN;simp at u;rw[u.2]at this;simp at this;omega
 |@tU _ dn g st j Y Z h=>
  have u:=c7 List.length (h.bi.symm.trans z);simp at u;subst u;rw[db]at j;subst j;refine⟨⟨K.cN,h.aM,h.y,h.cut,z,?_,N⟩,h.told⟩;intro i am;by_cases e:i=R
  .subst e;obtain⟨b,L,s,d,x,P,u,Y⟩:=h.ax;exact⟨b,L,s,d,u,Y,x,P⟩
  .obtain⟨b,L,s,d,x⟩:=h.vH i am e;have:=x.gx;have D:st i=2:=Z i ((za l).2 ⟨am,e⟩);have m:({st:=st,ce:=none,my:=List.map Tok.C []}:Bo).st i=2:=D;rw[m,aJ rfl,aG VI]at this;exact⟨b,L,s,d,this,x.leads,x.out,x.told⟩
def kT.settle{x:ag}{c:aO}{f:hq}{O:ab Nat}{k j:Nat}{m:bo}(C:l1 n R F x c)(w:∀i∈O,(i:Int)<n/\i≠R)(l:O.Nodup)(P:O.length<=6)(b:2*cg n<=(O.length:Int)+1)(h:kT n R F x c f M O k q)(E:pG q j m):∃T,k=T+j/\kT n R F x c f M O T m:=by
 induction E with
 |nil=>exact⟨k,rfl,h⟩
 |step _ z f X=>
  obtain⟨T,e,Y⟩:=X;obtain⟨L,h,Z⟩:=Y.step C w l P b z f;exact⟨L,ac,Z⟩
def KV{T:ag->aT aO}{D Q:bo}{C W:Int}{x:ag}(h:rY n T q)(E:lT q C d x e D)(K:20<=W)(r:pH D W Q):(e≠0/\rY n T Q/\Q.told.map ll=q.told.map ll)\/(e=0/\∃R b L s c,C=((R:Nat):Int)/\q.aE[R]?=some (.up b L s)/\c.cv=d/\rY n (oj T x c) Q/\Q.told.map ll=q.told.map ll++[(x,(ic s.M.s d).1.gR)]):=by
 obtain⟨j,v,G,t⟩:=r;rcases KU h E with⟨P,aV,f⟩|⟨P,R,b,L,s,k1,U,F,g⟩
 .left;cases v with
  |nil=>exact⟨P,aV,f⟩
  |@step CD y _ u Y z Z=>
   exfalso;have N:∀{j:Nat} {a:bo},pG D j a->a=D/\j=0:=by
    intro j a J;induction J with
    |nil=>exact⟨rfl,rfl⟩
    |step _ z _ X=>rw[X.1]at z;exact absurd aV.bi z
   rw[(N Y).1]at z;exact z aV.bi
 .right;have k:0<=n:=by have:=h.cN;omega
  have o:=Bs F.ep;have w:2*cg n+1=n:=by rcases h.cN with rfl|rfl|rfl<;>decide
  have l:2*cg n<=((g7 n R).length:Int)+1:=ac
  have Ye:(g7 n R).length<=6:=by have:=h.cN;omega
  have m:∀i∈g7 n R,(i:Int)<n/\i≠R:=λi am=>(za k).1 am;have Yc:kT n R T x (jC s.ax.p d x) s.M.s (q.told.map ll) (g7 n R) _ D:=kT.s1 (dn:=[]) (td:=g7 n R) (st:=λ_=>0) rfl (λ_ _=>rfl) (λi am=>by cases am) Ra;obtain⟨u,T,y⟩:=Yc.settle F m (Br n R) Ye l v;have z:Q.bi=[]:=by
   rcases t with Y|Y
   .exfalso;omega
   .exact Y
  obtain⟨d,x⟩:=y.fin F h.E8 l z;exact⟨P,R,b,L,s,_,k1,U,rfl,d,x⟩
def KW{E N:Int}{l:ab eH}{r:dl}{st:Int×ab bw}(h:pE n E N l r st)(u:l=[]):r=dl.new n/\st=(0,[]):=by
 cases h with
 |nil=>exact⟨rfl,rfl⟩
 |rQ h _ _=>simp at u
 |iE h _=>simp at u
def KX(n:Int):(aL.new n:aL aY).all=[]:=by rw[J5];intro y C;have:=(aL.WJ (aL.Wo n)).1 C;rw[aL.W4]at this;cases this
def KY(m:n=3\/n=5\/n=7){c:bo}(h:lV n c):rY n (λ_=>none) c/\∀(i b:Nat) (L:cT) (s:aA),c.aE[i]?=some (.up b L s)->s.M.s=hq.z:=by
 have g:∀(i b:Nat) (L:cT) (s:aA),c.aE[i]?=some (.up b L s)->kB n i (λ_=>none) (λ_=>none) s/\s.leads=[]/\s.out=[]/\s.told=[]/\s.M.s=hq.z:=by
  intro i b L s U;obtain⟨J,F,t,e,X,M,r,st,_,_,⟨_,R⟩,l,j⟩:=h.up i _ U;cases e;have P:(hr n [] [] 0).p=aL.new n:=rfl;rw[P,KX]at l;obtain⟨rfl,rfl⟩:=KW l rfl;have:=uo j rfl;clear j;generalize s.bU=G at this;subst this;have Q:∀y,(aL.new n:aL aY).at y=none:=λy=>aL.W4 n y;refine⟨⟨rfl,rfl,rfl,rfl,rfl,(λy c C=>VM),(λy _=>Q y),(λy=>?_),(λy=>?_),(λy v C=>VM)⟩,rfl,rfl,rfl,R⟩
  .show((aL.new n:aL aO).at y).isSome=false;rw[aL.W4];rfl
  .show((aL.new n:aL Bool).at y).isSome=false;rw[aL.W4];rfl
 refine⟨⟨m,h.aM,⟨_,h.y m⟩,?_,h.bi,?_,λy C=>VM⟩,λi b L s U=>(g i b L s U).2.2.2.2⟩
 .intro a b;rw[h.cut];unfold jf;rw[hn,u0];split<;>rfl
 .intro i am;have u:=h.len;have e:c.aE[i]?=some (c.aE[i]' ac):=hl ac;obtain⟨b,L,s,x,_⟩:=h.up i _ e;rw[x]at e;exact⟨b,L,s,e,(g i b L s e).1,(g i b L s e).2.1,(g i b L s e).2.2.1,(g i b L s e).2.2.2.1⟩
def aht{m:bo}{x:ag}(h:rY n F q)(o:(R:Int)<n)(c:uf d)(X:∀y,F y=none)(E:lT q (R:Int) d x e m):e=0:=by
 obtain⟨b,L,s,U,l,_⟩:=h.up R o;obtain⟨k,C⟩:=h.y;rcases E with⟨Y,_⟩|⟨_,i,J,K,r,N,G,k1,v,M,_⟩
 .exfalso;apply Y;unfold hC;rw[h.aM,aG ac,hY,U];rfl
 .have:i=R:=by omega
  subst this;rw[U]at v;cases v;have a:=(C.up i b L s U).y.ax;rcases M with⟨Y,_⟩|⟨_,Y,_⟩|⟨_,_,_,Y,_⟩
  .exact absurd c Y
  .exfalso;have Z:64<(s.ax.p.top s.self:Int)+1:=Y;rw[l.self]at Z;obtain⟨t,f⟩:∃t,s.ax.p.top (i:Int)=t+1:=⟨s.ax.p.top (i:Int)-1,ac⟩
   have D:=aL.aa8 a.p f;rw[l.no _ (X _)]at D;cases D
  .exact Y
def KZ:uf y8:=⟨VI,VI⟩
def agu:(ic hq.z y8).1.gR=1:=by unfold ic;rw[KZ.1,aG VI,aJ VI];rfl
def agV{c:bo}(h:EZ c):y9 c.told=true:=by
 obtain⟨g,p,x,e,X,y,r⟩:=h;obtain⟨aV,K⟩:=KY ac X;have P:=aht (R:=0) aV VI KZ (λ_=>rfl) y;rcases KV aV y VI r with⟨Y,_⟩|⟨_,R,b,L,s,g,_,U,_,_,f⟩
 .exact absurd P Y
 .rw[X.told,K R b L s U,agu]at f;have Z:=c7 (List.map Prod.snd) f;rw[sN]at Z;unfold y9;rw[cO];exact Z
end Go.Proofs.YteogojgnkjegmaaGreatDoor
