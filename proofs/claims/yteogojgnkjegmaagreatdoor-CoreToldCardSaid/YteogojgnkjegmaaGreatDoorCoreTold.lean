/-
  Proved is the given statement CoreToldCardSaid: what is told is told once, by the replica at which it was submitted, when that knows it as committed, durably.
  Conditions: those of the row itself (3, 5 or 7 replicas, 50 acts, texts of 100 bytes), nothing else.
-/
import Derived.Test.YteogojgnkjegmaaGreatDoorBb
import Derived.Test.YteogojgnkjegmaaGreatDoorCards
import Derived.Test.YteogojgnkjegmaaGreatDoorTie
set_option linter.all false
set_option maxRecDepth 8000
set_option maxHeartbeats 8000000
namespace Go.Proofs.YteogojgnkjegmaaGreatDoor
open Go.az Go.Proofs.Tryz
variable[Go.az.b5]
def Bz{s:bS}(h:s.ok){x y:ag}(J:bt x s.n=true){C M:aY}(Z:C=bn s.p x)(D:(bn s.p y).Status=3)(c:C.Status=3->M=C):bn (ma s x C M).p y=bn s.p y:=by
 unfold ma;split
 .rfl
 .rename_i e;unfold bn;rw[uq h J];split
  .rename_i N;subst N;have:M=C:=c (by rw[Z];exact D);exact absurd this.symm e
  .rfl
def K0{i:aY}{b:bp}{st:Int}{c:aO}{n:Bool}(h:i.Status=3):(i3 i b st c n).1=i:=by unfold i3;rw[aJ (.inr h)]
def Ud{s:bS}(h:s.ok){E:Int}{m:aD}{y:ag}(D:(bn s.p y).Status=3):bn (cH s E m).1.p y=bn s.p y:=by
 unfold cH;split
 .rename_i G;have K:=gZ.1 G.1;unfold mb;dsimp only;split
  .rfl
  rename_i J;split
  .unfold j4;dsimp only;split
   .exact Bz h K.item rfl D K0
   .rfl
  split
  .unfold j5;dsimp only;split
   .exact Bz h K.item rfl D K0
   .rfl
  split
  .rename_i b;unfold nb;dsimp only;split
   .exact Bz h K.item rfl D λe=>absurd ⟨.inr (.inr b),e⟩ J
   .rfl
  split
  .refine Bz h K.item rfl D λe=>?_;unfold p6;rw[aJ e]
  .rfl
 .rfl
def ni(s:aA):Prop:=∀x,s.run.g.is x=true->(bn s.ax.p x).Status=3
structure iX(s Y:aA):Prop where
 cR:Y.cR=s.cR
 uu:∀x,(bn s.ax.p x).Status=3->bn Y.ax.p x=bn s.ax.p x
 dw:∀x,s.run.g.over x=true->Y.run.g.over x=true
 eO:∃t,Y.told=s.told++t/\(t.map (·.Item)).Nodup/\∀y∈t,aZ s.cR y.Item=some true/\s.run.g.over y.Item=false/\Y.run.g.over y.Item=true/\(bn Y.ax.p y.Item).Status=3
 qj:ni Y
section
variable{s Y U t:aA}{m:aD}{k:Nat}
def iX.rfl(h:ni s):iX s s:=⟨lj _,λ_ _=>lj _,λ_ h=>h,⟨[],VK,mT,λ_ h=>VL⟩,h⟩
def iX.trans(h:iX s U)(g:iX U Y):iX s Y:=by
 obtain⟨P,i,T,u⟩:=h.eO;obtain⟨Q,M,F,E⟩:=g.eO;refine⟨g.cR.trans h.cR,λx Z=>?_,λx Z=>g.dw x (h.dw x Z),⟨P++Q,by rw[M,i,ck],?_,λy C=>?_⟩,g.qj⟩
 .rw[g.uu x (by rw[h.uu x Z];exact Z),h.uu x Z]
 .rw[hJ,gr];refine⟨T,F,λa K b X e=>?_⟩;obtain⟨y,C,rfl⟩:=dQ.1 K;obtain⟨z,v,rfl⟩:=dQ.1 X;have J:=(u y C).2.2.1;have N:=(E z v).2.1;rw[e,N]at J;cases J
 .rcases eh.1 C with C|C
  .obtain⟨J,N,D,n⟩:=u y C;exact⟨J,N,g.dw _ D,by rw[g.uu _ n];exact n⟩
  .obtain⟨J,N,D,n⟩:=E y C;refine⟨by rw[<-h.cR];exact J,?_,D,n⟩;cases p:s.run.g.over y.Item with
   |false=>rfl
   |true=>rw[h.dw _ p]at N;cases N
def fs.Wq(y:ek k s)(T:ni s)(h:fs s m Y):iX s Y:=by
 have f:=h.told;rcases h with⟨_,X,_,_,q⟩|⟨_,q⟩
 .have L:=ue s m X;have K:(s.U' m X).cR=s.cR/\(s.U' m X).run=s.run:=by unfold aA.U';split<;>exact⟨rfl,rfl⟩
  have o:∀x,(bn s.ax.p x).Status=3->bn (s.U' m X).ax.p x=bn s.ax.p x:=λx Z=>by rw[L];exact Ud y.ax Z
  rcases q with⟨D,w,d,rfl⟩|⟨_,rfl⟩
  .rw[K.2]at d;have W:∀x,w.g.over x=s.run.g.over x:=λx=>by rw[d.1,bv.XS]
   refine⟨K.1,o,λx Z=>by show w.g.over x=true;rw[W];exact Z,⟨[],by simpa using f,mT,λ_ h=>VL⟩,λx Z=>?_⟩;have v:w.g.is x=true:=Z;show(bn (s.U' m X).ax.p x).Status=3
   rw[d.1]at v;have M:s.run.g.is x=true\/x=m.Item:=by
    by_cases C:s.run.g.WE m.Item (bn (s.U' m X).ax.p m.Item).Call=true
    .rw[bv.XR y.run.g C,hc,cO]at v;exact v
    .unfold bv.Wf at v;rw[aG C]at v;exact .inl v
   rcases M with J|rfl
   .rw[o x (T x J)];exact T x J
   .rw[L];exact D
  .refine⟨K.1,o,λx Z=>by show(s.U' m X).run.g.over x=true;rw[K.2];exact Z,⟨[],by simpa using f,mT,λ_ h=>VL⟩,λx Z=>?_⟩;have v:(s.U' m X).run.g.is x=true:=Z;rw[K.2]at v;show(bn (s.U' m X).ax.p x).Status=3
   rw[o x (T x v)];exact T x v
 .have R:=q.core;have c:Y.run=s.run:=c7 (·.2.2.2.1) R.a;have N:Y.ax=s.ax:=c7 (·.1) R.b;have j:Y.cR=s.cR:=c7 (·.2.2.2.1) R.b;exact⟨j,λx _=>by rw[N],λx Z=>by rw[c];exact Z,⟨[],by simpa using f,mT,λ_ h=>VL⟩,λx Z=>by rw[c]at Z;rw[N];exact T x Z⟩
def ig.Wq(y:ek k s)(T:ni s)(h:ig s Y):iX s Y:=by
 induction h with
 |refl=>exact iX.rfl T
 |@step U q m x E am K X=>
  obtain⟨j,v,_⟩:=ig.cu y E;have b:=fs.Wq (v.rest am).1 X.qj K;have W:iX U q:=⟨b.cR,b.uu,b.dw,b.eO,b.qj⟩
  exact X.trans W
def kP.Wq(T:ni s)(h:kP s Y):iX s Y:=by
 obtain⟨M,w,F,q,j,G,_,f,_,rfl⟩:=h.go;refine⟨lj _,λ_ _=>lj _,λx Z=>?_,⟨q,lj _,?_,λt C=>?_⟩,λx Z=>?_⟩
 .show w.g.over x=true;rw[G.dw,Z];rfl
 .rw[f];exact G.h1.filter _
 .have K:t.Item∈M.filter s.Wx:=by rw[<-f];exact List.mem_map_of_mem C
  obtain⟨J,N⟩:=mU.1 K;obtain⟨D,n⟩:=G.is _ J;refine⟨?_,n,?_,T _ D⟩
  .unfold aA.Wx at N;rw[c1]at N;cases W:aZ s.cR t.Item with
   |none=>rw[W]at N;cases N.2
   |some v=>rw[W]at N;rw[show v=true from N.2]
  .show w.g.over t.Item=true;rw[G.dw,iq J,rU]
 .have v:w.g.is x=true:=Z;rw[G.toGoR.XU]at v;exact T x v
def jB.Wq(y:ek k s)(T:ni s)(h:jB s Y):iX s Y:=by obtain⟨U,J,_,Z⟩:=h;have b:=J.Wq y T;exact b.trans (Z.Wq b.qj)
def pE.is{n Q N:Int}(c:n<=7)(W:0<=n){l:ab eH}{r:dl}{st:Int×ab bw}(h:pE n Q N l r st):hp n r/\∀x,r.g.is x=true->∃i,(x,i)∈l/\i.Status=3:=by
 induction h with
 |nil=>
  refine⟨hp.new W c,λx Z=>?_⟩;exfalso;have J:((aL.new n:aL aO).at x).isSome=true:=Z;rw[aL.W4]at J;cases J
 |@rQ l r j st x i h E q X=>
  refine⟨X.1.Wf q,λy C=>?_⟩;rw[q.1]at C;by_cases M:r.g.WE x i.Call=true
  .rw[bv.XR X.1.g M,hc,cO]at C;rcases C with C|rfl
   .obtain⟨j,J,Z⟩:=X.2 y C;exact⟨j,oR _ J,Z⟩
   .exact⟨i,VK,E⟩
  .unfold bv.Wf at C;rw[aG M]at C;obtain⟨j,J,Z⟩:=X.2 y C;exact⟨j,oR _ J,Z⟩
 |iE h E X=>
  refine⟨X.1,λy C=>?_⟩;obtain⟨j,J,Z⟩:=X.2 y C;exact⟨j,oR _ J,Z⟩
end
end Go.Proofs.YteogojgnkjegmaaGreatDoor
namespace Go.Proofs.YteogojgnkjegmaaGreatDoor
open Go.az Go.Proofs.Tryz
variable[Go.az.b5]
def cI.ins(n:Int):cI->ag->aY
 |.up _ _ s,x=>bn s.ax.p x
 |.dn _ _ l _ _,x=>bn (hZ (aL.new n) l) x
structure gi(Z:ab (ag×bF))(c:bo):Prop where
 up:∀(i b:Nat) (L:cT) (s:aA),c.aE[i]?=some (.up b L s)->ni s/\∀x v,aZ s.cR x=some v->x.a1=(i:Int)/\(aZ Z x).isSome=true
 eO:∀t∈c.told,∃i:Nat,t.rep=(i:Int)/\t.t.Item.a1=(i:Int)/\(aZ Z t.t.Item).isSome=true/\∃r,c.aE[i]?=some r/\(r.ins c.n t.t.Item).Status=3/\∀b L s,r=.up b L s->aZ s.cR t.t.Item=some true->s.run.g.over t.t.Item=true
 h1:(c.told.map (·.t.Item)).Nodup
def jh(c bs:bo):Prop:=∃new,bs.told=c.told++new/\∀t∈new,∃(i b:Nat) (L:cT) (s:aA),t.rep=(i:Int)/\t.t.Item.a1=(i:Int)/\bs.aE[i]?=some (.up b L s)/\(bn s.ax.p t.t.Item).Status=3
def ql(c bs:bo):Prop:=∀(i b:Nat) (L:cT) (s:aA),c.aE[i]?=some (.up b L s)->∃C F U,bs.aE[i]?=some (.up C F U)/\∀x,(bn s.ax.p x).Status=3->bn U.ax.p x=bn s.ax.p x
section
variable{Z N:ab (ag×bF)}{c eR M bs:bo}{i k:Nat}{oF J Y s U:aA}
def ql.refl:ql c c:=λi b L s h=>⟨b,L,s,h,λ_ _=>rfl⟩
def ql.trans(h:ql c M)(g:ql M bs):ql c bs:=by intro i b L s K;obtain⟨x,T,J,C,F⟩:=h i b L s K;obtain⟨h,X,Y,d,u⟩:=g i x T J C;exact⟨h,X,Y,d,λx K=>by rw[u x (by rw[F x K];exact K),F x K]⟩
def jh.refl(h:bs.told=c.told):jh c bs:=⟨[],by rw[h,db],λ_ h=>VL⟩
def jh.trans(h:jh c M)(g:jh M bs)(u:ql M bs):jh c bs:=by
 obtain⟨R,l,F⟩:=h;obtain⟨C,h,x⟩:=g;refine⟨R++C,by rw[h,l,ck],λt f=>?_⟩;rcases eh.1 f with f|f
 .obtain⟨i,b,L,s,C,K,D,m⟩:=F t f;obtain⟨F,X,U,T,E⟩:=u i b L s D;exact⟨i,F,X,U,C,K,T,by rw[E _ m];exact m⟩
 .exact x t f
def gi.more(h:gi Z c)(m:∀x,(aZ Z x).isSome=true->(aZ N x).isSome=true):gi N c:=
 ⟨λi b L s C=>⟨(h.up i b L s C).1,λx v z=>⟨((h.up i b L s C).2 x v z).1,m x ((h.up i b L s C).2 x v z).2⟩⟩,λt f=>by obtain⟨i,C,K,D,n⟩:=h.eO t f;exact⟨i,C,K,m _ D,n⟩,h.h1⟩
def gi.Wi(h:gi Z c){hN b:Nat}{fr G:cT}(E:c.aE[i]?=some (.up hN fr J))(r:iX oF Y)(c5:oF.ax=J.ax)(bx:oF.run=J.run)(fL:oF.told=[]) (f:∀x v,aZ oF.cR x=some v->x.a1=(i:Int)/\(aZ Z x).isSome=true) (d:∀x,aZ oF.cR x=some true->aZ J.cR x=some true\/(bn J.ax.p x).Status≠3) (f1:eR.told=c.told) (f2:eR.n=c.n) (f3:eR.aE=c.aE) (dq:kS {eR with aE:=eR.aE.set i (.up b G Y)} i bs):gi Z bs/\jh c bs/\ql c bs:=by
 have am:=(cF.1 E).1;obtain⟨jN,rZ,kt,u,R,rfl⟩:=dq;rw[f3,hD am]at R;cases R;obtain⟨t,t1,t2,t3⟩:=r.eO;rw[fL,g4]at t1;have vF:(({eR with aE:=eR.aE.set i (.up b G Y)}:bo).Wi i b u Y).aE=c.aE.set i (.up b u Y.flush):=by
  show(eR.aE.set i _).set i _=_
  rw[vC,f3]
 have Fc:(({eR with aE:=eR.aE.set i (.up b G Y)}:bo).Wi i b u Y).told=c.told++t.map (mf i eR.now):=by
  show eR.told++Y.told.map (mf i eR.now)=_
  rw[f1,t1]
 have kU:(({eR with aE:=eR.aE.set i (.up b G Y)}:bo).Wi i b u Y).n=c.n:=f2;generalize({eR with aE:=eR.aE.set i (.up b G Y)}:bo).Wi i b u Y=bs at*;have Q:bs.aE[i]?=some (.up b u Y.flush):=by rw[vF,hD am]
 have T:∀j,j≠i->bs.aE[j]?=c.aE[j]?:=λj w=>by rw[vF,mH ac]
 have L:∀x,(bn J.ax.p x).Status=3->bn Y.ax.p x=bn J.ax.p x:=λx E=>by have:=r.uu x;rw[c5]at this;exact this E
 refine⟨⟨λj de bD U w=>?_,λy C=>?_,?_⟩,⟨t.map (mf i eR.now),Fc,λy C=>?_⟩,λj de bD U w=>?_⟩
 .by_cases e:j=i
  .subst e;rw[Q]at w;cases w;refine⟨r.qj,λx v dO=>?_⟩;have o:aZ Y.cR x=some v:=dO;rw[r.cR]at o;exact f x v o
  .rw[T j e]at w;exact h.up j de bD U w
 .rw[Fc]at C;rcases eh.1 C with C|C
  .obtain⟨j,K,X,D,BA,m,P,jr⟩:=h.eO y C;by_cases e:j=i
   .subst e;rw[E]at m;cases m;refine⟨j,K,X,D,_,Q,?_,λde bD U bV Yc=>?_⟩
    .show(bn Y.ax.p y.t.Item).Status=3;rw[L _ P];exact P
    .cases bV;have F:aZ Y.cR y.t.Item=some true:=Yc;rw[r.cR]at F;show Y.run.g.over y.t.Item=true
     rcases d _ F with l|l
     .exact r.dw _ (by rw[bx];exact jr _ _ _ rfl l)
     .exact absurd P l
   .exact⟨j,K,X,D,BA,by rw[T j e];exact m,by rw[kU];exact P,jr⟩
  .obtain⟨z,q,rfl⟩:=dQ.1 C;obtain⟨K,X,D,m⟩:=t3 z q;obtain⟨P,jr⟩:=f _ _ K;refine⟨i,rfl,P,jr,_,Q,m,λde bD U bV _=>?_⟩;cases bV;exact D
 .rw[Fc,hJ,gr];have k0:(t.map (mf i eR.now)).map (·.t.Item)=t.map (·.Item):=by rw[sN];rfl
  refine⟨h.h1,by rw[k0];exact t2,λa eJ hb W dg=>?_⟩;rw[k0]at W;obtain⟨y,C,rfl⟩:=dQ.1 eJ;obtain⟨z,q,rfl⟩:=dQ.1 W;obtain⟨K,X,D,m⟩:=t3 z q;obtain⟨j,md,jZ,lQ,BA,nf,oe,ul⟩:=h.eO y C;have w:j=i:=by have:=(f _ _ K).1;rw[<-dg,jZ]at this;omega
  subst w;rw[E]at nf;cases nf;rw[dg]at oe ul;rcases d _ K with l|l
  .have mv:=ul _ _ _ rfl l;rw[bx,mv]at X;cases X
  .exact l oe
 .obtain⟨z,q,rfl⟩:=dQ.1 C;obtain⟨K,X,D,m⟩:=t3 z q;exact⟨i,b,u,Y.flush,rfl,(f _ _ K).1,Q,m⟩
 .by_cases e:j=i
  .subst e;rw[E]at w;cases w;exact⟨_,_,_,Q,L⟩
  .rw[<-T j e]at w;exact⟨_,_,_,w,λ_ _=>rfl⟩
def gi.lost(h:gi Z c){u:Nat}{R:cT}(K:c.aE[i]?=some (.up u R J))(r:iX J Y){G:Nat}{L:aj}{l:ab eH}{d:ab aS}{b:Int}(T:∀x,Y.ax.p.at x=(hZ (aL.new c.n) l).at x)(t:bs.told=c.told)(w:bs.n=c.n)(W:bs.aE=c.aE.set i (.dn G L l d b)):gi Z bs:=by
 have am:=(cF.1 K).1;refine⟨λj Q q U v=>?_,λy X=>?_,by rw[t];exact h.h1⟩
 .rw[W]at v;by_cases e:j=i
  .subst e;rw[hD am]at v;cases v
  .rw[mH ac]at v;exact h.up j Q q U v
 .rw[t]at X;obtain⟨j,C,F,D,f,m,z,g⟩:=h.eO y X;by_cases e:j=i
  .subst e;rw[K]at m;cases m;refine⟨j,C,F,D,_,by rw[W,hD am],?_,λQ q U E=>by cases E⟩;show(bn (hZ (aL.new bs.n) l) y.t.Item).Status=3
   have P:bn (hZ (aL.new bs.n) l) y.t.Item=bn Y.ax.p y.t.Item:=by unfold bn;rw[w,<-T]
   rw[P,r.uu _ z];exact z
  .exact⟨j,C,F,D,f,by rw[W,mH ac];exact m,by rw[w];exact z,g⟩
def gi.same(h:gi Z c)(L:bs.told=c.told)(t:bs.n=c.n)(R:bs.aE=c.aE):gi Z bs/\jh c bs/\ql c bs:=by refine⟨⟨by rw[R];exact h.up,by rw[L,t,R];exact h.eO,by rw[L];exact h.h1⟩,jh.refl L,?_⟩;intro i b L s C;exact⟨b,L,s,by rw[R];exact C,λ_ _=>rfl⟩
def ni.of(h:ni s)(p:U.run=s.run)(K:U.ax=s.ax):ni U:=λx C=>by rw[K];exact h x (by rw[<-p];exact C)
def nL.Wq{x:ag}(T:ni s)(h:nL s x U):iX s U:=by
 have v:∀t:aA,t.run=s.run->t.ax=s.ax->t.cR=s.cR->t.told=s.told->iX s t:=λt y K j F=>
  ⟨j,λ_ _=>by rw[K],λx C=>by rw[y];exact C,⟨[],by rw[F,db],mT,λ_ h=>VL⟩,T.of y K⟩
 rcases h with⟨_,rfl⟩|⟨_,⟨e,_,rfl⟩|⟨_,e,_,_,rfl⟩|⟨_,_,p,q,rfl⟩⟩
 .exact iX.rfl T
 all_goals exact v _ rfl rfl rfl rfl
def oY.Wq{C:ab ag}(T:ni s)(h:oY s C U):iX s U:=by
 induction h with
 |nil=>exact iX.rfl T
 |snoc _ u X=>exact X.trans (u.Wq X.qj)
def nd.Wq{m:aD}{e:Int}(C:mG k c.n c.now i s)(K:hz m c.n)(T:ni s)(h:nd s m e U):iX s U:=by
 rcases h with⟨_,_,rfl⟩|⟨_,_,_,t,f,b⟩
 .exact iX.rfl T
 .have l:=fs.Wq C.y T f;have F:bt m.Item 7=true:=n5 K.item (by rw[<-C.n];exact C.y.gF.2);exact l.trans (b.Wq (f.cu C.y F) l.qj)
def uk.Wq{m:aD}{t:bS}(X:mG k c.n c.now i s)(F:hz m c.n)(T:ni s)(h:uk s m t):∃Y,iX s Y/\Y.ax=t:=by
 rcases h with rfl|⟨J,l,C,K,rfl⟩
 .exact⟨s,iX.rfl T,rfl⟩
 .have b:=fs.Wq X.y T C;have T:bt m.Item 7=true:=n5 F.item (by rw[<-X.n];exact X.y.gF.2);exact⟨l,b.trans (K.Wq (C.cu X.y T) b.qj),rfl⟩
def ng.Wq{X e:Int}(F:mG k c.n c.now i s)(T:ni s)(h:ng s X e U):iX s U:=by
 rcases h with⟨_,_,rfl⟩|⟨W,C,_,K,E,q,b,u,D⟩
 .exact iX.rfl T
 .obtain⟨P,Q,r,L⟩:=b.sub;have f:=F.y.due W C P;have R:dP {s with now:=X,pl:=E}:=⟨F.v.en,F.v.e6,F.v.bG,F.v.i8⟩
  have g:nN {s with now:=X,pl:=E}:=F.b3;have G:∀x∈K,bt x 7=true:=λx a=>by obtain⟨z,w,rfl⟩:=r x a;exact F.y.gg.aW z w
  have b:=oY.Wq (s:={s with now:=X,pl:=E}) T u;have v:=(u.cu f R g G).1;have h:=D.Wq v b.qj;have q:=b.trans h;exact⟨q.cR,q.uu,q.dw,q.eO,q.qj⟩
end
end Go.Proofs.YteogojgnkjegmaaGreatDoor
namespace Go.Proofs.YteogojgnkjegmaaGreatDoor
open Go.az Go.Proofs.Tryz
variable[Go.az.b5]
section
variable{J K:ab (ag×bF)}{c M C U:bo}{i k:Nat}{F Y N s Z:aA}
def xk(J:ab (ag×bF))(c U:bo):Prop:=gi J U/\jh c U/\ql c U
def gi.Xh(h:gi J c){a e:Int}(y:rV c a e U):xk J c U:=by
 rcases y with⟨_,_,rfl⟩|⟨_,_,_,_,rfl⟩|⟨_,_,_,_,_,_,_,_,_,_,_,_,rfl⟩
 .exact h.same rfl rfl rfl
 .exact h.same rfl rfl rfl
 .exact h.same rfl rfl rfl
def gi.take(T:cC k c)(h:gi J c){a e:Int}(f:lU c a e U):xk J c U:=by
 rcases f with⟨y,_⟩|⟨j,E,D,Y,m,q,N,⟨x,Q,_,_,_,X,_,G,_,u⟩,_,l⟩
 .exact h.Xh y
 .have E:=T.up _ _ _ _ X;have T:=h.up _ _ _ _ X;have r:=nd.Wq E (gZ.1 G) T.1 u;exact h.Wi (eR:=c.less a) X r rfl rfl E.nu T.2 (λ_ h=>.inl h) rfl rfl rfl l
def gi.settle(X:cC k c)(h:gi J c){j:Nat}(f:pG c j U):xk J c U:=by
 induction f with
 |nil=>exact⟨h,jh.refl rfl,ql.refl⟩
 |@step j C u e E z f T=>
  obtain⟨l,u,Q⟩:=T;obtain⟨h,x,T⟩:=l.take (E.cu X) f;exact⟨h,u.trans x T,Q.trans T⟩
def gi.half(T:cC k c)(h:gi J c){a e:Int}(f:sO c a e U):gi J U/\jh c U:=by
 rcases f with⟨y,_⟩|⟨j,E,g,Y,m,R,N,L,l,d,b,⟨x,Q,_,_,_,X,_,G,_,u⟩,_,⟨_,t,q,o,W⟩,rfl⟩
 .exact⟨(h.Xh y).1,(h.Xh y).2.1⟩
 .have D:=T.up _ _ _ _ X;obtain⟨n,r,rfl⟩:=uk.Wq D (gZ.1 G) (h.up _ _ _ _ X).1 q;exact⟨h.lost X r W rfl rfl rfl,jh.refl rfl⟩
def gi.q0(h:gi J c){u e:Int}(f:sP c u e U):gi J U/\jh c U:=by
 rcases f with⟨_,_,rfl⟩|⟨_,i,x,E,Y,L,l,Q,y,_,X,_,⟨_,t,rfl,q,T⟩,rfl⟩
 exact LP
 .exact⟨h.lost X (iX.rfl (h.up _ _ _ _ X).1) T rfl rfl rfl,jh.refl rfl⟩
def K1{n q T:Int}{G:Nat}{P:bS}(y:n<=7)(W:0<=n)(z:P.p.ok)(h:me n q T G P Z):ni Z:=by
 obtain⟨X,M,r,st,_,_,_,b,Q⟩:=h;have E:ni (aA.WQ n q T G X P M r st):=λx T=>by
  obtain⟨i,X,u⟩:=(b.is y W).2 x T;have D:=(aL.WJ z).1 X;show(bn P.p x).Status=3
  unfold bn;rw[D];exact u
 exact(Q.Wq E).qj
def gi.start(Q:cC k c)(ca:k<=1000000000000)(h:gi J c){G e:Int}(cB:sQ c G e U):gi J U/\jh c U:=by
 rcases cB with⟨_,_,rfl⟩|⟨_,i,bU,dJ,l,nh,iR,X,q,Y,k1,D,_,a,dq⟩
 exact LP
 .have am:=(cF.1 D).1;have Yc:=Q.len;have W:=Q.now;have cN:=Q.n;have du:=Q.dn _ _ _ _ _ _ D;obtain⟨hu,vg,vJ,vh,Fe,Ff,K2,BB,alz⟩:=me.up cN ac ⟨W.1,ac⟩ du a;have f:(hr c.n l nh iR).p.ok:=by have:=hu.y.ax.p;rw[BB]at this;exact this
  have L:=K1 ac ac f a;obtain⟨jN,rZ,kt,b,u,rfl⟩:=dq;rw[hD am]at u;cases u;have R:(({c with aE:=c.aE.set i (.up X q Y)}:bo).Wi i X b Y).aE=c.aE.set i (.up X b Y.flush):=by
   show(c.aE.set i _).set i _=_
   rw[vC]
  have d:(({c with aE:=c.aE.set i (.up X q Y)}:bo).Wi i X b Y).told=c.told:=by
   show c.told++Y.told.map (mf i c.now)=_
   rw[Fe];simp
  have kU:(({c with aE:=c.aE.set i (.up X q Y)}:bo).Wi i X b Y).n=c.n:=rfl;generalize({c with aE:=c.aE.set i (.up X q Y)}:bo).Wi i X b Y=U at*;refine⟨⟨λj de bD Z w=>?_,λy E=>?_,by rw[d];exact h.h1⟩,jh.refl d⟩
  .rw[R]at w;by_cases e:j=i
   .subst e;rw[hD am]at w;cases w;refine⟨L,λx v dO=>?_⟩;have o:aZ Y.cR x=some v:=dO;rw[vh,mu]at o;cases o
   .rw[mH ac]at w;exact h.up j de bD Z w
  .rw[d]at E;obtain⟨j,z,P,r,BA,m,jJ,jr⟩:=h.eO y E;by_cases e:j=i
   .subst e;rw[D]at m;cases m;refine⟨j,z,P,r,_,by rw[R,hD am],?_,λde bD Z bV g=>?_⟩
    .show(bn Y.ax.p y.t.Item).Status=3;rw[BB];exact jJ
    .cases bV;have T:aZ Y.cR y.t.Item=some true:=g;rw[vh,mu]at T;cases T
   .exact⟨j,z,P,r,BA,by rw[R,mH ac];exact m,by rw[kU];exact jJ,jr⟩
def gi.X0{w:Nat->Bool}{j:Nat}(T:cC k c)(h:gi J c)(f:nP w c j U):xk J c U:=by
 induction f with
 |nil=>exact⟨h,jh.refl rfl,ql.refl⟩
 |skip _ _ u=>exact u
 |@tick i x C q Q E Y N e G _ X f l u=>
  obtain⟨E,q,D⟩:=u;have v:=(G.cu T).1;have u:=v.up _ _ _ _ X;have T:=E.up _ _ _ _ X;have r:=ng.Wq u T.1 f;obtain⟨x,Q,G⟩:=E.Wi (eR:=C) X r rfl rfl u.nu T.2 (λ_ h=>.inl h) rfl rfl rfl l;exact⟨x,q.trans Q G,D.trans G⟩
def gi.sub(T:cC k c)(h:gi J c){G:Int}{d:bF}{x:ag}{e:Int}(E:lT c G d x e U):xk (pK J d (if e=0 then some x else none)) c U:=by
 have Yf:∀z,(aZ J z).isSome=true->(aZ (pK J d (if e=0 then some x else none)) z).isSome=true:=by
  intro z a;split
  .show(aZ (bA J x d) z).isSome=true;rw[gX];split
   .rfl
   .exact a
  .exact a
 have f:=h.more Yf;rcases E with⟨_,_,_,rfl⟩|⟨_,i,Q,g,Y,R,N,k1,X,o,l⟩
 .exact f.same rfl rfl rfl
 have D:=T.up _ _ _ _ X;have u:=f.up _ _ _ _ X;rcases o with⟨_,_,w,rfl⟩|⟨_,_,_,w,rfl⟩|⟨m,Ye,L,w,p,W⟩
 exact On
 exact On
 .have r:=W.Wq (D.y.V3 d p Ye) (u.1.of rfl rfl);have n:Y.ax.p.at x=none:=by
   rw[L];cases P:Y.ax.p.at (fz Y.ax Y.self)with
   |none=>rfl
   |some j=>
    have:=aL.Zy D.y.ax.p P;have b:(fz Y.ax Y.self).bX=(Y.ax.p.top Y.self:Int)+1:=rfl;have q:(fz Y.ax Y.self).a1=Y.self:=rfl;rw[q]at this;omega
  have Yc:∀z,aZ (Y.V3 d p).cR z=if z=x then some true else aZ Y.cR z:=λz=>by
   show aZ (bA Y.cR (fz Y.ax Y.self) true) z=_
   rw[<-L,gX]
  refine f.Wi (eR:=c) (oF:=Y.V3 d p) X r rfl rfl D.nu (λz v t=>?_) (λz a=>?_) rfl rfl rfl l
  .rw[Yc]at t;split at t
   .rename_i b;subst b;refine⟨by rw[L];exact D.self,?_⟩;rw[w,aJ rfl];show(aZ (bA J z d) z).isSome=true
    rw[gX,aJ rfl];rfl
   .exact u.2 z v t
  .rw[Yc]at a;split at a
   .rename_i b;subst b;refine .inr ?_;unfold bn;rw[n];show¬(0:Int)=3
    omega
   .exact .inl a
def gi.act(u:cC k c)(E:k<=1000000000000)(h:gi J c){a:ea}{o:aT ag}(T:hE c a U o):gi (pK J a.cv o) U/\jh c U:=by
 have v:xk J c U->gi J U/\jh c U:=λh=>⟨h.1,h.2.1⟩
 cases T with
 |sub _ X=>exact⟨(h.sub u X).1,(h.sub u X).2.1⟩
 |take _ X=>exact v (h.take u X)
 |half _ X=>exact h.half u X
 |y4 _ X=>
  rcases X with⟨_,_,rfl⟩|⟨_,_,_,rfl⟩
  exact LP
  .exact v (h.same rfl rfl rfl)
 |y5 _ X=>
  rcases X with⟨_,_,rfl⟩|⟨_,_,_,rfl⟩
  exact LP
  .exact v (h.same rfl rfl rfl)
 |tick _ w X=>
  rcases X with⟨_,_,rfl⟩|⟨_,_,f⟩
  exact LP
  .have W:gi J {c with now:=c.now+1}:=(h.same (bs:={c with now:=c.now+1}) rfl rfl rfl).1;have T:=gi.X0 (c:={c with now:=c.now+1}) u.later W f;exact⟨T.1,T.2.1⟩
 |q0 _ X=>exact h.q0 X
 |start _ X=>exact h.start u E X
 |cut _=>exact v (h.same rfl rfl rfl)
 |y6 _=>exact v (h.same rfl rfl rfl)
 |settle _ X=>
  obtain⟨j,T,_⟩:=X;exact v (h.settle u T)
 |none _=>exact⟨h,jh.refl rfl⟩
def gi.new{n:Int}(m:n=3\/n=5\/n=7)(h:lV n c):gi [] c:=by
 refine⟨λi b L s T=>?_,λt f=>(by rw[h.told]at f;cases f),by rw[h.told];exact mT⟩;have am:=(cF.1 T).1;have E:=h.len;obtain⟨G,R,Z,e,a⟩:=h.up i _ T;obtain⟨g,d,N,Q,q,X,u,D,l,r,W⟩:=(h.up i _ T).up m ac;cases e;cases Q;have P:(hr n [] [] 0).p.ok:=by have:=q.y.ax.p;rw[r]at this;exact this
 exact⟨K1 ac ac P a,λx v z=>by rw[u,mu]at z;cases z⟩
end
end Go.Proofs.YteogojgnkjegmaaGreatDoor
namespace Go.Proofs.YteogojgnkjegmaaGreatDoor
open Go.az Go.Proofs.Tryz
variable[Go.az.b5]
variable{m:ab (ag×Bool)}{n:Int}
structure vK(n:Int)(j:Nat)(u:kb):Prop where
 y:cC (2000+70000000*j) u.c
 cV:u.cV=(j:Int)
 t:gi u.jG u.c
def vK.new{u:kb}(b:n=3\/n=5\/n=7)(h:lV n u.c)(Y:u.n=n)(Z:u.jG=[])(D:u.cV=0):vK n 0 u:=
 ⟨(h.y b).mono ac,D,by rw[Z];exact gi.new b h⟩
def vK.ZF{j:Nat}{u E:kb}{a:ea}(h:vK n j u)(v:j<=1000)(b:sT u a E):vK n (j+1) E/\jh u.c E.c:=by obtain⟨o,J,Y,Z,D⟩:=b;obtain⟨i,M⟩:=h.t.act h.y ac J;rw[<-Y]at i;exact⟨⟨(J.cu h.y ac).mono ac,by rw[Z,h.cV];omega,i⟩,M⟩
def ahx{E:ab cI}{i b:Nat}{L:cT}{s:aA}(h:E[i]?=some (.up b L s))(x:ag)(U:s.ax.p.wf):ar prog 16 [av L.ef 0,A x.c] [fh E] (λr J=>r=A (bn s.ax.p x).c/\J=[fh E]):=by
 have t:aP [fh E] ([fR L.ef s.bU s.X s.ax]++(r1 b L s++[fh (E.eraseIdx i)])):=by
  refine(A9 h).trans ?_;refine aP.We ?_;show(ch b L s++[fh (E.eraseIdx i)]).Perm _
  unfold ch r1;exact hV ..
 refine ar.eqv t (ar.frame (bg:=r1 b L s++[fh (E.eraseIdx i)]) (yU L.ef s.bU s.X s.ax x U)) ?_;rintro r J⟨m,⟨Y,rfl⟩,rfl⟩;exact⟨_,⟨Y,rfl⟩,t.symm⟩
def q5(l:ab eZ)(j:Nat)(m:ab (ag×Bool)):Prop:=∀x,(aZ m x).getD false=true->x∈(l.take j).map (·.t.Item)
def q5.no{l:ab eZ}{j:Nat}(h:q5 l j m)(y:(l.map (·.t.Item)).Nodup){t:eZ}(f:l[j]?=some t):(aZ m t.t.Item).getD false=false:=by
 cases z:(aZ m t.t.Item).getD false with
 |false=>rfl
 |true=>
  exfalso;have Y:=h _ z;obtain⟨v,e⟩:=cF.1 f;have Z:l=l.take j++(t::l.drop (j+1)):=by rw[<-e,List.getElem_cons_drop,nU]
  rw[Z,hJ,eE]at y;exact(gr.1 y).2.2 _ Y _ er rfl
def q5.put{l:ab eZ}{j:Nat}(h:q5 l j m){t:eZ}(f:l[j]?=some t):q5 l (j+1) (bA m t.t.Item true):=λx U=>by
 obtain⟨v,e⟩:=cF.1 f;rw[oC,f,hJ];rw[gX]at U;split at U
 .rename_i Y;rw[Y];simp
 .exact oR _ (h x U)
def q5.more{l f:ab eZ}(h:q5 l l.length m):q5 (l++f) l.length m:=λx U=>by have:=h x U;rw[iI]at this;rw[pX];exact this
def ama(n:Int)(e:ay)(cK:aT Go.Addr)(Q b off:Nat)(N:ab ea)(cE:r0 N)(ep:Rd e cK N.length b off 11 (N.map ea.c)):ar prog 5 [I n,.slice cK N.length Q] [e,cM] (λr Yc=>r=B true/\Yc=[e,cM]):=by
 have dd:=zb;have dA:=y7 n e cK Q b off N (λx b6=>(cE x b6).1) ep;refine aF func5 λW=>?_;generalize br _=D;refine aa 22 ?_;rintro _ _⟨YB,F,rfl,rfl⟩;refine Tf (λM=>?_) λM=>?_;exact aQ 8;refine aa 2 ?_;have w:=F M;have Yg:=w.n;have gy:=Bu n w.n;refine aa 4 ?_;rintro v4 BC⟨J,⟨Yv,⟨Yw,⟨⟨q,R,F,Yi⟩,rfl,rfl⟩⟩⟩⟩;refine aa 6 ?_;refine ai.o (aw.mkMap b9 hA qM (λYr=>?_));refine aa 17 ?_;have Yf:=w.len;refine ah.cq [6,5,0] (λy:Nat×Nat×pJ×kb×ab (ag×Bool)=>y.1<=N.length/\vK n y.1 y.2.2.2.1/\y.2.1=y.2.2.2.1.c.told.length/\q5 y.2.2.2.1.c.told y.2.1 y.2.2.2.2) (λy=>[(22,.slice cK N.length Q),(23,I (N.length:Int)),(24,I (y.1:Int)),(7,I (y.2.1:Int))]) (λy=>[aK (iW J y.2.2.1 y.2.2.2.1),bz b9 hA Yr y.2.2.2.2]) (λy=>N.length-y.1) (0,0,Yv,Yw,[]) ⟨cG _,vK.new w.n q R F Yi,by rw[q.told];rfl,λx h=>VL⟩ ?_;rintro⟨k,iT,T,u,m⟩⟨ca,gQ,Yj,dI⟩ K cJ;dsimp only at ca gQ dI Yj;refine bh ?_;by_cases Ye:k<N.length
 .obtain⟨a,eJ⟩:=cl Ye;have Ys:=cE a (im eJ);have Yn:=gQ.cV;have lF:=Bv J T u a _ gQ.y ac ac Ys.2;refine aq 15 λD9=>?_;refine aa 8 ?_;refine SY λU Y R=>?_;rotate_left;obtain⟨C,new,Z,oI⟩:=gQ.ZF ac VV;have eo:=Bh U.e2 U.L Y.c _ C.y.toClP ac;subst Yj;have E:q5 Y.c.told u.c.told.length m:=by rw[Z];exact dI.more
  have Yq:u.c.told.length<=Y.c.told.length:=by rw[Z,bQ];omega
  refine ah.W3 (bg:=iW J U Y) ?_;unfold iW;unfold bE at eo⊢;refine bh ?_;refine aa 7 ?_;rintro _ _⟨Yy,X,rfl,rfl⟩;refine aa 5 ?_;refine ah.cq [22,23,24,10,6,5,0] (λy:Nat×ab (ag×Bool)=>(u.c.told.length<=y.1/\y.1<=Y.c.told.length)/\q5 Y.c.told y.1 y.2) (λy=>[(7,I (y.1:Int))]) (λy=>[bz b9 hA Yr y.2]) (λy=>Y.c.told.length-y.1) (u.c.told.length,m) ⟨⟨cx _,Yq⟩,E⟩ ?_;rintro⟨j,ku⟩⟨dK,E⟩ yu Yk;dsimp only at dK E;refine bh ?_;by_cases Yp:j<Y.c.told.length
  .obtain⟨t,P⟩:=cl Yp;have Yz:t∈Y.c.told:=im P;obtain⟨i,jN,L,s,-,t2,t3,t4⟩:=oI t (by rw[Z,iC dK.1]at P;exact im P)
   have Yo:=(cF.1 t3).1;obtain⟨K3,t5,sW,YA,-⟩:=C.t.eO t Yz;obtain rfl:K3=i:=ac
   obtain⟨d,du⟩:=uK.1 YA;have G:=E.no C.t.h1 P;have Yu:=C.y.told;have dG:=Bi U.e2 U.L Y.c (K3:Int) C.y.toClN;rw[By (by have:=C.y.len;omega) t3,<-t2]at dG;unfold bE at dG;have Yt:=Bx t3;have Yx:=ahx t3 t.t.Item (C.y.up _ _ _ _ t3).y.ax.p.towf;have c5:bb .neq t.t.Item.a1 t.rep=some false:=by simp[bb,t5,t2]
   have bx:bb .neq (bn s.ax.p t.t.Item).Status 3=some false:=by simp[bb,t4]
   refine ah.form (f:=eZ.c) (v:=.slice Yy Y.c.told.length X) (l:=Y.c.told) VF (λbf bW=>absurd P (by rw[bW];simp)) (λg Ym dO=>?_);injection dO with hh lL v3
   subst hh v3;refine aa 18 ?_;refine ai.v (V.E' ad rfl rfl) ?_;refine aa 2 ?_;refine ai.v (V.WY ad (k:=j) (o:=0) (show some (av g (j*8))=some (av g (0+j*8+0)) by rw[h4,hj]) VF eZ.WO P (c:=t.t.Item.c) (t:=⟨rfl⟩)) ?_;refine aq 0 λYh=>?_;refine aa 4 ?_;refine ah.p' ?_ aC.j.j.d'.j.j.j.j.j.j.j.j.j.j.j.d';refine Rj ?_ ?_;refine aw.z' (aN.WZ bF.z du cw sS ut rfl rfl VF) ?_;refine au ?_;refine ae 3 6 ?_;refine dr 9 λYl=>?_;refine Us ?_;rotate_left;refine O.Q' ad (λYl=>?_);refine au ?_;refine af.y' 5 rfl (aw.z' (aN.WZ bF.z du cw sS ut rfl rfl VF) ?_);refine au ?_;refine ae 3 6 ?_;refine Us ?_;rotate_left;all_goals(refine Out.C' Yk (j+1,_) ?_ (by show Y.c.told.length-(j+1)<Y.c.told.length-j;omega);exact ⟨⟨by show u.c.told.length<=j+1;omega,EY⟩,E.put P⟩)
  .obtain rfl:j=Y.c.told.length:=by omega
   clear Yk;refine ah.j7 (rb:=iW J U Y) (vI:=[aK (iW J U Y)]) aP.aK.symm ?_;refine bh ?_;refine aa 20 ?_;exact Out.C' cJ (k+1,_,_,_,ku) ⟨Rh,C,rfl,E⟩ Uy
 .obtain rfl:k=N.length:=by omega
  clear cJ;refine ah.W3 (bg:=iW J T u) ?_;unfold iW bE;refine bh ?_;exact aQ 19
end Go.Proofs.YteogojgnkjegmaaGreatDoor
namespace Go.Proofs.YteogojgnkjegmaaGreatDoor
open Go Go.az Go.ChangeShapes Go.WideShapes Go.ChangeAt Go.RowKit Go.Proofs.Tryz
def agA:(Tryz.f5.params.toList.all λt=>prog.readableRec t&&decide (t<prog.types.size))=true:=Vw
set_option maxRecDepth 100000 in
def Uo(N:Go.Os)(y:N.Started)(H:Type)(J:a8×aj->H):ReturnsInHanded {} Tryz.checked N 5 .any (λw args=>(Rows.coreToldSpec.pre J Tryz.prog Tryz.f5 Rows.coreToldRow.domain false w args/\laidMetH Tryz.prog [("caucus/mail.kinds",Rows.laid_caucus_mail_kinds)] w)/\sizedMet J Tryz.prog Tryz.f5 (OpenSpec.ofChange Rows.coreToldSpec) false w args) (Rows.coreToldSpec.post J Tryz.prog Tryz.f5 false true false false):=by
 refine BE (C:=Tryz.checked) (X:=λw _=>laidMetH Tryz.prog [("caucus/mail.kinds",Rows.laid_caucus_mail_kinds)] w) (λ_ _ _ Q h=>h.of_heap Q) own y (by kernel_rfl) Tryz.func5
  (BF (enc:=J) (C:=Tryz.checked) (os:=N) (X:=λw _=>laidMetH Tryz.prog [("caucus/mail.kinds",Rows.laid_caucus_mail_kinds)] w) false (World.laidAll Tryz.prog N [("caucus/mail.kinds",Rows.laid_caucus_mail_kinds)]) #[I 0,.slice none 0 0] 8 (BG _ _ _)
   (BH (by kernel_rfl) (by kernel_rfl)) (by kernel_rfl) (by kernel_rfl) (by kernel_rfl)
   (by rw[zd _ _ _ (by kernel_rfl)];exact aeL _ (by kernel_rfl) (by kernel_rfl))) ?_
 intro W m args Zxds Zxgs M L ZxhW Yl l ZxhL _;have n:(DataW.weightsEach Tryz.prog (Tryz.f5.params.toList++Rows.coreToldSpec.plain.varTypes Tryz.prog) (Zxds++Zxgs)).all (·<=reachBytes)=true:=l;have a:∀(j:Nat) t v,Tryz.f5.params[j]?=some t->args[j]?=some v->Value.okWide Tryz.prog W .any m t v:=L;have z:=ZxhW;obtain⟨p,q,Yg,ZxhV,rfl,Yj,Yc⟩:=ZxhW;have o:DataW.TrodAll J Tryz.prog W 0 (λ_=>true) true Tryz.f5.params.toList args.toList Zxds p:=Yg;have ZxhA:=o;rw[Tryz.params5]at ZxhA a n;obtain⟨Zxv0,Yn,Zxd0,Yh,Zxp0,Zxq0,Yi,rfl,rfl,E,Zxr0⟩:=trodAll_cons ZxhA;obtain⟨Zxv1,Yo,Zxd1,Yk,Zxp1,Zxq1,rfl,rfl,rfl,Zxh1,Zxr1⟩:=trodAll_cons Zxr0;obtain⟨rfl,rfl,rfl⟩:=trodAll_nil Zxr1;obtain rfl:args=#[Zxv0,Zxv1]:=by cases args;simp_all
 obtain⟨rfl,rfl⟩:=trodVars_none ZxhV;obtain⟨Zxx0,rfl,rfl,rfl,Zxw0⟩:=open_int Tryz.underlying3 (a 0 3 Zxv0 rfl rfl) E;obtain⟨i,k,b,r,G,Ye,rfl,R,s,Y,F,Z,Yf,Ym⟩:=xM Tryz.underlying22 ea.leaves (by kernel_rfl) (by decide) (a 1 22 Zxv1 rfl rfl) Zxh1 (v7 n 1 rfl rfl);obtain⟨K,rfl,D⟩:=wa ea.c ea.wf Yf ea.fit;obtain rfl:r=K.length:=by simpa using R.symm
 simp only[db]at z o;have d:∀p:Nat×Nat,p∈[(K.length,k)]->0<p.1->p.2<W.heap.size:=by intro p Zxhp E;simp only[cQ,zc,gl]at Zxhp;rcases Zxhp with rfl;exact(F E).2
 have g:Rd (snap W (i1 [(K.length,k)])) i K.length k b 11 (K.map ea.c):=Rd.snap (by simp) (iB s Y) F Z (λh=>wb (o:=K.length) (by simp) h);have Zxhz:0∉i1 [(K.length,k)]:=by
  unfold i1;split
  .rename_i h;intro u;rcases cQ.1 u with e|e
   .exact ak4 ZxhL Z h.1 e.symm
   .cases e
  .intro u;cases u
 have U:r0 K:=λx T=>⟨⟨(D x T).2.2.1.2.1,(D x T).2.2.1.2.2.1⟩,(by have h:=bounds_u8 (D x T).2.2.2.2.2;omega)⟩
 letI:b5:=⟨W.heap[0]?⟩
 refine(ar.runK rfl (ze ZxhL) (λw h=>h.1) (uN _) (wc d) Zxhz (ama Zxx0 _ i G k b K U g)).mono λe ZxW' Q=>?_;obtain⟨rfl,ZxhS⟩:=Q;exact⟨_,rfl,xN (P:=Tryz.prog) (f:=Tryz.f5) (Ye:=4) z o rfl rfl ZxhS xX agA rfl Tryz.underlying4⟩
def aig:joinedFacts prog 5 Tryz.f5 Rows.coreToldSpec Rows.coreToldRow=true:=Q9
def alc:Rows.CoreToldSaid:=
 BL 5 Tryz.f5 rfl rfl rfl rfl rfl rfl rfl ⟨rfl,rfl,rfl,rfl,rfl⟩ rfl rfl rfl rfl rfl Vw func5 aig
  (tk Vw) Mf
  (λY a H J _=>Uo Y a H J)
theorem coreTold_proved:Rows.CoreToldCardSaid:=
 BM .later [] [.data] true (true,"2bd43b8b9bab49a80501c85ad9c4676e1fa8e753d1aa75001a15b32b7b28cf8f") false
  alc (λ_ h=>VL) Vw (λ_ h=>VL) coreTold_row_tie rfl ⟨rfl,rfl⟩ Vw rfl
  (λf fn l Q=>by
   obtain rfl:f=5:=gs ((show prog.funcNamed "caucus/caucustop.CoreTold" =some 5 by kernel_rfl).symm.trans l)|>.symm;obtain rfl:fn=Tryz.f5:=(gs (func5.symm.trans Q)).symm;exact⟨Vw,λj t f=>by
    rw[Tryz.params5]at f;have K:t∈[3,22]:=HQ
    have J:([3,22].all λu=>!prog.wantsStandIn u)=true:=Vw
    exact(show prog.wantsStandIn t=false by simpa using hk.1 J t K)⟩)
  Vw
end Go.Proofs.YteogojgnkjegmaaGreatDoor
