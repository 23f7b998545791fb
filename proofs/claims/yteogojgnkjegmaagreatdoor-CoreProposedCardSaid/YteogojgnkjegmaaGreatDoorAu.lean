/-
 Part of the proof.
-/
import Derived.Test.YteogojgnkjegmaaGreatDoorAt
set_option linter.all false
set_option maxRecDepth 8000
set_option maxHeartbeats 8000000
namespace Go.Proofs.YteogojgnkjegmaaGreatDoor
open Go.ay Go.Proofs.Tryz
variable[Go.ay.b4]
def ahe{l m:ab Nat}(h:l.Sublist m):l.sum<=m.sum:=by
 induction h with
 |slnil=>exact cD _
 |cons a _ d=>rw[xV];omega
 |cons_cons a _ d=>rw[xV,xV];omega
def vX{m:aD}{k:Int}(h:m.Kind=k)(u:k≠1/\k≠3/\k≠6):mS m<3:=by grind [mS]
section
variable{U:Type}(Y:U->Nat)
def mT(l:ab (ag×er U)):Nat:=(l.map λy=>Y y.2.v).sum
def CU(l:ab (ag×er U))(k:ag)(e:er U):mT Y (bx l k e)=Y e.v+mT Y (e9 l k):=by grind [mT,CM]
def Ic{l:ab (ag×er U)}{k:ag}{e:er U}(h:a8 l k=some e):mT Y l=Y e.v+mT Y (e9 l k):=by have:=CU Y l k e;rwa[CN h]at this
theorem xW(l:ab (ag×er U))(k:ag):mT Y (e9 l k)<=mT Y l:=by unfold mT;exact ahe ((pM l k).map _)
end
def aC.O'(s:aC):Nat:=4*(mT a6.Ul s.leads+mT bL.Ul s.bp)+fH s.inbox
def CV(s:aC)(l:ab aD):(s.send l).O'=s.O'+fH (fa s.self l):=by grind [aC.send,aC.O',vW]
def nl.O'{s d:aC}{x:ag}(h:nl s x d):d.O'<=s.O':=by obtain⟨o,_,rfl⟩:=h.go;grind [aC.O',xW,a6.Ul,bL.Ul]
def iF.O'{s d:aC}{x:ag}(h:iF s x d):d.O'<=s.O':=by
 have e:=h;unfold iF at e;subst e;have J:mT a6.Ul (s.UW x (bP s.aA.p x).bO)<=mT a6.Ul s.leads:=by
  unfold aC.UW;split
  .split
   .exact xW ..
   .exact cD _
  .exact cD _
 have N:mT bL.Ul (s.UX x (bP s.aA.p x).bO)<=mT bL.Ul s.bp:=by
  unfold aC.UX;split
  .split
   .exact xW ..
   .exact cD _
  .exact cD _
 grind [aC.O']
def acM{s:bR}{X:Int}{m:aD}(h:(c4 s X m).2.2=true):mS (c4 s X m).2.1<mS m:=by
 unfold c4 at h⊢;split at h
 .rename_i G;rw[aQ G];have C:∀(h:m.Kind=1\/m.Kind=3\/m.Kind=6),mS m=3:=λh=>by unfold mS;rw[aQ h]
  unfold lM at h⊢;dsimp only at h⊢;split at h
  .rename_i J;rw[aQ J,C J.1];exact vX (k:=5) rfl T6
  .rename_i J;rw[aM J];have f (i:aX):mS (lm m i).1<3:=by
    unfold lm;split
    .exact vX (k:=8) rfl T6
    .exact vX (k:=0) rfl T6
   split at h
   .rename_i N;rw[aQ N,C (.inl N)];unfold jR;dsimp only;split
    .exact vX (k:=2) rfl T6
    .exact f _
   .rename_i N;rw[aM N];split at h
    .rename_i R;rw[aQ R,C (.inr (.inl R))];unfold jS;dsimp only;split
     .exact vX (k:=4) rfl T6
     .exact f _
    .rename_i R;rw[aM R];split at h
     .rename_i Z;rw[aQ Z,C (.inr (.inr Z))];unfold mQ;dsimp only;split
      .exact vX (k:=7) rfl T6
      .exact f _
     .split at h<;>cases h
 .cases h
def afU(s:aC)(m:aD)(d:eH):(s.Uq m d).O'<s.O'+mS m:=by
 have n:=(ul m).1;cases h:(c4 s.aA s.self m).2.2
 .rw[xT d h];show s.O'<_
  omega
 .rw[xU d h,CV];have J:=acM h;have N:fH (fa s.self [(c4 s.aA s.self m).2.1])<=mS (c4 s.aA s.self m).2.1:=by unfold fa fH;rw[vj];split<;>simp
  show s.O'+fH (fa s.self [(c4 s.aA s.self m).2.1])<_
  omega
def QT{s:aC}(m:aD)(y:Nat)(b:∀x e,a8 s.bp x=some e->e.v.ok):(s.Up m y).O'<=s.O':=by
 unfold aC.Up;split
 .exact cD _
 .rename_i e L;have J:=Ic bL.Ul L;have N:=CU bL.Ul s.bp m.Item (⟨e.p,y,(e.v.y' m).1⟩:er bL);have R:=ag9 (b _ _ L) m;have Z:=CT s.self (e.v.y' m).1;have a:=xW bL.Ul (bx s.bp m.Item (⟨e.p,y,(e.v.y' m).1⟩:er bL)) m.Item;dsimp only at N;have K:(({s with bp:=bx s.bp m.Item ⟨e.p,y,(e.v.y' m).1⟩}:aC).send (e.v.y' m).1.E').O'=({s with bp:=bx s.bp m.Item ⟨e.p,y,(e.v.y' m).1⟩}:aC).O'+fH (fa s.self (e.v.y' m).1.E'):=CV ..;grind [aC.O',aC.send,vW]
def ajA{s:aC}(m:aD)(b:∀x e,a8 s.leads x=some e->∃n c it h,ip e.v n c it h):(s.Uw m).O'<=s.O':=by
 unfold aC.Uw;split
 .exact cD _
 .rename_i e L;obtain⟨n,c,it,h,u⟩:=b _ _ L;have J:=Ic a6.Ul L;have N:=CU a6.Ul s.leads m.Item (⟨e.p,e.q,(e.v.y' m).1⟩:er a6);have R:=H8 m u;have Z:=um s.self (e.v.y' m).1;have a:=xW a6.Ul (bx s.leads m.Item (⟨e.p,e.q,(e.v.y' m).1⟩:er a6)) m.Item;dsimp only at N;have K:(({s with leads:=bx s.leads m.Item ⟨e.p,e.q,(e.v.y' m).1⟩}:aC).send (e.v.y' m).1.E').O'=({s with leads:=bx s.leads m.Item ⟨e.p,e.q,(e.v.y' m).1⟩}:aC).O'+fH (fa s.self (e.v.y' m).1.E'):=CV ..;grind [aC.O',aC.send,vW]
def fG.O'{s d:aC}{m:aD}(b:RepW s)(h:fG s m d):d.O'<s.O'+mS m:=by
 rcases h with⟨_,o,_,_,h⟩|⟨_,a,rfl⟩
 .have J:=afU s m o;rcases h with⟨_,h⟩|⟨_,h⟩
  .have:=h.O';omega
  .have:=h.O';omega
 .have J:=(ul m).1;have N:=QT (s:={s with high:=s.Uz m}) m a (λx e L=>(b.rs x e L).1);have o:({s with high:=s.Uz m}:aC).O'=s.O':=rfl;have Q:=CS (s:={s with high:=s.Uz m}) m a (λx e L=>(b.rs x e L).1);have R:=ajA (s:=({s with high:=s.Uz m}:aC).Up m a) m (λx e L=>by rw[Q.1]at L;exact⟨_,_,_,_,b.cw x e L⟩)
  omega
end Go.Proofs.YteogojgnkjegmaaGreatDoor
namespace Go.Proofs.YteogojgnkjegmaaGreatDoor
open Go.ay Go.Proofs.Tryz
variable[Go.ay.b4]
variable{k:Nat}{m:aD}{n:Int}
def Ie{n X N:Int}{u:nd}:∀(Z:ab ag) (st:Int×ab br),lH st.1 st.2->(∀y∈st.2,bq y.key 7=true)->(∀x∈Z,bq x 7=true)->∀y∈(hP n X N u Z st).2,bq y.key 7=true
 |[],_,_,h,_=>h
 |x::Z,st,i,h,U=>by
  have e:hP n X N u (x::Z) st=hP n X N u Z (pj n X N u st x):=rfl;rw[e];refine Ie Z _ (G8 i).1 ?_ λy F=>U y (hI _ F);intro y F;unfold pj at F;split at F
  .exact h y F
  .rcases HZ i F with rfl|F
   .exact U x (gS ..)
   .exact h y F
def k2.mono{Y:Nat}{s:aC}(h:k2 k s)(u:k<=Y):k2 Y s:=
 ⟨h.w,by have:=h.t;omega,h.aV,h.td,λx=>by have:=h.bS x;omega⟩
def k2.iN{k:Nat}{s:aC}(h:k2 k s)(l:ab ag)(T:∀x∈l,bq x 7=true){d:aC}(c:d.dA=(hP s.n s.self s.now s.fi l (s.dA,s.pl)).1)(U:d.pl=(hP s.n s.self s.now s.fi l (s.dA,s.pl)).2)(z:d.fi=s.fi):k2 (k+l.length) d:=by
 have Y:=B6 (n:=s.n) (X:=s.self) (M:=s.now) (u:=s.fi) l (s.dA,s.pl) h.w;have j:=h.t;refine⟨by rw[c,U];exact Y.1,?_,?_,by rw[z];exact h.td,λx=>by rw[z];have:=h.bS x;omega⟩
 .rw[c];have:=Y.2.2;dsimp only at this;omega
 .rw[U];exact Ie l (s.dA,s.pl) h.w h.aV T
def GoR.abz{s d:db}{Z:ab ag}(o:hC n s)(h:GoR n s Z d):s.done.length+Z.length<=d.done.length:=by
 rw[<-b2];refine Cp ?_ ?_
 .rw[hH];refine⟨o.dn,h.jN,λa K b X e=>?_⟩;subst e;have:=(o.ub a).1 K;rw[(h.is a X).2]at this;cases this
 .intro x U;rw[h.ok.ub x,h.dN x,iL,dl];rcases fd.1 U with U|U
  .exact .inl ((o.ub x).1 U)
  .exact .inr U
def k3.cQ{s d:aC}(h:RepI k s)(F:k3 s d):RepI (k+448) d:=by obtain⟨Z,o,W,P,X,G,K,j,z,rfl⟩:=F.go;have F:=K.len;refine⟨h.n,h.self,h.now,G.ok,z.1.mono (GoR.abz h.run G.toGoR),?_⟩;refine k2.mono (k:=k+X.length) (k2.iN h.fX X (λx U=>(K.aV x U).2) ?_ ?_ ?_) ac<;>rfl
def k3.same{s d:aC}(F:k3 s d):d.aA=s.aA/\d.X=s.X/\d.leads=s.leads/\d.bp=s.bp/\d.n=s.n/\d.self=s.self/\d.inbox=s.inbox/\d.out=s.out/\d.dX=s.dX/\d.high=s.high/\d.now=s.now/\d.bQ=s.bQ:=by obtain⟨Z,o,W,P,T,G,K,j,z,rfl⟩:=F.go;exact⟨rfl,rfl,rfl,rfl,rfl,rfl,rfl,rfl,rfl,rfl,rfl,rfl⟩
def k2.drop{s:aC}(h:k2 k s)(x:ag){d:aC}(c:d.dA=s.dA)(Y:d.pl=ii x s.pl)(z:d.fi=e9 s.fi x):k2 k d:=by
 refine⟨by rw[c,Y];exact h.w.del x,by rw[c];exact h.t,?_,by rw[z];exact sE h.td,λy=>?_⟩
 .rw[Y,zs h.w.mb];intro y F;exact h.aV y ((zt x s.pl).subset F)
 .rw[z];have:=h.bS y;unfold Go.Proofs.YteogojgnkjegmaaGreatDoor.bS at*;rw[sF h.td];split
  .simp
  .exact this
def nl.cQ{s d:aC}{x:ag}(h:RepI k s)(K:nl s x d):RepI k d:=by
 obtain⟨o,q,rfl⟩:=K.go;refine⟨h.n,h.self,h.now,h.run.UF q,?_,?_⟩
 .show j9 o.done.length s.M;rw[q.2.1];exact h.M
 .refine k2.drop h.fX x ?_ ?_ ?_<;>rfl
def iF.cQ{s d:aC}{x:ag}(h:RepI k s)(U:bq x 7=true)(K:iF s x d):RepI (k+1) d:=by unfold iF at K;subst K;refine⟨h.n,h.self,h.now,h.run,h.M,?_⟩;refine k2.iN h.fX [x] (by simpa using U) ?_ ?_ ?_<;>rfl
def RepI.mono{Y:Nat}{s:aC}(h:RepI k s)(u:k<=Y):RepI Y s:=⟨h.n,h.self,h.now,h.run,h.M,h.fX.mono u⟩
def RepI.of{s d:aC}(h:RepI k s)(e:(d.n,d.self,d.now,d.run,d.M,d.dA,d.pl,d.fi)=(s.n,s.self,s.now,s.run,s.M,s.dA,s.pl,s.fi)):RepI k d:=by simp only[ny]at e;obtain⟨c,Y,z,N,C,F,Z,f⟩:=e;exact⟨by rw[c];exact h.n,by rw[c,Y];exact h.self,by rw[z];exact h.now,by rw[c,N];exact h.run,by rw[N,C];exact h.M,⟨by rw[F,Z];exact h.fX.w,by rw[F];exact h.fX.t,by rw[Z];exact h.fX.aV,by rw[f];exact h.fX.td,λx=>by rw[f];exact h.fX.bS x⟩⟩
def ml{t M:Type}[DecidableEq t]:∀{l:ab (t×M)} {k:t} {v:M},a8 l k=some v->(k,v)∈l
 |[],k,v,h=>by grind [m4]
 |p::l,k,v,h=>by
  rw[kk]at h;split at h
  .grind
  .exact hI _ (ml h)
def vY{t M:Type}[DecidableEq t]{l:ab (t×M)}{k:t}{v:M}{y:t×M}(h:y∈bx l k v):y=(k,v)\/y∈l:=by
 induction l with
 |nil=>rw[qv]at h;exact .inl Ub
 |cons p l d=>
  rw[lB]at h;grind
structure RepG(s:aC):Prop where
 cw:∀y∈s.leads,ip y.2.v s.n s.self y.1 y.2.v.bj/\bq y.1 7=true
 rs:∀y∈s.bp,y.2.v.ok/\y.2.v.x.n=s.n/\y.2.v.x.self=s.self/\y.2.v.x.item=y.1/\bq y.1 7=true
 bt:∀m∈s.inbox,bq m.Item 7=true
def RepG.w{s:aC}(h:RepG s):RepW s:=
 ⟨λx e L=>(h.cw _ (ml L)).1,λx e L=>⟨(h.rs _ (ml L)).1,(h.rs _ (ml L)).2.1⟩⟩
structure eO(k:Nat)(s:aC):Prop extends RepI k s,RepG s where
 aA:s.aA.ok
 en:s.aA.n=s.n
 sp:h1 s.X.L s.aA.p
 da:s.X.L.da<=k
def eO.z{s:aC}(h:eO k s):H5 k s:=⟨h.toRepI,h.toRepG.w,h.aA,h.en,h.sp,h.da⟩
def RepG.send{s:aC}(h:RepG s){l:ab aD}(T:∀m∈l,bq m.Item 7=true):RepG (s.send l):=by
 refine⟨h.cw,h.rs,λm K=>?_⟩;have K:m∈s.inbox++fa s.self l:=K;rcases fd.1 K with K|K
 .exact h.bt m K
 .exact T m (oz.1 K).1
def nl.We{s d:aC}{x:ag}(h:RepG s)(K:nl s x d):RepG d:=by obtain⟨o,q,rfl⟩:=K.go;exact⟨λy F=>h.cw y ((pM _ _).subset F),λy F=>h.rs y ((pM _ _).subset F),h.bt⟩
def iF.We{s d:aC}{x:ag}(h:RepG s)(K:iF s x d):RepG d:=by
 unfold iF at K;subst K;refine⟨λy F=>?_,λy F=>?_,h.bt⟩
 .have F:y∈s.UW x (bP s.aA.p x).bO:=F;unfold aC.UW at F;split at F
  .split at F
   .exact h.cw y ((pM _ _).subset F)
   .exact h.cw y F
  .exact h.cw y F
 .have F:y∈s.UX x (bP s.aA.p x).bO:=F;unfold aC.UX at F;split at F
  .split at F
   .exact h.rs y ((pM _ _).subset F)
   .exact h.rs y F
  .exact h.rs y F
theorem uo{l:a6}{c:Int}{it:ag}{h:bm}(k:ip l n c it h):∀m∈l.E',m.Item=it:=by
 unfold a6.E';split
 .intro m K;unfold a6.Uy at K;obtain⟨i,_,rfl⟩:=eS.1 K;exact k.item
 .intro m K;cases K
theorem vZ{r:bL}(h:r.ok):∀m∈r.E',m.Item=r.x.item:=by
 unfold bL.E';split
 .intro m K;cases K
 .split
  .rename_i l T;exact uo (h.cw l T)
  .intro m K;obtain⟨i,_,rfl⟩:=eS.1 K;rfl
def If(r:bL)(m:aD):(r.y' m).1.x.n=r.x.n/\(r.y' m).1.x.self=r.x.self/\(r.y' m).1.x.item=r.x.item/\(r.y' m).1.x.bj=r.x.bj:=by
 unfold bL.y';split
 .exact⟨rfl,rfl,rfl,rfl⟩
 .split
  .exact⟨rfl,rfl,rfl,rfl⟩
  . (repeat' split);all_goals exact⟨rfl,rfl,rfl,rfl⟩
def aeA{s:aC}(h:RepG s)(m:aD)(c:Nat):RepG (s.Up m c):=by
 unfold aC.Up;split
 .exact h
 .rename_i e L;obtain⟨Y,N,R,Z,a⟩:=h.rs _ (ml L);have Q:=If e.v m;have r:=Y.y' m;have M:RepG {s with bp:=bx s.bp m.Item ⟨e.p,c,(e.v.y' m).1⟩}:=by
   refine⟨h.cw,λy F=>?_,h.bt⟩;rcases vY F with rfl|F
   .grind
   .exact h.rs y F
  have b:RepG (({s with bp:=bx s.bp m.Item ⟨e.p,c,(e.v.y' m).1⟩}:aC).send (e.v.y' m).1.E'):=M.send λT G=>by grind [vZ]
  split
  .split
   .exact⟨b.cw,λy F=>b.rs y ((pM _ _).subset F),b.bt⟩
   .exact b
  .exact M
def aeW{s:aC}(h:RepG s)(m:aD):RepG (s.Uw m):=by
 unfold aC.Uw;split
 .exact h
 .rename_i e L;obtain⟨Y,a⟩:=h.cw _ (ml L);have u:=tZ Y m;have z:ip (e.v.y' m).1 s.n s.self m.Item (e.v.y' m).1.bj:=⟨u.wf,u.n,u.self,u.item,rfl,u.phase⟩
  have M:RepG {s with leads:=bx s.leads m.Item ⟨e.p,e.q,(e.v.y' m).1⟩}:=by
   refine⟨λy F=>?_,h.rs,h.bt⟩;rcases vY F with rfl|F
   .exact⟨z,a⟩
   .exact h.cw y F
  have c:RepG (({s with leads:=bx s.leads m.Item ⟨e.p,e.q,(e.v.y' m).1⟩}:aC).send (e.v.y' m).1.E'):=M.send λT G=>by grind [uo]
  split
  .split
   .exact⟨λy F=>c.cw y ((pM _ _).subset F),c.rs,c.bt⟩
   .exact c
  .exact M
structure aC.core(s cE:aC):Prop where
 a:(cE.n,cE.self,cE.now,cE.run,cE.M,cE.dA,cE.pl,cE.fi)=(s.n,s.self,s.now,s.run,s.M,s.dA,s.pl,s.fi)
 b:(cE.aA,cE.X,cE.bQ,cE.dX,cE.told)=(s.aA,s.X,s.bQ,s.dX,s.told)
variable{d:aC}
def aC.core.trans{s t u:aC}(h:aC.core s t)(k:aC.core t u):aC.core s u:=⟨k.a.trans h.a,k.b.trans h.b⟩
def CW(s:aC)(m:aD)(a:Nat):aC.core s (s.Up m a):=by
 unfold aC.Up;repeat' split
 all_goals exact⟨nP _,nP _⟩
def Ig(s:aC)(m:aD):aC.core s (s.Uw m):=by
 unfold aC.Uw;repeat' split
 all_goals exact⟨nP _,nP _⟩
def s3.core{s:aC}(h:s3 s m d):aC.core s d:=by obtain⟨a,rfl⟩:=h;exact((⟨nP _,nP _⟩:aC.core s {s with high:=s.Uz m}).trans (CW _ m a)).trans (Ig _ m)
def s3.We{s:aC}(h:RepG s)(q:s3 s m d):RepG d:=by obtain⟨a,rfl⟩:=q;exact aeW (aeA (s:={s with high:=s.Uz m}) ⟨h.cw,h.rs,h.bt⟩ m a) m
theorem CX{i:aX}(h:(lm m i).2=true):(lm m i).1.Item=m.Item:=by
 unfold lm at h⊢;split at h
 .rename_i f;rw[aQ f];rfl
 .cases h
theorem afy{s:bR}(h:(lM s m).2.2=true):(lM s m).2.1.Item=m.Item:=by
 unfold lM at h⊢;dsimp only at h⊢;split at h
 .rename_i Y;rw[aQ Y];rfl
 .rename_i Y;rw[aM Y];split at h
  .rename_i N;rw[aQ N];unfold jR at h⊢;dsimp only at h⊢;split at h
   .rename_i R;rw[aQ R];rfl
   .grind [CX]
  .rename_i N;rw[aM N];split at h
   .rename_i R;rw[aQ R];unfold jS at h⊢;dsimp only at h⊢;split at h
    .rename_i Z;rw[aQ Z];rfl
    .grind [CX]
   .rename_i R;rw[aM R];split at h
    .rename_i Z;rw[aQ Z];unfold mQ at h⊢;dsimp only at h⊢;split at h
     .rename_i a;rw[aQ a];rfl
     .grind [CX]
    .split at h<;>cases h
theorem Ih{s:bR}{X:Int}(h:(c4 s X m).2.2=true):(c4 s X m).2.1.Item=m.Item:=by grind [c4,afy]
def ag2{s:aC}(h:RepG s)(K:bq m.Item 7=true)(d:eH):RepG (s.Uq m d):=by
 have Y:RepG {s with aA:=(c4 s.aA s.self m).1,X:=d}:=⟨h.cw,h.rs,h.bt⟩
 cases p:(c4 s.aA s.self m).2.2
 .grind [xT]
 .rw[xU d p];refine Y.send λT G=>?_;grind [List.mem_singleton.1,Ih]
def ae1(s:aC)(m:aD)(d:eH):(s.Uq m d).X=d/\(s.Uq m d).n=s.n:=by unfold aC.Uq;split<;>exact⟨rfl,rfl⟩
def nl.aA{s:aC}{x:ag}(h:nl s x d):d.aA=s.aA/\d.X=s.X/\d.n=s.n:=by obtain⟨o,_,rfl⟩:=h.go;exact⟨rfl,rfl,rfl⟩
def iF.aA{s:aC}{x:ag}(h:iF s x d):d.aA=s.aA/\d.X=s.X/\d.n=s.n:=by grind [iF]
def fG.cQ{s:aC}(h:eO k s)(K:bq m.Item 7=true)(q:fG s m d):eO (k+3) d:=by
 have y:bq m.Item 7=true:=K;rcases q with⟨_,d,X,Q,q⟩|⟨_,q⟩
 .have b:=h.toRepI.Uq m d;have x:=ag2 h.toRepG K d;have T:=vV s m d;have K:=ae1 s m d;have p:=H6 s.self (m:=m) h.aA;have L:=h.da;rcases q with⟨_,q⟩|⟨_,q⟩
  .obtain⟨c,Y,z⟩:=q.aA;exact⟨(q.cQ b).mono ac,q.We x,by rw[c,T];exact p.1,by rw[c,T,z,K.2,p.2];exact h.en,Uh,by rw[Y,K.1];omega⟩
  .obtain⟨c,Y,z⟩:=q.aA;exact⟨(q.cQ b y).mono ac,q.We x,by rw[c,T];exact p.1,by rw[c,T,z,K.2,p.2];exact h.en,Uh,by rw[Y,K.1];omega⟩
 .have u:=q.core;have X:=u.b;have K:=u.a;simp only[ny]at X K;have L:=h.da;exact⟨(h.toRepI.of u.a).mono ac,q.We h.toRepG,by rw[X.1];exact h.aA,by rw[X.1,K.1];exact h.en,by rw[X.1,X.2.1];exact h.sp,by rw[X.2.1];omega⟩
inductive jt:aC->aC->Prop where
 |refl (s:aC):jt s s
 |step {s s1 s2:aC} {m:aD} {rest:List aD} (h:jt s s1) (ao:s1.inbox=m::rest) (dO:fG {s1 with inbox:=rest} m s2):jt s s2
def jT(s d:aC):Prop:=∃s1,jt s s1/\s1.inbox=[]/\k3 s1 d
def Q0(s:aC):s.inbox.length<=s.O':=by
 unfold aC.O' fH;have:∀l:ab aD,l.length<=(l.map mS).sum:=λl=>by
  induction l with
  |nil=>exact cD _
  |cons m l d=>
   have:=(ul m).1;rw[e7,xV,dD];omega
 have:=this s.inbox;omega
def eO.rest{s:aC}(h:eO k s){rest:ab aD}(ao:s.inbox=m::rest):eO k {s with inbox:=rest}/\bq m.Item 7=true/\({s with inbox:=rest}:aC).O'+mS m=s.O':=by refine⟨⟨h.toRepI.of rfl,⟨h.cw,h.rs,λT G=>h.bt T (by rw[ao];exact hI _ G)⟩,h.aA,h.en,h.sp,h.da⟩,h.bt m (by rw[ao];exact gS ..),?_⟩;unfold aC.O' fH;dsimp only;rw[ao,e7,xV];omega
def adk{s:aC}(m:aD)(b:∀x e,a8 s.leads x=some e->ip e.v s.n s.self x e.v.bj)(a:s.n<=7):(s.Uw m).out.length<=s.out.length+7:=by
 unfold aC.Uw;split
 .omega
 .rename_i e L;have y:=a6.Va (tZ (b _ _ L) m) a;have T:=s4 ({s with leads:=bx s.leads m.Item ⟨e.p,e.q,(e.v.y' m).1⟩}:aC) (e.v.y' m).1.E';dsimp only at T;split
  .split
   .dsimp only;omega
   .omega
  .dsimp only;omega
def fG.out{s:aC}(h:eO k s)(q:fG s m d):d.out.length<=s.out.length+14:=by
 rcases q with⟨_,o,_,_,q⟩|⟨_,a,rfl⟩
 .have Y:(s.Uq m o).out.length<=s.out.length+1:=by
   cases p:(c4 s.aA s.self m).2.2
   .rw[xT o p];dsimp only;omega
   .rw[xU o p];exact(s4 _ _).2
  rcases q with⟨_,q⟩|⟨_,q⟩
  .obtain⟨W,_,rfl⟩:=q.go;dsimp only;omega
  .unfold iF at q;subst q;dsimp only;omega
 .have Y:=CS (s:={s with high:=s.Uz m}) m a (λx e L=>(h.w.rs x e L).1);have N:=adk (s:=({s with high:=s.Uz m}:aC).Up m a) m (λx e L=>by rw[Y.1]at L;rw[Y.2.1,Y.2.2.1];exact h.w.cw x e L) (by rw[Y.2.1];exact h.gO.2)
  have R:=Y.2.2.2.2;dsimp only at R;omega
def fG.told{s:aC}(q:fG s m d):d.told=s.told:=by
 rcases q with⟨_,o,_,_,q⟩|⟨_,q⟩
 .have Y:(s.Uq m o).told=s.told:=by unfold aC.Uq;split<;>rfl
  rcases q with⟨_,q⟩|⟨_,q⟩
  .obtain⟨W,_,rfl⟩:=q.go;exact Y
  .unfold iF at q;subst q;exact Y
 .have:=q.core.b;simp only[ny]at this;exact this.2.2.2.2
def CY(b:Nat)(L:cW)(s:aC)(k:Nat)(h:eO k s)(cc:k+3*s.O'<=1000000000000)(Yc:s.O'<=100000)(dy:s.out.length+14*s.O'<=800000)(j:s.told.length<=1000000):ar prog 61 [aw b 0] (cb b L s++[cJ]) (λr J=>∃T d,jT s d/\r=.tuple #[]/\J=cb b T d++[cJ]):=by
 refine aE func61 λW=>?_;generalize bn _=D;refine aa 2 ?_;refine ah.cp [0] (λz:cW×aC×Nat=>jt s z.2.1/\eO (k+3*z.2.2) z.2.1/\z.2.1.O'+z.2.2<=s.O'/\z.2.1.out.length<=s.out.length+14*z.2.2/\z.2.1.told=s.told) (λz=>[]) (λz=>cb b z.1 z.2.1++[cJ]) (λz=>z.2.1.O') (L,s,0) ⟨.refl s,h,cD _,cD _,rfl⟩ ?_;rintro⟨⟨o,Y,p,dS,C,g,ek,el,M,U,R,w,Z,bS⟩,s1,i⟩⟨y,P,G,u,a⟩ K x;dsimp only at y P G u a;have F:=Q0 s1;unfold cb eN;refine bl ?_;refine ah.fact (sG (f:=aD.c) (v:=w) (l:=s1.inbox) aD.len T1) λq=>?_;obtain⟨n,Q,bt,off,rfl,N,t⟩:=q;cases ao:s1.inbox with
 |nil=>
  clear x;have m:=ar.frame (be:=[cJ]) (H1 b ⟨o,Y,p,dS,C,g,ek,el,M,U,R,.slice n s1.inbox.length Q,Z,bS⟩ s1 (k+3*i) P.toRepI ac (by rw[a];exact j));have X:=ar.post (X:=λr J=>∃T d,k3 s1 d/\r=.tuple #[]/\J=cb b T d++[cJ]) m (by rintro v J⟨_,⟨T,d,E,rfl,rfl⟩,rfl⟩;exact⟨_,⟨T,d,E,rfl,rfl⟩,λ_ _ _ h=>h⟩);unfold cb eN at X;dsimp only[List.cons_append,List.nil_append]at X;rw[ao]at X;refine aa 20 ?_;refine Tq λX T q=>?_;all_goals exact⟨_,_,⟨_,_,⟨s1,y,ao,TX⟩,rfl,rfl⟩,Uc⟩
 |cons m h=>
  obtain⟨D,j,E⟩:=P.rest ao;have J:=(ul m).1;rw[ao]at t N;have w:(m::h).length=h.length+1:=rfl;have q:((m::h).map aD.c)[0]?=some m.c:=rfl;have J:bd .gtr (((m::h).length:Nat):Int) 0=some true:=by simp only[bd,dD];congr 1;rw[dl];omega
  refine aa 8 ?_;refine ai.v (V.cmp rfl rfl J) ?_;refine aa 12 ?_;refine ai.v (V.Vm ad (k:=0) rfl rfl t (z:=T3)) ?_;refine ai.v (V.Ux ad rfl t q) ?_;refine aq 0 λJ=>?_;refine aa 3 ?_;refine ah.aa0 (f:=aD.c) (E:=176) (g:=25) (m:=n) (l:=m::h) (q:=Q) 1 aD.len T3 ?_ (t:=Uc);have r:=H7 b ⟨o,Y,p,dS,C,g,ek,el,M,U,R,.slice (Go.ay.partAt n Q 1 25) ((m::h).length-1) (Q-1),Z,bS⟩ {s1 with inbox:=h} (k+3*i) m D.z ac j (by rw[ao,w]at F;dsimp only;omega) Lk;unfold cb eN at r;dsimp only[List.cons_append,List.nil_append]at r;dsimp only[List.drop_succ_cons,List.drop_zero];refine aa 7 ?_;refine ai.v (V.UU ad (i:=1) rfl rfl T3) ?_;refine aa 9 ?_;refine Tq λp P q=>?_;have U:fG {s1 with inbox:=h} m P:=TX
  have aW:=U.O' D.z.toRepW;have h:=U.out D;dsimp only at h;all_goals(refine Out.z' x (p,P,i+1) ?_ (by show P.O'<s1.O';omega);exact ⟨.step y ao U,U.cQ D j,by show P.O'+(i+1)<=s.O';omega,by show P.out.length<=s.out.length+14*(i+1);omega,U.told.trans a⟩)
def aC.flush(s:aC):aC:={s with aA:={s.aA with safe:=(s.aA.data.length:Int)},out:=[],told:=[]}
def afL(b:Nat)(L:cW)(s:aC):ar prog 62 [aw b 0] (cb b L s) (λr J=>∃u t n F Q,r=.tuple #[.slice t s.out.length n,.slice F s.told.length Q]/\J=rows b8.c (.slice t s.out.length n) 143 3 s.out::rows fF.c (.slice F s.told.length Q) 65 6 s.told::cb b u s.flush):=by have w:=aec L.ec s.bQ s.X s.aA;obtain⟨o,k,D,N,Y,E,Z,C,d,h,T,z,x,bS⟩:=L;unfold cb eN;dsimp only at w⊢;refine aE func62 λW=>?_;refine ah.fact (iD (f:=b8.c) (v:=x) (l:=s.out) b8.len T1) λK=>?_;obtain⟨t,n,bW,rfl,a⟩:=K;refine ah.fact (iD (f:=fF.c) (v:=bS) (l:=s.told) fF.Vt T1) λK=>?_;obtain⟨F,Q,q,rfl,m⟩:=K;refine ah.Ur b8.c 143 3 ?_;refine ah.Ur fF.c 65 6 ?_;refine aa 27 ?_;refine ah.n' ?_ aB.j.j.j.j.j.j.j.j.j.j.j.j.d'.j.j.j;refine ae 10 0 ?_;refine aa 24 ?_;all_goals exact⟨_,_,⟨⟨o,k,D,N,Y,E,Z,C,d,h,T,z,.slice none 0 0,.slice none 0 0⟩,t,n,F,Q,rfl,rfl⟩,Uc⟩
def Ii:dr prog 13 [.pointer none] (.pointer none):=by refine aE func13 λW=>?_;exact aP 21
def adt(b:Nat)(L:cW)(s:aC):ar prog 13 [aw b 0] (cb b L s) (λr J=>r=aw L.ec 0/\J=cb b L s):=by unfold cb eN;refine aE func13 λW=>?_;exact aP 26
def jt.cQ{s s1:aC}(h:eO k s)(Q:jt s s1):∃i,eO (k+3*i) s1/\s1.O'+i<=s.O':=by
 induction Q with
 |refl=>exact⟨0,h,cD _⟩
 |step _ ao K d=>
  obtain⟨i,L,l⟩:=d;obtain⟨D,G,l⟩:=L.rest ao;have:=K.O' D.z.toRepW;exact⟨i+1,K.cQ D G,ac⟩
def k3.ZE{s:aC}(h:eO k s)(K:k3 s d):eO (k+448) d:=by obtain⟨c,Y,z,N,M,F,Z,_⟩:=K.same;have X:=h.da;exact⟨K.cQ h.toRepI,⟨by rw[z,M,F];exact h.cw,by rw[N,M,F];exact h.rs,by rw[Z];exact h.bt⟩,by rw[c];exact h.aA,by rw[c,M];exact h.en,by rw[c,Y];exact h.sp,by rw[Y];omega⟩
def p5(m:aD):Prop:=m.Kind=8->cH m.bB 7=true
structure dV(s:aC):Prop where
 en:(s.leads.map (·.1)).Nodup
 e4:(s.bp.map (·.1)).Nodup
 bF:∀y∈s.high,cH y.2 7=true
 i8:∀m∈s.inbox,p5 m
theorem aiJ(a b:bm):j1 a b=a\/j1 a b=b:=by grind [j1]
theorem Ij:∀(l:ab bm) (a:bm),(l.foldl j1 a=a\/l.foldl j1 a∈l)
 |[],a=>.inl rfl
 |b::l,a=>by
  rw[qh];rcases Ij l (j1 a b)with h|h
  .grind [aiJ,List.mem_cons_self]
  .grind
def Ik{a:bm}{l:ab bm}(K:cH a n=true)(T:∀b∈l,cH b n=true):cH (kQ (a::l)) n=true:=by
 show cH (l.foldl j1 a) n=true
 grind [Ij]
def CZ:cH bm.z 7=true:=rfl
def aC.abA{s:aC}(h:∀y∈s.high,cH y.2 7=true)(K:p5 m):∀y∈s.Uz m,cH y.2 7=true:=by
 intro y F;unfold aC.Uz at F;split at F
 .rename_i U;rcases vY F with rfl|F
  .refine Ik ?_ (by simpa using K U);cases G:a8 s.high m.Item with
   |none=>exact CZ
   |some b=>exact h _ (ml G)
  .exact h y F
 .exact h y F
def dV.send{s:aC}(h:dV s){l:ab aD}(T:∀m∈l,p5 m):dV (s.send l):=by
 refine⟨h.en,h.e4,h.bF,λm K=>?_⟩;have K:m∈s.inbox++fa s.self l:=K;rcases fd.1 K with K|K
 .exact h.i8 m K
 .exact T m (oz.1 K).1
def qV{k:Int}(h:m.Kind=k)(u:k≠8):p5 m:=λU=>absurd (h.symm.trans U) u
theorem zL(l:a6):∀m∈l.E',p5 m:=by
 intro m K;unfold a6.E' at K;split at K
 .unfold a6.Uy at K;obtain⟨i,_,rfl⟩:=eS.1 K;refine qV (k:=i9 l.phase) rfl ?_;grind [i9]
 .cases K
def C0(r:bL):∀m∈r.E',p5 m:=by
 intro m K;unfold bL.E' at K;split at K
 .cases K
 .split at K
  .grind [zL]
  .obtain⟨i,_,rfl⟩:=eS.1 K;exact qV (k:=6) rfl T6
def C1{i:aX}(ao:cH i.bO 7=true):p5 (lm m i).1:=by
 unfold lm;split
 .exactλ_=>ao
 exact Sv
theorem afJ{s:bR}(X:Int)(m:aD)(h:s.ok):p5 (c4 s X m).2.1:=by
 have ao:cH (bP s.p m.Item).bO 7=true:=pT (mJ (vQ h m.Item)).1 Qq;unfold c4;split
 .unfold lM;dsimp only;split
  .exact qV (k:=5) rfl T6
  split
  .unfold jR;dsimp only;split
   .exact qV (k:=2) rfl T6
   .exact C1 ao
  split
  .unfold jS;dsimp only;split
   .exact qV (k:=4) rfl T6
   .exact C1 ao
  split
  .unfold mQ;dsimp only;split
   .exact qV (k:=7) rfl T6
   .exact C1 ao
  split
  exact Sv
  exact Sv
 exact Sv
def Q6{s:aC}(h:dV s)(T:s.aA.ok)(m:aD)(d:eH):dV (s.Uq m d):=by
 have Y:dV {s with aA:=(c4 s.aA s.self m).1,X:=d}:=⟨h.en,h.e4,h.bF,h.i8⟩
 cases p:(c4 s.aA s.self m).2.2
 .grind [xT]
 .rw[xU d p];exact Y.send λT G=>by grind [List.mem_singleton.1,afJ]
def nl.U7{s:aC}{x:ag}(h:dV s)(K:nl s x d):dV d:=by obtain⟨o,q,rfl⟩:=K.go;exact⟨sE h.en,sE h.e4,λy F=>h.bF y ((pM _ _).subset F),h.i8⟩
def iF.U7{s:aC}{x:ag}(h:dV s)(K:iF s x d):dV d:=by
 unfold iF at K;subst K;refine⟨?_,?_,h.bF,h.i8⟩
 .show((s.UW x (bP s.aA.p x).bO).map (·.1)).Nodup;unfold aC.UW;split
  .split
   .exact sE h.en
   .exact h.en
  .exact h.en
 .show((s.UX x (bP s.aA.p x).bO).map (·.1)).Nodup;unfold aC.UX;split
  .split
   .exact sE h.e4
   .exact h.e4
  .exact h.e4
def af0{s:aC}(h:dV s)(m:aD)(a:Nat):dV (s.Up m a):=by
 unfold aC.Up;split
 .exact h
 .rename_i e L;have M:dV {s with bp:=bx s.bp m.Item ⟨e.p,a,(e.v.y' m).1⟩}:=⟨h.en,qy h.e4,h.bF,h.i8⟩
  have y:=M.send (C0 (e.v.y' m).1);split
  .split
   .exact⟨y.en,sE y.e4,y.bF,y.i8⟩
   .exact y
  .exact M
def ajg{s:aC}(h:dV s)(m:aD):dV (s.Uw m):=by
 unfold aC.Uw;split
 .exact h
 .rename_i e L;have M:dV {s with leads:=bx s.leads m.Item ⟨e.p,e.q,(e.v.y' m).1⟩}:=⟨qy h.en,h.e4,h.bF,h.i8⟩
  have y:=M.send (zL (e.v.y' m).1);split
  .split
   .exact⟨sE y.en,y.e4,y.bF,y.i8⟩
   .exact y
  .exact M
def fG.U7{s:aC}(h:dV s)(T:s.aA.ok)(K:p5 m)(q:fG s m d):dV d:=by
 rcases q with⟨_,o,X,Q,q⟩|⟨_,a,rfl⟩
 .have Y:=Q6 h T m o;rcases q with⟨_,q⟩|⟨_,q⟩
  .exact q.U7 Y
  .exact q.U7 Y
 .exact ajg (af0 (s:={s with high:=s.Uz m}) ⟨h.en,h.e4,aC.abA h.bF K,h.i8⟩ m a) m
def k3.U7{s:aC}(h:dV s)(K:k3 s d):dV d:=by obtain⟨c,Y,z,N,M,F,Z,f,m,i,_⟩:=K.same;exact⟨by rw[z];exact h.en,by rw[N];exact h.e4,by rw[i];exact h.bF,by rw[Z];exact h.i8⟩
def jt.U7{s s1:aC}(o:eO k s)(h:dV s)(Q:jt s s1):dV s1:=by
 induction Q with
 |refl=>exact h
 |@step s1 s2 m l Q ao K d=>
  obtain⟨i,L,_⟩:=Q.cQ o;have w:dV {s1 with inbox:=l}:=⟨d.en,d.e4,d.bF,λm K=>d.i8 m Uh⟩
  exact K.U7 w L.aA (d.i8 _ Uh)
def Il{t:Type}(W:t->Nat)(c:Nat)(l:ab (ag×er t))(h:∀y∈l,W y.2.v<=c):mT W l<=c*l.length:=by
 unfold mT;induction l with
 |nil=>exact cO _
 |cons y l d=>
  have Y:=h y (gS ..);grind [List.mem_cons_of_mem,List.length_cons,Nat.mul_succ]
def Im{t:Type}(l:ab (ag×er t))(h:(l.map (·.1)).Nodup)(G:∀y∈l,bq y.1 7=true):l.length<=448:=by grind [rJ,List.mem_map.1,List.length_map]
def bL.Wd{r:bL}(h:r.ok):r.Ul<=4:=by
 unfold bL.Ul;split
 .omega
 .split
  .rename_i l T;have:=a6.Wd (h.cw l T);omega
  .omega
def eO.VT{s:aC}(h:eO k s)(W:dV s):s.O'<=12544+fH s.inbox:=by have E:=Im s.leads W.en λy F=>(h.cw y F).2;have i:=Im s.bp W.e4 λy F=>(h.rs y F).2.2.2.2;have x:=Il a6.Ul 3 s.leads λy F=>a6.Wd (h.cw y F).1;have x:=Il bL.Ul 4 s.bp λy F=>bL.Wd (h.rs y F).1;unfold aC.O';omega
def In{t:Type}(bW:er t->ab ax)(l:ab (ag×er t))(k:ag)(e:er t){W:aZ}{D:ab Nat}{C:ab ax}{w:aZ}(h:H W D (bW e++(fh bW l::C)) w):H W D (fh bW (bx l k e)::C) w:=by have Y:H W D (fh bW l::(bW e++C)) w:=h.perm (n8);have N:=uj bW l k Y;have R:H W D ((bW e++[fh bW (e9 l k)])++C) w:=N.perm (by rw[cn];exact(n8).symm);exact H.eqv ((CO bW l k e).symm.append (aO.refl C)) R
abbrev C2:aj->aj:=λv=>v
def Io{t:Type}(b:Nat)(l:ab (ag×er t)):bz cg c0 b l=bz cg C2 b (l.map λy=>(y.1,c0 y.2)):=by unfold bz;rw[uq];rfl
def Ip{t:Type}:∀(l:ab (ag×er t)) (k:ag) (e:er t),bx (l.map λy=>(y.1,c0 y.2)) k (aw e.p 0)=(bx l k e).map λy=>(y.1,c0 y.2)
 |[],k,e=>rfl
 |y::l,k,e=>by
  rw[e7,lB,lB];by_cases h:k=y.1
  .rw[aQ h,aQ h];rfl
  .rw[aM h,aM h,e7,Ip l k e]
def aC.Um(s:aC)(d:bN):a6:=iC s.n s.self (fW s.aA s.self) ⟨0,s.self⟩ ⟨d,(fm s.aA.p d (fW s.aA s.self)).1,(fm s.aA.p d (fW s.aA s.self)).2⟩ 1
def aC.US(s:aC)(d:bN)(p:Nat):aC:={s with leads:=bx s.leads (fW s.aA s.self) ⟨p,0,s.Um d⟩,dX:=bx s.dX (fW s.aA s.self) true}
noncomputable def aC.Ut(s:aC)(d:bN)(p:Nat):aC:=(s.US d p).send (s.Um d).E'
def s5(d:bN):Prop:=nE d=true/\d.Kind≠0
def nQ(s:aC)(d:bN)(x:ag)(e:Int)(o:aC):Prop:=
 (¬s5 d/\x=ag.z/\e=1/\o=s)\/(s5 d/\64<(fW s.aA s.self).bT/\x=ag.z/\e=6/\o=s)\/
 (s5 d/\(fW s.aA s.self).bT<=64/\x=fW s.aA s.self/\e=0/\∃p,jT (s.Ut d p) o)
def eO.Ut{s:aC}(h:eO k s)(d:bN)(p:Nat)(M:(fW s.aA s.self).bT<=64):eO k (s.Ut d p):=by
 have u:ip (s.Um d) s.n s.self (fW s.aA s.self) ⟨0,s.self⟩:=rL ..;have U:bq (fW s.aA s.self) 7=true:=by
  have:=h.self;have c:=h.gO;unfold bq;simp only[c5,dl];refine⟨⟨⟨this.1,by show s.self<7;omega⟩,?_⟩,M⟩;show 1<=(s.aA.p.top s.self:Int)+1
  omega
 have x:RepG (s.US d p):=by
  refine⟨λy F=>?_,h.rs,h.bt⟩;rcases vY F with rfl|F
  .exact⟨⟨u.wf,u.n,u.self,u.item,rfl,u.phase⟩,U⟩
  .exact h.cw y F
 refine⟨h.toRepI.of rfl,x.send λm K=>?_,h.aA,h.en,h.sp,h.da⟩;rw[uo u m K];exact U
def dV.Ut{s:aC}(h:dV s)(d:bN)(p:Nat):dV (s.Ut d p):=
 dV.send (s:=s.US d p) ⟨qy h.en,h.e4,h.bF,h.i8⟩ (zL _)
def Q9(b:Nat)(L:cW)(s:aC)(d:bN)(k:Nat)(h:eO k s)(dU:dV s)(ao:s.inbox=[])(cc:k<=900000000000)(dy:s.out.length<=100000)(cN:s.told.length<=1000000):ar prog 36 [aw b 0,A d.c] (cb b L s++[cJ]) (λr R=>∃bD o x e,nQ s d x e o/\r=.tuple #[A x.c,I e]/\R=cb b bD o++[cJ]):=by
 have dv:=y9 d;have Y:=h.self;have u:=aei L.ec s.bQ s.X s.aA s.self h.aA.p.towf Y.1 (by rw[h.en];exact Y.2);have M:=h.da;by_cases a:s5 d
 .have Z:nE d=true:=a.1;have g:d.Kind≠0:=a.2;have zM:bd .eql d.Kind 0=some false:=by simp[bd,g]
  have nb:=wK (show decide (cZ d)=true from Z);have k1:=HX L.ec s.bQ s.X s.aA d (fW s.aA s.self) h.aA h.sp (by have:=nb.1;omega) ac;rw[Z]at dv;by_cases l1:(fW s.aA s.self).bT<=64
  .have pE:decide ((s.aA.p.top s.self:Int)+1<=64)=true:=ic l1;rw[pE]at u;have N (p:Nat):=(h.Ut d p l1)
   have f (p:Nat):=(dU.Ut d p)
   have Yf:0<=(s.Um d).n/\(s.Um d).n<=1000:=by have:=h.gO;show 0<=s.n/\s.n<=1000;omega
   have Ye:(s.Um d).E'.length<=7:=a6.Va (rL ..) h.gO.2;have J (p:Nat) (bD:cW):=CY b bD (s.Ut d p) k (N p) (by
    have bg:=(N p).VT (f p);have bY:fH (s.Ut d p).inbox<=3:=by
     show fH (s.inbox++fa s.self (s.Um d).E')<=3
     rw[ao,gJ];exact um ..
    omega) (by
    have bg:=(N p).VT (f p);have bY:fH (s.Ut d p).inbox<=3:=by
     show fH (s.inbox++fa s.self (s.Um d).E')<=3
     rw[ao,gJ];exact um ..
    omega) (by
    have bg:=(N p).VT (f p);have bY:fH (s.Ut d p).inbox<=3:=by
     show fH (s.inbox++fa s.self (s.Um d).E')<=3
     rw[ao,gJ];exact um ..
    have cd:=(s4 (s.US d p) (s.Um d).E').2;have gX:(s.US d p).out.length=s.out.length:=rfl;have kO:((s.US d p).send (s.Um d).E').out.length=(s.Ut d p).out.length:=rfl;omega) cN
   have C:ar prog 57 [I s.n,I s.self,A (fW s.aA s.self).c,A (bm.c ⟨0,s.self⟩),A (aN.c ⟨d,(fm s.aA.p d (fW s.aA s.self)).1,(fm s.aA.p d (fW s.aA s.self)).2⟩),I 1] [] (λr R=>∃q,r=aw q 0/\R=[cells q 183 (s.Um d).c]):=Hn ..;have G (p:Nat) (cV:aT Go.Addr) (E:Nat):=uk b L (s.US d p) cV E (s.Um d).E' h.gO.2 ac (by show s.inbox.length<=_;rw[ao];decide) Q1;have P (p:Nat):=ar.V3 (bW:=jd) (l:=(s.US d p).leads) (x:=fW s.aA s.self) (e:=⟨p,0,s.Um d⟩) (Q:=λr (z:aT Go.Addr×Nat)=>r=.slice z.1 (s.Um d).E'.length z.2) (T:=λz=>rows aD.c (.slice z.1 (s.Um d).E'.length z.2) 176 25 (s.Um d).E') Rj (ar.post (ar.pr aD.len (zA p (s.Um d) Yf)) (by rintro v R⟨cV,E,rfl,rfl⟩;exact⟨_,⟨(cV,E),rfl,rfl⟩,λ_ _ _ h=>h⟩));have U (o:aC) (p:Nat) (dM:jT (s.Ut d p) o):nQ s d (fW s.aA s.self) 0 o:=.inr (.inr ⟨a,l1,rfl,rfl,p,dM⟩);have Yj (p:Nat):(s.US d p).leads=bx s.leads (fW s.aA s.self) ⟨p,0,s.Um d⟩:=rfl;clear N f M Y cc dy cN nb a;unfold aC.Ut at J U;obtain⟨ec,F,hi,dS,wp,dZ,ek,el,dP,t,bH,e0,dN,bS⟩:=L;unfold cb eN;generalize b3:fW s.aA s.self=x at*;generalize Yc:s.Um d=iG at*;dsimp only[List.cons_append,List.nil_append]at*;refine aE func36 λW=>?_;generalize bn _=D;refine Ma λgq fT=>?_;refine ai.v (V.cmp rfl rfl zM) ?_;refine aa 8 ?_;refine ah.mt [0,3,4] (λ_:Nat=>True) (λp=>[(6,aw p 0),(7,B true)]) (λp=>[cells p 46 x.c]) (i:=[]) ?_ ?_
   .intro fM m;clear J G P U k1;refine ah.n' ?_ aB.j.j.j.j.j.j.j.j.j.j.j.j.j.j.d'.j.j;refine ae 8 0 ?_;refine af.bv 8 12 rfl rfl ?_ ?_;refine av.Z' rfl (u) Uc ?_;refine R1 λnj=>?_;refine au ?_;rotate_left;refine O.N' ad (λnj=>?_);refine au ?_;refine af.p' 8 rfl rfl (u) ?_;refine Sc ?_;rotate_left;all_goals exact Out.z' m _ trivial trivial
   rintro nj-;refine bl ?_;refine aa 10 ?_;refine ah.mt [0,3,4,6] (λ_:Nat=>True) (λp=>[(8,aw p 0),(9,I (fm s.aA.p d x).2)]) (λp=>[cells p 50 (fm s.aA.p d x).1.c]) (i:=[]) ?_ ?_
   .intro fM m;clear J G P U u;refine ah.n' ?_ aB.j.j.j.j.j.j.j.j.j.j.j.j.j.j.d'.d'.j.d';refine ae 6 0 ?_;refine af.bv 6 10 rfl rfl ?_ ?_;refine av.Z' rfl (k1) Uc ?_;refine aa 2 ?_;refine ae 3 7 ?_;refine df 10 λsR=>?_;refine ae 2 11 ?_;refine au ?_;rotate_left;refine O.N' ad (λsR=>?_);refine au ?_;refine af.p' 6 rfl rfl (k1) ?_;refine aa 2 ?_;refine ae 3 7 ?_;refine ae 2 11 ?_;refine au ?_;rotate_left;all_goals exact Out.z' m _ trivial trivial
   rintro sR-;refine bl ?_;refine ah.mt [0,4,6] (λ_:Nat=>True) (λp=>[(10,aw p 0)]) (λp=>[cells p 183 iG.c]) (i:=[cells sR 50 (fm s.aA.p d x).1.c,cells gq 29 d.c]) ?_ ?_
   .intro fM m;clear J G P U u;refine ah.n' ?_ aB.j.j.j.j.j.j.j.j.j.j.j.j.j.j.d'.d'.j.d'.d';refine ae 13 0 ?_;refine ae 3 14 ?_;refine af.i' 17 rfl (V.UZ ad) ?_;refine af.q' 13 rfl (av.fn rfl (yY _) ?_);refine au ?_;refine af.p' 18 rfl rfl (C) ?_;rintro _ _⟨Yo,rfl,rfl⟩;refine aa 2 ?_;refine ae 1 19 ?_;refine au ?_;all_goals exact Out.z' m _ trivial trivial
   rintro q-;refine bl ?_;refine ah.mt [0,10,6,4] (λ_:Unit=>True) (λ_=>[]) (λ_=>[bz cg c0 F (bx s.leads x ⟨q,0,iG⟩),bz cg iX t (bx s.dX x true)]) (i:=[bz cg c0 F s.leads,bz cg iX t s.dX]) ?_ ?_
   .intro fM m;clear J G P U u k1 C;refine ah.WD (Io F s.leads) ?_;have Yk:=Ip s.leads x ⟨q,0,iG⟩;have Yh:=Io F (bx s.leads x ⟨q,0,iG⟩);rw[<-Yk]at Yh;generalize(s.leads.map λy=>(y.1,c0 y.2))=kS at*;refine ah.n' ?_ aB.j.j.j.j.j.j.j.j.j.j.j.j.j.d'.j.d'.j.j;refine ae 11 0 ?_;refine af.q' 11 rfl (av.Vo (l:=kS) (k:=x) (aU:=C2) (.pointer none) ct kw mi rfl rfl T8 (λYp=>?_));refine au ?_;refine ae 1 12 ?_;refine af.q' 13 rfl (av.V0 (l:=kS) (k:=x) (v:=aw q 0) (aU:=C2) rfl rfl rfl T4 ?_);refine au ?_;refine af.q' 14 rfl (av.Vo (l:=s.dX) (k:=x) (aU:=iX) false ct vJ zu rfl rfl T8 (λYq=>?_));refine au ?_;refine ae 1 15 ?_;refine af.q' 16 rfl (av.V0 (l:=s.dX) (k:=x) (v:=true) (aU:=iX) rfl rfl rfl T4 ?_);refine aa 2 ?_;all_goals exact Out.z' m () trivial trivial (t:=by rw[Yh];(repeat(first|exact ak.nil|exact al.here|apply ak.cons|apply al.there)))
   rintro⟨⟩-;refine bl ?_;refine ah.iN (a2:=cb b ⟨ec,F,hi,dS,wp,dZ,ek,el,dP,t,bH,e0,dN,bS⟩ (s.US d q)++[cJ,cells nj 46 x.c,cells fT 46 ag.z.c]) (λw cG=>?_) ?_
   .have bg:=cG.UP (be:=jd ⟨q,0,iG⟩++[fh jd s.leads]) (by unfold jd;(repeat(first|exact ak.nil|exact al.here|apply ak.cons|apply al.there)));rw[cn]at bg;have bY:=In jd s.leads x ⟨q,0,iG⟩ bg;exact bY.gW (g:=[]) (by unfold cb aC.US;rw[b3,Yc];(repeat(first|exact ak.nil|exact al.here|apply ak.cons|apply al.there)))
   have j:=P q;have i:=λcV E=>G q cV E;have K:=λbD=>J q bD;have Yi:=λo=>U o q;clear P G J U u k1 C;generalize s.US d q=s2 at*;unfold cb eN at K i⊢;dsimp only[List.cons_append,List.nil_append]at j i K⊢;refine aa 5 ?_;rintro _ _⟨Yr,rfl,rfl⟩;refine au ?_;refine ai.p' rfl (i _ _) ?_;rintro _ _⟨Yl,rfl,rfl⟩;refine aa 6 ?_;refine ai.p' rfl (K _) ?_;rintro _ _⟨Ym,Yn,Yg,rfl,rfl⟩;refine aa 12 ?_;all_goals exact⟨_,_,⟨_,_,x,0,Yi _ TX,rfl,rfl⟩,Uc⟩
  .have pE:decide ((s.aA.p.top s.self:Int)+1<=64)=false:=lg l1;rw[pE]at u;have U:nQ s d ag.z 6 s:=.inr (.inl ⟨a,ac,rfl,rfl,rfl⟩);clear h dU ao M Y cc dy cN nb a k1;obtain⟨ec,F,hi,dS,wp,dZ,ek,el,dP,t,bH,e0,dN,bS⟩:=L;unfold cb eN;dsimp only[List.cons_append,List.nil_append]at*;refine aE func36 λW=>?_;generalize bn _=D;refine Ma λgq fT=>?_;refine ai.v (V.cmp rfl rfl zM) ?_;refine aa 9 ?_;refine ah.n' ?_ aB.j.j.j.j.j.j.j.j.j.j.j.j.j.j.d'.j.j;refine ae 8 0 ?_;refine af.bv 8 12 rfl rfl ?_ ?_;refine av.Z' rfl (u) Uc ?_;refine R1 λnj=>?_;refine aa 20 ?_;rotate_left;refine O.N' ad (λnj=>?_);refine au ?_;refine af.p' 8 rfl rfl (u) ?_;refine aa 2 ?_;refine ae 3 9 ?_;refine ae 2 13 ?_;refine aa 20 ?_;rotate_left;all_goals exact⟨_,_,⟨⟨ec,F,hi,dS,wp,dZ,ek,el,dP,t,bH,e0,dN,bS⟩,s,ag.z,6,U,rfl,rfl⟩,Uc⟩
 .have U:nQ s d ag.z 1 s:=.inl ⟨a,rfl,rfl,rfl⟩;clear h dU ao M Y cc dy cN u;obtain⟨ec,F,hi,dS,wp,dZ,ek,el,dP,t,bH,e0,dN,bS⟩:=L;unfold cb eN;dsimp only[List.cons_append,List.nil_append]at*;refine aE func36 λW=>?_;generalize bn _=D;cases Z:nE d
  .rw[Z]at dv;refine aq 2 λgq=>?_;refine aq 0 λfT=>?_;refine aa 38 ?_;all_goals exact⟨_,_,⟨⟨ec,F,hi,dS,wp,dZ,ek,el,dP,t,bH,e0,dN,bS⟩,s,ag.z,1,U,rfl,rfl⟩,Uc⟩
  .rw[Z]at dv;have g:d.Kind=0:=Classical.byContradiction λq=>a ⟨Z,q⟩;have zM:bd .eql d.Kind 0=some true:=by simp[bd,g]
   refine Ma λgq fT=>?_;refine ai.v (V.cmp rfl rfl zM) ?_;refine aa 16 ?_;all_goals exact⟨_,_,⟨⟨ec,F,hi,dS,wp,dZ,ek,el,dP,t,bH,e0,dN,bS⟩,s,ag.z,1,U,rfl,rfl⟩,Uc⟩
def pu(s:aC)(m:aD)(e:Int)(d:aC):Prop:=
 ((m.bK≠s.self\/m.bh=s.self)/\e=4/\d=s)\/(m.bK=s.self/\m.bh≠s.self/\e=0/\∃s1,fG s m s1/\jT s1 d)
def Iq(a:n<=7)(h:hx m n):p5 m:=λ_=>pT h.bj a
def C3{s:aC}(h:s.inbox=[]):fH s.inbox=0:=by rw[h];rfl
def zN{s s1:aC}(h:eO k s)(W:dV s)(ao:s.inbox=[])(K:fG s m s1):s1.O'<=12547:=by have Y:=h.VT W;have N:=K.O' h.z.toRepW;have R:=C3 ao;have Z:=(ul m).2;omega
def Ra(b:Nat)(L:cW)(s:aC)(m:aD)(k:Nat)(h:eO k s)(W:dV s)(ao:s.inbox=[])(K:hx m s.n)(u:k<=900000000000)(p:s.out.length<=100000)(j:s.told.length<=1000000):ar prog 66 [aw b 0,S (gM m)] (cb b L s++[cJ]) (λr J=>∃T d e,pu s m e d/\r=I e/\J=cb b T d++[cJ]):=by
 have f:=MN m s.n h.gO.2 K;have r:=H7 b L s k m h.z ac (pS K.item h.gO.2) (by rw[ao];decide) ac;have R (s1:aC) (Q:fG s m s1) (T:cW):=CY b T s1 (k+3) (Q.cQ h (pS K.item h.gO.2)) (by have:=zN h W ao Q;omega) (by have:=zN h W ao Q;omega) (by have:=zN h W ao Q;have:=Q.out h;omega) (by rw[Q.told];exact j);have F (s1 d:aC) (Y:m.bK=s.self) (N:m.bh≠s.self) (Q:fG s m s1) (w:jT s1 d):pu s m 0 d:=.inr ⟨Y,N,rfl,s1,Q,w⟩;have b (Y:m.bK≠s.self\/m.bh=s.self):pu s m 4 s:=.inl ⟨Y,rfl,rfl⟩;clear h W ao K u p j;obtain⟨o,k,G,M,J,u,Z,C,z,h,X,P,x,bS⟩:=L;by_cases Y:m.bK=s.self
 .by_cases N:m.bh=s.self
  .clear R r F;unfold cb eN;refine bl ?_;refine aE func66 λW=>?_;generalize bn _=D;refine Pw λg=>?_;refine ae 12 0 ?_;refine bE 29 ?_;refine ae 8 12 ?_;refine aa 11 ?_;rotate_left;all_goals exact⟨_,_,⟨⟨o,k,G,M,J,u,Z,C,z,h,X,P,x,bS⟩,s,_,b (.inr N),rfl,rfl⟩,Uc⟩
  .have c:bd .neq m.bK s.self=some false:=by simp[bd,Y]
   have U:bd .eql m.bh s.self=some false:=by simp[bd,N]
   unfold cb eN at r⊢;dsimp only[List.cons_append,List.nil_append]at r⊢;refine aE func66 λW=>?_;generalize bn _=D;refine Pw λg=>?_;refine ae 9 0 ?_;refine af.i' 9 rfl (V.cmp rfl rfl c) ?_;refine ae 8 10 ?_;refine af.i' 18 rfl (V.cmp rfl rfl U) ?_;refine ae 1 19 ?_;refine aa 10 ?_;refine Tq λU f l=>?_;have E:fG s m f:=TX
   have l:=λT=>R _ E T;have q:=λd=>F _ d Y N E;unfold cb eN at l;dsimp only[List.cons_append,List.nil_append]at l;refine aa 3 ?_;refine ai.p' rfl (l _) ?_;rintro _ _⟨f,t,E,rfl,rfl⟩;refine aa 10 ?_;all_goals exact⟨_,_,⟨_,_,0,q _ TX,rfl,rfl⟩,Uc⟩
 .clear R r F;unfold cb eN;refine bl ?_;refine aE func66 λW=>?_;generalize bn _=D;refine Pw λg=>?_;refine ae 12 0 ?_;refine bE 29 ?_;refine ae 8 12 ?_;refine aa 11 ?_;rotate_left;all_goals exact⟨_,_,⟨⟨o,k,G,M,J,u,Z,C,z,h,X,P,x,bS⟩,s,_,b (.inl Y),rfl,rfl⟩,Uc⟩
end Go.Proofs.YteogojgnkjegmaaGreatDoor
namespace Go.Proofs.YteogojgnkjegmaaGreatDoor
open Go.ay Go.Proofs.Tryz
def ur(N:Int)(R:ab br)(Z:ab ag)(h:ab br):Prop:=
 ∃k,Z=(R.take k).map (·.key)/\h=R.drop k/\(∀y∈R.take k,y.due<=N)/\∀s,h.head?=some s->N<s.due
structure ac9 where
 v:aj
 l:ab ag
 b:kW
def afo(p a c:Nat)(F:Int)(v:aj)(t:Int)(pl:ab br)(T:pl.length<=100000):ar prog 93 [.slice none 0 0,.func (.func 133) #[] #[aw a 0,aw c 0]] ([cells a 192 [aw p 0],cells c 3 [I F]]++fu p v t pl) (λr J=>∃u Z L Yf,ur F pl Z Yf/\r=u/\J=rows ag.c u 46 2 Z::fu p L t Yf):=by
 unfold fu;refine bl ?_;refine aE func93 λW=>?_;refine ah.Ur ag.c 46 2 ?_;refine aa 2 ?_;refine ai.o (O.UQ (λoG=>?_));refine aa 10 ?_;refine ah.aaW (adW p a c F ⟨v,t,pl⟩) (λy:ac9=>y.b) (λy=>[cells oG 98 [y.v],rows ag.c y.v 46 2 y.l]) (λj y=>j<=pl.length/\y.l=(pl.take j).map (·.key)/\y.b.l=pl.drop j/\y.b.t=t/\∀z∈pl.take j,z.due<=F) (λ_ _ _=>False) ⟨.slice none 0 0,[],⟨v,t,pl⟩⟩ pl.length (λj y h=>h.1) rfl ⟨cO _,rfl,rfl,rfl,T3⟩ ?_ ?_ ?_
 .rintro j i⟨u,l,b⟩ U cp rec⟨m,Y,N,R,C⟩⟨s,x,g,Q,n,M,P,om,nB⟩ d eI jk K k;dsimp only at Y N R n om nB;subst P;have X:j<pl.length:=by
   have:(pl.drop j).length=(s::x).length:=by rw[<-N,n]
   rw[k9,dD]at this;omega
  have q:pl.drop j=s::x:=by rw[<-N,n]
  have Yi:pl[j]?=some s:=by rw[<-List.head?_drop,q];rfl
  have Yc:pl.take (j+1)=pl.take j++[s]:=by rw[oj,Yi];rfl
  have Yg:l.length<=100000:=by rw[Y,eT,fp];omega
  subst nB;unfold kW.E fu;refine bl ?_;refine aq 1 λD=>?_;refine aa 7 ?_;refine ai.o (O.Q' ad ag.c [s.key] rfl (bI.agg rfl bI.nil) rfl rfl (λYe=>?_));refine ai.o (O.Vj ad rfl rfl T8 (cq.rows (f:=ag.c) (l:=[s.key]) ad T1 ag.F') (λYh Yj Yk=>?_));refine aa 3 ?_;all_goals exact Out.aaN k ⟨_,l++[s.key],⟨.slice (some ⟨g,0,none⟩) x.length Q,b.t,x⟩⟩ ⟨ac,by rw[Yc,jo,<-Y];rfl,by rw[<-rb,q];rfl,R,by
   intro z w;rw[Yc]at w;rcases fd.1 w with w|w
   .exact C z w
   .rw[i2.1 w];exact M⟩
 .rintro j⟨u,l,b⟩ rF⟨m,Y,N,R,C⟩ G;obtain⟨ab8,gu,zD⟩:=b;dsimp only at Y N R G;subst Y N R;unfold kW.E fu;refine bl ?_;refine aa 10 ?_;all_goals exact⟨_,_,⟨_,_,_,_,⟨j,rfl,rfl,C,G⟩,rfl,rfl⟩,Uc⟩
 .rintro _ _ _ _ _ _ h;exact h.elim
def acQ(p a c:Nat)(N:Int)(v:aj)(t:Int)(R:ab br)(T:R.length<=100000):ar prog 70 [.func (.func 133) #[] #[aw a 0,aw c 0]] ([cells a 192 [aw p 0],cells c 3 [I N]]++fu p v t R) (λr J=>∃u Z g s,ur N R Z s/\r=u/\J=rows ag.c u 46 2 Z::fu p g t s):=by have b:=afo p a c N v t R T;unfold fu at*;dsimp only[List.cons_append,List.nil_append]at*;refine aE func70 λW=>?_;refine aa 9 ?_;rintro _ _⟨o,W,L,z,E,rfl,rfl⟩;refine aa 6 ?_;all_goals exact⟨_,_,⟨_,_,_,_,TX,rfl,rfl⟩,Uc⟩
end Go.Proofs.YteogojgnkjegmaaGreatDoor
