/-
 Part of the proof.
-/
import Derived.Test.YteogojgnkjegmaaGreatDoorXt
set_option linter.all false
set_option maxRecDepth 8000
set_option maxHeartbeats 8000000
namespace Go.Proofs.YteogojgnkjegmaaGreatDoor
open Go.ay Go.Proofs.Tryz
variable[Go.ay.bR]
def Og{l m:ab Nat}(h:l.Sublist m):l.sum<=m.sum:=by
 induction h with
 |slnil=>exact cl _
 |cons a _ u=>rw[v8];omega
 |cons_cons a _ u=>rw[v8,v8];omega
def uf{m:aD}{k:Int}(h:m.Kind=k)(T:k≠1/\k≠3/\k≠6):lF m<3:=by grind [lF]
section
variable{F:Type}(Y:F->Nat)
def lG(l:ab (ag×dQ F)):Nat:=(l.map λy=>Y y.2.v).sum
def AK(l:ab (ag×dQ F))(k:ag)(e:dQ F):lG Y (bw l k e)=Y e.v+lG Y (eC l k):=by grind [lG,AC]
def FU{l:ab (ag×dQ F)}{k:ag}{e:dQ F}(h:br l k=some e):lG Y l=Y e.v+lG Y (eC l k):=by have:=AK Y l k e;rwa[AD h]at this
theorem wa(l:ab (ag×dQ F))(k:ag):lG Y (eC l k)<=lG Y l:=by unfold lG;exact Og ((m6 l k).map _)
end
def aC.J'(s:aC):Nat:=4*(lG a2.U' s.leads+lG bO.U' s.bp)+fg s.inbox
def AL(s:aC)(l:ab aD):(s.send l).J'=s.J'+fg (ez s.self l):=by grind [aC.send,aC.J',ue]
def mA.J'{s z:aC}{x:ag}(h:mA s x z):z.J'<=s.J':=by obtain⟨p,_,rfl⟩:=h.go;grind [aC.J',wa,a2.U',bO.U']
def h8.J'{s z:aC}{x:ag}(h:h8 s x z):z.J'<=s.J':=by
 have e:=h;unfold h8 at e;subst e;have U:lG a2.U' (s.Sb x (b7 s.aH.p x).cJ)<=lG a2.U' s.leads:=by
  unfold aC.Sb;split
  .split
   .exact wa ..
   .exact cl _
  .exact cl _
 have M:lG bO.U' (s.Sc x (b7 s.aH.p x).cJ)<=lG bO.U' s.bp:=by
  unfold aC.Sc;split
  .split
   .exact wa ..
   .exact cl _
  .exact cl _
 grind [aC.J']
def adG{s:bE}{J:Int}{m:aD}(h:(cN s J m).2.2=true):lF (cN s J m).2.1<lF m:=by
 unfold cN at h⊢;split at h
 .rename_i q;rw[aT q];have T:∀(h:m.Kind=1\/m.Kind=3\/m.Kind=6),lF m=3:=λh=>by unfold lF;rw[aT h]
  unfold kz at h⊢;dsimp only at h⊢;split at h
  .rename_i U;rw[aT U,T U.1];exact uf (k:=5) rfl XG
  .rename_i U;rw[aN U];have o (i:ba):lF (kg m i).1<3:=by
    unfold kg;split
    .exact uf (k:=8) rfl XG
    .exact uf (k:=0) rfl XG
   split at h
   .rename_i M;rw[aT M,T (.inl M)];unfold k3;dsimp only;split
    .exact uf (k:=2) rfl XG
    .exact o _
   .rename_i M;rw[aN M];split at h
    .rename_i g;rw[aT g,T (.inr (.inl g))];unfold lC;dsimp only;split
     .exact uf (k:=4) rfl XG
     .exact o _
    .rename_i g;rw[aN g];split at h
     .rename_i z;rw[aT z,T (.inr (.inr z))];unfold lD;dsimp only;split
      .exact uf (k:=7) rfl XG
      .exact o _
     .split at h<;>cases h
 .cases h
def aal(s:aC)(m:aD)(G:dZ):(s.Z' m G).J'<s.J'+lF m:=by
 have y:=(sC m).1;cases h:(cN s.aH s.self m).2.2
 .rw[v6 G h];show s.J'<_
  omega
 .rw[v7 G h,AL];have U:=adG h;have M:fg (ez s.self [(cN s.aH s.self m).2.1])<=lF (cN s.aH s.self m).2.1:=by unfold ez fg;rw[wX];split<;>simp
  show s.J'+fg (ez s.self [(cN s.aH s.self m).2.1])<_
  omega
def Oj{s:aC}(m:aD)(w:Nat)(a:∀x e,br s.bp x=some e->e.v.ok):(s.RO m w).J'<=s.J':=by
 unfold aC.RO;split
 .exact cl _
 .rename_i e d;have U:=FU bO.U' d;have M:=AK bO.U' s.bp m.Item (⟨e.p,w,(e.v.z' m).1⟩:dQ bO);have g:=Of (a _ _ d) m;have g:=AJ s.self (e.v.z' m).1;have N:=wa bO.U' (bw s.bp m.Item (⟨e.p,w,(e.v.z' m).1⟩:dQ bO)) m.Item;dsimp only at M;have K:(({s with bp:=bw s.bp m.Item ⟨e.p,w,(e.v.z' m).1⟩}:aC).send (e.v.z' m).1.C').J'=({s with bp:=bw s.bp m.Item ⟨e.p,w,(e.v.z' m).1⟩}:aC).J'+fg (ez s.self (e.v.z' m).1.C'):=AL ..;grind [aC.J',aC.send,ue]
def Ol{s:aC}(m:aD)(a:∀x e,br s.leads x=some e->∃n W it D,hp e.v n W it D):(s.R5 m).J'<=s.J':=by
 unfold aC.R5;split
 .exact cl _
 .rename_i e d;obtain⟨n,W,it,D,T⟩:=a _ _ d;have U:=FU a2.U' d;have M:=AK a2.U' s.leads m.Item (⟨e.p,e.q,(e.v.z' m).1⟩:dQ a2);have g:=FP m T;have g:=sD s.self (e.v.z' m).1;have N:=wa a2.U' (bw s.leads m.Item (⟨e.p,e.q,(e.v.z' m).1⟩:dQ a2)) m.Item;dsimp only at M;have K:(({s with leads:=bw s.leads m.Item ⟨e.p,e.q,(e.v.z' m).1⟩}:aC).send (e.v.z' m).1.C').J'=({s with leads:=bw s.leads m.Item ⟨e.p,e.q,(e.v.z' m).1⟩}:aC).J'+fg (ez s.self (e.v.z' m).1.C'):=AL ..;grind [aC.J',aC.send,ue]
def fK.J'{s z:aC}{m:aD}(a:RepW s)(h:fK s m z):z.J'<s.J'+lF m:=by
 rcases h with⟨_,G,_,_,h⟩|⟨_,w,rfl⟩
 .have U:=aal s m G;rcases h with⟨_,h⟩|⟨_,h⟩
  .have:=h.J';omega
  .have:=h.J';omega
 .have U:=(sC m).1;have M:=Oj (s:={s with high:=s.RT m}) m w (λx e d=>(a.rs x e d).1);have f:({s with high:=s.RT m}:aC).J'=s.J':=rfl;have Q:=AI (s:={s with high:=s.RT m}) m w (λx e d=>(a.rs x e d).1);have g:=Ol (s:=({s with high:=s.RT m}:aC).RO m w) m (λx e d=>by rw[Q.1]at d;exact⟨_,_,_,_,a.cC x e d⟩)
  omega
end Go.Proofs.YteogojgnkjegmaaGreatDoor
namespace Go.Proofs.YteogojgnkjegmaaGreatDoor
open Go.ay Go.Proofs.Tryz
variable[Go.ay.bR]
variable{k:Nat}{m:aD}{D:Type}{n:Int}
def FV{n J k:Int}{N:lY}:∀(Z:ab ag) (st:Int×ab bi),ku st.1 st.2->(∀y∈st.2,bB y.key 7=true)->(∀x∈Z,bB x 7=true)->∀y∈(g5 n J k N Z st).2,bB y.key 7=true
 |[],_,_,h,_=>h
 |x::Z,st,m,h,U=>by
  have e:g5 n J k N (x::Z) st=g5 n J k N Z (nU n J k N st x):=rfl;rw[e];refine FV Z _ (EI m).1 ?_ λy G=>U y (hn _ G);intro y G;unfold nU at G;split at G
  .exact h y G
  .rcases FF m G with rfl|G
   .exact U x (iT ..)
   .exact h y G
def jX.mono{y:Nat}{s:aC}(h:jX k s)(T:k<=y):jX y s:=
 ⟨h.w,by have:=h.t;omega,h.aW,h.td,λx=>by have:=h.bC x;omega⟩
def jX.hC{k:Nat}{s:aC}(h:jX k s)(l:ab ag)(E:∀x∈l,bB x 7=true){z:aC}(y:z.de=(g5 s.n s.self s.now s.eT l (s.de,s.pl)).1)(J:z.pl=(g5 s.n s.self s.now s.eT l (s.de,s.pl)).2)(p:z.eT=s.eT):jX (k+l.length) z:=by
 have F:=zW (n:=s.n) (U:=s.self) (k:=s.now) (J:=s.eT) l (s.de,s.pl) h.w;have j:=h.t;refine⟨by rw[y,J];exact F.1,?_,?_,by rw[p];exact h.td,λx=>by rw[p];have:=h.bC x;omega⟩
 .rw[y];have:=F.2.2;dsimp only at this;omega
 .rw[J];exact FV l (s.de,s.pl) h.w h.aW E
def GoR.Xk{s z:cQ}{Z:ab ag}(f:gS n s)(h:GoR n s Z z):s.done.length+Z.length<=z.done.length:=by
 rw[<-bM];refine Aj ?_ ?_
 .rw[gV];refine⟨f.dn,h.jW,λa o b R e=>?_⟩;subst e;have:=(f.sr a).1 o;rw[(h.is a R).2]at this;cases this
 .intro x U;rw[h.ok.sr x,h.dH x,ib,da];rcases eN.1 U with U|U
  .exact .inl ((f.sr x).1 U)
  .exact .inr U
def ki.cx{s z:aC}(h:RepI k s)(o:ki s z):RepI (k+448) z:=by obtain⟨Z,p,X,x,G,q,K,j,N,rfl⟩:=o.go;have x:=K.len;refine⟨h.n,h.self,h.now,q.ok,N.1.mono (GoR.Xk h.run q.toGoR),?_⟩;refine jX.mono (k:=k+G.length) (jX.hC h.fs G (λx U=>(K.aW x U).2) ?_ ?_ ?_) ac<;>rfl
def ki.same{s z:aC}(o:ki s z):z.aH=s.aH/\z.X=s.X/\z.leads=s.leads/\z.bp=s.bp/\z.n=s.n/\z.self=s.self/\z.inbox=s.inbox/\z.out=s.out/\z.dw=s.dw/\z.high=s.high/\z.now=s.now/\z.bD=s.bD:=by obtain⟨Z,p,Q,k,G,q,K,j,N,rfl⟩:=o.go;exact⟨rfl,rfl,rfl,rfl,rfl,rfl,rfl,rfl,rfl,rfl,rfl,rfl⟩
def jX.drop{s:aC}(h:jX k s)(x:ag){z:aC}(b:z.de=s.de)(J:z.pl=hv x s.pl)(p:z.eT=eC s.eT x):jX k z:=by
 refine⟨by rw[b,J];exact h.w.del x,by rw[b];exact h.t,?_,by rw[p];exact q5 h.td,λy=>?_⟩
 .rw[J,xB h.w.kV];intro y G;exact h.aW y ((xC x s.pl).subset G)
 .rw[p];have:=h.bC y;unfold Go.Proofs.YteogojgnkjegmaaGreatDoor.bC at*;rw[w1 h.td];split
  .simp
  .exact this
def mA.cx{s z:aC}{x:ag}(h:RepI k s)(o:mA s x z):RepI k z:=by
 obtain⟨p,u,rfl⟩:=o.go;refine⟨h.n,h.self,h.now,h.run.R2 u,?_,?_⟩
 .show jg p.done.length s.M;rw[u.2.1];exact h.M
 .refine jX.drop h.fs x ?_ ?_ ?_<;>rfl
def h8.cx{s z:aC}{x:ag}(h:RepI k s)(U:bB x 7=true)(o:h8 s x z):RepI (k+1) z:=by unfold h8 at o;subst o;refine⟨h.n,h.self,h.now,h.run,h.M,?_⟩;refine jX.hC h.fs [x] (by simpa using U) ?_ ?_ ?_<;>rfl
def RepI.mono{y:Nat}{s:aC}(h:RepI k s)(T:k<=y):RepI y s:=⟨h.n,h.self,h.now,h.run,h.M,h.fs.mono T⟩
def RepI.of{s z:aC}(h:RepI k s)(e:(z.n,z.self,z.now,z.run,z.M,z.de,z.pl,z.eT)=(s.n,s.self,s.now,s.run,s.M,s.de,s.pl,s.eT)):RepI k z:=by simp only[md]at e;obtain⟨y,J,p,T,c,u,m,R⟩:=e;exact⟨by rw[y];exact h.n,by rw[y,J];exact h.self,by rw[p];exact h.now,by rw[y,T];exact h.run,by rw[T,c];exact h.M,⟨by rw[u,m];exact h.fs.w,by rw[u];exact h.fs.t,by rw[m];exact h.fs.aW,by rw[R];exact h.fs.td,λx=>by rw[R];exact h.fs.bC x⟩⟩
def lH{D o:Type}[DecidableEq D]:∀{l:ab (D×o)} {k:D} {v:o},br l k=some v->(k,v)∈l
 |[],k,v,h=>by grind [mi]
 |p::l,k,v,h=>by
  rw[jp]at h;split at h
  .grind
  .exact hn _ (lH h)
def oK{o:Type}[DecidableEq D]{l:ab (D×o)}{k:D}{v:o}{y:D×o}(h:y∈bw l k v):y=(k,v)\/y∈l:=by
 induction l with
 |nil=>rw[oe]at h;exact .inl XV
 |cons p l u=>
  rw[ka]at h;grind
structure RepG(s:aC):Prop where
 cC:∀y∈s.leads,hp y.2.v s.n s.self y.1 y.2.v.b2/\bB y.1 7=true
 rs:∀y∈s.bp,y.2.v.ok/\y.2.v.x.n=s.n/\y.2.v.x.self=s.self/\y.2.v.x.item=y.1/\bB y.1 7=true
 dy:∀m∈s.inbox,bB m.Item 7=true
def RepG.w{s:aC}(h:RepG s):RepW s:=
 ⟨λx e d=>(h.cC _ (lH d)).1,λx e d=>⟨(h.rs _ (lH d)).1,(h.rs _ (lH d)).2.1⟩⟩
structure eI(k:Nat)(s:aC):Prop extends RepI k s,RepG s where
 aH:s.aH.ok
 eF:s.aH.n=s.n
 sp:hg s.X.L s.aH.p
 cU:s.X.L.cU<=k
def eI.z{s:aC}(h:eI k s):FM k s:=⟨h.toRepI,h.toRepG.w,h.aH,h.eF,h.sp,h.cU⟩
def RepG.send{s:aC}(h:RepG s){l:ab aD}(E:∀m∈l,bB m.Item 7=true):RepG (s.send l):=by
 refine⟨h.cC,h.rs,λm K=>?_⟩;have K:m∈s.inbox++ez s.self l:=K;rcases eN.1 K with K|K
 .exact h.dy m K
 .exact E m (r3.1 K).1
def mA.Tt{s z:aC}{x:ag}(h:RepG s)(o:mA s x z):RepG z:=by obtain⟨p,u,rfl⟩:=o.go;exact⟨λy G=>h.cC y ((m6 _ _).subset G),λy G=>h.rs y ((m6 _ _).subset G),h.dy⟩
def h8.Tt{s z:aC}{x:ag}(h:RepG s)(o:h8 s x z):RepG z:=by
 unfold h8 at o;subst o;refine⟨λy G=>?_,λy G=>?_,h.dy⟩
 .have G:y∈s.Sb x (b7 s.aH.p x).cJ:=G;unfold aC.Sb at G;split at G
  .split at G
   .exact h.cC y ((m6 _ _).subset G)
   .exact h.cC y G
  .exact h.cC y G
 .have G:y∈s.Sc x (b7 s.aH.p x).cJ:=G;unfold aC.Sc at G;split at G
  .split at G
   .exact h.rs y ((m6 _ _).subset G)
   .exact h.rs y G
  .exact h.rs y G
theorem xU{l:a2}{W:Int}{it:ag}{D:bk}(k:hp l n W it D):∀m∈l.C',m.Item=it:=by
 unfold a2.C';split
 .intro m K;unfold a2.R3 at K;obtain⟨i,_,rfl⟩:=fh.1 K;exact k.item
 .intro m K;cases K
theorem AM{r:bO}(h:r.ok):∀m∈r.C',m.Item=r.x.item:=by
 unfold bO.C';split
 .intro m K;cases K
 .split
  .rename_i l E;exact xU (h.cC l E)
  .intro m K;obtain⟨i,_,rfl⟩:=fh.1 K;rfl
def Om(r:bO)(m:aD):(r.z' m).1.x.n=r.x.n/\(r.z' m).1.x.self=r.x.self/\(r.z' m).1.x.item=r.x.item/\(r.z' m).1.x.b2=r.x.b2:=by
 unfold bO.z';split
 .exact⟨rfl,rfl,rfl,rfl⟩
 .split
  .exact⟨rfl,rfl,rfl,rfl⟩
  . (repeat' split);all_goals exact⟨rfl,rfl,rfl,rfl⟩
def On{s:aC}(h:RepG s)(m:aD)(w:Nat):RepG (s.RO m w):=by
 unfold aC.RO;split
 .exact h
 .rename_i e d;obtain⟨F,M,g,z,N⟩:=h.rs _ (lH d);have Q:=Om e.v m;have W:=F.z' m;have E:RepG {s with bp:=bw s.bp m.Item ⟨e.p,w,(e.v.z' m).1⟩}:=by
   refine⟨h.cC,λy G=>?_,h.dy⟩;rcases oK G with rfl|G
   .grind
   .exact h.rs y G
  have k:RepG (({s with bp:=bw s.bp m.Item ⟨e.p,w,(e.v.z' m).1⟩}:aC).send (e.v.z' m).1.C'):=E.send λx J=>by grind [AM]
  split
  .split
   .exact⟨k.cC,λy G=>k.rs y ((m6 _ _).subset G),k.dy⟩
   .exact k
  .exact E
def Oo{s:aC}(h:RepG s)(m:aD):RepG (s.R5 m):=by
 unfold aC.R5;split
 .exact h
 .rename_i e d;obtain⟨F,N⟩:=h.cC _ (lH d);have T:=xJ F m;have C:hp (e.v.z' m).1 s.n s.self m.Item (e.v.z' m).1.b2:=⟨T.wf,T.n,T.self,T.item,rfl,T.phase⟩
  have E:RepG {s with leads:=bw s.leads m.Item ⟨e.p,e.q,(e.v.z' m).1⟩}:=by
   refine⟨λy G=>?_,h.rs,h.dy⟩;rcases oK G with rfl|G
   .exact⟨C,N⟩
   .exact h.cC y G
  have k:RepG (({s with leads:=bw s.leads m.Item ⟨e.p,e.q,(e.v.z' m).1⟩}:aC).send (e.v.z' m).1.C'):=E.send λx J=>by grind [xU]
  split
  .split
   .exact⟨λy G=>k.cC y ((m6 _ _).subset G),k.rs,k.dy⟩
   .exact k
  .exact E
structure aC.core(s cn:aC):Prop where
 a:(cn.n,cn.self,cn.now,cn.run,cn.M,cn.de,cn.pl,cn.eT)=(s.n,s.self,s.now,s.run,s.M,s.de,s.pl,s.eT)
 b:(cn.aH,cn.X,cn.bD,cn.dw,cn.told)=(s.aH,s.X,s.bD,s.dw,s.told)
def aC.core.trans{s t u:aC}(h:aC.core s t)(k:aC.core t u):aC.core s u:=⟨k.a.trans h.a,k.b.trans h.b⟩
def Oq(s:aC)(m:aD)(w:Nat):aC.core s (s.RO m w):=by
 unfold aC.RO;repeat' split
 all_goals exact⟨wb _,wb _⟩
def adY(s:aC)(m:aD):aC.core s (s.R5 m):=by
 unfold aC.R5;repeat' split
 all_goals exact⟨wb _,wb _⟩
def rv.core{s z:aC}(h:rv s m z):aC.core s z:=by obtain⟨w,rfl⟩:=h;exact((⟨wb _,wb _⟩:aC.core s {s with high:=s.RT m}).trans (Oq _ m w)).trans (adY _ m)
def rv.Tt{s z:aC}(h:RepG s)(u:rv s m z):RepG z:=by obtain⟨w,rfl⟩:=u;exact Oo (On (s:={s with high:=s.RT m}) ⟨h.cC,h.rs,h.dy⟩ m w) m
theorem AN{i:ba}(h:(kg m i).2=true):(kg m i).1.Item=m.Item:=by
 unfold kg at h⊢;split at h
 .rename_i o;rw[aT o];rfl
 .cases h
theorem afn{s:bE}(h:(kz s m).2.2=true):(kz s m).2.1.Item=m.Item:=by
 unfold kz at h⊢;dsimp only at h⊢;split at h
 .rename_i F;rw[aT F];rfl
 .rename_i F;rw[aN F];split at h
  .rename_i M;rw[aT M];unfold k3 at h⊢;dsimp only at h⊢;split at h
   .rename_i g;rw[aT g];rfl
   .grind [AN]
  .rename_i M;rw[aN M];split at h
   .rename_i g;rw[aT g];unfold lC at h⊢;dsimp only at h⊢;split at h
    .rename_i z;rw[aT z];rfl
    .grind [AN]
   .rename_i g;rw[aN g];split at h
    .rename_i z;rw[aT z];unfold lD at h⊢;dsimp only at h⊢;split at h
     .rename_i N;rw[aT N];rfl
     .grind [AN]
    .split at h<;>cases h
theorem acd{s:bE}{U:Int}(h:(cN s U m).2.2=true):(cN s U m).2.1.Item=m.Item:=by grind [cN,afn]
def ado{s:aC}(h:RepG s)(K:bB m.Item 7=true)(G:dZ):RepG (s.Z' m G):=by
 have F:RepG {s with aH:=(cN s.aH s.self m).1,X:=G}:=⟨h.cC,h.rs,h.dy⟩
 cases Z:(cN s.aH s.self m).2.2
 .grind [v6]
 .rw[v7 G Z];refine F.send λx J=>?_;grind [List.mem_singleton.1,acd]
def af1(s:aC)(m:aD)(G:dZ):(s.Z' m G).X=G/\(s.Z' m G).n=s.n:=by unfold aC.Z';split<;>exact⟨rfl,rfl⟩
def mA.aH{s z:aC}{x:ag}(h:mA s x z):z.aH=s.aH/\z.X=s.X/\z.n=s.n:=by obtain⟨p,_,rfl⟩:=h.go;exact⟨rfl,rfl,rfl⟩
def h8.aH{s z:aC}{x:ag}(h:h8 s x z):z.aH=s.aH/\z.X=s.X/\z.n=s.n:=by grind [h8]
def fK.cx{s z:aC}(h:eI k s)(K:bB m.Item 7=true)(u:fK s m z):eI (k+3) z:=by
 have k:bB m.Item 7=true:=K;rcases u with⟨_,G,R,Q,u⟩|⟨_,u⟩
 .have j:=h.toRepI.Z' m G;have N:=ado h.toRepG K G;have E:=ud s m G;have P:=af1 s m G;have Z:=FN s.self (m:=m) h.aH;have G:=h.cU;rcases u with⟨_,u⟩|⟨_,u⟩
  .obtain⟨y,J,p⟩:=u.aH;exact⟨(u.cx j).mono ac,u.Tt N,by rw[y,E];exact Z.1,by rw[y,E,p,P.2,Z.2];exact h.eF,XK,by rw[J,P.1];omega⟩
  .obtain⟨y,J,p⟩:=u.aH;exact⟨(u.cx j k).mono ac,u.Tt N,by rw[y,E];exact Z.1,by rw[y,E,p,P.2,Z.2];exact h.eF,XK,by rw[J,P.1];omega⟩
 .have T:=u.core;have R:=T.b;have o:=T.a;simp only[md]at R o;have G:=h.cU;exact⟨(h.toRepI.of T.a).mono ac,u.Tt h.toRepG,by rw[R.1];exact h.aH,by rw[R.1,o.1];exact h.eF,by rw[R.1,R.2.1];exact h.sp,by rw[R.2.1];omega⟩
inductive iH:aC->aC->Prop where
 |refl (s:aC):iH s s
 |step {s s1 s2:aC} {m:aD} {rest:List aD} (h:iH s s1) (ao:s1.inbox=m::rest) (fF:fK {s1 with inbox:=rest} m s2):iH s s2
def jB(s z:aC):Prop:=∃s1,iH s s1/\s1.inbox=[]/\ki s1 z
def aaj(s:aC):s.inbox.length<=s.J':=by
 unfold aC.J' fg;have:∀l:ab aD,l.length<=(l.map lF).sum:=λl=>by
  induction l with
  |nil=>exact cl _
  |cons m l u=>
   have:=(sC m).1;rw[eK,v8,dp];omega
 have:=this s.inbox;omega
def eI.rest{s:aC}(h:eI k s){rest:ab aD}(ao:s.inbox=m::rest):eI k {s with inbox:=rest}/\bB m.Item 7=true/\({s with inbox:=rest}:aC).J'+lF m=s.J':=by refine⟨⟨h.toRepI.of rfl,⟨h.cC,h.rs,λx J=>h.dy x (by rw[ao];exact hn _ J)⟩,h.aH,h.eF,h.sp,h.cU⟩,h.dy m (by rw[ao];exact iT ..),?_⟩;unfold aC.J' fg;dsimp only;rw[ao,eK,v8];omega
def ab5{s:aC}(m:aD)(p:∀x e,br s.leads x=some e->hp e.v s.n s.self x e.v.b2)(a:s.n<=7):(s.R5 m).out.length<=s.out.length+7:=by
 unfold aC.R5;split
 .omega
 .rename_i e d;have k:=a2.Su (xJ (p _ _ d) m) a;have E:=rx ({s with leads:=bw s.leads m.Item ⟨e.p,e.q,(e.v.z' m).1⟩}:aC) (e.v.z' m).1.C';dsimp only at E;split
  .split
   .dsimp only;omega
   .omega
  .dsimp only;omega
def fK.out{s z:aC}(h:eI k s)(u:fK s m z):z.out.length<=s.out.length+14:=by
 rcases u with⟨_,G,_,_,u⟩|⟨_,c,rfl⟩
 .have F:(s.Z' m G).out.length<=s.out.length+1:=by
   cases Z:(cN s.aH s.self m).2.2
   .rw[v6 G Z];dsimp only;omega
   .rw[v7 G Z];exact(rx _ _).2
  rcases u with⟨_,u⟩|⟨_,u⟩
  .obtain⟨p,_,rfl⟩:=u.go;dsimp only;omega
  .unfold h8 at u;subst u;dsimp only;omega
 .have F:=AI (s:={s with high:=s.RT m}) m c (λx e d=>(h.w.rs x e d).1);have M:=ab5 (s:=({s with high:=s.RT m}:aC).RO m c) m (λx e d=>by rw[F.1]at d;rw[F.2.1,F.2.2.1];exact h.w.cC x e d) (by rw[F.2.1];exact h.hN.2)
  have g:=F.2.2.2.2;dsimp only at g;omega
def fK.told{s z:aC}(u:fK s m z):z.told=s.told:=by
 rcases u with⟨_,G,_,_,u⟩|⟨_,u⟩
 .have F:(s.Z' m G).told=s.told:=by unfold aC.Z';split<;>rfl
  rcases u with⟨_,u⟩|⟨_,u⟩
  .obtain⟨p,_,rfl⟩:=u.go;exact F
  .unfold h8 at u;subst u;exact F
 .have:=u.core.b;simp only[md]at this;exact this.2.2.2.2
def AO(b:Nat)(L:cO)(s:aC)(k:Nat)(h:eI k s)(cc:k+3*s.J'<=1000000000000)(Yc:s.J'<=100000)(dz:s.out.length+14*s.J'<=800000)(m:s.told.length<=1000000):ar prog 61 [au b 0] (bX b L s++[cv]) (λr Y=>∃n j,jB s j/\r=.tuple #[]/\Y=bX b n j++[cv]):=by
 refine aB func61 λW=>?_;generalize bg _=D;refine aa 2 ?_;refine ah.cb [0] (λz:cO×aC×Nat=>iH s z.2.1/\eI (k+3*z.2.2) z.2.1/\z.2.1.J'+z.2.2<=s.J'/\z.2.1.out.length<=s.out.length+14*z.2.2/\z.2.1.told=s.told) (λz=>[]) (λz=>bX b z.1 z.2.1++[cv]) (λz=>z.2.1.J') (L,s,0) ⟨.refl s,h,cl _,cl _,rfl⟩ ?_;rintro⟨⟨t,F,M,dt,g,U,dI,dJ,u,J,X,q,G,bC⟩,s1,i⟩⟨a,Z,Q,P,o⟩ K p;dsimp only at a Z Q P o;have w:=aaj s1;unfold bX ec;refine bh ?_;refine ah.fact (q6 (f:=aD.c) (v:=q) (l:=s1.inbox) aD.len XB) λE=>?_;obtain⟨y,C,dy,off,rfl,x,T⟩:=E;cases ao:s1.inbox with
 |nil=>
  clear p;have d:=ar.frame (bc:=[cv]) (FH b ⟨t,F,M,dt,g,U,dI,dJ,u,J,X,.slice y s1.inbox.length C,G,bC⟩ s1 (k+3*i) Z.toRepI ac (by rw[o];exact m));have R:=ar.post (K:=λr Y=>∃n j,ki s1 j/\r=.tuple #[]/\Y=bX b n j++[cv]) d (by rintro v Y⟨_,⟨n,j,N,rfl,rfl⟩,rfl⟩;exact⟨_,⟨n,j,N,rfl,rfl⟩,λ_ _ _ h=>h⟩);unfold bX ec at R;dsimp only[List.cons_append,List.nil_append]at R;rw[ao]at R;refine aa 20 ?_;refine Rf λK Q R=>?_;all_goals exact⟨_,_,⟨_,_,⟨s1,a,ao,XF⟩,rfl,rfl⟩,XC⟩
 |cons m n=>
  obtain⟨q,N,P⟩:=Z.rest ao;have L:=(sC m).1;rw[ao]at T x;have d:(m::n).length=n.length+1:=rfl;have R:((m::n).map aD.c)[0]?=some m.c:=rfl;have W:a8 .gtr (((m::n).length:Nat):Int) 0=some true:=by simp only[a8,dp];congr 1;rw[da];omega
  refine aa 8 ?_;refine ai.v (V.cmp rfl rfl W) ?_;refine aa 12 ?_;refine ai.v (V.SG ad (k:=0) rfl rfl T (z:=XE)) ?_;refine ai.v (V.RP ad rfl T R) ?_;refine aq 0 λL=>?_;refine aa 3 ?_;refine ah.WL (f:=aD.c) (E:=176) (u:=25) (y:=y) (l:=m::n) (K:=C) 1 aD.len XE ?_ (T:=XC);have W:=FO b ⟨t,F,M,dt,g,U,dI,dJ,u,J,X,.slice (Go.ay.partAt y C 1 25) ((m::n).length-1) (C-1),G,bC⟩ {s1 with inbox:=n} (k+3*i) m q.z ac N (by rw[ao,d]at w;dsimp only;omega) X5;unfold bX ec at W;dsimp only[List.cons_append,List.nil_append]at W;dsimp only[List.drop_succ_cons,List.drop_zero];refine aa 7 ?_;refine ai.v (V.Sf ad (i:=1) rfl rfl XE) ?_;refine aa 9 ?_;refine Rf λw T R=>?_;have U:fK {s1 with inbox:=n} m T:=XF
  have bb:=U.J' q.z.toRepW;have l:=U.out q;dsimp only at l;all_goals(refine Out.t' p (w,T,i+1) ?_ (by show T.J'<s1.J';omega);exact ⟨.step a ao U,U.cx q N,by show T.J'+(i+1)<=s.J';omega,by show T.out.length<=s.out.length+14*(i+1);omega,U.told.trans o⟩)
def aC.flush(s:aC):aC:={s with aH:={s.aH with safe:=(s.aH.data.length:Int)},out:=[],told:=[]}
def afk(b:Nat)(L:cO)(s:aC):ar prog 62 [au b 0] (bX b L s) (λr Y=>∃n Q i h k,r=.tuple #[.slice Q s.out.length i,.slice h s.told.length k]/\Y=rows b0.c (.slice Q s.out.length i) 143 3 s.out::rows ff.c (.slice h s.told.length k) 65 6 s.told::bX b n s.flush):=by have a:=ab0 L.dC s.bD s.X s.aH;obtain⟨E,m,x,w,d,U,p,y,F,j,R,J,P,bC⟩:=L;unfold bX ec;dsimp only at a⊢;refine aB func62 λW=>?_;refine ah.fact (hM (f:=b0.c) (v:=P) (l:=s.out) b0.len XB) λK=>?_;obtain⟨Q,i,bG,rfl,Z⟩:=K;refine ah.fact (hM (f:=ff.c) (v:=bC) (l:=s.told) ff.SN XB) λK=>?_;obtain⟨h,k,G,rfl,N⟩:=K;refine ah.RK b0.c 143 3 ?_;refine ah.RK ff.c 65 6 ?_;refine aa 27 ?_;refine ah.n' ?_ aA.j.j.j.j.j.j.j.j.j.j.j.j.d'.j.j.j;refine ae 10 0 ?_;refine aa 24 ?_;all_goals exact⟨_,_,⟨⟨E,m,x,w,d,U,p,y,F,j,R,J,.slice none 0 0,.slice none 0 0⟩,Q,i,h,k,rfl,rfl⟩,XC⟩
def aac:cX prog 13 [.pointer none] (.pointer none):=by refine aB func13 λW=>?_;exact aM 21
def OC(b:Nat)(L:cO)(s:aC):ar prog 13 [au b 0] (bX b L s) (λr Y=>r=au L.dC 0/\Y=bX b L s):=by unfold bX ec;refine aB func13 λW=>?_;exact aM 26
def iH.cx{s s1:aC}(h:eI k s)(Q:iH s s1):∃i,eI (k+3*i) s1/\s1.J'+i<=s.J':=by
 induction Q with
 |refl=>exact⟨0,h,cl _⟩
 |step _ ao K u=>
  obtain⟨i,Z,z⟩:=u;obtain⟨E,q,b⟩:=Z.rest ao;have:=K.J' E.z.toRepW;exact⟨i+1,K.cx E q,ac⟩
def ki.Vy{s z:aC}(h:eI k s)(o:ki s z):eI (k+448) z:=by obtain⟨y,J,p,T,c,u,w,_⟩:=o.same;have R:=h.cU;exact⟨o.cx h.toRepI,⟨by rw[p,c,u];exact h.cC,by rw[T,c,u];exact h.rs,by rw[w];exact h.dy⟩,by rw[y];exact h.aH,by rw[y,c];exact h.eF,by rw[y,J];exact h.sp,by rw[J];omega⟩
def n0(m:aD):Prop:=m.Kind=8->eD m.ch 7=true
structure dR(s:aC):Prop where
 eF:(s.leads.map (·.1)).Nodup
 gw:(s.bp.map (·.1)).Nodup
 bU:∀y∈s.high,eD y.2 7=true
 i8:∀m∈s.inbox,n0 m
theorem aa8(a b:bk):nN a b=a\/nN a b=b:=by grind [nN]
theorem FW:∀(l:ab bk) (a:bk),(l.foldl nN a=a\/l.foldl nN a∈l)
 |[],a=>.inl rfl
 |b::l,a=>by
  rw[n6];rcases FW l (nN a b)with h|h
  .grind [aa8,List.mem_cons_self]
  .grind
def FX{a:bk}{l:ab bk}(o:eD a n=true)(E:∀b∈l,eD b n=true):eD (kb (a::l)) n=true:=by
 show eD (l.foldl nN a) n=true
 grind [FW]
def FY:eD bk.z 7=true:=rfl
def aC.Xl{s:aC}(h:∀y∈s.high,eD y.2 7=true)(K:n0 m):∀y∈s.RT m,eD y.2 7=true:=by
 intro y G;unfold aC.RT at G;split at G
 .rename_i v;rcases oK G with rfl|G
  .refine FX ?_ (by simpa using K v);cases q:br s.high m.Item with
   |none=>exact FY
   |some b=>exact h _ (lH q)
  .exact h y G
 .exact h y G
def dR.send{s:aC}(h:dR s){l:ab aD}(E:∀m∈l,n0 m):dR (s.send l):=by
 refine⟨h.eF,h.gw,h.bU,λm K=>?_⟩;have K:m∈s.inbox++ez s.self l:=K;rcases eN.1 K with K|K
 .exact h.i8 m K
 .exact E m (r3.1 K).1
def pA{k:Int}(h:m.Kind=k)(T:k≠8):n0 m:=λv=>absurd (h.symm.trans v) T
theorem xV(l:a2):∀m∈l.C',n0 m:=by
 intro m K;unfold a2.C' at K;split at K
 .unfold a2.R3 at K;obtain⟨i,_,rfl⟩:=fh.1 K;refine pA (k:=ps l.phase) rfl ?_;grind [ps]
 .cases K
def AP(r:bO):∀m∈r.C',n0 m:=by
 intro m K;unfold bO.C' at K;split at K
 .cases K
 .split at K
  .grind [xV]
  .obtain⟨i,_,rfl⟩:=fh.1 K;exact pA (k:=6) rfl XG
def AQ{i:ba}(ao:eD i.cJ 7=true):n0 (kg m i).1:=by
 unfold kg;split
 .exactλ_=>ao
 exact Lo
theorem OE{s:bE}(U:Int)(m:aD)(h:s.ok):n0 (cN s U m).2.1:=by
 have ao:eD (b7 s.p m.Item).cJ 7=true:=rj (nS (tZ h m.Item)).1 ZD;unfold cN;split
 .unfold kz;dsimp only;split
  .exact pA (k:=5) rfl XG
  split
  .unfold k3;dsimp only;split
   .exact pA (k:=2) rfl XG
   .exact AQ ao
  split
  .unfold lC;dsimp only;split
   .exact pA (k:=4) rfl XG
   .exact AQ ao
  split
  .unfold lD;dsimp only;split
   .exact pA (k:=7) rfl XG
   .exact AQ ao
  split
  exact Lo
  exact Lo
 exact Lo
def abz{s:aC}(h:dR s)(E:s.aH.ok)(m:aD)(G:dZ):dR (s.Z' m G):=by
 have F:dR {s with aH:=(cN s.aH s.self m).1,X:=G}:=⟨h.eF,h.gw,h.bU,h.i8⟩
 cases Z:(cN s.aH s.self m).2.2
 .grind [v6]
 .rw[v7 G Z];exact F.send λx J=>by grind [List.mem_singleton.1,OE]
def mA.Ss{s z:aC}{x:ag}(h:dR s)(o:mA s x z):dR z:=by obtain⟨p,u,rfl⟩:=o.go;exact⟨q5 h.eF,q5 h.gw,λy G=>h.bU y ((m6 _ _).subset G),h.i8⟩
def h8.Ss{s z:aC}{x:ag}(h:dR s)(o:h8 s x z):dR z:=by
 unfold h8 at o;subst o;refine⟨?_,?_,h.bU,h.i8⟩
 .show((s.Sb x (b7 s.aH.p x).cJ).map (·.1)).Nodup;unfold aC.Sb;split
  .split
   .exact q5 h.eF
   .exact h.eF
  .exact h.eF
 .show((s.Sc x (b7 s.aH.p x).cJ).map (·.1)).Nodup;unfold aC.Sc;split
  .split
   .exact q5 h.gw
   .exact h.gw
  .exact h.gw
def OG{s:aC}(h:dR s)(m:aD)(w:Nat):dR (s.RO m w):=by
 unfold aC.RO;split
 .exact h
 .rename_i e d;have E:dR {s with bp:=bw s.bp m.Item ⟨e.p,w,(e.v.z' m).1⟩}:=⟨h.eF,p1 h.gw,h.bU,h.i8⟩
  have s:=E.send (AP (e.v.z' m).1);split
  .split
   .exact⟨s.eF,q5 s.gw,s.bU,s.i8⟩
   .exact s
  .exact E
def OH{s:aC}(h:dR s)(m:aD):dR (s.R5 m):=by
 unfold aC.R5;split
 .exact h
 .rename_i e d;have E:dR {s with leads:=bw s.leads m.Item ⟨e.p,e.q,(e.v.z' m).1⟩}:=⟨p1 h.eF,h.gw,h.bU,h.i8⟩
  have s:=E.send (xV (e.v.z' m).1);split
  .split
   .exact⟨q5 s.eF,s.gw,s.bU,s.i8⟩
   .exact s
  .exact E
def fK.Ss{s z:aC}(h:dR s)(E:s.aH.ok)(K:n0 m)(u:fK s m z):dR z:=by
 rcases u with⟨_,G,R,Q,u⟩|⟨_,w,rfl⟩
 .have F:=abz h E m G;rcases u with⟨_,u⟩|⟨_,u⟩
  .exact u.Ss F
  .exact u.Ss F
 .exact OH (OG (s:={s with high:=s.RT m}) ⟨h.eF,h.gw,aC.Xl h.bU K,h.i8⟩ m w) m
def ki.Ss{s z:aC}(h:dR s)(o:ki s z):dR z:=by obtain⟨y,J,p,T,c,u,w,R,i,K,_⟩:=o.same;exact⟨by rw[p];exact h.eF,by rw[T];exact h.gw,by rw[K];exact h.bU,by rw[w];exact h.i8⟩
def iH.Ss{s s1:aC}(f:eI k s)(h:dR s)(Q:iH s s1):dR s1:=by
 induction Q with
 |refl=>exact h
 |@step s1 s2 m n Q ao K u=>
  obtain⟨i,Z,_⟩:=Q.cx f;have a:dR {s1 with inbox:=n}:=⟨u.eF,u.gw,u.bU,λm K=>u.i8 m XK⟩
  exact K.Ss a Z.aH (u.i8 _ XK)
def FZ(Q:D->Nat)(c:Nat)(l:ab (ag×dQ D))(h:∀y∈l,Q y.2.v<=c):lG Q l<=c*l.length:=by
 unfold lG;induction l with
 |nil=>exact cw _
 |cons y l u=>
  have F:=h y (iT ..);grind [List.mem_cons_of_mem,List.length_cons,Nat.mul_succ]
def F0(l:ab (ag×dQ D))(h:(l.map (·.1)).Nodup)(q:∀y∈l,bB y.1 7=true):l.length<=448:=by grind [qh,List.mem_map.1,List.length_map]
def bO.Ts{r:bO}(h:r.ok):r.U'<=4:=by
 unfold bO.U';split
 .omega
 .split
  .rename_i l E;have:=a2.Ts (h.cC l E);omega
  .omega
def eI.S9{s:aC}(h:eI k s)(t:dR s):s.J'<=12544+fg s.inbox:=by have x:=F0 s.leads t.eF λy G=>(h.cC y G).2;have l:=F0 s.bp t.gw λy G=>(h.rs y G).2.2.2.2;have o:=FZ a2.U' 3 s.leads λy G=>a2.Ts (h.cC y G).1;have x:=FZ bO.U' 4 s.bp λy G=>bO.Ts (h.rs y G).1;unfold aC.J';omega
def F1{o:Type}(bG:dQ o->ab ax)(l:ab (ag×dQ o))(k:ag)(e:dQ o){W:aY}{D:ab Nat}{N:ab ax}{w:aY}(h:H W D (bG e++(eS bG l::N)) w):H W D (eS bG (bw l k e)::N) w:=by have F:H W D (eS bG l::(bG e++N)) w:=h.perm (mO);have M:=sz bG l k F;have g:H W D ((bG e++[eS bG (eC l k)])++N) w:=M.perm (by rw[cd];exact(mO).symm);exact H.eqv ((AE bG l k e).symm.append (aL.refl N)) g
abbrev AR:aj->aj:=λv=>v
def F2(b:Nat)(l:ab (ag×dQ D)):bn bW cL b l=bn bW AR b (l.map λy=>(y.1,cL y.2)):=by unfold bn;rw[wc];rfl
def F3{D:Type}:∀(l:ab (ag×dQ D)) (k:ag) (e:dQ D),bw (l.map λy=>(y.1,cL y.2)) k (au e.p 0)=(bw l k e).map λy=>(y.1,cL y.2)
 |[],k,e=>rfl
 |y::l,k,e=>by
  rw[eK,ka,ka];by_cases h:k=y.1
  .rw[aT h,aT h];rfl
  .rw[aN h,aN h,eK,F3 l k e]
def aC.RQ(s:aC)(d:bP):a2:=lB s.n s.self (h2 s.aH s.self) ⟨0,s.self⟩ ⟨d,(eV s.aH.p d (h2 s.aH s.self)).1,(eV s.aH.p d (h2 s.aH s.self)).2⟩ 1
def aC.Sh(s:aC)(d:bP)(p:Nat):aC:={s with leads:=bw s.leads (h2 s.aH s.self) ⟨p,0,s.RQ d⟩,dw:=bw s.dw (h2 s.aH s.self) true}
noncomputable def aC.RU(s:aC)(d:bP)(p:Nat):aC:=(s.Sh d p).send (s.RQ d).C'
def sE(d:bP):Prop:=mm d=true/\d.Kind≠0
def mB(s:aC)(d:bP)(x:ag)(e:Int)(W:aC):Prop:=
 (¬sE d/\x=ag.z/\e=1/\W=s)\/(sE d/\64<(h2 s.aH s.self).bH/\x=ag.z/\e=6/\W=s)\/
 (sE d/\(h2 s.aH s.self).bH<=64/\x=h2 s.aH s.self/\e=0/\∃p,jB (s.RU d p) W)
def eI.RU{s:aC}(h:eI k s)(d:bP)(p:Nat)(E:(h2 s.aH s.self).bH<=64):eI k (s.RU d p):=by
 have T:hp (s.RQ d) s.n s.self (h2 s.aH s.self) ⟨0,s.self⟩:=tV ..;have U:bB (h2 s.aH s.self) 7=true:=by
  have:=h.self;have x:=h.hN;unfold bB;simp only[cZ,da];refine⟨⟨⟨this.1,by show s.self<7;omega⟩,?_⟩,E⟩;show 1<=(s.aH.p.top s.self:Int)+1
  omega
 have J:RepG (s.Sh d p):=by
  refine⟨λy G=>?_,h.rs,h.dy⟩;rcases oK G with rfl|G
  .exact⟨⟨T.wf,T.n,T.self,T.item,rfl,T.phase⟩,U⟩
  .exact h.cC y G
 refine⟨h.toRepI.of rfl,J.send λm K=>?_,h.aH,h.eF,h.sp,h.cU⟩;rw[xU T m K];exact U
def dR.RU{s:aC}(h:dR s)(d:bP)(p:Nat):dR (s.RU d p):=
 dR.send (s:=s.Sh d p) ⟨p1 h.eF,h.gw,h.bU,h.i8⟩ (xV _)
def adc(b:Nat)(L:cO)(s:aC)(d:bP)(k:Nat)(h:eI k s)(ej:dR s)(ao:s.inbox=[])(cc:k<=900000000000)(dz:s.out.length<=100000)(c8:s.told.length<=1000000):ar prog 36 [au b 0,A d.c] (bX b L s++[cv]) (λr N=>∃gm u x e,mB s d x e u/\r=.tuple #[A x.c,I e]/\N=bX b gm u++[cv]):=by
 have dT:=xg d;have Y:=h.self;have i:=NG L.dC s.bD s.X s.aH s.self h.aH.p.towf Y.1 (by rw[h.eF];exact Y.2);have M:=h.cU;by_cases g:sE d
 .have P:mm d=true:=g.1;have o:d.Kind≠0:=g.2;have xW:a8 .eql d.Kind 0=some false:=by simp[a8,o]
  have nR:=yF (show decide (cK d)=true from P);have my:=FD L.dC s.bD s.X s.aH d (h2 s.aH s.self) h.aH h.sp (by have:=nR.1;omega) ac;rw[P]at dT;by_cases m5:(h2 s.aH s.self).bH<=64
  .have oa:decide ((s.aH.p.top s.self:Int)+1<=64)=true:=iE m5;rw[oa]at i;have U (p:Nat):=(h.RU d p m5)
   have E (p:Nat):=(ej.RU d p)
   have Ye:0<=(s.RQ d).n/\(s.RQ d).n<=1000:=by have:=h.hN;show 0<=s.n/\s.n<=1000;omega
   have Yc:(s.RQ d).C'.length<=7:=a2.Su (tV ..) h.hN.2;have m (p:Nat) (gm:cO):=AO b gm (s.RU d p) k (U p) (by
    have cm:=(U p).S9 (E p);have dd:fg (s.RU d p).inbox<=3:=by
     show fg (s.inbox++ez s.self (s.RQ d).C')<=3
     rw[ao,gi];exact sD ..
    omega) (by
    have cm:=(U p).S9 (E p);have dd:fg (s.RU d p).inbox<=3:=by
     show fg (s.inbox++ez s.self (s.RQ d).C')<=3
     rw[ao,gi];exact sD ..
    omega) (by
    have cm:=(U p).S9 (E p);have dd:fg (s.RU d p).inbox<=3:=by
     show fg (s.inbox++ez s.self (s.RQ d).C')<=3
     rw[ao,gi];exact sD ..
    have cp:=(rx (s.Sh d p) (s.RQ d).C').2;have fZ:(s.Sh d p).out.length=s.out.length:=rfl;have lb:((s.Sh d p).send (s.RQ d).C').out.length=(s.RU d p).out.length:=rfl;omega) c8
   have R:ar prog 57 [I s.n,I s.self,A (h2 s.aH s.self).c,A (bk.c ⟨0,s.self⟩),A (aV.c ⟨d,(eV s.aH.p d (h2 s.aH s.self)).1,(eV s.aH.p d (h2 s.aH s.self)).2⟩),I 1] [] (λr N=>∃q,r=au q 0/\N=[cells q 183 (s.RQ d).c]):=EY ..;have a (p:Nat) (cG:aQ Go.Addr) (C:Nat):=sA b L (s.Sh d p) cG C (s.RQ d).C' h.hN.2 ac (by show s.inbox.length<=_;rw[ao];decide) Z0;have f (p:Nat):=ar.Tj (bG:=iq) (l:=(s.Sh d p).leads) (x:=h2 s.aH s.self) (e:=⟨p,0,s.RQ d⟩) (Q:=λr (z:aQ Go.Addr×Nat)=>r=.slice z.1 (s.RQ d).C'.length z.2) (T:=λz=>rows aD.c (.slice z.1 (s.RQ d).C'.length z.2) 176 25 (s.RQ d).C') OD (ar.post (ar.nY aD.len (xI p (s.RQ d) Ye)) (by rintro v N⟨cG,C,rfl,rfl⟩;exact⟨_,⟨(cG,C),rfl,rfl⟩,λ_ _ _ h=>h⟩));have G (u:aC) (p:Nat) (ef:jB (s.RU d p) u):mB s d (h2 s.aH s.self) 0 u:=.inr (.inr ⟨g,m5,rfl,rfl,p,ef⟩);have Yi (p:Nat):(s.Sh d p).leads=bw s.leads (h2 s.aH s.self) ⟨p,0,s.RQ d⟩:=rfl;clear U E M Y cc dz c8 nR g;unfold aC.RU at m G;obtain⟨dC,Z,gH,dt,wp,c4,dI,dJ,dr,K,bY,ey,dH,bC⟩:=L;unfold bX ec;generalize cr:h2 s.aH s.self=x at*;generalize Yg:s.RQ d=mC at*;dsimp only[List.cons_append,List.nil_append]at*;refine aB func36 λW=>?_;generalize bg _=D;refine QC λfI fp=>?_;refine ai.v (V.cmp rfl rfl xW) ?_;refine aa 8 ?_;refine ah.mt [0,3,4] (λ_:Nat=>True) (λp=>[(6,au p 0),(7,B true)]) (λp=>[cells p 46 x.c]) (b:=[]) ?_ ?_
   .intro fa j;clear m a f G my;refine ah.n' ?_ aA.j.j.j.j.j.j.j.j.j.j.j.j.j.j.d'.j.j;refine ae 8 0 ?_;refine af.bu 8 12 rfl rfl ?_ ?_;refine aw.R' rfl (i) XC ?_;refine K1 λnm=>?_;refine av ?_;rotate_left;refine O.K' ad (λnm=>?_);refine av ?_;refine af.o' 8 rfl rfl (i) ?_;refine Rs ?_;rotate_left;all_goals exact Out.t' j _ trivial trivial
   rintro nm-;refine bh ?_;refine aa 10 ?_;refine ah.mt [0,3,4,6] (λ_:Nat=>True) (λp=>[(8,au p 0),(9,I (eV s.aH.p d x).2)]) (λp=>[cells p 50 (eV s.aH.p d x).1.c]) (b:=[]) ?_ ?_
   .intro fa j;clear m a f G i;refine ah.n' ?_ aA.j.j.j.j.j.j.j.j.j.j.j.j.j.j.d'.d'.j.d';refine ae 6 0 ?_;refine af.bu 6 10 rfl rfl ?_ ?_;refine aw.R' rfl (my) XC ?_;refine aa 2 ?_;refine ae 3 7 ?_;refine c1 10 λsh=>?_;refine ae 2 11 ?_;refine av ?_;rotate_left;refine O.K' ad (λsh=>?_);refine av ?_;refine af.o' 6 rfl rfl (my) ?_;refine aa 2 ?_;refine ae 3 7 ?_;refine ae 2 11 ?_;refine av ?_;rotate_left;all_goals exact Out.t' j _ trivial trivial
   rintro sh-;refine bh ?_;refine ah.mt [0,4,6] (λ_:Nat=>True) (λp=>[(10,au p 0)]) (λp=>[cells p 183 mC.c]) (b:=[cells sh 50 (eV s.aH.p d x).1.c,cells fI 29 d.c]) ?_ ?_
   .intro fa j;clear m a f G i;refine ah.n' ?_ aA.j.j.j.j.j.j.j.j.j.j.j.j.j.j.d'.d'.j.d'.d';refine ae 13 0 ?_;refine ae 3 14 ?_;refine af.i' 17 rfl (V.Sj ad) ?_;refine af.p' 13 rfl (aw.fn rfl (w4 _) ?_);refine av ?_;refine af.o' 18 rfl rfl (R) ?_;rintro _ _⟨Yo,rfl,rfl⟩;refine aa 2 ?_;refine ae 1 19 ?_;refine av ?_;all_goals exact Out.t' j _ trivial trivial
   rintro q-;refine bh ?_;refine ah.mt [0,10,6,4] (λ_:Unit=>True) (λ_=>[]) (λ_=>[bn bW cL Z (bw s.leads x ⟨q,0,mC⟩),bn bW h6 K (bw s.dw x true)]) (b:=[bn bW cL Z s.leads,bn bW h6 K s.dw]) ?_ ?_
   .intro fa j;clear m a f G i my R;refine ah.TR (F2 Z s.leads) ?_;have Yj:=F3 s.leads x ⟨q,0,mC⟩;have Yh:=F2 Z (bw s.leads x ⟨q,0,mC⟩);rw[<-Yj]at Yh;generalize(s.leads.map λy=>(y.1,cL y.2))=jO at*;refine ah.n' ?_ aA.j.j.j.j.j.j.j.j.j.j.j.j.j.d'.j.d'.j.j;refine ae 11 0 ?_;refine af.p' 11 rfl (aw.SI (l:=jO) (k:=x) (aR:=AR) (.pointer none) cq jz k4 rfl rfl XJ (λYp=>?_));refine av ?_;refine ae 1 12 ?_;refine af.p' 13 rfl (aw.Tf (l:=jO) (k:=x) (v:=au q 0) (aR:=AR) rfl rfl rfl XQ ?_);refine av ?_;refine af.p' 14 rfl (aw.SI (l:=s.dw) (k:=x) (aR:=h6) false cq tR xD rfl rfl XJ (λYq=>?_));refine av ?_;refine ae 1 15 ?_;refine af.p' 16 rfl (aw.Tf (l:=s.dw) (k:=x) (v:=true) (aR:=h6) rfl rfl rfl XQ ?_);refine aa 2 ?_;all_goals exact Out.t' j () trivial trivial (q:=by rw[Yh];(repeat(first|exact ak.nil|exact al.here|apply ak.cons|apply al.there)))
   rintro⟨⟩-;refine bh ?_;refine ah.hC (aX:=bX b ⟨dC,Z,gH,dt,wp,c4,dI,dJ,dr,K,bY,ey,dH,bC⟩ (s.Sh d q)++[cv,cells nm 46 x.c,cells fp 46 ag.z.c]) (λw cB=>?_) ?_
   .have cm:=cB.Se (bc:=iq ⟨q,0,mC⟩++[eS iq s.leads]) (by unfold iq;(repeat(first|exact ak.nil|exact al.here|apply ak.cons|apply al.there)));rw[cd]at cm;have dd:=F1 iq s.leads x ⟨q,0,mC⟩ cm;exact dd.gB (o:=[]) (by unfold bX aC.Sh;rw[cr,Yg];(repeat(first|exact ak.nil|exact al.here|apply ak.cons|apply al.there)))
   have t:=f q;have F:=λcG C=>a q cG C;have J:=λgm=>m q gm;have Yk:=λu=>G u q;clear f a m G i my R;generalize s.Sh d q=s2 at*;unfold bX ec at J F⊢;dsimp only[List.cons_append,List.nil_append]at t F J⊢;refine aa 5 ?_;rintro _ _⟨Yr,rfl,rfl⟩;refine av ?_;refine ai.o' rfl (F _ _) ?_;rintro _ _⟨Yl,rfl,rfl⟩;refine aa 6 ?_;refine ai.o' rfl (J _) ?_;rintro _ _⟨Ym,Yn,Yf,rfl,rfl⟩;refine aa 12 ?_;all_goals exact⟨_,_,⟨_,_,x,0,Yk _ XF,rfl,rfl⟩,XC⟩
  .have oa:decide ((s.aH.p.top s.self:Int)+1<=64)=false:=kc m5;rw[oa]at i;have G:mB s d ag.z 6 s:=.inr (.inl ⟨g,ac,rfl,rfl,rfl⟩);clear h ej ao M Y cc dz c8 nR g my;obtain⟨dC,Z,gH,dt,wp,c4,dI,dJ,dr,K,bY,ey,dH,bC⟩:=L;unfold bX ec;dsimp only[List.cons_append,List.nil_append]at*;refine aB func36 λW=>?_;generalize bg _=D;refine QC λfI fp=>?_;refine ai.v (V.cmp rfl rfl xW) ?_;refine aa 9 ?_;refine ah.n' ?_ aA.j.j.j.j.j.j.j.j.j.j.j.j.j.j.d'.j.j;refine ae 8 0 ?_;refine af.bu 8 12 rfl rfl ?_ ?_;refine aw.R' rfl (i) XC ?_;refine K1 λnm=>?_;refine aa 20 ?_;rotate_left;refine O.K' ad (λnm=>?_);refine av ?_;refine af.o' 8 rfl rfl (i) ?_;refine aa 2 ?_;refine ae 3 9 ?_;refine ae 2 13 ?_;refine aa 20 ?_;rotate_left;all_goals exact⟨_,_,⟨⟨dC,Z,gH,dt,wp,c4,dI,dJ,dr,K,bY,ey,dH,bC⟩,s,ag.z,6,G,rfl,rfl⟩,XC⟩
 .have G:mB s d ag.z 1 s:=.inl ⟨g,rfl,rfl,rfl⟩;clear h ej ao M Y cc dz c8 i;obtain⟨dC,Z,gH,dt,wp,c4,dI,dJ,dr,K,bY,ey,dH,bC⟩:=L;unfold bX ec;dsimp only[List.cons_append,List.nil_append]at*;refine aB func36 λW=>?_;generalize bg _=D;cases P:mm d
  .rw[P]at dT;refine aq 2 λfI=>?_;refine aq 0 λfp=>?_;refine aa 38 ?_;all_goals exact⟨_,_,⟨⟨dC,Z,gH,dt,wp,c4,dI,dJ,dr,K,bY,ey,dH,bC⟩,s,ag.z,1,G,rfl,rfl⟩,XC⟩
  .rw[P]at dT;have o:d.Kind=0:=Classical.byContradiction λu=>g ⟨P,u⟩;have xW:a8 .eql d.Kind 0=some true:=by simp[a8,o]
   refine QC λfI fp=>?_;refine ai.v (V.cmp rfl rfl xW) ?_;refine aa 16 ?_;all_goals exact⟨_,_,⟨⟨dC,Z,gH,dt,wp,c4,dI,dJ,dr,K,bY,ey,dH,bC⟩,s,ag.z,1,G,rfl,rfl⟩,XC⟩
def mD(s:aC)(m:aD)(e:Int)(z:aC):Prop:=
 ((m.b3≠s.self\/m.bm=s.self)/\e=4/\z=s)\/(m.b3=s.self/\m.bm≠s.self/\e=0/\∃s1,fK s m s1/\jB s1 z)
def AS(v:n<=7)(h:gQ m n):n0 m:=λ_=>rj h.b2 v
def AT{s:aC}(h:s.inbox=[]):fg s.inbox=0:=by rw[h];rfl
def xX{s s1:aC}(h:eI k s)(t:dR s)(ao:s.inbox=[])(K:fK s m s1):s1.J'<=12547:=by have F:=h.S9 t;have M:=K.J' h.z.toRepW;have g:=AT ao;have g:=(sC m).2;omega
def acC(b:Nat)(L:cO)(s:aC)(m:aD)(k:Nat)(h:eI k s)(t:dR s)(ao:s.inbox=[])(K:gQ m s.n)(T:k<=900000000000)(Z:s.out.length<=100000)(P:s.told.length<=1000000):ar prog 66 [au b 0,S (gj m)] (bX b L s++[cv]) (λr Y=>∃i f e,mD s m e f/\r=I e/\Y=bX b i f++[cv]):=by
 have E:=Ka m s.n h.hN.2 K;have j:=FO b L s k m h.z ac (ov K.item h.hN.2) (by rw[ao];decide) ac;have w (s1:aC) (Q:fK s m s1) (i:cO):=AO b i s1 (k+3) (Q.cx h (ov K.item h.hN.2)) (by have:=xX h t ao Q;omega) (by have:=xX h t ao Q;omega) (by have:=xX h t ao Q;have:=Q.out h;omega) (by rw[Q.told];exact P);have G (s1 f:aC) (F:m.b3=s.self) (M:m.bm≠s.self) (Q:fK s m s1) (b:jB s1 f):mD s m 0 f:=.inr ⟨F,M,rfl,s1,Q,b⟩;have Q (F:m.b3≠s.self\/m.bm=s.self):mD s m 4 s:=.inl ⟨F,rfl,rfl⟩;clear h t ao K T Z P;obtain⟨E,c,x,a,d,U,v,p,Z,P,R,N,r,bC⟩:=L;by_cases F:m.b3=s.self
 .by_cases M:m.bm=s.self
  .clear w j G;unfold bX ec;refine bh ?_;refine aB func66 λW=>?_;generalize bg _=D;refine Iw λC=>?_;refine ae 12 0 ?_;refine bs 29 ?_;refine ae 8 12 ?_;refine aa 11 ?_;rotate_left;all_goals exact⟨_,_,⟨⟨E,c,x,a,d,U,v,p,Z,P,R,N,r,bC⟩,s,_,Q (.inr M),rfl,rfl⟩,XC⟩
  .have y:a8 .neq m.b3 s.self=some false:=by simp[a8,F]
   have J:a8 .eql m.bm s.self=some false:=by simp[a8,M]
   unfold bX ec at j⊢;dsimp only[List.cons_append,List.nil_append]at j⊢;refine aB func66 λW=>?_;generalize bg _=D;refine Iw λC=>?_;refine ae 9 0 ?_;refine af.i' 9 rfl (V.cmp rfl rfl y) ?_;refine ae 8 10 ?_;refine af.i' 18 rfl (V.cmp rfl rfl J) ?_;refine ae 1 19 ?_;refine aa 10 ?_;refine Rf λX b k=>?_;have y:fK s m b:=XF
   have k:=λi=>w _ y i;have h:=λf=>G _ f F M y;unfold bX ec at k;dsimp only[List.cons_append,List.nil_append]at k;refine aa 3 ?_;refine ai.o' rfl (k _) ?_;rintro _ _⟨m,y,X,rfl,rfl⟩;refine aa 10 ?_;all_goals exact⟨_,_,⟨_,_,0,h _ XF,rfl,rfl⟩,XC⟩
 .clear w j G;unfold bX ec;refine bh ?_;refine aB func66 λW=>?_;generalize bg _=D;refine Iw λC=>?_;refine ae 12 0 ?_;refine bs 29 ?_;refine ae 8 12 ?_;refine aa 11 ?_;rotate_left;all_goals exact⟨_,_,⟨⟨E,c,x,a,d,U,v,p,Z,P,R,N,r,bC⟩,s,_,Q (.inl F),rfl,rfl⟩,XC⟩
end Go.Proofs.YteogojgnkjegmaaGreatDoor
namespace Go.Proofs.YteogojgnkjegmaaGreatDoor
open Go.ay Go.Proofs.Tryz
def sF(h:Int)(x:ab bi)(Z:ab ag)(P:ab bi):Prop:=
 ∃k,Z=(x.take k).map (·.key)/\P=x.drop k/\(∀y∈x.take k,y.due<=h)/\∀s,P.head?=some s->h<s.due
structure OK where
 v:aj
 l:ab ag
 b:jR
def OL(p a c:Nat)(U:Int)(v:aj)(t:Int)(pl:ab bi)(q:pl.length<=100000):ar prog 93 [.slice none 0 0,.func (.func 133) #[] #[au a 0,au c 0]] ([cells a 192 [au p 0],cells c 3 [I U]]++e2 p v t pl) (λr Y=>∃u Z X Ye,sF U pl Z Ye/\r=u/\Y=rows ag.c u 46 2 Z::e2 p X t Ye):=by
 unfold e2;refine bh ?_;refine aB func93 λW=>?_;refine ah.RK ag.c 46 2 ?_;refine aa 2 ?_;refine ai.o (O.R9 (λvy=>?_));refine aa 10 ?_;refine ah.WG (Ld p a c U ⟨v,t,pl⟩) (λy:OK=>y.b) (λy=>[cells vy 98 [y.v],rows ag.c y.v 46 2 y.l]) (λj y=>j<=pl.length/\y.l=(pl.take j).map (·.key)/\y.b.l=pl.drop j/\y.b.t=t/\∀z∈pl.take j,z.due<=U) (λ_ _ _=>False) ⟨.slice none 0 0,[],⟨v,t,pl⟩⟩ pl.length (λj y h=>h.1) rfl ⟨cw _,rfl,rfl,rfl,XE⟩ ?_ ?_ ?_
 .rintro j i⟨u,l,b⟩ D cb rec⟨m,F,M,P,N⟩⟨s,x,g,C,k,J,G,n9,nD⟩ L eh iP K w;dsimp only at F M P k n9 nD;subst G;have R:j<pl.length:=by
   have:(pl.drop j).length=(s::x).length:=by rw[<-M,k]
   rw[j6,dp]at this;omega
  have Q:pl.drop j=s::x:=by rw[<-M,k]
  have Yi:pl[j]?=some s:=by rw[<-List.head?_drop,Q];rfl
  have Yc:pl.take (j+1)=pl.take j++[s]:=by rw[mY,Yi];rfl
  have Yg:l.length<=100000:=by rw[F,ev,eX];omega
  subst nD;unfold jR.E e2;refine bh ?_;refine aq 1 λT=>?_;refine aa 7 ?_;refine ai.o (O.N' ad ag.c [s.key] rfl (bx.agg rfl bx.nil) rfl rfl (λYf=>?_));refine ai.o (O.SC ad rfl rfl XJ (ce.rows (f:=ag.c) (l:=[s.key]) ad XB ag.B') (λYh Yj Yk=>?_));refine aa 3 ?_;all_goals exact Out.Wx w ⟨_,l++[s.key],⟨.slice (some ⟨g,0,none⟩) x.length C,b.t,x⟩⟩ ⟨ac,by rw[Yc,iA,<-F];rfl,by rw[<-pO,Q];rfl,P,by
   intro z n;rw[Yc]at n;rcases eN.1 n with n|n
   .exact N z n
   .rw[iz.1 n];exact J⟩
 .rintro j⟨u,l,b⟩ sq⟨m,F,M,P,N⟩ d;obtain⟨acv,fN,xM⟩:=b;dsimp only at F M P d;subst F M P;unfold jR.E e2;refine bh ?_;refine aa 10 ?_;all_goals exact⟨_,_,⟨_,_,_,_,⟨j,rfl,rfl,N,d⟩,rfl,rfl⟩,XC⟩
 .rintro _ _ _ _ _ _ h;exact h.elim
def OM(p a c:Nat)(k:Int)(v:aj)(t:Int)(h:ab bi)(E:h.length<=100000):ar prog 70 [.func (.func 133) #[] #[au a 0,au c 0]] ([cells a 192 [au p 0],cells c 3 [I k]]++e2 p v t h) (λr Y=>∃u Z X P,sF k h Z P/\r=u/\Y=rows ag.c u 46 2 Z::e2 p X t P):=by have L:=OL p a c k v t h E;unfold e2 at*;dsimp only[List.cons_append,List.nil_append]at*;refine aB func70 λW=>?_;refine aa 9 ?_;rintro _ _⟨g,z,W,f,R,rfl,rfl⟩;refine aa 6 ?_;all_goals exact⟨_,_,⟨_,_,_,_,XF,rfl,rfl⟩,XC⟩
end Go.Proofs.YteogojgnkjegmaaGreatDoor
