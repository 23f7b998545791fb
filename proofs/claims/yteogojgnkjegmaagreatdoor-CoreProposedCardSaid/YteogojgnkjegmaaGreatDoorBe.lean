/-
 Part of the proof.
-/
import Derived.Test.YteogojgnkjegmaaGreatDoorBd
import Derived.Test.YteogojgnkjegmaaGreatDoorRows
set_option linter.all false
set_option maxRecDepth 8000
set_option maxHeartbeats 8000000
namespace Go.Proofs.YteogojgnkjegmaaGreatDoor
open Go.ay Go.Proofs.Tryz
variable[Go.ay.b4]
variable{b:Nat}{L:cW}
def cC.at(n:Int):cC->ag->aT aX
 |.up _ _ s,x=>s.aA.p.at x
 |.dn _ _ l _ _,x=>(jq (aJ.new n) l).at x
def tj:hG:=⟨none,none,[],λ_=>False⟩
def cC.lc:cC->ag->hG
 |.up _ _ s,x=>dj s x
 |.dn _ _ _ _ _,_=>tj
def gj(n:Int)(Y:ab cC)(x:ag):Int->aX:=λj=>if 0<=j then(match Y[j.toNat]? with|some r=>(r.at n x).getD aX.z|none=>aX.z)else aX.z
def kd(Y:ab cC)(x:ag):Int->hG:=λj=>if 0<=j then(match Y[j.toNat]? with|some r=>r.lc x|none=>tj)else tj
def n5(n:Int)(bo:ab b8):aD->Prop:=λm=>c3 m n=true/\∃y∈bo,y.Bytes=gM m
def im(n:Int)(Y:ab cC)(x:ag):Prop:=∃r,Y[x.a1.toNat]?=some r/\(r.at n x).isSome=true
structure cS(n:Int)(Q:ag->aN->Prop)(G:ag->c7)(Y:ab cC)(bo:ab b8):Prop where
 it:∀x,bq x n=true->di n (cY n) x.a1 x (Q x) (gj n Y x) (G x) (kd Y x) (n5 n bo)
 jO:∀x c,bq x n=true->(G x).pre x.a1 c->im n Y x
def fv(n:Int)(G:ag->c7)(Y:ab cC)(q:ag->c7)(t:ab cC):Prop:=
 ∀x,bq x n=true->(∀c,kA n (cY n) x.a1 (gj n Y x) (G x) c->kA n (cY n) x.a1 (gj n t x) (q x) c)/\(im n Y x->im n t x)
section
variable{n:Int}{Q C:ag->aN->Prop}{G lQ M:ag->c7}{Y Z N:ab cC}{bo J:ab b8}{i:Nat}{y:cC}{x:ag}{m:aD}{c U:bw}{k:Nat}
theorem fv.rfl:fv n G Y G Y:=λ_ _=>⟨λ_=>id,id⟩
def fv.trans(h:fv n G Y lQ Z)(k:fv n lQ Z M N):fv n G Y M N:=λx F=>⟨λc q=>(k x F).1 c ((h x F).1 c q),λK=>(k x F).2 ((h x F).2 K)⟩
def DP(ao:i<Y.length)(y:cC)(x:ag):gj n (Y.set i y) x=ef (gj n Y x) i ((y.at n x).getD aX.z):=by funext j;unfold gj ef;grind
def DQ(ao:i<Y.length)(y:cC)(x:ag):kd (Y.set i y) x=hT (kd Y x) i (y.lc x):=by funext j;unfold kd hT;grind
theorem uM(h:Y[i]?=some y)(x:ag):ef (gj n Y x) i ((y.at n x).getD aX.z)=gj n Y x:=by rw[<-DP (cT.1 h).1,uv h]
def Ts(h:Y[i]?=some y)(x:ag):hT (kd Y x) i (y.lc x)=kd Y x:=by rw[<-DQ (cT.1 h).1,uv h]
def cS.ctx(a:n=3\/n=5\/n=7)(w:(Y.length:Int)=n)(o:∀x,jw n (Q x))(ao:i<Y.length):lP n (kd Y) Q (i:Int):=by
 refine⟨a,⟨ac,ac⟩,o,λx j b=>?_⟩;unfold kd;split
 .rw[vk ac];exact⟨nP _,nP _⟩
 .exact⟨nP _,nP _⟩
def cS.qe(h:cS n Q G Y bo){s:aC}(K:Y[i]?=some (.up b L s)):fj n (gj n Y) (kd Y) (n5 n bo) Q (i:Int) G s:=by intro x l;have b:=uM (n:=n) K x;have F:=Ts K x;have K:=h.it x l;rw[<-b,<-F]at K;exact K
def cS.Xf(a:n=3\/n=5\/n=7)(w:(c.aH.length:Int)=n)(W:∀x,jw n (Q x)){s:aC}(ao:i<c.aH.length)(R:fj n (gj n c.aH) (kd c.aH) (n5 n bo) Q (i:Int) lQ s)(Ye:s.n=n)(g:s.inbox=[])(Yf:∀y∈c.bo,y∈bo)(d:c.bo.length<=256)(Yc:∀x U,bq x n=true->(lQ x).pre x.a1 U->im n (c.aH.set i (.up b L s)) x)(h:lp {c with aH:=c.aH.set i (.up b L s)} i U):cS n Q lQ U.aH U.bo/\∀x,gj n U.aH x=ef (gj n c.aH x) i (bP s.aA.p x)/\(im n (c.aH.set i (.up b L s)) x->im n U.aH x):=by
 obtain⟨u,j,s1,D,E,rfl⟩:=h;rw[oT ao]at E;cases E;have ctx:=cS.ctx (Q:=Q) a w W ao;have zZ:({c with aH:=c.aH.set i (.up b L s)}:bw).VL i b D s={c with aH:=c.aH.set i (.up b D s.flush),bo:=(g6 c.cut c.bo s.out).1,lost:=c.lost+(g6 c.cut c.bo s.out).2,told:=c.told++s.told.map (nT i c.now)}:=by grind [bw.VL,List.set_set]
 rw[zZ];dsimp only;have T:∀x,gj n (c.aH.set i (.up b D s.flush)) x=ef (gj n c.aH x) i (bP s.aA.p x):=λx=>DP ao _ x;have t:∀x,im n (c.aH.set i (.up b L s)) x->im n (c.aH.set i (.up b D s.flush)) x:=by
  rintro x⟨r,f,q⟩;by_cases e:x.a1.toNat=i
  .refine⟨.up b D s.flush,Uh,?_⟩;rw[e,oT ao]at f;cases f;exact q
  .rw[De ac]at f;exact⟨r,Uh,q⟩
 refine⟨⟨λx F=>?_,λx U F P=>t x (Yc x U F P)⟩,λx=>⟨T x,t x⟩⟩;have K:=R x F;have X:=di.flush (i:=i) (bD:=dj s.flush x) (yk:=n5 n (g6 c.cut c.bo s.out).1) (ctx.par F) (ctx.iG x _) K (by rw[fP];exact g) (by rw[fP];rfl) (by rw[fP];rfl) g (λo l=>by obtain⟨_,z,v,_⟩:=l;cases v) λo l=>by
  rw[fP];obtain⟨R,z,v,f⟩:=l;rcases(zY c.cut s.out c.bo 0 (gg _) d).2.2.2 z v with K|K
  .exact .inl ⟨R,z,Yf z K,f⟩
  .exact .inr ⟨by rw[Ye];exact R,z,K,f⟩
 rw[pz]at X;rw[T x,DQ ao];exact X
def cS.act(a:n=3\/n=5\/n=7)(w:(c.aH.length:Int)=n)(o:∀x,jw n (Q x))(h:cS n Q G c.aH bo){K:Nat}{z:cW}{s s1:aC}(F:c.aH[i]?=some (.up K z s1))(R:fj n (gj n c.aH) (kd c.aH) (n5 n bo) Q (i:Int) lQ s)(l:hb n (gj n c.aH) (i:Int) G s1 lQ s)(g:s.n=n)(T:s.inbox=[])(d:∀y∈c.bo,y∈bo)(E:c.bo.length<=256)(X:lp {c with aH:=c.aH.set i (.up b L s)} i U):cS n Q lQ U.aH U.bo/\fv n G c.aH lQ U.aH:=by
 have ao:=(cT.1 F).1;have t:∀x,bq x n=true->im n c.aH x->im n (c.aH.set i (.up b L s)) x:=by
  rintro x u⟨r,f,q⟩;by_cases e:x.a1.toNat=i
  .refine⟨.up b L s,Uh,?_⟩;rw[e,F]at f;cases f;exact(l x u).2.2 q
  .exact⟨r,Uh,q⟩
 obtain⟨s,D⟩:=cS.Xf a w o ao R g T d E (λx U u z=>t x u (h.jO x U u ((l x u).2.1 U z))) X;refine⟨s,λx u=>⟨λK q=>?_,λK=>(D x).2 (t x u K)⟩⟩;rw[(D x).1];have b:=uM (n:=n) F x;rw[<-b]at q;exact q.V' (l x u).1
def cS.ZR(h:cS n Q G Y bo)(z:∀y∈J,y∈bo):cS n Q G Y J:=
 ⟨λx F=>(h.it x F).bo λo _ ⟨K,y,X,R⟩=>⟨K,y,z y X,R⟩,h.jO⟩
def cS.UM(X:dc k c)(o:∀x,jw c.n (Q x))(h:cS c.n Q G c.aH c.bo){a:Int}{j T:Nat}{g:cW}{s1 s2:aC}(q:wa c a j T L s1 m g s2):(s2=s1\/∃t,fG s1 m t/\jT t s2)/\c.aH[j]?=some (.up T L s1)/\lP c.n (kd c.aH) Q (j:Int)/\fj c.n (gj c.n c.aH) (kd c.aH) (n5 c.n c.bo) Q (j:Int) G s1/\oS k c.n c.now j s1/\∀t,fG s1 m t->(∃D,fj c.n (gj c.n c.aH) (kd c.aH) (n5 c.n c.bo) Q (j:Int) D t/\hb c.n (gj c.n c.aH) (j:Int) G s1 D t)/\eO (k+3) t/\dV t/\t.n=c.n/\t.self=(j:Int):=by
 obtain⟨x,u,K,F,R,E,p,d,l,W⟩:=q;have f:=X.up _ _ _ _ E;have b:=(cT.1 E).1;have ctx:=cS.ctx (Q:=Q) X.n X.len o b;have z:=h.qe E;refine⟨?_,E,ctx,z,f,λt r=>?_⟩
 .rcases W with⟨_,_,rfl⟩|⟨_,_,_,t,r,w⟩
  .exact .inl (nP _)
  .grind
 .have a:=hy.1 d;have F:bq m.Item 7=true:=pS a.item (by have:=X.n;omega);have w:p5 m:=Iq (by have:=X.n;omega) a;obtain⟨X,q⟩:=r.Vu;refine⟨?_,r.cQ f.y F,r.U7 f.v f.y.aA w,q.2.2.1.trans f.n,q.2.2.2.trans f.self⟩;have T:n5 c.n c.bo m:=⟨d,x,Dg K,p⟩
  have K:m.bh≠(j:Int):=by have:=((h.it m.Item a.item).g9 m T (nP _)).ne;grind
  exact z.y' ctx f.y f.v f.n f.self ⟨.inl ⟨f.bt,f.bt,d,by rw[l,R],K,T⟩,nP _⟩ r
end
end Go.Proofs.YteogojgnkjegmaaGreatDoor
namespace Go.Proofs.YteogojgnkjegmaaGreatDoor
open Go.ay Go.Proofs.Tryz
variable[Go.ay.b4]
section
variable{n:Int}{Q F:ag->aN->Prop}{G Z M:ag->c7}{U C K:ab cC}{J N:ab b8}{i:Nat}{y:cC}{x:ag}{m:aD}{c Y:bw}{k:Nat}
def cS.less(h:cS n Q G c.aH c.bo)(a:Int):cS n Q G (c.less a).aH (c.less a).bo:=h.ZR λ_ X=>JW X
def cS.ZS(h:cS n Q G c.aH c.bo){a e:Int}(p:tb c a e Y):cS n Q G Y.aH Y.bo/\fv n G c.aH G Y.aH/\Y.n=c.n:=by
 rcases p with⟨_,_,rfl⟩|⟨_,_,_,_,rfl⟩|⟨_,_,_,_,_,_,_,_,_,_,_,_,rfl⟩
 .grind [fv.rfl]
 .exact⟨h.less a,fv.rfl,rfl⟩
 .exact⟨h.less a,fv.rfl,rfl⟩
def cS.take(u:dc k c)(s:∀x,jw c.n (Q x))(h:cS c.n Q G c.aH c.bo){a e:Int}(r:nW c a e Y):∃R,cS c.n Q R Y.aH Y.bo/\fv c.n G c.aH R Y.aH/\Y.n=c.n:=by
 rcases r with⟨p,_⟩|⟨j,E,L,s1,m,o,s2,D,_,q⟩
 .obtain⟨l,d,W⟩:=h.ZS p;exact⟨G,l,d,W⟩
 .obtain⟨v,f,P,b,_⟩:=D.z u;obtain⟨X,T,ctx,Ye,Yc,Yf⟩:=h.UM u s D;have g:∃R,fj c.n (gj c.n c.aH) (kd c.aH) (n5 c.n c.bo) Q (j:Int) R s2/\hb c.n (gj c.n c.aH) (j:Int) G s1 R s2:=by
   rcases X with rfl|⟨t,r,w⟩
   .grind [hb.refl]
   .obtain⟨⟨Z,E,D⟩,d,o,W,b⟩:=Yf t r;obtain⟨M,X,l⟩:=E.drain ctx d o W b w;exact⟨M,X,D.trans l⟩
  obtain⟨R,l,X⟩:=g;have b:(c.less a).bo.length<=256:=jy (xD ..) u.bo;obtain⟨E,D⟩:=cS.act (c:=c.less a) (bo:=c.bo) (i:=j) u.n u.len s h T l X f.n f.bt (λz v=>JW v) b q;exact⟨R,E,D,q.same.1⟩
def cS.lost(a:n=3\/n=5\/n=7)(w:(U.length:Int)=n)(W:∀x,jw n (Q x))(h:cS n Q G U J){u:Nat}{L:cW}{s s1:aC}(T:U[i]?=some (.up u L s1))(R:fj n (gj n U) (kd U) (n5 n J) Q (i:Int) Z s)(E:hb n (gj n U) (i:Int) G s1 Z s) {g:Nat} {o:aj} {l:ab eK} {d:ab aS} {b:Int} (X:∀x,s.aA.p.at x=(jq (aJ.new n) l).at x) (P:∀z∈N,z∈J):cS n Q Z (U.set i (.dn g o l d b)) N/\fv n G U Z (U.set i (.dn g o l d b)):=by
 have ao:=(cT.1 T).1;have ctx:=cS.ctx (Q:=Q) a w W ao;have j:∀x,gj n (U.set i (.dn g o l d b)) x=ef (gj n U x) i (bP s.aA.p x):=λx=>by
  rw[DP ao];show ef _ _ (((jq (aJ.new n) l).at x).getD aX.z)=_
  rw[<-X x];rfl
 have D:∀x,bq x n=true->im n U x->im n (U.set i (.dn g o l d b)) x:=by
  rintro x t⟨r,f,q⟩;by_cases e:x.a1.toNat=i
  .refine⟨.dn g o l d b,Uh,?_⟩;rw[e,T]at f;cases f;have:=(E x t).2.2 q;rw[X x]at this;exact this
  .exact⟨r,Uh,q⟩
 refine⟨⟨λx t=>?_,λx Y t P=>D x t (h.jO x Y t ((E x t).2.1 Y P))⟩,λx t=>⟨λX q=>?_,D x t⟩⟩
 .have u:=di.gone (i:=i) (bD:=tj) (ctx.par t) (ctx.iG x _) (R x t) rfl rfl rfl λo=>id;rw[pz]at u;rw[j x,DQ ao];exact u.bo λo _ ⟨X,z,R,D⟩=>⟨X,z,P z R,D⟩
 .rw[j x];have b:=uM (n:=n) T x;rw[<-b]at q;exact q.V' (E x t).1
def cS.half(u:dc k c)(kX:∀x,jw c.n (Q x))(h:cS c.n Q G c.aH c.bo){a e:Int}(r:ux c a e Y):∃g,cS c.n Q g Y.aH Y.bo/\fv c.n G c.aH g Y.aH/\Y.n=c.n:=by
 rcases r with⟨p,_⟩|⟨j,R,b,s1,m,P,s2,w,l,oU,ja,f,_,⟨_,t,D,Yf,E⟩,rfl⟩
 .obtain⟨d,z,a3⟩:=h.ZS p;exact⟨G,d,z,a3⟩
 .obtain⟨X,T,ctx,Ye,Yc,Yg⟩:=h.UM u kX f;have o:∃g s,fj c.n (gj c.n c.aH) (kd c.aH) (n5 c.n c.bo) Q (j:Int) g s/\hb c.n (gj c.n c.aH) (j:Int) G s1 g s/\s.aA=t:=by
   rcases D with rfl|⟨t1,Tt,v,q,rfl⟩
   .grind [hb.refl]
   .obtain⟨⟨Z,R,L⟩,ik,ks,sZ,DL⟩:=Yg t1 v;obtain⟨M,W,jm⟩:=R.ZQ ctx ik ks sZ DL q;exact⟨M,Tt,W,L.trans jm,rfl⟩
  obtain⟨g,s,s6,jI,rfl⟩:=o;obtain⟨X,q⟩:=cS.lost u.n u.len kX h T s6 jI E (λz (v:z∈(c.less a).bo)=>JW v);exact⟨g,X,q,rfl⟩
def cS.x3(T:dc k c)(W:∀x,jw c.n (Q x))(h:cS c.n Q G c.aH c.bo){q e:Int}(j:uy c q e Y):∃D,cS c.n Q D Y.aH Y.bo/\fv c.n G c.aH D Y.aH/\Y.n=c.n:=by
 rcases j with⟨_,_,rfl⟩|⟨_,i,E,L,s1,o,l,s,b,_,X,_,⟨_,t,rfl,R,u⟩,rfl⟩
 .grind [fv.rfl]
 .obtain⟨E,q⟩:=cS.lost T.n T.len W h X (h.qe X) hb.refl u (λz v=>v);exact⟨G,E,q,rfl⟩
def cS.start(T:dc k c)(u:k<=1000000000000)(kX:∀x,jw c.n (Q x))(h:cS c.n Q G c.aH c.bo){t e:Int}(v:uz c t e Y):∃g,cS c.n Q g Y.aH Y.bo/\fv c.n G c.aH g Y.aH/\Y.n=c.n:=by
 rcases v with⟨_,_,rfl⟩|⟨_,i,W,dH,l,oU,ja,D,gA,s1,mx,X,_,b,R⟩
 .grind [fv.rfl]
 .have ao:=(cT.1 X).1;have Yc:=T.len;have Yf:=T.now;obtain⟨d,vG,wt,zv,SY,JG,aho,Tv,ace⟩:=nm.up T.n ac ⟨Yf.1,ac⟩ (T.dn _ _ _ _ _ _ X) b;have ctx:=cS.ctx (Q:=Q) T.n T.len kX ao;have a:∀x,s1.aA.p.at x=(cC.dn W dH l oU ja).at c.n x:=λx=>by rw[Tv];rfl
  have Yg:fj c.n (gj c.n c.aH) (kd c.aH) (n5 c.n c.bo) Q (i:Int) G s1:=by
   intro x Ye;have E:=uM (n:=c.n) X x;have P:bP s1.aA.p x=((cC.dn W dH l oU ja).at c.n x).getD aX.z:=by unfold bP;rw[a]
   rw[P,E];refine di.gone (i:=i) (ctx.par Ye) (λj s=>ctx.l x j s) (h.it x Ye) ?_ ?_ d.bt λo b=>?_
   .show(a8 s1.leads x).map _=none;rw[JG];rfl
   .show(a8 s1.bp x).map _=none;rw[aho];rfl
   .obtain⟨_,z,w,_⟩:=b;rw[vG]at w;cases w
  have L:∀x,im c.n c.aH x->im c.n (c.aH.set i (.up D gA s1)) x:=by
   rintro x⟨r,f,q⟩;by_cases e:x.a1.toNat=i
   .refine⟨.up D gA s1,Uh,?_⟩;rw[e,X]at f;cases f;rw[<-a x]at q;exact q
   .exact⟨r,Uh,q⟩
  obtain⟨l,D⟩:=cS.Xf T.n T.len kX ao Yg d.n d.bt (λz w=>w) T.bo (λx Y Ye P=>L x (h.jO x Y Ye P)) R;refine⟨G,l,λx Ye=>⟨λX q=>?_,λX=>(D x).2 (L x X)⟩,R.same.1⟩;grind [uM,bP,aX.z]
def cS.abV(T:dc k c)(o:∀x,jw c.n (Q x))(h:cS c.n Q G c.aH c.bo){E:Nat}{gA g4:cW}{s1 s2:aC}{X e:Int}(u:c.aH[i]?=some (.up E gA s1))(j:oQ s1 X e s2)(d:X=c.now)(l:lp {c with aH:=c.aH.set i (.up E g4 s2)} i Y):∃q,cS c.n Q q Y.aH Y.bo/\fv c.n G c.aH q Y.aH:=by
 have R:=T.up _ _ _ _ u;have ao:=(cT.1 u).1;have ctx:=cS.ctx (Q:=Q) T.n T.len o ao;have g:=h.qe u;have t:=(j.up R Uh).1;have D:∃q,fj c.n (gj c.n c.aH) (kd c.aH) (n5 c.n c.bo) Q (i:Int) q s2/\hb c.n (gj c.n c.aH) (i:Int) G s1 q s2:=by
  rcases j with⟨_,_,rfl⟩|⟨r,W,_,L,s,af9,a,P,f⟩
  .grind [hb.refl]
  .obtain⟨yj,wu,An,Ao⟩:=a.sub;have ajP:=R.y.due r W yj;have v0:dV {s1 with now:=X,pl:=s}:=⟨R.v.en,R.v.e4,R.v.bF,R.v.i8⟩
   have DO:fj c.n (gj c.n c.aH) (kd c.aH) (n5 c.n c.bo) Q (i:Int) G {s1 with now:=X,pl:=s}:=g;have b:∀x∈L,bq x 7=true:=λx p=>by obtain⟨z,w,rfl⟩:=An x p;exact R.y.fX.aV z w
   obtain⟨Z,E,g,⟨r,d⟩,W,L,j⟩:=DO.abU ctx ajP v0 R.n R.self b P;obtain⟨M,X,s⟩:=E.drain ctx d W L j f;have E:hb c.n (gj c.n c.aH) (i:Int) G s1 Z af9:=g;exact⟨M,X,E.trans s⟩
 obtain⟨q,s,X⟩:=D;obtain⟨E,D⟩:=cS.act (bo:=c.bo) T.n T.len o h u s X t.n t.bt (λz w=>w) T.bo l;exact⟨q,E,D⟩
def cS.abW(o:∀x,jw c.n (Q x))(T:dc k c)(h:cS c.n Q G c.aH c.bo){D:Nat->Bool}{j:Nat}(r:nX D c j Y):∃q,cS c.n Q q Y.aH Y.bo/\fv c.n G c.aH q Y.aH:=by
 induction r with
 |nil=>exact⟨G,h,fv.rfl⟩
 |skip _ _ d=>exact d
 |@tick i h E l L q s1 s2 e R _ X r u d=>
  obtain⟨Z,l,q⟩:=d;obtain⟨D,b,E,z⟩:=R.cQ T;rw[<-E]at l q o⊢;obtain⟨M,h,T⟩:=l.abV D o X r rfl u;exact⟨M,h,q.trans T⟩
def cS.tick(o:∀x,jw c.n (Q x))(X:dc k c)(h:cS c.n Q G c.aH c.bo){D:Nat->Bool}{e:Int}(j:wc D c e Y):∃q,cS c.n Q q Y.aH Y.bo/\fv c.n G c.aH q Y.aH/\Y.n=c.n:=by
 rcases j with⟨_,_,rfl⟩|⟨_,_,j⟩
 .grind [fv.rfl]
 .obtain⟨q,l,D⟩:=cS.abW (c:={c with now:=c.now+1}) o X.later h j;exact⟨q,l,D,(j.cQ X.later).2.2.1⟩
def cS.settle(o:∀x,jw c.n (Q x))(X:dc k c)(h:cS c.n Q G c.aH c.bo){j:Nat}(r:qa c j Y):∃q,cS c.n Q q Y.aH Y.bo/\fv c.n G c.aH q Y.aH/\Y.n=c.n:=by
 induction r with
 |nil=>exact⟨G,h,fv.rfl,rfl⟩
 |@step j T l e q z r d=>
  obtain⟨Z,l,D,R⟩:=d;have u:=q.cQ X;rw[<-R]at l D o⊢;obtain⟨M,h,X,T⟩:=l.take u o r;exact⟨M,h,D.trans X,T⟩
def kE(n:Int)(P:ab (ag×bN))(x:ag)(c:aN):Prop:=eJ c n=true/\(c.cv=bN.z\/a8 P x=some c.cv)
def kE.ok(n:Int)(ds:ab (ag×bN))(x:ag):jw n (kE n ds x) where
 m c d dE dM:=by obtain⟨bg,bY,cd,gX⟩:=oD dM.1;exact⟨HW dE.1 bY gX,dE.2⟩
 z:=⟨CH,.inl rfl⟩
 g c h:=h.1
 d c Y h e bF:=⟨bF,by rw[e];exact h.2⟩
def cS.Xe(h:cS n Q G U J)(aW:∀x c,Q x c->F x c):cS n F G U J:=⟨λx X=>(h.it x X).Xe (aW x),h.jO⟩
def afE{s:bR}(h:s.ok)(X:Int):s.p.at (fW s X)=none:=by
 cases z:s.p.at (fW s X)with
 |none=>rfl
 |some j=>
  have:=aJ.WR h.p z;grind [fW]
def cS.sub{P:ab (ag×bN)}(E:dc k c)(h:cS c.n (kE c.n P) G c.aH c.bo)(cc:∀x d,a8 P x=some d->bq x c.n=true/\im c.n c.aH x){Yc:Int}{d:bN}{x:ag}{e:Int}(b7:nr c Yc d x e Y):∃D,cS c.n (kE c.n (q1 P d (if e=0 then some x else none))) D Y.aH Y.bo/\fv c.n G c.aH D Y.aH/\Y.n=c.n/\∀y f,a8 (q1 P d (if e=0 then some x else none)) y=some f->bq y c.n=true/\im c.n Y.aH y:=by
 have u:∀{kG:Int} {l:bw},kG≠0->(∃D,cS c.n (kE c.n P) D l.aH l.bo/\fv c.n G c.aH D l.aH/\l.n=c.n/\∀y f,a8 P y=some f->bq y c.n=true/\im c.n l.aH y)->∃D,cS c.n (kE c.n (q1 P d (if kG=0 then some x else none))) D l.aH l.bo/\fv c.n G c.aH D l.aH/\l.n=c.n/\∀y f,a8 (q1 P d (if kG=0 then some x else none)) y=some f->bq y c.n=true/\im c.n l.aH y:=by intro kG l L j;rw[aM L];exact j
 rcases b7 with⟨dz,_,L,rfl⟩|⟨_,i,hB,gA,s1,g4,s2,mx,t,o,s⟩
 .exact u (by rw[L];exact dz) ⟨G,h,fv.rfl,rfl,cc⟩
 have R:=E.up _ _ _ _ t;have ao:=(cT.1 t).1;have Yf:=E.len;have Yh:=o.up R;have Yr:s2=s1->e≠0->∃D,cS c.n (kE c.n (q1 P d (if e=0 then some x else none))) D Y.aH Y.bo/\fv c.n G c.aH D Y.aH/\Y.n=c.n/\∀y f,a8 (q1 P d (if e=0 then some x else none)) y=some f->bq y c.n=true/\im c.n Y.aH y:=by
  intro dx L;subst dx;obtain⟨kD,yl⟩:=cS.act (bo:=c.bo) (lQ:=G) E.n E.len (kE.ok c.n P) h t (h.qe t) hb.refl R.n R.bt (λz w=>w) E.bo s;refine u L ⟨G,kD,yl,s.same.1,λy f dM=>?_⟩;obtain⟨Yo,Yp⟩:=cc y f dM;refine⟨Yo,?_⟩;obtain⟨kr,Aa,g0,I3,Yi,rfl⟩:=s;rw[oT ao]at Yi;cases Yi;obtain⟨r,g,T⟩:=Yp;unfold im bw.VL;dsimp only;rw[IR];by_cases e:y.a1.toNat=i
  .refine⟨_,by rw[e,oT ao],?_⟩;rw[e,t]at g;cases g;exact T
  .grind
 rcases o with⟨_,_,L,rfl⟩|⟨_,_,_,L,rfl⟩|⟨dM,Ym,X,L,p,Yk⟩
 .grind
 .grind
 .subst L;rw[aQ rfl];show∃D,cS c.n (kE c.n (bx P x d)) D Y.aH Y.bo/\fv c.n G c.aH D Y.aH/\Y.n=c.n/\∀y f,a8 (bx P x d) y=some f->bq y c.n=true/\im c.n Y.aH y
  have Yg:=afE R.y.aA s1.self;rw[<-X]at Yg;have Yl:x.a1=(i:Int):=by rw[X];exact R.self
  have Yq:¬im c.n c.aH x:=by rintro⟨r,g,T⟩;rw[Yl,i3,t]at g;cases g;have:(s1.aA.p.at x).isSome=true:=T;grind
  have Yj:bq x c.n=true:=by
   have j:x.bT<=64:=by rw[X];exact Ym
   have bY:1<=x.bT:=by
    rw[X];show 1<=(s1.aA.p.top s1.self:Int)+1
    omega
   unfold bq;grind
  have Yn:∀z,jw c.n (kE c.n (bx P x d) z):=kE.ok c.n _;have hd:cS c.n (kE c.n (bx P x d)) G c.aH c.bo:=h.Xe λz q aW=>by refine⟨aW.1,aW.2.imp id λj=>?_⟩;grind [hw]
  have ctx:=cS.ctx (Q:=kE c.n (bx P x d)) E.n E.len Yn ao;have W:kE c.n (bx P x d) (fW s1.aA s1.self) (s1.Um d).call:=by
   rw[<-X];refine⟨?_,.inr (by rw[hw,aQ rfl];rfl)⟩;obtain⟨eX,oo,m2⟩:=CI R.y.aA d (fW s1.aA s1.self);rw[R.y.en,R.n]at eX;show eJ ⟨d,_,_⟩ c.n=true
   unfold eJ;dsimp only;rw[dM.1,eX,ic oo,ic m2];rfl
  obtain⟨Z,s6,jI,qW⟩:=fj.sub ctx R.y R.v R.n R.self (hd.qe t) R.bt dM Ym W (λpI b=>by rw[<-X]at b;exact Yq (h.jO x pI Yj (by rw[Yl];exact b))) (by rw[<-X];exact Yg) Yk
  rw[<-X]at jI qW;have Ye:∀z,bq z c.n=true->(im c.n c.aH z\/z=x)->im c.n (c.aH.set i (.up hB g4 s2)) z:=by
   rintro z a w;by_cases e:z.a1.toNat=i
   .refine⟨.up hB g4 s2,Uh,?_⟩;rcases w with⟨r,g,T⟩|rfl
    .rw[e,t]at g;cases g;exact(jI z a).2.2 T
    .exact qW
   .rcases w with⟨r,g,T⟩|rfl
    .exact⟨r,Uh,T⟩
    .grind
  obtain⟨l,q⟩:=cS.Xf E.n E.len Yn ao s6 Yh.n Yh.bt (λz w=>w) E.bo (λz pI a P=>Ye z a (((jI z a).2.1 pI P).imp (h.jO z pI a) id)) s;refine⟨Z,l,λz a=>⟨λpI b=>?_,λj=>(q z).2 (Ye z a (.inl j))⟩,s.same.1,λz f w=>?_⟩
  .rw[(q z).1];have dx:=uM (n:=c.n) t z;rw[<-dx]at b;exact b.V' (jI z a).1
  .grind [hw]
def cS.abX{z:ab (ag×bN)}(u:dc k c)(p:k<=1000000000000)(h:cS c.n (kE c.n z) G c.aH c.bo)(E:∀x d,a8 z x=some d->bq x c.n=true/\im c.n c.aH x){a:fS}{o:aT ag}(q:hF c a Y o):∃D,cS c.n (kE c.n (q1 z a.cv o)) D Y.aH Y.bo/\fv c.n G c.aH D Y.aH/\Y.n=c.n/\∀y t,a8 (q1 z a.cv o) y=some t->bq y c.n=true/\im c.n Y.aH y:=by
 have W:=kE.ok c.n z;have f:(∃D,cS c.n (kE c.n z) D Y.aH Y.bo/\fv c.n G c.aH D Y.aH/\Y.n=c.n)->∃D,cS c.n (kE c.n z) D Y.aH Y.bo/\fv c.n G c.aH D Y.aH/\Y.n=c.n/\∀y t,a8 z y=some t->bq y c.n=true/\im c.n Y.aH y:=
  λ⟨D,X,T,R⟩=>⟨D,X,T,R,λy t w=>⟨(E y t w).1,(T y (E y t w).1).2 (E y t w).2⟩⟩
 cases q with
 |sub _ X=>exact h.sub u E X
 |take _ X=>exact f (h.take u W X)
 |half _ X=>exact f (h.half u W X)
 |Dk _ X=>
  refine f ?_;rcases X with⟨_,_,rfl⟩|⟨_,_,_,rfl⟩
  .grind [fv.rfl]
  .exact⟨G,h.less a.N,fv.rfl,rfl⟩
 |Dl _ X=>
  refine f ?_;rcases X with⟨_,_,rfl⟩|⟨_,_,_,rfl⟩
  .grind [fv.rfl]
  .exact⟨G,h.ZR λz v=>IS v,fv.rfl,rfl⟩
 |tick _ D X=>exact f (cS.tick W u h X)
 |x3 _ X=>exact f (h.x3 u W X)
 |start _ X=>exact f (h.start u p W X)
 |cut _=>exact f ⟨G,h,fv.rfl,rfl⟩
 |Dm _=>exact f ⟨G,h,fv.rfl,rfl⟩
 |settle _ X=>
  obtain⟨j,T,_⟩:=X;exact f (cS.settle W u h T)
 |none _=>exact f ⟨G,h,fv.rfl,rfl⟩
def DR:c7:=⟨λ_ _=>False,λ_ _=>False,λ_ _=>False,λ_=>False,λ_ _ _ _ _ _=>False⟩
def Tz(n F R:Int):e6 n F R (λ_=>aX.z) DR:=⟨λ_=>⟨gg _,⟨by show(0:Int)<=0;omega,by show(0:Int)<=3;omega⟩,λh=>absurd h (by show(0:Int)≠1;omega),λh=>absurd h (by show(0:Int)≠2;omega),λ_ h=>h.elim,λh=>h.elim,λ_ _ _ _ _ h=>h.elim⟩,λ_ _ _ _ _ _ h=>h.elim,λ_ _ _ h=>h.elim,λ_ _ _ h=>h.elim,λ_ _ h=>h.elim,λ_ _ h=>h.elim,λ_ _ h=>h.elim,λ_ _ h=>h.elim,λ_ _ h=>h.elim,λ_ _ h=>(h.elim id id).elim,λ_ _ h=>h.elim,λ_ h=>h.elim,λ_ h=>h.elim⟩
def cS.new(a:n=3\/n=5\/n=7){c:bw}(h:ns n c):cS n (kE n []) (λ_=>DR) c.aH c.bo:=by
 have W:∀(i:Nat) (y:cC) (x:ag),c.aH[i]?=some y->y.at n x=none/\y.lc x=tj:=by
  intro i y x q;have ao:=(cT.1 q).1;have R:=h.len;obtain⟨b,L,s,rfl,d,X,u,f,g,o,P⟩:=(h.up i y q).up a ac;have v:s.aA.p.at x=none:=by
   rw[o];show(aJ.new n:aJ aX).at x=none
   cases T:(aJ.new n:aJ aX).at x with
   |none=>rfl
   |some j=>
    have:=(Dz (p:=(aJ.new n:aJ aX)) (by have:=d.y.aA.p;rw[o]at this;exact this) x).2 (by rw[T];rfl);grind [Jn]
  refine⟨v,?_⟩;show dj s x=tj
  unfold dj tj;rw[f,g,d.bt,X];congr 1;funext m;simp
 have D:∀x,gj n c.aH x=λ_=>aX.z:=λx=>by grind [gj]
 have R:∀x,kd c.aH x=λ_=>tj:=λx=>by grind [kd]
 refine⟨λx T=>?_,λ_ _ _ h=>h.elim⟩;rw[D,R,h.bo];refine⟨Tz ..,λj=>?_,λm E=>?_,λj f=>absurd f (by show(0:Int)≠3;omega),λj=>HT ac,λj=>⟨CH,.inl rfl⟩⟩
 .exact{
   cw:=λl R=>by cases R
   ju:=λl r R=>by cases R
   jg:=λl R=>by cases R
   eM:=λl R=>by cases R
   hS:=λr t=>by cases t
   fb:=λr t=>by cases t
   st:=λ_=>⟨rfl,rfl⟩
   bt:=λm E=>by cases E
   ck:=λm E=>E.elim}
 .obtain⟨_,y,q,_⟩:=E;cases q
end
end Go.Proofs.YteogojgnkjegmaaGreatDoor
namespace Go.Proofs.YteogojgnkjegmaaGreatDoor
open Go.ay Go.Proofs.Tryz
variable[Go.ay.b4]
variable{n:Int}{G:ag->c7}
structure n6(n:Int)(j:Nat)(G:ag->c7)(u:nY):Prop where
 y:dc (2000+70000000*j) u.c
 un:u.n=n/\u.c.n=n
 dZ:u.dZ=(j:Int)
 k:∀x d,a8 u.my x=some d->bq x n=true/\im n u.c.aH x
 g:cS n (kE n u.my) G u.c.aH u.c.bo
def n6.new{u:nY}(a:n=3\/n=5\/n=7)(h:ns n u.c)(Y:u.n=n)(N:u.my=[])(R:u.dZ=0):n6 n 0 (λ_=>DR) u:=by
 refine⟨(h.y a).mono ac,⟨Y,h.aI⟩,R,λx d w=>?_,?_⟩
 .rw[N,m4]at w;cases w
 .rw[N];exact cS.new a h
def n6.ZT{j:Nat}{u b:nY}{a:fS}(h:n6 n j G u)(y:j<=1000)(w:x4 u a b):∃Q,n6 n (j+1) Q b/\fv n G u.c.aH Q b.c.aH:=by obtain⟨o,K,Y,N,R⟩:=w;obtain⟨U,w⟩:=h.un;have G:=h.g;have u:=h.k;rw[<-w]at G u;obtain⟨Q,l,q,f,D⟩:=cS.abX h.y ac G u K;rw[<-Y]at l D;rw[w]at l q f D;exact⟨Q,⟨(K.cQ h.y ac).mono ac,⟨by rw[R,U],f⟩,by rw[N,h.dZ];omega,D,l⟩,q⟩
def n6.at{j:Nat}{u:nY}(h:n6 n j G u){i b:Nat}{L:cW}{s:aC}(U:u.c.aH[i]?=some (.up b L s)){x:ag}{I:aX}(K:(x,I)∈s.aA.p.all):bq x n=true/\gj n u.c.aH x i=I/\bP s.aA.p x=I:=by
 have R:=h.y.up _ _ _ _ U;have Y:=(aJ.Ve R.y.aA.p).1 K;have b:bP s.aA.p x=I:=by unfold bP;rw[Y];rfl
 refine⟨?_,?_,b⟩
 .have N:=(R.y.aA.g1 _ K).1;rw[R.y.en,R.n,h.un.2]at N;exact N
 .have:=uM (n:=n) U x;rw[<-this,lN];exact b
def ai6(n:Int)(e:ax)(i:aT Go.Addr)(Q b off:Nat)(Z:ab fS)(h:Ab Z)(P:Rd e i Z.length b off 11 (Z.map fS.c)):ar prog 4 [I n,.slice i Z.length Q] [e,cJ] (λr J=>r=B true/\J=[e,cJ]):=by
 have dJ:=Jq;have dv:=I2 n e i Q b off Z (λx U=>(h x U).1) P;refine aE func4 λW=>?_;generalize bn _=D;refine aq 2 λC=>?_;refine aa 19 ?_;rintro _ _⟨X,l,rfl,rfl⟩;refine TT λg=>?_;have v:=l g;have hJ:=Jr n v.n;refine aa 4 ?_;rintro v4 aig⟨d,⟨t,⟨o,⟨⟨q,w,l,R⟩,rfl,rfl⟩⟩⟩⟩;refine aq 1 λl5=>?_;refine aa 12 ?_;have p:=v.len;refine ah.cp [5,4,0] (λy:Nat×we×nY=>y.1<=Z.length/\∃G,n6 n y.1 G y.2.2) (λy=>[(20,.slice i Z.length Q),(21,I (Z.length:Int)),(22,I (y.1:Int))]) (λy=>[aL (lq d y.2.1 y.2.2)]) (λy=>Z.length-y.1) (0,t,o) ⟨cO _,_,n6.new v.n q w l R⟩ ?_;rintro⟨k,T,u⟩⟨L,G,E⟩ K m;dsimp only at L E;refine bl ?_;by_cases s:k<Z.length
 .obtain⟨a,F⟩:=cl s;have Y:=h a (jX F);have j:=E.dZ;have nb:=Js d T u a _ E.y ac ac Y.2;refine aq 15 λmE=>?_;refine aa 7 ?_;rintro _ _⟨N,M,w,rfl,rfl⟩;refine aa 8 ?_;rotate_left;all_goals
   obtain⟨z,f,_⟩:=E.ZT ac TX;exact Out.z' m (k+1,_,_) ⟨QR,z,f⟩ Ob
 .obtain rfl:k=Z.length:=by omega
  clear m;refine ah.V5 (be:=lq d T u) ?_;unfold lq b5;refine bl ?_;refine aa 19 ?_;refine ah.X1 [5,4,0] (λy:Nat=>y<=n.toNat) (λy=>[(8,I (y:Int))]) (λy=>[fq u.c.aH]) (λy=>n.toNat-y) 0 (cO _) ?_;rintro j P b K m;refine bl ?_;have J:=IT T.na T.L u.c (j:Int) E.y.toClN;unfold b5 at J;have r:=v.n;by_cases N:(j:Int)<n
  .obtain⟨i,Q⟩:=cl (t:=u.c.aH) (k:=j) (by have:=E.y.len;have:=E.un.2;omega);rw[Jw (by rw[E.un.2];omega) Q]at J;cases i with
   |up F L s=>
    have R:=Ju Q;have f:=Jv Q;refine aa 25 ?_;rintro _ _⟨Y,rfl,rfl⟩;refine aa 4 ?_;rotate_left;have J:=(E.y.up _ _ _ _ Q).y.aA.p.towf;refine ah.rg (tU Y s.X.ee s.X.R s.aA.p J) (λ_:Unit=>[cells C 4 [B false],cells l5 25 [aw d 0],cells d 41 (lf.c ⟨aw T.na 0,u.n,.map (some T.qF),.map (some T.pW),u.dZ⟩),bz cg uC T.qF u.my]) (λ_ _=>True) (λ_ _ _=>False) () trivial ?_ ?_ ?_
    .rintro pre x L _ a rec U-f w o K r;dsimp only[encI,List.cons_append,List.nil_append];have K:x∈s.aA.p.all:=by rw[U];simp
     obtain⟨J,N,-⟩:=E.at Q K;have aW:=((E.g.it x.1 J).q (j:Int)).2;rw[N]at aW;have h (q:Nat):=bN.R' x.2.Call.cv bN.z q;by_cases w:x.2.Call.cv=bN.z
     .simp only[w,Cd]at h;refine aq 2 λt=>?_;refine aq 4 λl=>?_;refine aa 5 ?_;refine ah.n' ?_ aB.j.j.d'.j.j.d'.j;refine OL ?_ ?_ ?_;refine av.x' (aK.Vs bN.z (o:=a8 u.my x.1) rfl ct uD wl rfl rfl T1) ?_;refine au ?_;refine ae 3 6 ?_;refine df 9 λE=>?_;refine ae 2 10 ?_;refine aa 8 ?_;refine ai.v (V.ne (bN.R' _ _ _)) ?_;refine aa 17 ?_;rotate_left;refine O.N' ad (λE=>?_);refine au ?_;refine Kn ?_;rotate_left;refine LA λE=>?_;refine Kn ?_;rotate_left;all_goals exact Out.rd r () trivial
     .have G:a8 u.my x.1=some x.2.Call.cv:=aW.resolve_left w;simp only[w,tD]at h;have W (q:Nat):c6 prog (q+2) 29 (A ((some x.2.Call.cv).getD bN.z).c) (A x.2.Call.cv.c) true:=by have:=bN.R' x.2.Call.cv x.2.Call.cv q;simpa using this
      refine aq 2 λt=>?_;refine aq 4 λl=>?_;refine aa 5 ?_;refine ah.n' ?_ aB.j.j.d'.j.j.d'.j;refine OL ?_ ?_ ?_;refine av.x' (aK.Vs bN.z G ct uD wl rfl rfl T1) ?_;refine au ?_;refine ae 3 6 ?_;refine df 9 λE=>?_;refine ae 2 10 ?_;refine aa 8 ?_;refine SA ?_;rotate_left;refine O.N' ad (λE=>?_);refine au ?_;refine af.q' 5 rfl (av.x' (aK.Vs bN.z G ct uD wl rfl rfl T1) ?_);refine au ?_;refine PL ?_;refine SA ?_;rotate_left;refine LA λE=>?_;refine af.q' 5 rfl (av.x' (aK.Vs bN.z G ct uD wl rfl rfl T1) ?_);refine au ?_;refine PL ?_;refine SA ?_;rotate_left;all_goals exact Out.rd r () trivial
    .rintro _ c _;refine bl ?_;refine Out.pt (Jt Q) ?_;refine aa 8 ?_;exact Out.Wt m [c] (j+1) ac ac
    exact Sw
   |dn g W l b9 b=>
    refine aa 22 ?_;refine ai.o (av.fn rfl (Ii) ?_);refine ai.p' rfl (GH) ?_;rintro _ _⟨Y,t,g,rfl,rfl⟩;refine aa 4 ?_;rotate_left;refine ah.rg (tU Y t g (aJ.new 0) (aJ.UL 0).towf) (λ_:Unit=>[]) (λ_ _=>True) (λ_ _ _=>False) () trivial ?_ ?_ ?_
    .rintro pre x L _ a rec U;rw[show(aJ.new 0:aJ aX).all=[]from rfl]at U;simp at U
    .rintro _ c _;refine bl ?_;refine aa 8 ?_;exact Out.Wt m [c] (j+1) ac ac
    exact Sw
  .clear m;refine ah.V5 (be:=fY P) ?_;refine bl ?_;refine aa 20 ?_;refine Out.dx rfl (e1.hV ad) ?_
   .exact⟨_,_,⟨rfl,rfl⟩,Jp (l:=[_,_,_,_,_,_,_,_,_,_,_,_,_]) Uc⟩
end Go.Proofs.YteogojgnkjegmaaGreatDoor
namespace Go.ay
open Go
def ar.runK{P:bU}{f:eR}{args:ab aj}{x:aj}{c:aZ}{y:ab Nat}{k:ax}(a:k.gk=[0])(u:k.holds c)(z:∀w,k.holds w->w.heap[0]?=c.heap[0]?)(p:y.Nodup)(X:∀b,b∈y->b<c.heap.size)(o:0∉y)(h:ar P f args [snap c y,k] (λv J=>v=x/\J=[snap c y,k])):Calls P f args.toArray c λe U=>e=.returned x/\uZ c U:=by
 have r:hn [snap c y,k] c:=by
  refine⟨λe L=>?_,?_⟩
  .grind [List.mem_nil_iff,AP]
  .grind [bn,EF]
 refine(ar.run h c r).mono λe U j=>?_;obtain⟨v,J,rfl,⟨rfl,rfl⟩,t⟩:=j;refine⟨rfl,λb T=>?_,t.os,t.output⟩;by_cases K:b∈y
 .have:=t.mem (e:=snap c y) T3;grind [AP]
 .by_cases Y:b=0
  .subst Y;exact z _ (t.mem (e:=k) T3)
  .exact t.cQ b T (by grind [bn,EF])
end Go.ay
namespace Go.Proofs.YteogojgnkjegmaaGreatDoor
open Go Go.ay Go.ChangeShapes Go.WideShapes Go.ChangeAt Go.RowKit Go.Proofs.Tryz
def adv:prog.globalNamed "caucus/mail.kinds" =some 0:=T7
def adV:(prog.globals[0]?).map (·.type)=some 287:=T7
def agc:prog.underlying 287=some (.array 9 286):=T7
theorem ajX:(match prog.underlying 286 with|some (.struct P)=>(P.map λf=>(f.type,f.offset))==#[(4,0),(4,1)]|_=>false)=true:=T7
def adm:∃P,prog.underlying 286=some (.struct P)/\(P.map λf=>(f.type,f.offset))=#[(4,0),(4,1)]:=by grind [ajX]
def adh:prog.cellsOf 287=18/\prog.cellsOf 286=2/\prog.cellsOf 4=1:=⟨T7,T7,T7⟩
def JY{W:aZ}(h:laidMetH prog [("caucus/mail.kinds",Rows.laid_caucus_mail_kinds)] W):∃cs:ab aj,cs.length=18/\(∀i,W.cell? ⟨0,i,none⟩=cs[i]?)/\∀k,k<9->cs[2*k]?=some (B (i6 k))/\cs[2*k+1]?=some (B (ig k)):=by
 rw[JZ _ _ _ T7]at h;obtain⟨aY,⟨g,t,cs,y,p,q,G,j,L,w,_,_⟩,_,_⟩:=h;obtain rfl:=hc (adv.symm.trans G);obtain rfl:=hc (adV.symm.trans j);obtain⟨J,n,Q⟩:=adh;obtain⟨Z,m,_,ex,R,T,Yg⟩:=DataW.trod_array agc w;rw[J]at R;refine⟨cs.toList,R,λi=>by rw[World.var?_cell G L i];simp,λk u=>?_⟩;have Y:=Yg k u;rw[n,hs ac]at Y;obtain⟨P,Yc,F⟩:=adm;have M:P.size=2:=by have:=dp Array.size F;simpa using this
 obtain⟨K,E,_,Cj,_,X,Ye⟩:=DataW.trod_struct Yc Y;have r:P[0]?=some P[0]:=by simp[M]
 have f:P[1]?=some P[1]:=by simp[M]
 have v:(P[0].type,P[0].offset)=(4,0):=by have:=dp (λa=>a[0]?) F;simpa[M]using this
 have s:(P[1].type,P[1].offset)=(4,1):=by have:=dp (λa=>a[1]?) F;simpa[M]using this
 have b:=Ye 0 _ r;have C:=Ye 1 _ f;rw[(wL v).1,(wL v).2,Q,hs ac]at b;rw[(wL s).1,(wL s).2,Q,hs ac]at C;obtain⟨D,N,z⟩:=DataW.trod_bool Tryz.underlying4 b;obtain⟨x,c,d⟩:=DataW.trod_bool Tryz.underlying4 C;have U:(Z.map (·.1))[k]?=some (.agg [.lit (.bool D),.lit (.bool x)]):=by
  rw[h9,hs ac,pc,Cj];match K,X,z,d with
  |[a0,l],_,z,d=>
   grind
  |[],X,_,_=>rw[M]at X;cases X
  |[_],X,_,_=>rw[M]at X;cases X
  |_::_::_::_,X,_,_=>rw[M]at X;simp at X
 have Yf:Z.map (·.1)=_:=(DataW.agg.inj (wL ex).1).symm;rw[Yf]at U;have Yh:cs.toList[2*k]?=some (B D):=by
  have o:(List.take 1 (List.drop 0 (List.take 2 (List.drop (k*2) cs.toList))))[0]?=some (B D):=by rw[N];rfl
  grind
 have Yi:cs.toList[2*k+1]?=some (B x):=by
  have o:(List.take 1 (List.drop 1 (List.take 2 (List.drop (k*2) cs.toList))))[0]?=some (B x):=by rw[c];rfl
  grind
 rw[Yh,Yi];have Yj:k=0\/k=1\/k=2\/k=3\/k=4\/k=5\/k=6\/k=7\/k=8:=ac
 rcases Yj with rfl|rfl|rfl|rfl|rfl|rfl|rfl|rfl|rfl<;>(simp at U;obtain⟨rfl,rfl⟩:=U;exact⟨rfl,rfl⟩)
def J0{W:aZ}(h:laidMetH prog [("caucus/mail.kinds",Rows.laid_caucus_mail_kinds)] W):(@cJ ⟨W.heap[0]?⟩).holds W:=by
 obtain⟨cs,T,q,u⟩:=JY h;letI:b4:=⟨W.heap[0]?⟩
 refine⟨rfl,λi x U=>?_⟩;have ao:i<9:=by have:=(cT.1 U).1;simpa[xt]using this
 rw[xu ao]at U;grind
def J1{W:aZ}(h:laidMetH prog [("caucus/mail.kinds",Rows.laid_caucus_mail_kinds)] W){b off:Nat}{Z:ab fS}(Q:sc W b off 11 (Z.map fS.c))(U:0<Z.length):b≠0:=by
 rintro rfl;obtain⟨cs,T,q,u⟩:=JY h;obtain⟨x,U⟩:=cl U;have Y:=(Q 0 x.c Uh).2 0 _ rfl;rw[q]at Y;have Y:cs[off]?=some (.int .i64 x.Kind):=by simpa using Y
 have N:=(cT.1 Y).1;rcases Nat.mod_two_eq_zero_or_one off with e|e
 .have:=(u (off/2) ac).1;grind
 .have:=(u (off/2) ac).2;grind
end Go.Proofs.YteogojgnkjegmaaGreatDoor
namespace Go.Proofs.YteogojgnkjegmaaGreatDoor
open Go Go.Proofs.Tryz
def DS:(prog.mayEnter&&(Rows.coreToldRow.lifted==prog.liftsFinal)&&(prog.make==some Rows.coreToldRow.make))=true:=T7
def aij:prog.mayEnter=true:=(Ar.mp (Ar.mp DS).1).1
def J3:prog.liftsFinal=Rows.coreToldRow.lifted:=(cX.mp (Ar.mp (Ar.mp DS).1).2).symm
def ae8:prog.make=some Rows.coreToldRow.make:=cX.mp (Ar.mp DS).2
end Go.Proofs.YteogojgnkjegmaaGreatDoor
