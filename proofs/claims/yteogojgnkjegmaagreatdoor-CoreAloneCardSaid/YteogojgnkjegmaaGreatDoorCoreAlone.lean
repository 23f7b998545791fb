/-
  Proved is the given statement CoreAloneCardSaid: without a majority nothing is committed, nor told.
  Conditions: those of the row itself (3, 5 or 7 replicas, 20 acts, texts of 100 bytes, 60 ticks), nothing else.
-/
import Derived.Test.YteogojgnkjegmaaGreatDoorYa
import Derived.Test.YteogojgnkjegmaaGreatDoorCards
import Derived.Test.YteogojgnkjegmaaGreatDoorRows
import Derived.Test.YteogojgnkjegmaaGreatDoorTie
set_option linter.all false
set_option maxRecDepth 8000
set_option maxHeartbeats 8000000
namespace Go.Proofs.YteogojgnkjegmaaGreatDoor
open Go.ay Go.Proofs.Tryz
variable[Go.ay.bR]
def mc(f:Int)(m:aD):Prop:=(m.Kind=1\/m.Kind=2\/m.Kind=6\/m.Kind=7\/m.Kind=8)/\0<=m.bm/\m.bm<f
def qt(f:Int)(l:a2):Prop:=l.phase=1/\∀p∈fd l.pl l.c2,(p.1:Int)<f
def qu(f:Int)(r:bO):Prop:=r.l2=none/\∀p∈fd r.x.fx r.x.en,(p.1:Int)<f
def Bx{D:Type}{l:ab D}{h:ab Bool}{f:Int}(v:∀p∈fd l h,(p.1:Int)<f)(j:0<=f):((fd l h).length:Int)<=f:=by
 obtain⟨N,rfl⟩:=q7 j;have F:=G6 N ((fd l h).map λp=>(p.1:Int)) (by
  have:=aa3 (G8 (l:=l) (h:=h) 7);rw[wc]at this;exact this) λj p=>by
  grind
 grind
section
variable{f n i k:Int}{l:a2}{m:aD}{r:bO}
def qt.z'{n i:Int}{x:ag}{b:bk}(G:hp l n i x b)(h:qt f l)(U:cD n=f)(F:1<=f)(K:mc f m):((l.z' m).2=false/\qt f (l.z' m).1)\/((l.z' m).2=true/\(l.z' m).1.phase=4):=by
 obtain⟨v,t⟩:=h;unfold a2.z';split
 exact Lz
 split
 .rename_i N;have:=K.1;omega
 split
 .grind
 split
 exact Lz
 split
 .unfold a2.Sa;split
  .rename_i u;obtain⟨z,Z⟩:=MP G.wf u;have C:=Fh (m:=m) z G.wf.pl Z;have M:∀p∈fd (l.put m.bm m).pl (l.put m.bm m).c2,(p.1:Int)<f:=by
    intro p v;rcases dq.1 (C.mem_iff.1 v)with rfl|v
    .have:=K.2;dsimp only;omega
    .exact t p v
   have P:=G.wf.put u m;have d:=Bx M ac;have W:(l.put m.bm m).dL=((fd (l.put m.bm m).pl (l.put m.bm m).c2).length:Int):=by rw[Bk P.pl P.c2,<-P.dL]
   have L:(l.put m.bm m).dL=l.dL+1:=rfl;have J:(kY (fd (l.put m.bm m).pl (l.put m.bm m).c2):Int)<=((fd (l.put m.bm m).pl (l.put m.bm m).c2).length:Int):=by grind [List.length_filter_le,fd,kY]
   rw[aN (by rw[G.n,U];omega),aT (by rw[G.n,U];omega)];exact .inl ⟨rfl,v,M⟩
  exact Lz
 split
 .rename_i g;omega
 exact Lz
def qt.late{n i:Int}{x:ag}{b:bk}(J:hp l n i x b)(h:qt f l)(U:cD n=f)(F:1<=f):l.late.1=l:=by have d:=Bx h.2 ac;rw[Bk J.wf.pl J.wf.c2,<-J.wf.dL]at d;unfold a2.late;rw[aN (by rw[J.n,U];omega)]
def qt.C'{n i:Int}{x:ag}{b:bk}(F:hp l n i x b)(h:qt f l)(ao:0<=i/\i<f):∀o∈l.C',mc f o:=by
 intro o Z;unfold a2.C' at Z;rw[aT (.inl h.1)]at Z;obtain⟨j,_,rfl⟩:=fh.1 Z;refine⟨.inl ?_,?_⟩
 .show ps l.phase=1;rw[h.1];rfl
 .show 0<=l.self/\l.self<f;rw[F.self];exact ao
def qu.z'(ok:r.ok)(h:qu f r)(c:r.x.n=n)(J:cD n=f)(F:1<=f)(K:mc f m):((r.z' m).2=false/\qu f (r.z' m).1)\/((r.z' m).2=true/\(r.z' m).1.lost=true):=by
 obtain⟨U,t⟩:=h;unfold bO.z';split
 .exact .inl ⟨rfl,U,t⟩
 rename_i M;have g:=bK.Tr M;rw[U];dsimp only;split
 .rename_i N;have:=K.1;omega
 split
 .exact .inr ⟨rfl,by unfold bO.lost;rfl⟩
 split
 .split
  .exact .inl ⟨rfl,U,t⟩
  rename_i D;have Q:=ok.n;have G:r.x.en[m.bm.toNat]?=some false:=by
   have E:m.bm.toNat<r.x.en.length:=XK
   obtain⟨v,t⟩:=b8 (q:=r.x.en) E;rw[jM,t]at D;rw[t];cases v
   .rfl
   .exact absurd rfl D
  have b:(fd (gf r.x m).fx (gf r.x m).en).Perm ((m.bm.toNat,m)::fd r.x.fx r.x.en):=Fh (by have:=g.fn;have:=g.f0;omega) ok.w.fx G;have Z:∀p∈fd (gf r.x m).fx (gf r.x m).en,(p.1:Int)<f:=by
   intro p a;rcases dq.1 (b.mem_iff.1 a)with rfl|a
   .have:=K.2;dsimp only;omega
   .exact t p a
  have d:=Bx Z ac;have y:(gf r.x m).iw=0:=by unfold bK.iw;rw[Fk];have b:(gf r.x m).n=n:=c;rw[b,J];unfold bK.list;rw[ev];omega
  rw[aT y];exact .inl ⟨rfl,rfl,Z⟩
 .exact .inl ⟨rfl,U,t⟩
def qu.C'(h:qu f r)(ao:0<=r.x.self/\r.x.self<f):∀o∈r.C',mc f o:=by
 intro o Z;unfold bO.C' at Z;split at Z
 .cases Z
 .rw[h.1]at Z;dsimp only at Z;obtain⟨j,_,rfl⟩:=fh.1 Z;exact⟨.inr (.inr (.inl rfl)),ao⟩
end
def By{D o:Type}[DecidableEq D]{k:D}{v:o}{z:D×o}:∀{l:ab (D×o)},z∈eC (bw l k v) k->z∈l
 |[],h=>by grind [oe,r4]
 |p::l,h=>by
  rw[ka]at h;split at h
  .grind [r4,List.mem_cons_of_mem]
  .rename_i e;rw[r4,aN e]at h;rcases dq.1 h with rfl|h
   .grind
   .exact hn _ (By h)
structure hR(f n i:Int)(s:aC):Prop where
 fu:∀x,(b7 s.aH.p x).Status≠3
 cC:∀y∈s.leads,qt f y.2.v
 rs:∀y∈s.bp,qu f y.2.v
 dy:∀m∈s.inbox,mc f m
 nu:∀y∈s.out,∃m,eo m n=true/\y=⟨i,m.b3,gj m⟩/\mc f m/\m.bm=i
 cF:s.run.cF=[]
 told:s.told=[]
section
variable{f n i:Int}{s Y:aC}{m:aD}{k:Nat}
def hR.Sl{b:ab aD}(h:hR f n i s)(X:s.n=n)(x:s.self=i)(Q:g8 s b Y)(K:∀o∈b,mc f o/\o.bm=i):(∀m∈Y.inbox,mc f m)/\∀y∈Y.out,∃m,eo m n=true/\y=⟨i,m.b3,gj m⟩/\mc f m/\m.bm=i:=by
 refine⟨λo Z=>?_,λy G=>?_⟩
 .rcases(abZ Q o).1 Z with Z|Z
  .exact h.dy o Z
  .exact(K o Z.1).1
 .rw[Q.2.1]at G;rcases eN.1 G with G|G
  .exact h.nu y G
  .unfold gx at G;grind
def hR.z'(y:eI k s)(v:dR s)(Bz:s.n=n)(es:s.self=i)(ao:0<=i/\i<f)(dK:cD n=f)(cm:1<=f)(h:hR f n i s)(Q:mc f m)(lr:fK s m Y):hR f n i Y:=by
 rcases lr with⟨ic,G,_,_,cc⟩|⟨_,T,rfl⟩
 .have ad0:=ud s m G;have E:=Gl s m G;have X:(s.Z' m G).leads=s.leads/\(s.Z' m G).bp=s.bp/\(s.Z' m G).run=s.run/\(s.Z' m G).told=s.told:=by unfold aC.Z';split<;>exact⟨rfl,rfl,rfl,rfl⟩
  have Yf:(∀x,(b7 (cN s.aH s.self m).1.p x).Status≠3)/\((cN s.aH s.self m).2.2=true->mc f (cN s.aH s.self m).2.1/\(cN s.aH s.self m).2.1.bm=i):=by
   by_cases D:eo m s.aH.n=true/\m.b3=s.self
   .obtain⟨rS,qS⟩:=ad8 y.aH D.1 ic;rw[D.2]at rS qS;have N:=h.fu m.Item;have Ye:m.Kind=1\/m.Kind=6:=by have:=Q.1;unfold l5 at ic;omega
    have J:(b7 (cN s.aH s.self m).1.p m.Item).Status≠3/\((cN s.aH s.self m).2.2=true->((cN s.aH s.self m).2.1.Kind=2\/(cN s.aH s.self m).2.1.Kind=7\/(cN s.aH s.self m).2.1.Kind=8)/\(cN s.aH s.self m).2.1.bm=m.b3):=by
     generalize b7 (cN s.aH s.self m).1.p m.Item=acY at*;generalize(cN s.aH s.self m).2.1=a at*;generalize(cN s.aH s.self m).2.2=t at*;cases rS with
     |sH _ cp=>exact absurd cp N
     |pre=>exact⟨by show(1:Int)≠3;omega,λ_=>⟨.inl rfl,rfl⟩⟩
     |sn=>exact⟨N,λ_=>⟨.inl rfl,rfl⟩⟩
     |acc U=>omega
     |Ha U=>omega
     |Bu=>exact⟨N,λ_=>⟨.inr (.inl rfl),rfl⟩⟩
     |Hb=>exact⟨N,λ_=>⟨.inr (.inr rfl),rfl⟩⟩
     |no=>exact⟨N,λU=>by cases U⟩
     |Hc U=>omega
     |new U=>omega
    refine⟨λx=>?_,λR=>?_⟩
    .by_cases e:x=m.Item
     .rw[e];exact J.1
     .have:=h.fu x;grind [b7]
    .obtain⟨jb,kd⟩:=J.2 R;have eu:(cN s.aH s.self m).2.1.bm=i:=by rw[kd,D.2,es]
     refine⟨⟨ac,ac,ac⟩,eu⟩
   .have C:cN s.aH s.self m=(s.aH,aD.z,false):=by grind [cN]
    rw[C];exact⟨h.fu,λU=>by cases U⟩
  have Yc:∀o∈(if(cN s.aH s.self m).2.2=true then[(cN s.aH s.self m).2.1]else[]),mc f o/\o.bm=i:=XK
  obtain⟨nk,vS⟩:=h.Sl Bz es E Yc;rcases cc with⟨cp,_⟩|⟨_,rfl⟩
  .grind
  .refine⟨λx=>XK,λz c=>?_,λz c=>?_,nk,vS,by show(s.Z' m G).run.cF=[];rw[X.2.2.1];exact h.cF,by show(s.Z' m G).told=[];rw[X.2.2.2];exact h.told⟩
   .have F:z∈(s.Z' m G).Sb m.Item (b7 (s.Z' m G).aH.p m.Item).cJ:=c;unfold aC.Sb at F;rw[X.1]at F;refine h.cC z ?_;grind [m6]
   .have F:z∈(s.Z' m G).Sc m.Item (b7 (s.Z' m G).aH.p m.Item).cJ:=c;unfold aC.Sc at F;rw[X.2.1]at F;refine h.rs z ?_;grind [m6]
 .have b:hR f n i (({s with high:=s.RT m}:aC).RO m T):=by
   generalize R:({s with high:=s.RT m}:aC)=t;have j:hR f n i t:=by subst R;exact⟨h.fu,h.cC,h.rs,h.dy,h.nu,h.cF,h.told⟩
   have Yg:t.bp=s.bp:=by subst R;rfl
   unfold aC.RO;cases D:br t.bp m.Item with
   |none=>exact j
   |some e=>
    dsimp only;have w:=lH D;rw[Yg]at w;have M:=y.rs _ w;have L:=h.rs _ w;have K:∀q,qu f q.v->∀z∈bw t.bp m.Item q,qu f z.2.v:=λq bb z c=>by
     rcases oK c with rfl|c
     .exact bb
     .exact j.rs z c
    rcases L.z' (m:=m) M.1 (M.2.1.trans Bz) dK cm Q with⟨W,Z⟩|⟨W,Z⟩
    .rw[aN (by rw[W];simp)];exact⟨j.fu,j.cC,K _ Z,j.dy,j.nu,j.cF,j.told⟩
    .rw[aT W,aT Z,QL Z];refine⟨j.fu,j.cC,λz c=>?_,λo u=>?_,λz c=>?_,j.cF,j.told⟩
     .have F:=(By c)
      exact j.rs z F
     .have P:o∈t.inbox++ez t.self []:=u;rw[show ez t.self []=[]from rfl,dk]at P;exact j.dy o P
     .have F:z∈t.out++gx t.n t.self []:=c;rw[show gx t.n t.self []=[]from rfl,dk]at F;exact j.nu z F
  have d:=(aes ({s with high:=s.RT m}:aC) m T v.gw).1;generalize({s with high:=s.RT m}:aC).RO m T=t at*;unfold aC.R5;cases D:br t.leads m.Item with
  |none=>exact b
  |some e=>
   dsimp only;have w:=lH D;have g:=y.cC _ (by rw[d]at w;exact w);have L:=b.cC _ w;rcases L.z' (m:=m) g.1 (by rw[Bz];exact dK) cm Q with⟨W,Z⟩|⟨W,Z⟩
   .rw[aN (by rw[W];simp)];refine⟨b.fu,λz c=>?_,b.rs,b.dy,b.nu,b.cF,b.told⟩;rcases oK c with rfl|c
    .exact Z
    .exact b.cC z c
   .rw[aT W,aT Z,EZ Z];refine⟨b.fu,λz c=>b.cC z (By c),b.rs,λo u=>?_,λz c=>?_,b.cF,b.told⟩
    .have P:o∈t.inbox++ez t.self []:=u;rw[show ez t.self []=[]from rfl,dk]at P;exact b.dy o P
    .have F:z∈t.out++gx t.n t.self []:=c;rw[show gx t.n t.self []=[]from rfl,dk]at F;exact b.nu z F
def hR.VD(y:eI k s)(v:dR s)(X:s.n=n)(U:s.self=i)(ao:0<=i/\i<f)(x:cD n=f)(F:1<=f)(h:hR f n i s)(b:iH s Y):hR f n i Y:=by
 induction b with
 |refl=>exact h
 |@step s1 s2 m h Q w K u=>
  obtain⟨j,J,_⟩:=iH.cx y Q;have g:=iH.Ss y v Q;have G:=(J.rest w).1;have t:dR {s1 with inbox:=h}:=⟨g.eF,g.gw,g.bU,λo Z=>g.i8 o XK⟩
  obtain⟨J,N⟩:=QO Q;exact hR.z' G t (J.trans X) (N.trans U) ao x F (s:={s1 with inbox:=h}) ⟨u.fu,u.cC,u.rs,λo Z=>u.dy o XK,u.nu,u.cF,u.told⟩ (u.dy m XK) K
def hR.drain(y:eI k s)(v:dR s)(X:s.n=n)(U:s.self=i)(ao:0<=i/\i<f)(x:cD n=f)(F:1<=f)(h:hR f n i s)(b:jB s Y):hR f n i Y:=by obtain⟨s1,J,_,C⟩:=b;have M:=h.VD y v X U ao x F J;rw[rD C M.cF];exact M
def hR.late{x:ag}(y:eI k s)(u:s.n=n)(J:s.self=i)(ao:0<=i/\i<f)(U:cD n=f)(F:1<=f)(h:hR f n i s)(E:np s x Y):hR f n i Y:=by
 rcases E with⟨_,rfl⟩|⟨g,⟨e,d,rfl⟩|⟨M,e,d,R,rfl⟩|⟨M,_,p,q,rfl⟩⟩
 .exact h
 .have c:=lH d;have X:=y.cC _ c;have L:=h.cC _ c;have T:=L.late X.1 (by rw[u];exact U) F;have Q:g8 s e.v.late.1.C' ((s.Sy x e).send e.v.late.1.C'):=⟨rfl,rfl,rfl,rfl⟩
  rw[T]at Q;obtain⟨W,G⟩:=h.Sl u J Q λo Z=>by obtain⟨P,N,b⟩:=L.C' X.1 (by rw[J];exact ao) o Z;refine⟨⟨P,N,b⟩,?_⟩;unfold a2.C' at Z;rw[aT (.inl L.1)]at Z;obtain⟨j,_,rfl⟩:=fh.1 Z;exact X.1.self.trans J
  rw[<-T]at W G;refine⟨h.fu,λz w=>?_,h.rs,W,G,h.cF,h.told⟩;have C:z∈bw s.leads x ⟨e.p,e.q,e.v.late.1⟩:=w;rcases oK C with rfl|C
  .grind
  .exact h.cC z C
 .have c:=lH d;have K:=y.rs _ c;have L:=h.rs _ c;have Q:g8 s e.v.C' ((s.again x).send e.v.C'):=⟨rfl,rfl,rfl,rfl⟩
  obtain⟨W,G⟩:=h.Sl u J Q λo Z=>⟨L.C' XK o Z,by
   unfold bO.C' at Z;split at Z
   .cases Z
   .rw[L.1]at Z;dsimp only at Z;obtain⟨j,_,rfl⟩:=fh.1 Z;exact K.2.2.1.trans J⟩
  exact⟨h.fu,h.cC,h.rs,W,G,h.cF,h.told⟩
 .have L:qu f (s.RV x):=⟨rfl,λp a=>(G9 p.1 (yb a).1).elim⟩
  have Q:g8 s (s.RV x).C' ((s.Sz x p q).send (s.RV x).C'):=⟨rfl,rfl,rfl,rfl⟩
  obtain⟨W,G⟩:=h.Sl u J Q λo Z=>⟨L.C' (by show 0<=s.self/\s.self<f;rw[J];exact ao) o Z,by obtain⟨j,_,rfl⟩:=fh.1 (show o∈(List.range s.n.toNat).map (oE (s.RV x).x)from Z);exact J⟩
  refine⟨h.fu,h.cC,λz w=>?_,W,G,h.cF,h.told⟩;have C:z∈bw s.bp x ⟨p,q,s.RV x⟩:=w;rcases oK C with rfl|C
  .exact L
  .exact h.rs z C
def hR.Xu{Z:ab ag}(y:eI k s)(v:dR s)(X:s.n=n)(U:s.self=i)(ao:0<=i/\i<f)(J:cD n=f)(F:1<=f)(h:hR f n i s)(R:∀x∈Z,bB x 7=true)(E:pB s Z Y):hR f n i Y/\(∃b,eI b Y)/\dR Y/\Y.n=n/\Y.self=i:=by
 induction E with
 |nil=>exact⟨h,⟨k,y⟩,v,X,U⟩
 |@snoc Z x s1 s2 _ E u=>
  obtain⟨y,⟨b,Z⟩,g,G,M⟩:=u λz w=>R z (qd _ w);have U:=R x (O2 _ iT);obtain⟨N,h,_⟩:=E.cx Z g U;obtain⟨_,_,_,b,Q⟩:=E.same;exact⟨y.late Z G M ao J F E,⟨_,N⟩,h,Q.2.2.1.trans G,Q.2.2.2.trans M⟩
end
end Go.Proofs.YteogojgnkjegmaaGreatDoor
namespace Go.Proofs.YteogojgnkjegmaaGreatDoor
open Go.ay Go.Proofs.Tryz
variable[Go.ay.bR]
variable{e:Int}{D:Nat->Bool}{n:Int}{Q:Nat}
structure acS(s:aC):Prop where
 fu:∀x,s.aH.p.at x=none
 cC:s.leads=[]
 rs:s.bp=[]
 pl:s.pl=[]
 dy:s.inbox=[]
 nu:s.out=[]
 cF:s.run.cF=[]
 told:s.told=[]
def uz(f n:Int)(i:Nat):c5->Prop
 |.up _ _ s=>((i:Int)<f->hR f n i s)/\(f<=(i:Int)->acS s)
 |.dn _ _ l _ _=>((i:Int)<f->∀x,(b7 (iG (aJ.new n) l) x).Status≠3)/\(f<=(i:Int)->∀x,(iG (aJ.new n) l).at x=none)
structure eA(f:Int)(c:bo):Prop where
 iL:cD c.n=f/\1<=f
 i2:∀y∈c.bQ,∃m,eo m c.n=true/\y=⟨m.bm,m.b3,gj m⟩/\mc f m/\m.b3<f
 kj:∀i r,c.aS[i]?=some r->uz f c.n i r
 told:c.told=[]
def hy(f:Int)(c:bo):Prop:=∀a b:Int,0<=a->a<f->f<=b->b<c.n->hP c.cut a b=true
def BA(c:ab Bool):∀(Z l:ab b0) (z:Int),∀x∈(Z.foldl (ji c) (l,z)).1,x∈l\/(x∈Z/\hP c x.bm x.b3=false)
 |[],l,z,x,U=>.inl U
 |y::Z,l,z,x,U=>by
  rw[n6]at U;by_cases R:l7 c l y=true
  .have e:ji c (l,z) y=(l,z+1):=by grind [ji]
   rw[e]at U;exact(BA c Z l (z+1) x U).imp id λh=>⟨hn _ h.1,h.2⟩
  .have e:ji c (l,z) y=(l++[y],z):=by grind [ji]
   rw[e]at U;rcases BA c Z (l++[y]) z x U with h|h
   .rcases eN.1 h with h|h
    .exact .inl h
    .rw[iz.1 h];refine .inr ⟨iT,?_⟩;unfold l7 at R;grind
   .grind
def Hd(c:ab Bool)(a b x y:Int)(h:hP c x y=true):hP (jY c a b) x y=true:=by unfold hP jY at*;grind
section
variable{f:Int}{c iC b6:bo}{i k:Nat}{s Y s1 s2:aC}
def eA.of(h:eA f c)(b:b6.n=c.n)(J:∀y∈b6.bQ,y∈c.bQ)(p:b6.aS=c.aS)(T:b6.told=c.told):eA f b6:=
 ⟨by rw[b];exact h.iL,λy G=>by rw[b];exact h.i2 y (J y G),by rw[b,p];exact h.kj,by rw[T];exact h.told⟩
def hy.of(h:hy f c)(y:b6.n=c.n)(J:b6.cut=c.cut):hy f b6:=λa b=>by rw[y,J];exact h a b
def eA.SO(h:eA f c)(u:hy f c)(ao:i<c.aS.length){b:Nat}{L:cO}(Q:uz f c.n i (.up b L s2))(W:iC.told=c.told)(Z:iC.n=c.n)(N:iC.aS=c.aS)(R:iC.cut=c.cut)(a:∀y∈iC.bQ,y∈c.bQ)(l:kA {iC with aS:=iC.aS.set i (.up b L s2)} i b6):eA f b6/\hy f b6:=by
 obtain⟨x,X,i9,v,U,rfl⟩:=l;rw[N,oO ao]at U;cases U;have P:s2.told=[]:=by
  by_cases e:(i:Int)<f
  .exact(Q.1 e).told
  .exact(Q.2 ac).told
 have C:uz f c.n i (.up b v s2.flush):=
  ⟨λe=>⟨(Q.1 e).fu,(Q.1 e).cC,(Q.1 e).rs,(Q.1 e).dy,λy G=>XW,(Q.1 e).cF,rfl⟩,λe=>⟨(Q.2 e).fu,(Q.2 e).cC,(Q.2 e).rs,(Q.2 e).pl,(Q.2 e).dy,rfl,(Q.2 e).cF,rfl⟩⟩
 refine⟨⟨by show cD iC.n=f/\_;rw[Z];exact h.iL,λy G=>?_,λj r p=>?_,?_⟩,u.of Z R⟩
 .have T:y∈(gT iC.cut iC.bQ s2.out).1:=G;show∃m,eo m iC.n=true/\_
  rw[Z];rcases BA _ _ _ _ y T with F|⟨F,M⟩
  .exact h.i2 y (a y F)
  .by_cases e:(i:Int)<f
   .obtain⟨m,o,q,E,D⟩:=(Q.1 e).nu y F;refine⟨m,o,by rw[q,D],E,?_⟩;have K:=iY.1 o;rw[q,R]at M;by_cases J:m.b3<f
    .exact J
    .rw[u _ _ XK e (by show f<=m.b3;omega) K.t2]at M;cases M
   .rw[(Q.2 ac).nu]at F;cases F
 .have d:(iC.aS.set i (.up b L s2)).set i (.up b v s2.flush)=c.aS.set i (.up b v s2.flush):=by rw[Gt,N]
  have T:(c.aS.set i (.up b v s2.flush))[j]?=some r:=by rw[<-d];exact p
  show uz f iC.n j r
  rw[Z];by_cases e:j=i
  .grind
  .rw[A5 ac]at T;exact h.kj j r T
 .show iC.told++s2.told.map _=[];rw[P,W,h.told];rfl
def eA.arr(G:cP k c)(h:eA f c){a:Int}{j W:Nat}{R:cO}{s1:aC}{m:aD}{v:cO}{s2:aC}(t:ul c a j W R s1 m v s2):c.aS[j]?=some (.up W R s1)/\(j:Int)<f/\mc f m/\hR f c.n j s1/\mH k c.n c.now j s1/\eo m c.n=true/\∃e,mD s1 m e s2:=by
 obtain⟨x,J,F,M,g,z,N,E,U,w⟩:=t;obtain⟨o,p,X,Q,l⟩:=h.i2 x (A7 F);have:m=o:=GL (by have:=G.n;omega) E p (by rw[<-N,X]);subst this;have p:(j:Int)<f:=by rw[<-g,<-U];exact l
 exact⟨z,p,Q,(h.kj j _ z).1 p,G.up _ _ _ _ z,E,J,w⟩
def hR.Xv{m:aD}{x:Int}(R:mH k n x i s)(K:eo m n=true)(ao:(i:Int)<f)(l:cD n=f)(F:1<=f)(h:hR f n i s)(o:mc f m)(y:mD s m e Y):hR f n i Y:=by
 rcases y with⟨_,_,rfl⟩|⟨_,_,_,t,j,b⟩
 .exact h
 .have z:=iY.1 K;have a:bB m.Item 7=true:=ov z.item (by have:=R.y.hN;rw[R.n]at this;omega);have g:n0 m:=AS (by have:=R.y.hN;rw[R.n]at this;omega) z;have M:=h.z' R.y R.v R.n R.self ⟨ac,ao⟩ l F o j;obtain⟨m,Q⟩:=j.Sl;exact M.drain (j.cx R.y a) (j.Ss R.v R.y.aH g) (Q.2.2.1.trans R.n) (Q.2.2.2.trans R.self) ⟨ac,ao⟩ l F b
def eA.VE(h:eA f c)(u:hy f c){a:Int}(v:rB c a e b6):eA f b6/\hy f b6:=by
 rcases v with⟨_,_,rfl⟩|⟨_,_,_,_,rfl⟩|⟨_,_,_,_,_,_,_,_,_,_,_,_,rfl⟩
 .exact⟨h,u⟩
 exact P1
 exact P1
def eA.take(G:cP k c)(h:eA f c)(u:hy f c){a:Int}(P:mI c a e b6):eA f b6/\hy f b6:=by
 rcases P with⟨v,_⟩|⟨j,W,R,s1,m,p,s2,o,_,l⟩
 .exact h.VE u v
 .obtain⟨U,p,K,L,X,q,J,R⟩:=h.arr G o;have M:=L.Xv X q p h.iL.1 h.iL.2 K R;exact h.SO (iC:=c.less a) u (cI.1 U).1 ⟨λ_=>M,λe=>ac⟩ rfl rfl rfl rfl (λy G=>yh G) l
def eA.settle(G:cP k c)(h:eA f c)(u:hy f c){j:Nat}(P:oP c j b6):eA f b6/\hy f b6:=by
 induction P with
 |nil=>exact⟨h,u⟩
 |@step j z Z e Q r P u=>exact u.1.take (Q.cx G) u.2 P
def eA.lost(h:eA f c){u:aj}{l:ab dY}{a:ab aP}{W:Int}(ao:i<c.aS.length)(o:uz f c.n i (.dn Q u l a W))(b:b6.n=c.n)(J:∀y∈b6.bQ,y∈c.bQ)(w:b6.aS=c.aS.set i (.dn Q u l a W))(T:b6.told=c.told):eA f b6:=by
 refine⟨by rw[b];exact h.iL,λy G=>by rw[b];exact h.i2 y (J y G),λj r p=>?_,by rw[T];exact h.told⟩;rw[b];rw[w]at p;by_cases e:j=i
 .grind
 .rw[A5 ac]at p;exact h.kj j r p
def eA.half(G:cP k c)(h:eA f c)(u:hy f c){a:Int}(P:sL c a e b6):eA f b6/\hy f b6:=by
 rcases P with⟨v,_⟩|⟨j,W,Q,s1,m,y,s2,E,l,n,r,o,_,⟨_,t,X,Z,N⟩,rfl⟩
 .exact h.VE u v
 .obtain⟨U,w,K,L,T,q,J,R⟩:=h.arr G o;have F:∀x,(b7 t.p x).Status≠3:=by
   rcases X with rfl|⟨d,D,b,C,rfl⟩
   .exact L.fu
   .have z:=iY.1 q;have v:=G.n;have p:bB m.Item 7=true:=ov z.item ac;have g:n0 m:=AS ac z;have M:=L.z' T.y T.v T.n T.self ⟨ac,w⟩ h.iL.1 h.iL.2 K b;obtain⟨m,Q⟩:=b.Sl;exact(M.VD (b.cx T.y p) (b.Ss T.v T.y.aH g) (Q.2.2.1.trans T.n) (Q.2.2.2.trans T.self) ⟨ac,w⟩ h.iL.1 h.iL.2 C).fu
  refine⟨h.lost (cI.1 U).1 ⟨λ_ x=>?_,λe=>ac⟩ rfl (λy (G:y∈(c.less a).bQ)=>yh G) rfl rfl,u⟩;have:=F x;grind [b7]
def eA.wl(h:eA f c)(u:hy f c){x:Int}(j:sM c x e b6):eA f b6/\hy f b6:=by
 rcases j with⟨_,_,rfl⟩|⟨_,i,W,X,s1,T,l,a,P,_,U,_,⟨_,t,rfl,F,R⟩,rfl⟩
 .exact⟨h,u⟩
 .have o:=h.kj i _ U;refine⟨h.lost (cI.1 U).1 ⟨λe x=>?_,λe x=>?_⟩ rfl (λy G=>G) rfl rfl,u⟩
  .have:=(o.1 e).fu x;grind [b7]
  .rw[<-R x];exact(o.2 e).fu x
def oL.Xw{U x:Int}{l:ab dY}{r:cQ}{st:Int×ab bi}(h:oL n U x l r st)(g:∀y∈l,y.2.Status≠3):r=cQ.new n:=by
 induction h with
 |nil=>rfl
 |@sH l r F st x i h Q u T=>exact absurd Q (g (x,i) XE)
 |hC h Q T=>exact T λy G=>g y (qd _ G)
def He{J:Int}{Z:bE}(v:Z.p.ok)(h:lI n (i:Int) J Q Z Y)(g:∀x,(b7 Z.p x).Status≠3)(b:Nat)(L:cO)(t:f<=(i:Int)->∀x,Z.p.at x=none):uz f n i (.up b L Y):=by
 obtain⟨X,M,r,st,_,_,_,a,K⟩:=h;have N:∀y∈Z.p.all,y.2.Status≠3:=λy G=>by have F:=(aJ.Sp v).1 G;have:=g y.1;grind [b7]
 have o:=a.Xw N;subst o;have e:=rD K rfl;subst e;refine⟨λ_=>⟨g,λy G=>XW,λy G=>XW,λy G=>XW,λy G=>XW,rfl,rfl⟩,λU=>?_⟩;have C:Z.p.all=[]:=by
  cases E:Z.p.all with
  |nil=>rfl
  |cons y l=>
   grind [aJ.Sp,List.mem_cons_self]
 obtain⟨_,rfl⟩:=G3 a C;exact⟨t U,rfl,rfl,rfl,rfl,rfl,rfl,rfl⟩
def eA.start(G:cP k c)(T:k<=1000000000000)(h:eA f c)(u:hy f c){x:Int}(j:sN c x e b6):eA f b6/\hy f b6:=by
 rcases j with⟨_,_,rfl⟩|⟨_,i,Q,E,l,a,P,W,X,s1,lg,U,_,Z,F⟩
 .exact⟨h,u⟩
 .have ao:=(cI.1 U).1;have d:=G.len;have t:=G.now;have v:=G.n;have b:=G.dn _ _ _ _ _ _ U;obtain⟨R,p,Q,T,x,j,r,J,w⟩:=lI.up v ac ⟨t.1,ac⟩ b Z;have r:(gG c.n l a P).p.ok:=by have:=R.y.aH.p;rw[J]at this;exact this
  have o:=h.kj i _ U;refine h.SO (iC:=c) u ao (He r Z (λx=>?_) W X λe x=>(o.2 e) x) rfl rfl rfl rfl (λy G=>G) F;by_cases e:(i:Int)<f
  .exact o.1 e x
  .have:=o.2 ac x;show((iG (aJ.new c.n) l).at x|>.getD ba.z).Status≠3
   rw[this];show(0:Int)≠3
   omega
def eA.Xx{N:Int}{W b:Nat}{X p:cO}(G:cP k c)(h:eA f c)(u:hy f c)(U:c.aS[i]?=some (.up W X s1))(P:nq s1 N e s2)(J:kA {c with aS:=c.aS.set i (.up W p s2)} i b6):eA f b6/\hy f b6:=by
 have R:=G.up _ _ _ _ U;have o:=h.kj i _ U;refine h.SO (iC:=c) u (cI.1 U).1 ⟨λe=>?_,λe=>?_⟩ rfl rfl rfl rfl (λy G=>G) J
 .have L:=o.1 e;rcases P with⟨_,_,rfl⟩|⟨j,F,_,Z,K,Hf,l,E,q⟩
  .exact L
  .obtain⟨yi,BB,Hg,abv⟩:=l.sub;have D:=R.y.due j F yi;have r:dR {s1 with now:=N,pl:=K}:=⟨R.v.eF,R.v.gw,R.v.bU,R.v.i8⟩
   have Ye:∀x∈Z,bB x 7=true:=λx T=>by obtain⟨z,w,rfl⟩:=Hg x T;exact R.y.fs.aW z w
   obtain⟨m,⟨M,C⟩,a3,a4,a5⟩:=hR.Xu (s:={s1 with now:=N,pl:=K}) D r R.n R.self ⟨ac,e⟩ h.iL.1 h.iL.2 ⟨L.fu,L.cC,L.rs,L.dy,L.nu,L.cF,L.told⟩ Ye E;exact m.drain C a3 a4 a5 ⟨ac,e⟩ h.iL.1 h.iL.2 q
 .have L:=o.2 e;rcases P with⟨_,_,rfl⟩|⟨j,F,_,Z,K,Hf,l,E,q⟩
  .exact L
  .obtain⟨yi,BB,Hg,abv⟩:=l.sub;have Yc:Z=[]:=by rw[L.pl]at BB;exact kk (by simpa using BB)
   have g:K=[]:=by rw[L.pl]at yi;grind
   subst Yc g;have d:Hf={s1 with now:=N,pl:=[]}:=by
    generalize Q:({s1 with now:=N,pl:=[]}:aC)=t at E;cases Yf:([]:ab ag)with
    |nil=>
     generalize Yg:([]:ab ag)=acp at E;cases E with
     |nil=>rfl
     |snoc=>simp at Yg
    |cons a b=>cases Yf
   have M:=uu q (by rw[d];exact L.dy);have g:=rD M (by rw[d];exact L.cF);rw[g,d];exact⟨L.fu,L.cC,L.rs,rfl,L.dy,L.nu,L.cF,L.told⟩
def eA.Xy{j:Nat}(G:cP k c)(h:eA f c)(u:hy f c)(P:mJ D c j b6):eA f b6/\hy f b6:=by
 induction P with
 |nil=>exact⟨h,u⟩
 |skip _ _ u=>exact u
 |@tick i W z Z R v s1 s2 e T _ U P l u=>exact eA.Xx (b:=0) (T.cx G).1 u.1 u.2 U P l
def eA.tick{D:Nat->Bool}{e:Int}(G:cP k c)(h:eA f c)(u:hy f c)(j:rC D c e b6):eA f b6/\hy f b6:=by
 rcases j with⟨_,_,rfl⟩|⟨_,_,j⟩
 .exact⟨h,u⟩
 .exact eA.Xy G.later (h.of (b6:={c with now:=c.now+1}) rfl (λ_ h=>h) rfl rfl) u j
def eA.sub(G:cP k c)(h:eA f c)(u:hy f c){F:Int}(t:F<f){d:bP}{x:ag}(Q:ma c F d x e b6):eA f b6/\hy f b6:=by
 rcases Q with⟨_,_,_,rfl⟩|⟨_,i,W,X,s1,v,s2,lg,U,E,l⟩
 .exact⟨h,u⟩
 have R:=G.up _ _ _ _ U;have ao:(i:Int)<f:=ac
 have L:=(h.kj i _ U).1 ao;refine h.SO (iC:=c) u (cI.1 U).1 ⟨λ_=>?_,λe=>ac⟩ rfl rfl rfl rfl (λy G=>G) l;rcases E with⟨_,_,g,rfl⟩|⟨_,_,_,g,rfl⟩|⟨b,q,a,g,p,T⟩
 .exact L
 .exact L
 .have K:qt f (s1.RQ d):=⟨rfl,λp r=>(aaR r).elim⟩
  have C:hp (s1.RQ d) s1.n s1.self (h2 s1.aH s1.self) ⟨0,s1.self⟩:=tV ..;have J:g8 s1 (s1.RQ d).C' (s1.RU d p):=⟨rfl,rfl,rfl,rfl⟩
  obtain⟨m,N⟩:=L.Sl R.n R.self J λo Z=>⟨K.C' C (by rw[R.self];omega) o Z,by unfold a2.C' at Z;rw[aT (.inl rfl)]at Z;obtain⟨j,_,rfl⟩:=fh.1 Z;exact R.self⟩
  have M:hR f c.n i (s1.RU d p):=by
   refine⟨L.fu,λz w=>?_,L.rs,m,N,L.cF,L.told⟩;rcases oK w with rfl|w
   .exact K
   .exact L.cC z w
  exact M.drain (R.y.RU d p q) (R.v.RU d p) R.n R.self ⟨ac,ao⟩ h.iL.1 h.iL.2 T
def eA.act(G:cP k c)(T:k<=1000000000000)(h:eA f c)(u:hy f c){a:gs}{o:aQ ag}(U:a.Kind≠9)(j:a.Kind=0->a.be<f)(t:gU c a b6 o):eA f b6/\hy f b6:=by
 cases t with
 |sub T F=>exact h.sub G u (j T) F
 |take _ F=>exact h.take G u F
 |half _ F=>exact h.half G u F
 |Bc _ F=>
  rcases F with⟨_,_,rfl⟩|⟨_,_,_,rfl⟩
  .exact⟨h,u⟩
  exact P1
 |Bd _ F=>
  rcases F with⟨_,_,rfl⟩|⟨_,_,_,rfl⟩
  .exact⟨h,u⟩
  .exact⟨h.of rfl (λy G=>Gv G) rfl rfl,u⟩
 |tick _ D F=>exact h.tick G u F
 |wl _ F=>exact h.wl u F
 |start _ F=>exact h.start G T u F
 |cut _=>exact⟨h.of rfl (λ_ h=>h) rfl rfl,λx y F M g z=>Hd _ _ _ _ _ (u x y F M g z)⟩
 |Be T=>exact absurd T U
 |settle _ F=>
  obtain⟨j,M,_⟩:=F;exact h.settle G u M
 |none _=>exact⟨h,u⟩
def eA.new(v:n=3\/n=5\/n=7)(h:lK n c):eA (cD n) c:=by
 have d:=h.len;refine⟨by rw[h.aG];refine⟨rfl,?_⟩;rcases v with rfl|rfl|rfl<;>decide,λy G=>(by rw[h.bQ]at G;cases G),λi r o=>?_,h.told⟩;have ao:=(cI.1 o).1;obtain⟨b,L,s,rfl,Z⟩:=h.up i r o;have Q:∀x,(gG n [] [] 0).p.at x=none:=λx=>aJ.SM n x;rw[h.aG];refine He (aJ.R8 n) Z (λx=>?_) b L λ_=>Q;unfold b7;rw[Q x];show(0:Int)≠3
 omega
end
end Go.Proofs.YteogojgnkjegmaaGreatDoor
namespace Go.Proofs.YteogojgnkjegmaaGreatDoor
open Go.ay Go.Proofs.Tryz
variable[Go.ay.bR]
def QR(b:Nat)(L:gh)(c:bo)(x y:Int)(k:Nat)(h:ClP k c):ar prog 23 [au b 0,I x,I y] [aI (bJ b L c)] (λr Y=>r=.tuple #[]/\Y=[aI (bJ b L {c with cut:=jY c.cut x y})]):=by refine ar.eqv aL.aI (Gw b L c x y k h) ?_;rintro v Y⟨F,rfl⟩;exact⟨_,⟨F,rfl⟩,aL.aI.symm⟩
def QS(b:Nat)(L:gh)(c:bo)(k:Nat)(h:cP k c)(T:k<=80000000000):ar prog 24 [au b 0,.slice none 0 0] [rows ns (.slice none 0 0) 3 1 [],aI (bJ b L c)] (λr Y=>∃n P Z,rC (λ_=>true) c Z P/\r=I Z/\Y=[rows ns (.slice none 0 0) 3 1 [],aI (bJ b n P)]):=by refine ar.eqv (aL.cons _ aL.aI) (Ba b L c (rows ns (.slice none 0 0) 3 1 []) none 0 0 0 [] Rd.nil XE (λ_=>true) (λ_=>rfl) k h T) ?_;rintro v Y⟨n,P,Z,F,M,rfl⟩;exact⟨_,⟨n,P,Z,F,M,rfl⟩,aL.cons _ aL.aI.symm⟩
def wo(f n:Int)(a b:Nat)(c:ab Bool):Prop:=c.length=49/\∀x y:Int,0<=x->x<f->f<=y->y<n->(x<(a:Int)\/(x=(a:Int)/\y<(b:Int)))->hP c x y=true
def QT(c:ab Bool)(a b:Nat)(u:c.length=49)(o:a<7)(R:b<7):hP (jY c a b) a b=true:=by
 have e:hx (a:Int)=true/\hx (b:Int)=true:=by unfold hx;constructor<;>simp<;>omega
 unfold hP jY;rw[e.1,e.2];simp only[Bool.and_self,hA,iB];rw[jM,kq];split
 .rw[aT XN];rfl
 .rw[oO ac];rfl
def wo.put{f n:Int}{a b:Nat}{c:ab Bool}(h:wo f n a b c)(o:a<7)(R:b<7):wo f n a (b+1) (jY c a b):=by
 refine⟨by rw[Pa];exact h.1,λx y f F M g z=>?_⟩;by_cases e:x=(a:Int)/\y=(b:Int)
 .rw[e.1,e.2];exact QT c a b h.1 o R
 .exact Hd _ _ _ _ _ (h.2 x y f F M g ac)
structure uA(f:Int)(k:Nat)(c:bo):Prop where
 y:cP k c
 a:eA f c
 rF:hy f c
def QU(n:Int)(e:ax)(cG:aQ Go.Addr)(Ye b off:Nat)(Z:ab gs)(cB:G5 Z)(eU:Rd e cG Z.length b off 11 (Z.map gs.c)):ar prog 7 [I n,.slice cG Z.length Ye] [e,cv] (λr Yc=>r=B true/\Yc=[e,cv]):=by
 have dO:=aa1;have dT:=af8 n e cG Ye b off Z (λx t=>(cB x t).1) eU;refine aB func7 λW=>?_;generalize bg _=D;refine aq 2 λfp=>?_;refine aa 19 ?_;rintro _ _⟨YA,Yn,rfl,rfl⟩;refine aa 2 ?_;refine Rg (λs=>?_) λs=>?_;refine Out.f1 rfl (eG.ie ad) ⟨?_,rfl⟩;exact rfl;refine Ri (λYF=>?_) λYF=>?_;refine aa 7 ?_;refine Out.f1 rfl (eG.ie ad) ⟨?_,rfl⟩;exact rfl;refine aa 2 ?_;have Yi:=Yn s;have Q:=Yi.n;have hB:=aay n Q;have cT:=Is n ac;have dK:n=2*cD n+1/\1<=cD n/\cD n<=3:=by rcases Q with rfl|rfl|rfl<;>decide
 generalize Yy:cD n=f at*;obtain⟨J,rfl⟩:∃m:Nat,f=(m:Int):=⟨f.toNat,ac⟩
 refine aa 11 ?_;rintro v4 adH⟨YB,⟨M,⟨Y,⟨⟨Yj,Ym,Yn,Yq⟩,rfl,rfl⟩⟩⟩⟩;refine aa 11 ?_;have Yh:Z.length<=20:=ac
 have nK:lK n Y.c:=XF
 have Yr:Y.c4=0:=XF
 have E:=nK.y Q;have Yk:=nK.aG;have Yx:=eA.new Q nK;rw[Yy]at Yx;obtain⟨uB,YS⟩:∃m:Nat,(m:Int)=n:=⟨n.toNat,ac⟩
 refine ah.cb [6,5,4,0,1] (λy:Nat×ab Bool=>y.1<=J/\wo J n y.1 0 y.2) (λy=>[(7,I (y.1:Int))]) (λy=>[aI (bJ M.gP M.L {Y.c with cut:=y.2})]) (λy=>J-y.1) (0,Y.c.cut) ⟨cw _,E.cut,λx y l N C g fZ=>ac⟩ ?_;rintro⟨a,rF⟩⟨ic,v⟩ K U;dsimp only at ic v;refine bh ?_;by_cases Yg:a<J
 .refine aa 20 ?_;rotate_left;refine ah.cb [7,6,5,4,0,1] (λy:Nat×ab Bool=>(J<=y.1/\y.1<=uB)/\wo J n a y.1 y.2) (λy=>[(8,I (y.1:Int))]) (λy=>[aI (bJ M.gP M.L {Y.c with cut:=y.2})]) (λy=>uB-y.1) (J,rF) ⟨⟨cl _,ac⟩,v.1,λx y l N C g fZ=>v.2 x y l N C g ac⟩ ?_;rintro⟨j,G⟩⟨eB,P⟩ fa Yf;dsimp only at eB P;refine bh ?_;by_cases d:j<uB
  .have jv:ClP 2000 {Y.c with cut:=G}:=⟨⟨E.n,E.len⟩,P.1,E.bQ,E.lost,E.told,E.now⟩
   have ee:=QR M.gP M.L {Y.c with cut:=G} (a:Int) (j:Int) _ jv;refine aa 30 ?_;rotate_left;refine Out.t' Yf (j+1,jY G a j) ?_ (by show uB-(j+1)<uB-j;omega);exact ⟨⟨by show J<=j+1;omega,by show j+1<=uB;omega⟩,P.put ac ac⟩
  .refine aa 20 ?_;refine Out.t' U (a+1,G) ?_ (by show J-(a+1)<J-a;omega);exact ⟨by show a+1<=J;omega,P.1,λx y l N C g fZ=>P.2 x y l N C g ac⟩
 .obtain rfl:a=J:=by omega
  clear U;have Yz:uA a 2000 {Y.c with cut:=rF}:=by refine⟨⟨⟨⟨E.n,E.len⟩,v.1,E.bQ,E.lost,E.told,E.now⟩,E.up,E.dn,E.i2⟩,Yx.of rfl (λ_ h=>h) rfl rfl,λx y l N C g=>v.2 x y l N C (by show y<n;rw[<-Yk];exact g) ac⟩
  refine aa 23 ?_;refine ah.cb [48,47,6,5,4] (λy:Nat×qq×oR=>y.1<=Z.length/\uA a (2000+70000000*y.1) y.2.2.c/\(0<=y.2.2.c4/\y.2.2.c4<=(y.1:Int))) (λy=>[(49,I (y.1:Int))]) (λy=>[cells YB 41 (iR.c ⟨au y.2.1.gP 0,y.2.2.n,.map (some y.2.1.kr),.map (some y.2.1.jT),y.2.2.c4⟩),bn bW oQ y.2.1.kr y.2.2.mh,bn bW ew y.2.1.jT y.2.2.w,aI (bJ y.2.1.gP y.2.1.L y.2.2.c)]) (λy=>Z.length-y.1) (0,M,{Y with c:={Y.c with cut:=rF}}) ⟨cw _,Yz,⟨by show 0<=Y.c4;omega,by show Y.c4<=0;omega⟩⟩ ?_;rintro⟨k,T,u⟩⟨cc,F,Yt⟩ K U;dsimp only at cc F Yt;refine bh ?_;by_cases Yg:k<Z.length
  .obtain⟨x,t⟩:=b8 Yg;have YN:=cB x (j5 t);have nR:=QG YB T u x _ F.y ac ac YN.2;have Yu:∀iD,ur u x iD->x.Kind≠9->(x.Kind=0->x.be<(a:Int))->uA a (2000+70000000*(k+1)) iD.c/\(0<=iD.c4/\iD.c4<=((k+1:Nat):Int)):=by rintro iD⟨o,N,-,g,-⟩ vO l;obtain⟨xY,lR⟩:=F.a.act F.y ac F.rF vO l N;exact⟨⟨(N.cx F.y ac).mono ac,xY,lR⟩,ac⟩
   have Yl:uA a (2000+70000000*(k+1)) u.c/\(0<=u.c4/\u.c4<=((k+1:Nat):Int)):=⟨⟨F.y.mono ac,F.a,F.rF⟩,ac⟩
   refine aq 15 λYp=>?_;refine aa 9 ?_;refine ai.aU (λYG=>?_) (λYG=>?_);refine RE (λYH=>?_) λYH=>?_;refine aa 13 ?_;rintro _ _⟨YI,YJ,Yq,rfl,rfl⟩;refine aa 8 ?_;rotate_left;refine aa 8 ?_;refine ah.cs (λYK=>?_) (λYK=>?_);refine aa 4 ?_;rintro _ _⟨R,q,Yw,rfl,rfl⟩;refine aa 8 ?_;rotate_left;refine aa 7 ?_;rotate_left;refine aa 20 ?_;rotate_left;all_goals first
    |exact Out.t' U (k+1,YI,YJ) ⟨Yb,Yu _ XF ac ac⟩ Ph
    |exact Out.t' U (k+1,R,q) ⟨Yb,Yu _ XF ac ac⟩ Ph
    |exact Out.t' U (k+1,T,u) ⟨Yb,Yl⟩ Ph
  .obtain rfl:k=Z.length:=by omega
   clear U;refine ah.RK ns 3 1 ?_;refine aa 19 ?_;have YO:uA a 1500000000 u.c:=⟨F.y.mono ac,F.a,F.rF⟩
   refine ah.cb [6,5,4] (λy:Nat×gh×bo=>y.1<=60/\uA a (1500000000+530000000*y.1) y.2.2) (λy=>[(11,I (y.1:Int))]) (λy=>[aI (bJ T.gP y.2.1 y.2.2)]) (λy=>60-y.1) (0,T.L,u.c) ⟨cw _,YO⟩ ?_;rintro⟨i,fX,z⟩⟨ao,X⟩ K U;dsimp only at ao X;refine bh ?_;by_cases d:i<60
   .have YT:=QS T.gP fX z _ X.y ac;refine aa 19 ?_;rintro _ _⟨YD,p,YL,Ym,rfl,rfl⟩;refine aa 8 ?_;rotate_left;have c8:rC (λ_=>true) z YL p:=by assumption
    have Yv:=c8.cx X.y;obtain⟨qS,jH⟩:=X.a.tick X.y X.rF c8;have YR:=GI T.gP YD p 500 _ Yv ac ac;refine av ?_;rintro _ _⟨YM,YC,YU,Yj,rfl,rfl⟩;refine aa 9 ?_;all_goals
     have cf:n2 p 500 YC:=XF
     have YP:=cf.Xt Yv ac;obtain⟨acx,eB,-,-⟩:=cf;obtain⟨a3,uo⟩:=qS.settle Yv jH eB;refine Out.t' U (i+1,YM,YC) ?_ (by show 60-(i+1)<60-i;omega);exact ⟨by show i+1<=60;omega,⟨YP.mono (by show _+1042300*(500:Int).toNat<=1500000000+530000000*(i+1);have:(500:Int).toNat=500:=rfl;omega),a3,uo⟩⟩
   obtain rfl:i=60:=ac
   clear U;refine ah.U9 (bc:=bJ T.gP fX z) ?_;unfold bJ;rw[X.a.told];refine bh ?_;refine aa 20 ?_;refine ah.WH [6,5,4] (λy:Nat=>y<=a) (λy=>[(12,I (y:Int))]) (λy=>[e3 z.aS]) (λy=>a-y) 0 (cw _) ?_;rintro j ds eB K U;refine bh ?_;have ee:=PI T.gP fX z (j:Int) X.y.toClN;have dW:=Gu T.gP fX z _ X.y.toClP ac;unfold bJ at ee dW;rw[X.a.told]at ee dW;have YE:=X.a.iL;have YQ:=X.y.n;have Yo:=X.y.len;have Ys:(a:Int)<z.n:=by rcases YQ with h|h|h<;>rw[h]at YE⊢<;>have:=YE.1<;>revert this<;>intro this<;>simp[cD]at this<;>omega
   by_cases d:j<a
   .obtain⟨T,Y⟩:=b8 (q:=z.aS) (k:=j) ac;rw[abH ac Y]at ee;cases T with
    |up l L s=>
     have w:=ae0 Y;have m:=QD Y;refine aa 25 ?_;rintro _ _⟨w,rfl,rfl⟩;refine aa 4 ?_;rotate_left;have E:=X.y.up _ _ _ _ Y;have r:=((X.a.kj j _ Y).1 ac).fu;refine ah.rg (vE w s.X.dG s.X.R s.aH.p E.y.aH.p.towf) (λ_:Unit=>[cells fp 4 [B false]]) (λ_ _=>True) (λ_ _ _=>False) () trivial ?_ ?_ ?_
     .rintro pre x d _ a rec t-L z k fa Yf;dsimp only[encI,List.cons_append,List.nil_append];have K:x∈s.aH.p.all:=by rw[t];simp
      have g:x.2.Status≠3:=by have N:=(aJ.Sp E.y.aH.p).1 K;have C:=r x.1;unfold b7 at C;rw[N]at C;exact C
      have p:a8 .eql x.2.Status 3=some false:=by simp[a8,g]
      refine aq 1 λF=>?_;refine aa 8 ?_;refine ai.v (V.cmp rfl rfl p) ?_;refine aa 5 ?_;all_goals exact Out.rd Yf () trivial
     .rintro _ c _;refine bh ?_;refine Out.kj (QB Y) ?_;refine aa 8 ?_;exact Out.U8 U [c] (j+1) ac ac
     exact X6
    |dn Q u l bT W=>
     refine aa 22 ?_;refine ai.o (aw.fn rfl (aac) ?_);refine ai.o' rfl (afz) ?_;rintro _ _⟨w,q,D,rfl,rfl⟩;refine aa 4 ?_;rotate_left;refine ah.rg (vE w q D (aJ.new 0) (aJ.R8 0).towf) (λ_:Unit=>[]) (λ_ _=>True) (λ_ _ _=>False) () trivial ?_ ?_ ?_
     .rintro pre x d _ a rec t;rw[show(aJ.new 0:aJ ba).all=[]from rfl]at t;simp at t
     .rintro _ c _;refine bh ?_;refine aa 8 ?_;exact Out.U8 U [c] (j+1) ac ac
     exact X6
   .clear U;refine ah.U9 (bc:=g9 ds) ?_;refine bh ?_;have z:a8 .eql ((List.length ([]:ab ft):Nat):Int) 0=some true:=by simp[a8]
    refine aa 21 ?_;rintro _ _⟨m,y,rfl,rfl⟩;refine aa 2 ?_;refine ai.v (V.cmp rfl rfl z) ?_;refine aa 4 ?_;refine Out.eu rfl (eG.ie ad) ?_
    .exact⟨_,_,⟨rfl,rfl⟩,afZ (l:=[_,_,_,_,_,_,_,_,_,_,_,_,_,_]) XC⟩
end Go.Proofs.YteogojgnkjegmaaGreatDoor
namespace Go.ay
open Go
def ar.runK{P:bF}{f:eg}{args:ab aj}{x:aj}{l:aY}{J:ab Nat}{k:ax}(n:k.fB=[0])(T:k.holds l)(C:∀w,k.holds w->w.heap[0]?=l.heap[0]?)(a:J.Nodup)(R:∀b,b∈J->b<l.heap.size)(j:0∉J)(h:ar P f args [snap l J,k] (λv Y=>v=x/\Y=[snap l J,k])):Calls P f args.toArray l λe s=>e=.returned x/\s7 l s:=by
 have W:gI [snap l J,k] l:=by
  refine⟨λe d=>?_,?_⟩
  .grind [List.mem_nil_iff,yH]
  .grind [bg,Ck]
 refine(ar.run h l W).mono λe s y=>?_;obtain⟨v,Y,rfl,⟨rfl,rfl⟩,U⟩:=y;refine⟨rfl,λb i=>?_,U.os,U.output⟩;by_cases K:b∈J
 .have:=U.mem (e:=snap l J) XE;grind [yH]
 .by_cases F:b=0
  .subst F;exact C _ (U.mem (e:=k) XE)
  .exact U.cx b i (by grind [bg,Ck])
end Go.ay
namespace Go.Proofs.YteogojgnkjegmaaGreatDoor
open Go Go.ay Go.ChangeShapes Go.WideShapes Go.ChangeAt Go.RowKit Go.Proofs.Tryz
def QV:prog.globalNamed "caucus/mail.kinds" =some 0:=XD
def QW:(prog.globals[0]?).map (·.type)=some 287:=XD
def QX:prog.underlying 287=some (.array 9 286):=XD
theorem adT:(match prog.underlying 286 with|some (.struct z)=>(z.map λf=>(f.type,f.offset))==#[(4,0),(4,1)]|_=>false)=true:=XD
def QZ:∃z,prog.underlying 286=some (.struct z)/\(z.map λf=>(f.type,f.offset))=#[(4,0),(4,1)]:=by grind [adT]
def abp:prog.cellsOf 287=18/\prog.cellsOf 286=2/\prog.cellsOf 4=1:=⟨XD,XD,XD⟩
def Hh{W:aY}(h:laidMetH prog [("caucus/mail.kinds",Rows.laid_caucus_mail_kinds)] W):∃cs:ab aj,cs.length=18/\(∀i,W.cell? ⟨0,i,none⟩=cs[i]?)/\∀k,k<9->cs[2*k]?=some (B (iX k))/\cs[2*k+1]?=some (B (h0 k)):=by
 rw[Q1 _ _ _ XD]at h;obtain⟨aU,⟨g,t,cs,d,p,q,D,j,L,b,_,_⟩,_,_⟩:=h;obtain rfl:=gW (QV.symm.trans D);obtain rfl:=gW (QW.symm.trans j);obtain⟨r,N,R⟩:=abp;obtain⟨Z,m,_,ex,w,E,Yg⟩:=DataW.trod_array QX b;rw[r]at w;refine⟨cs.toList,w,λi=>by rw[World.var?_cell D L i];simp,λk T=>?_⟩;have n:=Yg k T;rw[N,gM ac]at n;obtain⟨z,Yc,C⟩:=QZ;have s:z.size=2:=by have:=db Array.size C;simpa using this
 obtain⟨J,o,_,Ac,_,F,Ye⟩:=DataW.trod_struct Yc n;have Q:z[0]?=some z[0]:=by simp[s]
 have c:z[1]?=some z[1]:=by simp[s]
 have Hi:(z[0].type,z[0].offset)=(4,0):=by have:=db (λa=>a[0]?) C;simpa[s]using this
 have l:(z[1].type,z[1].offset)=(4,1):=by have:=db (λa=>a[1]?) C;simpa[s]using this
 have Y:=Ye 0 _ Q;have G:=Ye 1 _ c;rw[(uO Hi).1,(uO Hi).2,R,gM ac]at Y;rw[(uO l).1,(uO l).2,R,gM ac]at G;obtain⟨K,v,M⟩:=DataW.trod_bool Tryz.underlying4 Y;obtain⟨P,y,X⟩:=DataW.trod_bool Tryz.underlying4 G;have U:(Z.map (·.1))[k]?=some (.agg [.lit (.bool K),.lit (.bool P)]):=by
  rw[ho,gM ac,nI,Ac];match J,F,M,X with
  |[u,x],_,M,X=>
   grind
  |[],F,_,_=>rw[s]at F;cases F
  |[_],F,_,_=>rw[s]at F;cases F
  |_::_::_::_,F,_,_=>rw[s]at F;simp at F
 have Yf:Z.map (·.1)=_:=(DataW.agg.inj (uO ex).1).symm;rw[Yf]at U;have Yh:cs.toList[2*k]?=some (B K):=by
  have f:(List.take 1 (List.drop 0 (List.take 2 (List.drop (k*2) cs.toList))))[0]?=some (B K):=by rw[v];rfl
  grind
 have Yi:cs.toList[2*k+1]?=some (B P):=by
  have f:(List.take 1 (List.drop 1 (List.take 2 (List.drop (k*2) cs.toList))))[0]?=some (B P):=by rw[y];rfl
  grind
 rw[Yh,Yi];have Yj:k=0\/k=1\/k=2\/k=3\/k=4\/k=5\/k=6\/k=7\/k=8:=ac
 rcases Yj with rfl|rfl|rfl|rfl|rfl|rfl|rfl|rfl|rfl<;>(simp at U;obtain⟨rfl,rfl⟩:=U;exact⟨rfl,rfl⟩)
def adu{W:aY}(h:laidMetH prog [("caucus/mail.kinds",Rows.laid_caucus_mail_kinds)] W):(@cv ⟨W.heap[0]?⟩).holds W:=by
 obtain⟨cs,E,u,T⟩:=Hh h;letI:bR:=⟨W.heap[0]?⟩
 refine⟨rfl,λi x U=>?_⟩;have ao:i<9:=by have:=(cI.1 U).1;simpa[vw]using this
 rw[vx ao]at U;grind
def Q3{W:aY}(h:laidMetH prog [("caucus/mail.kinds",Rows.laid_caucus_mail_kinds)] W){b off:Nat}{Z:ab gs}(Q:qG W b off 11 (Z.map gs.c))(U:0<Z.length):b≠0:=by
 rintro rfl;obtain⟨cs,E,u,T⟩:=Hh h;obtain⟨x,U⟩:=b8 U;have F:=(Q 0 x.c XK).2 0 _ rfl;rw[u]at F;have F:cs[off]?=some (.int .i64 x.Kind):=by simpa using F
 have M:=(cI.1 F).1;rcases Nat.mod_two_eq_zero_or_one off with e|e
 .have:=(T (off/2) ac).1;grind
 .have:=(T (off/2) ac).2;grind
end Go.Proofs.YteogojgnkjegmaaGreatDoor
namespace Go.Proofs.YteogojgnkjegmaaGreatDoor
open Go Go.Proofs.Tryz
def BC:(prog.mayEnter&&(Rows.coreToldRow.lifted==prog.liftsFinal)&&(prog.make==some Rows.coreToldRow.make))=true:=XD
def aar:prog.mayEnter=true:=(yj.mp (yj.mp BC).1).1
def acX:prog.liftsFinal=Rows.coreToldRow.lifted:=(cH.mp (yj.mp (yj.mp BC).1).2).symm
def ada:prog.make=some Rows.coreToldRow.make:=cH.mp (yj.mp BC).2
end Go.Proofs.YteogojgnkjegmaaGreatDoor
namespace Go.Proofs.YteogojgnkjegmaaGreatDoor
open Go Go.ay Go.ChangeShapes Go.WideShapes Go.ChangeAt Go.RowKit Go.Proofs.Tryz
def aen:(Tryz.f7.params.toList.all λt=>prog.readableRec t&&decide (t<prog.types.size))=true:=XD
set_option maxRecDepth 100000 in
def Q8(os:Go.Os)(m:os.Started)(H:Type)(enc:aZ×aj->H):ReturnsInHanded {} Tryz.checked os 7 .any (λw args=>(Rows.coreAloneSpec.pre enc prog Tryz.f7 Rows.coreAloneRow.domain false w args/\laidMetH prog [("caucus/mail.kinds",Rows.laid_caucus_mail_kinds)] w)/\sizedMet enc prog Tryz.f7 (OpenSpec.ofChange Rows.coreAloneSpec) false w args) (Rows.coreAloneSpec.post enc prog Tryz.f7 false true false false):=by
 refine returnsInHanded_of_change_and (C:=Tryz.checked) (X:=λw _=>laidMetH prog [("caucus/mail.kinds",Rows.laid_caucus_mail_kinds)] w) (λ_ _ _ Y h=>h.of_heap Y) own m XD func7
  (ChangeSpec.witness_shaped (enc:=enc) (C:=Tryz.checked) (os:=os) (X:=λw _=>laidMetH prog [("caucus/mail.kinds",Rows.laid_caucus_mail_kinds)] w) false (World.laidAll prog os [("caucus/mail.kinds",Rows.laid_caucus_mail_kinds)]) #[I 0,.slice none 0 0] 8 (World.laidAll_os _ _ _)
   (World.shaped_of_ZipB XD XD) XD XD XD
   (by rw[Q1 _ _ _ XD];exact laidMet_laidAll _ XD XD)) ?_
 intro W l args ds vQ g f my Yg o lA _;have i:(DataW.weightsEach prog (Tryz.f7.params.toList++Rows.coreAloneSpec.plain.varTypes prog) (ds++vQ)).all (·<=reachBytes)=true:=o;have z:∀(j:Nat) t v,Tryz.f7.params[j]?=some t->args[j]?=some v->Value.okWide prog W .any l t v:=f;have N:=my;obtain⟨p,q,E,ru,rfl,Yf,Yc⟩:=my;have F:DataW.TrodAll enc prog W 0 (λ_=>true) true Tryz.f7.params.toList args.toList ds p:=E;have dO:=F;rw[Tryz.params7]at dO z i;obtain⟨v0,Yi,d0,Yj,acn,acK,D,rfl,rfl,k,aaJ⟩:=trodAll_cons dO;obtain⟨l1,Yk,yi,Yl,FI,nh,rfl,rfl,rfl,cm,afS⟩:=trodAll_cons aaJ;obtain⟨rfl,rfl,rfl⟩:=trodAll_nil afS;obtain rfl:args=#[v0,l1]:=by cases args;simp_all
 obtain⟨rfl,rfl⟩:=trodVars_none ru;obtain⟨tp,rfl,rfl,rfl,aaq⟩:=open_int Tryz.underlying3 (z 0 3 v0 rfl rfl) k;obtain⟨d,P,T,r,Q,Ye,rfl,Z,a,b,G,y,R,Yh⟩:=Hx Tryz.underlying22 gs.leaves XD XG (z 1 22 l1 rfl rfl) cm (Hw i 1 rfl rfl);obtain⟨n,rfl,J⟩:=Cm gs.c gs.wf R gs.fit;obtain rfl:r=n.length:=by simpa using Z.symm
 simp only[dk]at N F;have M:∀p:Nat×Nat,p∈[(n.length,P)]->0<p.1->p.2<W.heap.size:=by intro p L k;simp only[dq,List.mem_nil_iff,fU]at L;rcases L with rfl;exact(G k).2
 have u:Rd (snap W (lO [(n.length,P)])) d n.length P T 11 (n.map gs.c):=Rd.snap XE (jk a b) G y (λh=>Cn (o:=n.length) XE h);have e0:0∉lO [(n.length,P)]:=by
  unfold lO;split
  .rename_i h;intro K;rcases dq.1 K with e|e
   .exact Q3 lA y h.1 e.symm
   .cases e
  .intro K;cases K
 have s:G5 n:=λx U=>⟨⟨(J x U).2.2.1.2.1,(J x U).2.2.1.2.2.1⟩,(by have h:=bounds_u8 (J x U).2.2.2.2.2;omega)⟩
 letI:bR:=⟨W.heap[0]?⟩
 refine(ar.runK rfl (adu lA) (λw h=>h.1) (yJ _) (Co M) e0 (QU tp _ d Q P T n s u)).mono λe eh Y=>?_;obtain⟨rfl,hB⟩:=Y;exact⟨_,rfl,Hy (P:=prog) (f:=Tryz.f7) (Ye:=4) N F rfl rfl hB abl aen rfl Tryz.underlying4⟩
def abK:joinedFacts prog 7 Tryz.f7 Rows.coreAloneSpec Rows.coreAloneRow=true:=by unfold joinedFacts;rewrite[aar,acX,ada];kernel_rfl
def acV:Rows.CoreAloneSaid:=
 OpenClaim.holds_of_wide 7 Tryz.f7 rfl rfl rfl rfl rfl rfl rfl ⟨rfl,rfl,rfl,rfl,rfl⟩ rfl rfl rfl rfl rfl XD func7 abK
  (yF XD) (by unfold Func.isWrapper;first|(rw[aT (by decide+kernel)];kernel_rfl)|(rw[aN (by decide+kernel)];exact⟨rfl,rfl⟩))
  (λp c H W _=>Q8 p c H W)
theorem coreAlone_proved:Rows.CoreAloneCardSaid:=
 Claim7.holds_tied_plain_at .later [] [.data] true (true,"2bd43b8b9bab49a80501c85ad9c4676e1fa8e753d1aa75001a15b32b7b28cf8f") false
  acV (λ_ h=>XT) XD (λ_ h=>XT) coreAlone_row_tie rfl ⟨rfl,rfl⟩ XD rfl
  (λf fn l i=>by
   obtain rfl:f=7:=gW ((show prog.funcNamed "caucus/caucustop.CoreAlone" =some 7 by kernel_rfl).symm.trans l)|>.symm;obtain rfl:fn=Tryz.f7:=(gW (func7.symm.trans i)).symm;exact⟨XD,λj t P=>by
    rw[Tryz.params7]at P;have K:t∈[3,22]:=by simpa using wB P
    have i:([3,22].all λu=>!prog.wantsStandIn u)=true:=XD
    exact(show prog.wantsStandIn t=false by simpa using gX.1 i t K)⟩)
  XD
end Go.Proofs.YteogojgnkjegmaaGreatDoor
