/-
 Part of the proof.
-/
import Derived.Test.YteogojgnkjegmaaGreatDoorBc
set_option linter.all false
set_option maxRecDepth 8000
set_option maxHeartbeats 8000000
namespace Go.Proofs.YteogojgnkjegmaaGreatDoor
open Go.ay Go.Proofs.Tryz
variable[Go.ay.b4]
def JR{a b:bm}(K:cH a 7=true)(X:cH b 7=true):0<pO a b↔bk b<bk a:=by obtain⟨l,q,f,D⟩:=kn K;obtain⟨h,T,M,g⟩:=kn X;grind [pO,bk,Fu]
def JS:∀(K:ab bm) (a:bm),cH a 7=true->(∀b∈K,cH b 7=true)->cH (K.foldl j1 a) 7=true/\bk a<=bk (K.foldl j1 a)/\∀b∈K,bk b<=bk (K.foldl j1 a)
 |[],a,T,_=>⟨T,gg _,λb X=>by cases X⟩
 |b::K,a,T,C=>by
  have X:=C b gS;have M:cH (j1 a b) 7=true/\bk a<=bk (j1 a b)/\bk b<=bk (j1 a b):=by
   unfold j1;split
   .rename_i h;rw[JR X T]at h;grind
   .rename_i h;rw[JR X T]at h;grind
  obtain⟨l,q,f⟩:=JS K (j1 a b) M.1 λc q=>C c (hI _ q);grind
def aev{K:ab bm}{a:bm}{T:Int}(f:0<=T/\T<7)(u:cH a 7=true)(C:∀b∈K,cH b 7=true):8<=bk (rv T (a::K))/\(rv T (a::K)).a1=T/\bk a<bk (rv T (a::K)):=by obtain⟨M,X,_⟩:=JS K a u C;have e:kQ (a::K)=K.foldl j1 a:=rfl;unfold rv;rw[e];generalize K.foldl j1 a=t at*;obtain⟨l,q,f,D⟩:=kn u;obtain⟨h,X,C,g⟩:=kn M;grind [bk,hY]
section
variable{n F R:Int}{B J:Int->aX}{G Y:c7}{Q U:aN->Prop}{i:Int}{x:ag}{m a:aD}{N:aX}{t:Bool}{L:Int->hG}{bD Z:hG}{P yk:aD->Prop}{c:aN}
def di.abO(p:mX n F R)(W:jw n Q)(q:∀j,¬(0<=j/\j<8)->(L j).l=none/\(L j).r=none)(h:di n F R x Q B G L P)(ao:0<=i/\i<n)(M:bq x n=true){l:a6}(T:(L i).l=some l)(E:bD.l=some l.late.1)(f:bD.r=(L i).r)(u:∀o,o∈bD.bt↔o∈(L i).bt\/(o∈l.late.1.E'/\o.bK=i))(s:∀o,bD.ck o->(L i).ck o\/(o∈l.late.1.E'/\c3 o n=true/\o.bK≠i)):∃Y,fo R i B G B Y/\di n F R x Q B Y (hT L i bD) P/\(∀b c,Y.pre b c->G.pre b c):=by
 obtain⟨D,z,d,w,ajt⟩:=(h.lc i).cw l T;obtain⟨Y,v,C,k⟩:=D.late h.core Tr W.m;have X:l.late.1.bj=⟨0,R⟩:=by rw[(xI D.hl).bj,d]
 rcases v with⟨rfl,v⟩|⟨g,K,rfl⟩
 .rw[v]at E u s k;exact⟨Y,di.Xd (nV:=true) p W q h ao M T (py.same (ij:=l) rfl rfl) C k d (λh=>Ua) Uh f (λo=>by rw[u o];simp) λo y=>(s o y).imp id λh=>⟨rfl,h⟩⟩
 .rw[K]at E u s k X;exact⟨_,di.Xd (nV:=true) p W q h ao M T (py.jM (ij:=l.jM) g rfl) C k X (λh=>Ua) (by rw[E,aM (by show¬(2:Int)=4;omega)]) f (λo=>by rw[u o];simp) λo y=>(s o y).imp id λh=>⟨rfl,h⟩⟩
def di.abP(p:mX n F R)(b:∀j,¬(0<=j/\j<8)->(L j).l=none/\(L j).r=none)(h:di n F R x Q B G L P)(ao:0<=i/\i<n)(M:bq x n=true){r:bL}(T:(L i).l=none)(g:(L i).r=some r)(K:bD.l=none)(v:bD.r=some r)(u:∀o,o∈bD.bt↔o∈(L i).bt\/(o∈r.E'/\o.bK=i))(X:∀o,bD.ck o->(L i).ck o\/(o∈r.E'/\c3 o n=true/\o.bK≠i)):di n F R x Q B G (hT L i bD) P:=by have W:=h.lc i;refine di.step p b h fo.rfl h.core (W.Uy (ms:=r.E') (by rw[K,T]) (by rw[v,g]) u X λo y=>?_) (h.e5 i) (h.ez i) (h.q i);obtain⟨s,D,d,z,E,w,uJ⟩:=(W.hS r g).E' ao p.jr.2 M y;refine⟨s,D,d,λk f=>?_,E,λk=>.inl (w k),λl C=>by rw[T]at C;cases C⟩;obtain⟨E,h,X,M,g,T,b⟩:=uJ k f;exact .inr ⟨E,(u E).2 (.inr ⟨h,X⟩),M,g,T,b⟩
def di.abQ(p:mX n F R)(g:∀j,¬(0<=j/\j<8)->(L j).l=none/\(L j).r=none)(h:di n F R x Q B G L P)(ao:0<=i/\i<n)(b3:bq x n=true){C:bm}(W:(B i).Status≠3)(z:8<=bk C)(Ye:C.a1=i)(hz:bk (B i).bO<bk C)(E:(L i).l=none)(K:bD.l=none)(v:bD.r=some (bL.new n i x C))(T:∀o,o∈bD.bt↔o∈(L i).bt\/(o∈(bL.new n i x C).E'/\o.bK=i))(Yc:∀o,bD.ck o->(L i).ck o\/(o∈(bL.new n i x C).E'/\c3 o n=true/\o.bK≠i)):di n F R x Q B G (hT L i bD) P:=by
 have eE:=h.lc i;have w:bk C%8=i:=by have:=p.jr;unfold bk;omega
 have u:bk C≠R:=Tr
 have b:∀c,¬G.acc (bk C) c/\¬G.pre (bk C) c:=λc=>
  ⟨λD=>by have:=h.core.own _ c (.inl D) u;rw[w]at this;omega,λD=>by have:=h.core.own _ c (.inr D) u;rw[w]at this;omega⟩
 have aW:n2 n F R B G Q i x (bL.new n i x C):=⟨bL.UL p.jr i x C,rfl,rfl,rfl,rfl,z,Ye,λ_=>⟨b,λp cu=>(DE p.1 (x9 cu).1).elim⟩,λl E=>by cases E⟩
 have s:cH C n=true->∃o∈(bL.new n i x C).E',o.bK=i/\o.Item=x/\o.Kind=6/\c3 o n=true/\o.bB=C:=by
  intro d;refine⟨pq (bL.new n i x C).x i.toNat,?_,?_,rfl,rfl,?_,rfl⟩
  .refine eS.2 ⟨i.toNat,?_,rfl⟩;rw[pC];show i.toNat<n.toNat
   omega
  exact K8
  .rw[hy];refine⟨by show(1:Int)<=6;omega,by show(6:Int)<=8;omega,ao.1,ao.2,?_,?_,b3,d,rfl,λ_=>⟨rfl,rfl⟩,λM=>(by cases M),λM=>absurd M (by show¬ig (6:Int).toNat=true;decide)⟩
   exact QI
   exact L8
 have ix:∀k q,lO n x k (L i).bt q->lO n x k bD.bt q:=λk q ⟨m,M,bY,W⟩=>⟨m,(T m).2 (.inl M),bY,W⟩
 have dM:∀c,hm n F R B G i (L i) c->hm n F R B G i bD c:=λc D=>by
  rcases D with D|⟨_,_,l,X,_⟩
  .exact .inl D
  .rw[E]at X;cases X
 have f:∀o∈(bL.new n i x C).E',hk R G Q o/\o.bh=i/\o.Kind=6/\o.bB=C:=by intro o y;obtain⟨jY,gb,a3,a4,a5,Am,uJ⟩:=aW.E' ao p.jr.2 b3 y;refine⟨gb,a3,?_,a4⟩;obtain⟨k,_,rfl⟩:=eS.1 y;rfl
 refine di.step p g h fo.rfl h.core ?_ (h.e5 i) (h.ez i) (h.q i);exact{
  cw:=λl M=>cB
  ju:=λl r M=>cB
  jg:=λl M=>cB
  eM:=λl M=>cB
  hS:=λr M=>by rw[v]at M;cases M;exact aW
  fb:=λr M d=>by rw[v]at M;cases M;obtain⟨o,h,X,K,g,u,b⟩:=s d;exact .inr ⟨o,(T o).2 (.inr ⟨h,X⟩),K,g,u,b⟩
  st:=λM=>absurd M W
  bt:=λo y z=>by
   rcases(T o).1 y with y|⟨y,j⟩
   .obtain⟨h,X,K,g⟩:=eE.bt o y z;exact⟨h,X,K,λk=>dM _ (g k)⟩
   .obtain⟨h,X,K,g⟩:=f o y;exact⟨h,⟨X,j⟩,λk=>ac,λk=>ac⟩
  ck:=λo y z=>by
   rcases Yc o y with y|⟨y,d,j⟩
   .obtain⟨h,X,K,g,u⟩:=eE.ck o y z;exact⟨h,X,λk=>(K k).imp id (ix _ _),g,λk=>dM _ (u k)⟩
   .obtain⟨h,X,K,g⟩:=f o y;refine⟨h,⟨X,j⟩,λ_=>?_,λk=>ac,λk=>ac⟩;have f:=(hy.1 d).bj;rw[g]at f;obtain⟨u,M,l,E,k,b,h⟩:=s f;exact .inr ⟨u,(T u).2 (.inr ⟨M,l⟩),E,k,b,h.trans g.symm⟩}
def di.abR(p:mX n F R)(kX:jw n Q)(Yh:∀j,¬(0<=j/\j<8)->(L j).l=none/\(L j).r=none)(h:di n F R x Q B G L P)(Yk:x.a1=R)(aW:Q c)(cd:(B R).Status≠3)(hz:bk (B R).bO<=R)(Yi:∀c,¬G.pre R c)(u:(L R).bt=[])(K:bD.l=some (iC n R x ⟨0,R⟩ c 1))(v:bD.r=(L R).r)(T:∀o,o∈bD.bt↔o∈(iC n R x ⟨0,R⟩ c 1).E'/\o.bK=R)(Yf:∀o,bD.ck o->(L R).ck o\/(o∈(iC n R x ⟨0,R⟩ c 1).E'/\c3 o n=true/\o.bK≠R)):fo R R B G B (G.U8 R c)/\di n F R x Q B (G.U8 R c) (hT L R bD) P:=by
 have W:=h.lc R;have Yj:∀g,¬G.acc R g:=λg D=>by obtain⟨jm,M⟩:=h.core.yb g D;exact Yi jm M
 have X:oY R G (G.U8 R c):=.inr (.inr ⟨c,rfl⟩);have s:fo R R B G B (G.U8 R c):=X.V' p.Xc λ_=>cd;have dQ:=h.core.ZN (b:=R) (c:=c) Yi (.inl rfl) (λh=>absurd rfl h) λh=>absurd rfl h;have Yl:bk (⟨0,R⟩:bm)=R:=oW R;have E:jv n R (G.U8 R c) Q R x (iC n R x ⟨0,R⟩ c 1):=⟨rL n R x ⟨0,R⟩ c 1,rfl,aW,λp cu=>(DG cu).elim,λk cc=>(DF cc).elim,λ_=>⟨.inr ⟨Yl,rfl⟩,λg D=>by have w:G.acc (bk (⟨0,R⟩:bm)) g:=D;rw[Yl]at w;exact Yj g w⟩,λmP=>absurd mP Kd⟩
 have dM:∀g,hm n F R B G R (L R) g->kA n F R B (G.U8 R c) g:=λg D=>by
  rcases D with D|⟨_,_,l,Yc,Yg,_⟩
  .exact D.V' s
  .obtain⟨_,o,y,_⟩:=W.eM l Yc Yg;rw[u]at y;cases y
 have f:∀o∈(iC n R x ⟨0,R⟩ c 1).E',hk R (G.U8 R c) Q o/\o.bh=R/\o.Kind=1/\o.bB=⟨0,R⟩:=by intro o y;obtain⟨jY,gb,a3,a4,a5,Am⟩:=E.E' y;refine⟨jY,gb,?_,a4⟩;unfold a6.E' at y;rw[aQ (.inl rfl)]at y;obtain⟨k,_,rfl⟩:=eS.1 y;rfl
 refine⟨s,di.step p Yh h s dQ ?_ (λM=>absurd M cd) (h.ez R) (h.q R)⟩;exact{
  cw:=λl M=>by rw[K]at M;cases M;exact⟨E,rfl,rfl,hz,.inl rfl⟩
  ju:=λl r M bY=>by
   have Ym:(L R).r=some r:=by rw[<-v];exact bY
   cases d:cH r.x.bj n with
   |false=>rfl
   |true=>
    exfalso;have:=(W.hS r Ym).hE;have:=p.r;have:=p.jr;rcases W.fb r Ym d with C|⟨o,y,_⟩
    .omega
    .rw[u]at y;cases y
  jg:=λl M o y z d dU=>(f o ((T o).1 y).1).2.2.2
  eM:=λl M bY=>by rw[K]at M;cases M;exact absurd bY RD
  hS:=λr M=>(W.hS r (v▸M)).mono s.e (λc=>⟨X.acc Mf,X.pre Mf⟩) λc D=>D.V' s
  fb:=λr M d=>by
   rcases W.fb r (v▸M) d with C|⟨o,y,_⟩
   .exact .inl C
   .rw[u]at y;cases y
  st:=λM=>absurd M cd
  bt:=λo y z=>by obtain⟨y,cN⟩:=(T o).1 y;obtain⟨hB,kr,ik,ks⟩:=f o y;grind
  ck:=λo y z=>by
   rcases Yf o y with y|⟨y,d,Ye⟩
   .obtain⟨hB,kr,ik,ks,sZ⟩:=W.ck o y z;refine⟨hB.V' s,kr,λk=>?_,λk=>(ks k).V' s,λk=>.inl (dM _ (sZ k))⟩;rcases ik k with C|⟨wt,C,_⟩
    .exact .inl (C.V' s)
    .rw[u]at C;cases C
   .obtain⟨hB,kr,ik,ks⟩:=f o y;exact⟨hB,⟨kr,Ye⟩,λk=>ac,λk=>ac,λk=>ac⟩}
def di.flush(p:mX n F R)(b:∀j,¬(0<=j/\j<8)->(L j).l=none/\(L j).r=none)(h:di n F R x Q B G L P)(Yc:(L i).bt=[])(T:bD.l=(L i).l)(f:bD.r=(L i).r)(v:bD.bt=[])(s:∀o,¬bD.ck o)(g:∀o,yk o->P o\/(L i).ck o):di n F R x Q B G (hT L i bD) yk:=by
 have W:=h.lc i;have M:=di.step (bD:=bD) p b h fo.rfl h.core (W.idle T f (λm _=>by rw[v,Yc]) λm _ K=>absurd K (s m)) (h.e5 i) (h.ez i) (h.q i);refine⟨M.core,M.lc,λm K C=>?_,M.e5,M.ez,M.q⟩;rcases g m K with K|K
 .exact h.g9 m K C
 .obtain⟨X,D,d,z,sZ⟩:=W.ck m K C;refine⟨X,Uh,λk=>?_,z,λk=>?_⟩
  .rcases d k with u|⟨wt,u,_⟩
   .exact u
   .grind
  .rcases sZ k with u|⟨_,_,l,E,w,_⟩
   .exact u
   .obtain⟨_,o,y,_⟩:=W.eM l E w;rw[Yc]at y;cases y
def di.gone(p:mX n F R)(b:∀j,¬(0<=j/\j<8)->(L j).l=none/\(L j).r=none)(h:di n F R x Q B G L P)(T:bD.l=none)(f:bD.r=none)(X:bD.bt=[])(s:∀o,¬bD.ck o):di n F R x Q B G (hT L i bD) P:=by
 refine di.step p b h fo.rfl h.core ?_ (h.e5 i) (h.ez i) (h.q i);exact{
  cw:=λl M=>QL
  ju:=λl r M=>QL
  jg:=λl M=>QL
  eM:=λl M=>QL
  hS:=λr M=>by rw[f]at M;cases M
  fb:=λr M=>by rw[f]at M;cases M
  st:=λ_=>⟨T,f⟩
  bt:=λo y=>by rw[X]at y;cases y
  ck:=λo y=>absurd y (s o)}
def di.idle(p:mX n F R)(y:∀j,¬(0<=j/\j<8)->(L j).l=none/\(L j).r=none)(h:di n F R x Q B G L P)(T:bD.l=(L i).l)(f:bD.r=(L i).r)(X:∀m,m.Item=x->(m∈bD.bt↔m∈(L i).bt))(s:∀m,m.Item=x->bD.ck m->(L i).ck m):di n F R x Q B G (hT L i bD) P:=
 di.step p y h fo.rfl h.core ((h.lc i).idle T f X s) (h.e5 i) (h.ez i) (h.q i)
def di.bo(h:di n F R x Q B G L P)(T:∀o,o.Item=x->yk o->P o):di n F R x Q B G L yk:=⟨h.core,h.lc,λm K M=>h.g9 m (T m M K) M,h.e5,h.ez,h.q⟩
def di.Xe(h:di n F R x Q B G L P)(aW:∀c,Q c->U c):di n F R x U B G L P:=by
 have C:∀m,hk R G Q m->hk R G U m:=λm h=>⟨λk=>aW _ (h.q k),h.gF,h.g2,h.pv,h.s7,h.js,h.mW⟩
 have s:∀i l,jv n R G Q i x l->jv n R G U i x l:=λi l h=>⟨h.hl,h.fb,aW _ h.q,λp z=>⟨aW _ (h.px p z).1,(h.px p z).2⟩,h.ft,h.oO,h.oG⟩
 have k:∀i r,n2 n F R B G Q i x r->n2 n F R B G U i x r:=λi r h=>⟨h.ok,h.e4,h.self,h.item,h.ls,h.hE,h.fb,λM=>⟨(h.no M).1,λp z=>⟨((h.no M).2 p z).1,⟨aW _ ((h.no M).2 p z).2.1.1,((h.no M).2 p z).2.1.2⟩,((h.no M).2 p z).2.2⟩⟩,λl T=>⟨s _ _ (h.uI l T).1,(h.uI l T).2⟩⟩
 refine⟨h.core,λj=>?_,λm K M=>⟨C _ (h.g9 m K M).ki,(h.g9 m K M).ne,(h.g9 m K M).js,(h.g9 m K M).mW,(h.g9 m K M).mU⟩,h.e5,h.ez,λj=>aW _ (h.q j)⟩;have o:=h.lc j;exact⟨λl T=>⟨s _ _ (o.cw l T).1,(o.cw l T).2⟩,o.ju,o.jg,o.eM,λr f=>k _ _ (o.hS r f),o.fb,o.st,λm K M=>⟨C _ (o.bt m K M).1,(o.bt m K M).2⟩,λm K M=>⟨C _ (o.ck m K M).1,(o.ck m K M).2⟩⟩
end
end Go.Proofs.YteogojgnkjegmaaGreatDoor
namespace Go.Proofs.YteogojgnkjegmaaGreatDoor
open Go.ay Go.Proofs.Tryz
variable[Go.ay.b4]
variable{X:ab aD}{Q:ag->aN->Prop}{U:ag->Int->aX}{J:ag->Int->hG}
def dj(s:aC)(x:ag):hG:=⟨(a8 s.leads x).map (·.v),(a8 s.bp x).map (·.v),s.inbox,λm=>c3 m s.n=true/\∃y∈s.out,y.Bytes=gM m⟩
def fj(n:Int)(U:ag->Int->aX)(J:ag->Int->hG)(P:aD->Prop)(Q:ag->aN->Prop)(i:Int)(G:ag->c7)(s:aC):Prop:=
 ∀x,bq x n=true->di n (cY n) x.a1 x (Q x) (ef (U x) i (bP s.aA.p x)) (G x) (hT (J x) i (dj s x)) P
def ah9(B:Int->aX)(i:Int)(I J:aX):ef (ef B i I) i J=ef B i J:=by grind [ef]
theorem pz(B:Int->hG)(i:Int)(I J:hG):hT (hT B i I) i J=hT B i J:=by grind [hT]
theorem fP(B:Int->hG)(i:Int)(I:hG):hT B i I i=I:=aQ rfl
def JT{s Y:aC}(a:s.n<=7)(q:g8 s X Y){o:aD}(R:c3 o s.n=true)(h:∃y∈Y.out,y.Bytes=gM o):(∃y∈s.out,y.Bytes=gM o)\/(o∈X/\o.bK≠s.self):=by
 obtain⟨y,F,L⟩:=h;rw[q.2.1]at F;rcases fd.1 F with F|F
 .grind
 .unfold hD at F;obtain⟨m,K,rfl⟩:=eS.1 F;obtain⟨N,M⟩:=oz.1 K;simp only[c5,ke,jZ]at M;grind [Do]
theorem DM{s Y:aC}(q:g8 s X Y)(o:aD):o∈Y.inbox↔o∈s.inbox\/(o∈X/\o.bK=s.self):=by rw[q.1,fd];unfold fa;grind
def adu{s:bR}(h:s.ok){X:Int}{m:aD}{x:ag}(q:(s.p.at x).isSome=true):((c4 s X m).1.p.at x).isSome=true:=by
 rcases IJ X (m:=m) h with e|⟨y,i,F,_,e⟩
 .rw[e];exact q
 .grind [uE]
structure lP(n:Int)(J:ag->Int->hG)(Q:ag->aN->Prop)(i:Int):Prop where
 cM:n=3\/n=5\/n=7
 ao:0<=i/\i<n
 q:∀x,jw n (Q x)
 l:∀x j,¬(0<=j/\j<8)->(J x j).l=none/\(J x j).r=none
section
variable{n:Int}{P:aD->Prop}{i:Int}{G:ag->c7}{s Y Z:aC}{m:aD}
def lP.par(c:lP n J Q i){x:ag}(M:bq x n=true):mX n (cY n) x.a1:=by have:=c.cM;obtain⟨N,C,R,K⟩:=tQ M;refine⟨?_,ac,⟨N,C⟩,rfl⟩;rcases this with rfl|rfl|rfl<;>decide
def lP.gO(c:lP n J Q i):n<=7:=by have:=c.cM;omega
def lP.iG(c:lP n J Q i)(x:ag)(T:hG):∀j,¬(0<=j/\j<8)->(hT (J x) i T j).l=none/\(hT (J x) i T j).r=none:=by intro j y;have:=c.ao;have:=c.cM;unfold hT;rw[aM ac];exact c.l x j y
def fj.abS(c:lP n J Q i){x:ag}(M:bq x n=true)(h:di n (cY n) x.a1 x (Q x) (ef (U x) i (bP s.aA.p x)) (G x) (hT (J x) i (dj s x)) P)(X:bP Y.aA.p x=bP s.aA.p x)(T:a8 Y.leads x=a8 s.leads x)(f:a8 Y.bp x=a8 s.bp x)(F:∀m,m.Item=x->(m∈Y.inbox↔m∈s.inbox))(k:∀m,m.Item=x->(dj Y x).ck m->(dj s x).ck m):di n (cY n) x.a1 x (Q x) (ef (U x) i (bP Y.aA.p x)) (G x) (hT (J x) i (dj Y x)) P:=by have N:=di.idle (i:=i) (bD:=dj Y x) (c.par M) (c.iG x _) h (by grind [fP,dj]) (by grind [fP,dj]) (by rw[fP];exact F) (by rw[fP];exact k);grind [pz]
def hb(n:Int)(U:ag->Int->aX)(i:Int)(G:ag->c7)(s:aC)(q:ag->c7)(Y:aC):Prop:=
 ∀x,bq x n=true->fo x.a1 i (ef (U x) i (bP s.aA.p x)) (G x) (ef (U x) i (bP Y.aA.p x)) (q x)/\(∀c,(q x).pre x.a1 c->(G x).pre x.a1 c)/\((s.aA.p.at x).isSome=true->(Y.aA.p.at x).isSome=true)
def fj.one(c:lP n J Q i)(h:fj n U J P Q i G s){x:ag}{g:c7}(N:bq x n=true->di n (cY n) x.a1 x (Q x) (ef (U x) i (bP Y.aA.p x)) g (hT (J x) i (dj Y x)) P)(b:∀y,y≠x->Y.aA.p.at y=s.aA.p.at y/\a8 Y.leads y=a8 s.leads y/\a8 Y.bp y=a8 s.bp y/\(∀m,m.Item=y->(m∈Y.inbox↔m∈s.inbox))/\(∀m,m.Item=y->(dj Y y).ck m->(dj s y).ck m)):fj n U J P Q i (λy=>if y=x then g else G y) Y:=by
 intro y F;dsimp only;by_cases e:y=x
 .grind
 .rw[aM e];obtain⟨l,q,R,D,k⟩:=b y e;exact fj.abS c F (h y F) (by unfold bP;rw[l]) q R D k
def tg{x:ag}{g:c7}(N:bq x n=true->fo x.a1 i (ef (U x) i (bP s.aA.p x)) (G x) (ef (U x) i (bP Y.aA.p x)) g/\(∀c,g.pre x.a1 c->(G x).pre x.a1 c)/\((s.aA.p.at x).isSome=true->(Y.aA.p.at x).isSome=true))(c:∀y,y≠x->Y.aA.p.at y=s.aA.p.at y):hb n U i G s (λy=>if y=x then g else G y) Y:=by intro y F;grind [bP,fo.rfl]
def hb.trans{b q:ag->c7}{t:aC}(h:hb n U i G s b Y)(k:hb n U i b Y q t):hb n U i G s q t:=by intro x N;obtain⟨l,D,R⟩:=h x N;obtain⟨h,F,M⟩:=k x N;exact⟨l.trans h,λc q=>D c (F c q),λq=>M (R q)⟩
theorem hb.refl:hb n U i G s G s:=λ_ _=>⟨fo.rfl,λ_=>id,id⟩
def th(a:s.n<=7)(q:g8 s X Y){x:ag}(K:∀o∈X,o.Item=x){y:ag}(F:y≠x):(∀m,m.Item=y->(m∈Y.inbox↔m∈s.inbox))/\(∀m,m.Item=y->(dj Y y).ck m->(dj s y).ck m):=by
 refine⟨λo p=>?_,λo p=>?_⟩
 .grind [DM]
 .rintro⟨N,M⟩;have d:c3 o s.n=true:=by rw[<-q.2.2.1];exact N
  exact⟨d,(JT a q d M).resolve_right λh=>F (by rw[<-p];exact K o h.1)⟩
end
end Go.Proofs.YteogojgnkjegmaaGreatDoor
namespace Go.Proofs.YteogojgnkjegmaaGreatDoor
open Go.ay Go.Proofs.Tryz
variable[Go.ay.b4]
section
variable{n:Int}{J:ag->Int->aX}{Z:ag->Int->hG}{P:aD->Prop}{Q:ag->aN->Prop}{i:Int}{G:ag->c7}{s Y U:aC}{m:aD}
structure DN(n:Int)(J:ag->Int->aX)(Z:ag->Int->hG)(P:aD->Prop)(Q:ag->aN->Prop)(i:Int)(G:ag->c7)(U s:aC)(m:aD):Prop where
 a:(U.inbox=[]/\s.inbox=[]/\c3 m n=true/\m.bK=i/\m.bh≠i/\P m)\/U.inbox=m::s.inbox
 e:s={U with inbox:=s.inbox}
def kB.bad{F R:Int}{x:ag}{B:Int->aX}{g:c7}{q:aN->Prop}{L u:hG}(h:kB n F R x q B g i L){rest:ab aD}(f:c3 m n=false)(z:L.bt=m::rest)(W:u.bt=rest)(E:∀l,u.l=some l->L.l=some l)(X:∀l,L.l=some l->u.l=some l)(v:∀r,u.r=some r->L.r=some r)(b:∀o,u.ck o->L.ck o):kB n F R x q B g i u:=by
 have D:∀o,o∈u.bt->o∈L.bt:=λo y=>Uh
 have j:∀k p,lO n x k L.bt p->lO n x k u.bt p:=λk p ⟨o,N,M,t,C,a⟩=>by
  rw[z]at N;rcases dk.1 N with rfl|N
  .grind
  .exact⟨o,by rw[W];exact N,M,t,C,a⟩
 have w:∀c,hm n F R B g i L c->hm n F R B g i u c:=λc h=>h.imp id λ⟨e,h,l,T,M⟩=>⟨e,h,l,X l T,M⟩
 exact{
  cw:=λl T=>h.cw l (E l T)
  ju:=λl r T d=>h.ju l r (E l T) (v r d)
  jg:=λl T m K=>h.jg l (E l T) m (D m K)
  eM:=λl T t=>⟨w _ (h.eM l (E l T) t).1,j _ _ (h.eM l (E l T) t).2⟩
  hS:=λr d=>h.hS r (v r d)
  fb:=λr d f=>(h.fb r (v r d) f).imp id (j _ _)
  st:=λt=>by
   refine⟨?_,?_⟩
   .cases T:u.l with
    |none=>rfl
    |some l=>have:=E l T;rw[(h.st t).1]at this;cases this
   .cases T:u.r with
    |none=>rfl
    |some l=>have:=v l T;rw[(h.st t).2]at this;cases this
  bt:=λm K N=>⟨(h.bt m (D m K) N).1,(h.bt m (D m K) N).2.1,(h.bt m (D m K) N).2.2.1,λk=>w _ ((h.bt m (D m K) N).2.2.2 k)⟩
  ck:=λm K N=>⟨(h.ck m (b m K) N).1,(h.ck m (b m K) N).2.1,λk=>((h.ck m (b m K) N).2.2.1 k).imp id (j _ _),(h.ck m (b m K) N).2.2.2.1,λk=>w _ ((h.ck m (b m K) N).2.2.2.2 k)⟩}
def acl{t:aC}{x:ag}(g:(t.leads.map (·.1)).Nodup)(X:(t.bp.map (·.1)).Nodup)(u:((bP t.aA.p x).Status=3/\nl t x Y)\/((bP t.aA.p x).Status≠3/\iF t x Y)):(∀l,(dj Y x).l=some l↔(dj t x).l=some l/\(bP t.aA.p x).Status≠3/\fL l.bj (bP t.aA.p x).bO=false)/\(∀r,(dj Y x).r=some r->(dj t x).r=some r/\(bP t.aA.p x).Status≠3)/\(∀y,y≠x->a8 Y.leads y=a8 t.leads y/\a8 Y.bp y=a8 t.bp y)/\Y.inbox=t.inbox/\Y.out=t.out/\Y.aA=t.aA/\Y.n=t.n/\Y.self=t.self:=by
 unfold dj;dsimp only;rcases u with⟨R,o,_,rfl⟩|⟨R,u⟩
 .grind [sF]
 .subst u;grind [aC.UW,a8,sF,aC.UX]
def fj.ask{k:Nat}(c:lP n Z Q i)(y:eO k s)(v:dV s)(n4:s.n=n)(es:s.self=i)(h:fj n J Z P Q i G U)(u:DN n J Z P Q i G U s m)(fI:mj m)(ix:fG s m Y):∃lr,fj n J Z P Q i lr Y/\hb n J i G U lr Y:=by
 have Ye:s.n<=7:=by rw[n4];exact c.gO
 have T:U.aA=s.aA:=by rw[u.e]
 rcases ix with⟨_,d,_,_,cc⟩|⟨bg,_⟩
 rotate_left
 .exact absurd fI bg
 have Ap:=vV s m d;have E:=IH s m d;have ti:(s.Uq m d).leads=s.leads/\(s.Uq m d).bp=s.bp:=by unfold aC.Uq;split<;>exact⟨rfl,rfl⟩
 rw[<-Ap]at cc;obtain⟨jf,kD,dy,dx,bv,gm,om,nB⟩:=acl (t:=s.Uq m d) (x:=m.Item) (by rw[ti.1];exact v.en) (by rw[ti.2];exact v.e4) cc;have D:Y.aA=(c4 s.aA s.self m).1:=by rw[gm,Ap]
 have b:g8 s (if(c4 s.aA s.self m).2.2=true then[(c4 s.aA s.self m).2.1]else[]) Y:=⟨by rw[dx,E.1],by rw[bv,E.2.1],by rw[om,E.2.2.1],by rw[nB,E.2.2.2]⟩
 have Ym:∀o∈(if(c4 s.aA s.self m).2.2=true then[(c4 s.aA s.self m).2.1]else[]),o.Item=m.Item:=by
  intro o Yw;split at Yw
  .rename_i cN;grind [List.mem_singleton.1,Ih]
  .cases Yw
 have Yn:∀o,o.Item≠m.Item->(o∈s.inbox↔o∈U.inbox):=by
  intro o Yx;rcases u.a with⟨N,gb,_⟩|N
  .rw[N,gb]
  .rw[N,dk];exact⟨.inr,λh=>h.resolve_left λh=>Yx (by rw[h])⟩
 have f:∀z,z≠m.Item->(c4 s.aA s.self m).1.p.at z=s.aA.p.at z->Y.aA.p.at z=U.aA.p.at z/\a8 Y.leads z=a8 U.leads z/\a8 Y.bp z=a8 U.bp z/\(∀o,o.Item=z->(o∈Y.inbox↔o∈U.inbox))/\(∀o,o.Item=z->(dj Y z).ck o->(dj U z).ck o):=by
  intro z w L;obtain⟨C,F⟩:=th Ye b Ym w;refine⟨by rw[D,L,T],by rw[(dy z w).1,ti.1,u.e],by rw[(dy z w).2,ti.2,u.e],λo Yt=>?_,λo Yt Yg=>?_⟩
  .rw[C o Yt];exact Yn o (by rw[Yt];exact w)
  .have:=F o Yt Yg;rw[u.e]at this;exact this
 by_cases bF:c3 m n=true
 .have Yf:m.bK=i:=by
   rcases u.a with⟨_,_,_,N,_⟩|N
   .exact N
   .exact((h m.Item (hy.1 bF).item).lc i|>.bt m K7 rfl).2.1.2
  have Yv:c3 m s.aA.n=true:=by rw[y.en,n4];exact bF
  have Yc:=JJ y.aA Yv fI;rw[show m.bK=s.self by rw[es,Yf]]at Yc;have b3:=(hy.1 bF).item;have W:=h m.Item b3;have cu:=c.par b3;have L:∀z,z≠m.Item->(c4 s.aA s.self m).1.p.at z=s.aA.p.at z:=Yc.2;have ib:ef (J m.Item) i (bP U.aA.p m.Item) i=bP s.aA.p m.Item:=by rw[lN,T]
  have Yi:hk m.Item.a1 (G m.Item) (Q m.Item) m:=by
   rcases u.a with⟨_,_,_,_,_,N⟩|N
   .exact(W.g9 m N rfl).ki
   .exact((W.lc i).bt m K7 rfl).1
  have Yu:m.Kind=5->hm n (cY n) m.Item.a1 (ef (J m.Item) i (bP U.aA.p m.Item)) (G m.Item) i (hT (Z m.Item) i (dj U m.Item) i) m.Call:=by
   intro mU;rcases u.a with⟨_,_,_,_,_,N⟩|N
   .exact .inl ((W.g9 m N rfl).mU mU)
   .exact((W.lc i).bt m K7 rfl).2.2.2 mU
  have l1:m.Kind=6->m.bh≠i->nw (ef (J m.Item) i (bP U.aA.p m.Item)) m.bB:=by
   intro js eh;rcases u.a with⟨_,_,_,_,_,N⟩|N
   .exact(W.g9 m N rfl).js js
   .exact absurd ((W.lc i).bt m K7 rfl).2.1.1 eh
  have M:(dj (s.Uq m d) m.Item).l=(dj U m.Item).l/\(dj (s.Uq m d) m.Item).r=(dj U m.Item).r:=by unfold dj;dsimp only;rw[ti.1,ti.2,u.e];exact⟨rfl,rfl⟩
  rw[Ap]at jf kD;obtain⟨g,N,gb,a3⟩:=di.ask (bD:=dj Y m.Item) (rest:=s.inbox) (m:=m) (t:=(c4 s.aA s.self m).2.2) (a:=(c4 s.aA s.self m).2.1) (kC:=bP (c4 s.aA s.self m).1.p m.Item) cu (c.q _) (c.iG _ _) W rfl Yf bF Yi Yu l1
   (by
    rw[fP];rcases u.a with⟨C,F,_⟩|C
    .exact .inl ⟨C,F⟩
    .exact .inr C)
   (by rw[ib];have:=Yc.1;rw[y.en,n4]at this;exact this)
   (λl=>by rw[fP,jf l,M.1])
   (λr c1=>by rw[fP,<-M.2];exact kD r c1)
   (λo=>by
    show o∈Y.inbox↔_
    rw[DM b,es];refine or_congr Iff.rfl ⟨λ⟨C,F⟩=>?_,λ⟨C,F,ik⟩=>⟨by rw[aQ C,F];exact i2.2 rfl,by rw[F];exact ik⟩⟩;split at C
    .grind
    .cases C)
   (λo Yg=>by
    rw[fP];obtain⟨C,F⟩:=Yg;have K:c3 o s.n=true:=by rw[<-b.2.2.1];exact C
    obtain⟨z,w,Ys⟩:=F;rw[b.2.1]at w;rcases fd.1 w with w|w
    .refine .inl ⟨?_,z,?_,Ys⟩
     .rw[u.e]at K;exact K
     .rw[u.e]at w;exact w
    .unfold hD at w;obtain⟨acj,Yp,rfl⟩:=eS.1 w;obtain⟨bg,bY⟩:=oz.1 Yp;simp only[c5,ke,jZ]at bY;have Yo:=Do Ye bY.2 K Ys;subst Yo;split at bg
     .grind
     .cases bg)
  rw[ah9]at N gb;rw[pz]at gb;refine⟨λz=>if z=m.Item then g else G z,h.one c (x:=m.Item) (λ_=>by rw[D];exact gb) λz w=>f z w (L z w),tg (λ_=>⟨by rw[D];exact N,λcx Yj=>by rw[a3]at Yj;exact Yj,λX=>?_⟩) λz w=>(f z w (L z w)).1⟩;rw[D];rw[T]at X;exact adu y.aA X
 .have Yr:c3 m n=false:=by simpa using bF
  have Yk:U.inbox=m::s.inbox:=by
   rcases u.a with⟨_,_,N,_⟩|N
   .rw[Yr]at N;cases N
   .exact N
  have j:c4 s.aA s.self m=(s.aA,aD.z,false):=by unfold c4;rw[aM];rintro⟨bg,_⟩;rw[y.en,n4,Yr]at bg;cases bg
  have Yh:Y.aA=U.aA:=by rw[D,j,T]
  have Yl:Y.inbox=s.inbox:=by rw[b.1,j];simp[fa]
  have Yq:Y.out=s.out:=by rw[b.2.1,j];simp[hD]
  refine⟨λz=>if z=m.Item then G m.Item else G z,h.one c (x:=m.Item) (λb3=>?_) λz w=>f z w (by rw[j]),tg (λb3=>?_) λz w=>(f z w (by rw[j])).1⟩
  .have W:=h m.Item b3;rw[Yh];have M:(dj (s.Uq m d) m.Item).l=(dj U m.Item).l/\(dj (s.Uq m d) m.Item).r=(dj U m.Item).r:=by unfold dj;dsimp only;rw[ti.1,ti.2,u.e];exact⟨rfl,rfl⟩
   rw[Ap,j]at jf kD;have R:=(W.lc i)
   rw[fP]at R;have bY:kB n (cY n) m.Item.a1 m.Item (Q m.Item) (ef (J m.Item) i (bP U.aA.p m.Item)) (G m.Item) i (dj Y m.Item):=by
    refine R.bad (m:=m) (rest:=s.inbox) Yr Yk Yl (λl dz=>by rw[<-M.1];exact((jf l).1 dz).1) (λl dz=>?_) (λr c1=>by rw[<-M.2];exact(kD r c1).1) λo dy=>?_
    .refine(jf l).2 ⟨by rw[M.1];exact dz,?_,?_⟩
     .intro cd;have:=(R.st (by rw[lN,T];exact cd)).1;rw[this]at dz;cases dz
     .obtain⟨_,_,C,F,_⟩:=R.cw l dz;rw[lN]at F;rw[C];have d:cH (bP U.aA.p m.Item).bO 7=true:=by have:=W.ez i;rw[lN]at this;exact(Ak c.gO this).1
      have f:=(c.par b3).r;have E:=c.gO;cases X:fL ⟨0,m.Item.a1⟩ (bP s.aA.p m.Item).bO with
      |false=>rfl
      |true=>
       rw[<-T]at X;grind [ws,cH,oW]
    .obtain⟨C,F⟩:=dy;have K:c3 o s.n=true:=by rw[<-b.2.2.1];exact C
     rw[Yq]at F;rw[u.e]at K F;exact⟨K,F⟩
   have cd:=di.step (i:=i) (bD:=dj Y m.Item) (c.par b3) (c.iG _ _) W fo.rfl W.core bY (W.e5 i) (W.ez i) (W.q i);rw[pz]at cd;exact cd
  .rw[Yh];exact⟨fo.rfl,λ_=>id,id⟩
end
end Go.Proofs.YteogojgnkjegmaaGreatDoor
namespace Go.Proofs.YteogojgnkjegmaaGreatDoor
open Go.ay Go.Proofs.Tryz
variable[Go.ay.b4]
section
variable{n:Int}{Y:ag->Int->aX}{U:ag->Int->hG}{P:aD->Prop}{Q:ag->aN->Prop}{i:Int}{G:ag->c7}{s J Z:aC}{m:aD}
def JU(s:aC)(m:aD)(a:Nat)(X:(s.bp.map (·.1)).Nodup):(s.Up m a).leads=s.leads/\(∀y,y≠m.Item->a8 (s.Up m a).bp y=a8 s.bp y)/\∀e,a8 s.bp m.Item=some e->(a8 (s.Up m a).bp m.Item).map (·.v)=if(e.v.y' m).2=true/\(e.v.y' m).1.lost=true then none else some (e.v.y' m).1:=by
 unfold aC.Up;cases R:a8 s.bp m.Item with
 |none=>exact⟨rfl,λ_ _=>rfl,λe L=>by cases L⟩
 |some e=>
  dsimp only;by_cases N:(e.v.y' m).2=true
  .rw[aQ N];by_cases f:(e.v.y' m).1.lost=true
   .rw[aQ f];dsimp only;have h:=qy (k:=m.Item) (v:=(⟨e.p,a,(e.v.y' m).1⟩:er bL)) X;refine⟨rfl,λy F=>?_,λl M=>?_⟩
    .grind [sF,hw]
    .grind [sF]
   .rw[aM f];refine⟨rfl,λy F=>?_,λl M=>?_⟩
    .show a8 (bx s.bp m.Item _) y=_;rw[hw,aM F]
    .cases M;show(a8 (bx s.bp m.Item _) m.Item).map _=_
     grind [hw]
  .grind [a8,bx,hw]
def ajY(s:aC)(m:aD)(g:(s.leads.map (·.1)).Nodup):(s.Uw m).bp=s.bp/\(∀y,y≠m.Item->a8 (s.Uw m).leads y=a8 s.leads y)/\∀e,a8 s.leads m.Item=some e->(a8 (s.Uw m).leads m.Item).map (·.v)=if(e.v.y' m).2=true/\(e.v.y' m).1.phase=4 then none else some (e.v.y' m).1:=by
 unfold aC.Uw;cases R:a8 s.leads m.Item with
 |none=>exact⟨rfl,λ_ _=>rfl,λe L=>by cases L⟩
 |some e=>
  dsimp only;by_cases N:(e.v.y' m).2=true
  .rw[aQ N];by_cases f:(e.v.y' m).1.phase=4
   .rw[aQ f];dsimp only;have h:=qy (k:=m.Item) (v:=(⟨e.p,e.q,(e.v.y' m).1⟩:er a6)) g;refine⟨rfl,λy F=>?_,λl M=>?_⟩
    .grind [sF,hw]
    .grind [sF]
   .rw[aM f];refine⟨rfl,λy F=>?_,λl M=>?_⟩
    .show a8 (bx s.leads m.Item _) y=_;rw[hw,aM F]
    .cases M;show(a8 (bx s.leads m.Item _) m.Item).map _=_
     grind [hw]
  .grind [a8,bx,hw]
def Aq{X:ab aD}(r:s.n<=7)(k:s.n=n)(l:s.self=i)(q:g8 s X J)(x:ag):(∀o,o∈(dj J x).bt↔o∈(dj s x).bt\/(o∈X/\o.bK=i))/\(∀o,(dj J x).ck o->(dj s x).ck o\/(o∈X/\c3 o n=true/\o.bK≠i)):=by
 refine⟨λo=>by rw[<-l];exact DM q o,λo ⟨N,M⟩=>?_⟩;have d:c3 o s.n=true:=by rw[<-q.2.2.1];exact N
 exact(JT r q d M).imp (λh=>⟨d,h⟩) λh=>⟨h.1,by rw[<-k];exact d,by rw[<-l];exact h.2⟩
def fj.count{k:Nat}(c:lP n U Q i)(y:eO k s)(v:dV s)(n4:s.n=n)(es:s.self=i)(h:fj n Y U P Q i G Z)(u:DN n Y U P Q i G Z s m)(fI:¬mj m)(ix:fG s m J):∃lr,fj n Y U P Q i lr J/\hb n Y i G Z lr J:=by
 have Yg:s.n<=7:=by rw[n4];exact c.gO
 have Yf:Z.aA=s.aA:=by rw[u.e]
 rcases ix with⟨bg,_⟩|⟨_,K,rfl⟩
 .exact absurd bg fI
 have Yp:m.Kind≠5:=λe=>fI (.inr (.inr (.inr e)));have Yy:¬n3 m:=λh=>fI (by rcases h with h|h|h;exact .inl h;exact .inr (.inl h);exact .inr (.inr (.inl h)));have nb:fj n Y U P Q i G s:=by
  intro x N;have L:=h x N;rcases u.a with⟨E,gb,_⟩|E
  .have e:s=Z:=by rw[u.e,gb,<-E]
   rw[e];exact L
  .have Yk:=L.lc i;rw[fP]at Yk;have bY:=Yk.drop (g4:=dj s x) (m:=m) (rest:=s.inbox) ⟨Yy,Yp⟩ (by unfold dj;rw[u.e]) (by unfold dj;rw[u.e]) E rfl (λo C=>by rw[u.e]at C;exact C);have cd:=di.step (i:=i) (bD:=dj s x) (c.par N) (c.iG _ _) L fo.rfl L.core bY (L.e5 i) (L.ez i) (L.q i);grind [pz]
 have Ys:hb n Y i G Z G s:=λx N=>by grind [fo.rfl]
 have Ym:bq m.Item n=true->hk m.Item.a1 (G m.Item) (Q m.Item) m/\(m.Kind=7->nw (ef (Y m.Item) i (bP s.aA.p m.Item)) m.bB):=by
  intro N;have L:=h m.Item N;rw[<-Yf];rcases u.a with⟨_,_,_,_,_,E⟩|E
  .exact⟨(L.g9 m E rfl).ki,(L.g9 m E rfl).mW⟩
  .have:=(L.lc i).bt m (by rw[fP];show m∈Z.inbox;rw[E];exact gS) rfl;grind
 have Yw:∃lQ,fj n Y U P Q i lQ (({s with high:=s.Uz m}:aC).Up m K)/\hb n Y i G s lQ (({s with high:=s.Uz m}:aC).Up m K):=by
  generalize cN:({s with high:=s.Uz m}:aC)=t;have Yl:t.aA=s.aA/\t.leads=s.leads/\t.bp=s.bp/\t.inbox=s.inbox/\t.out=s.out/\t.n=s.n/\t.self=s.self:=Uh
  obtain⟨t1,t2,t3,t4,t5,uL,afj⟩:=Yl;have Yu:∀x,dj t x=dj s x:=λx=>by grind [dj]
  have Yt:fj n Y U P Q i G t:=λx N=>by rw[Yu,t1];exact nb x N
  have Yr:(t.bp.map (·.1)).Nodup:=by rw[t3];exact v.e4
  have k1:hb n Y i G s G t:=λx N=>by grind [fo.rfl]
  obtain⟨kD,yl,q3⟩:=JU t m K Yr;have b7:=Dd t m K;have X:=CW t m K;have W:(t.Up m K).aA=t.aA:=by have:=dp (·.1) X.b;exact this
  have T:t.n=n:=by rw[uL,n4]
  have Yc:t.self=i:=by rw[afj,es]
  cases d:a8 t.bp m.Item with
  |none=>
   grind [aC.Up]
  |some e=>
   have R:∀o∈t.Vy m,o.Item=m.Item:=by
    intro o C;unfold aC.Vy at C;rw[d]at C;dsimp only at C;split at C
    .have c1:=y.rs _ (ml (by rw[<-t3];exact d));rw[vZ (c1.1.y' m) o C,(If e.v m).2.2.1];exact c1.2.2.2.1
    .cases C
   have j:t.Vy m=if(e.v.y' m).2=true then(e.v.y' m).1.E' else[]:=by grind [aC.Vy]
   have f:∀z,z≠m.Item->(t.Up m K).aA.p.at z=t.aA.p.at z/\a8 (t.Up m K).leads z=a8 t.leads z/\a8 (t.Up m K).bp z=a8 t.bp z/\(∀o,o.Item=z->(o∈(t.Up m K).inbox↔o∈t.inbox))/\(∀o,o.Item=z->(dj (t.Up m K) z).ck o->(dj t z).ck o):=λz w=>
    ⟨by rw[W],by rw[kD],yl z w,(th (by rw[uL];exact Yg) b7 R w).1,(th (by rw[uL];exact Yg) b7 R w).2⟩
   by_cases N:bq m.Item n=true
   .obtain⟨Ye,Yh⟩:=Aq (by rw[uL];exact Yg) T Yc b7 m.Item;obtain⟨g,E,gb,a3⟩:=di.abM (bD:=dj (t.Up m K) m.Item) (m:=m) (r:=e.v) (c.par N) (c.q _) (c.iG _ _) (Yt m.Item N) c.ao N rfl (Ym N).1 Yp (by rw[t1];exact(Ym N).2)
     (by rw[fP];show(a8 t.bp m.Item).map _=_;rw[d];rfl)
     (by rw[fP];show(a8 (t.Up m K).leads m.Item).map _=(a8 t.leads m.Item).map _;rw[kD])
     (q3 e d)
     (λo=>by
      rw[fP,Ye o,j];refine or_congr Iff.rfl ⟨λ⟨M,D⟩=>?_,λ⟨M,D,ik⟩=>⟨by rw[aQ M];exact D,ik⟩⟩;split at M
      exact TE
      .cases M)
     (λo C=>by
      rw[fP];refine(Yh o C).imp id λ⟨M,D⟩=>?_;rw[j]at M;split at M
      exact TE
      .cases M)
    rw[pz]at gb;refine⟨λz=>if z=m.Item then g else G z,Yt.one c (x:=m.Item) (λ_=>by rw[W];exact gb) f,k1.trans (tg (λ_=>⟨by rw[W];exact E,λcx Yo=>?_,by rw[W];exact id⟩) λz w=>(f z w).1)⟩;exact(a3 _ _ Yo).resolve_right λF=>F rfl
   .exact⟨λz=>if z=m.Item then G m.Item else G z,Yt.one c (x:=m.Item) (λF=>absurd F N) f,k1.trans (tg (λF=>absurd F N) λz w=>(f z w).1)⟩
 obtain⟨lQ,Yi,Yq⟩:=Yw;have Yv:=CW ({s with high:=s.Uz m}:aC) m K;have Ye:=Dd ({s with high:=s.Uz m}:aC) m K;have Yj:=(JU ({s with high:=s.Uz m}:aC) m K v.e4).1;generalize({s with high:=s.Uz m}:aC).Up m K=t at*;have T:t.n=n:=by rw[Ye.2.2.1];exact n4
 have Yc:t.self=i:=by rw[Ye.2.2.2];exact es
 have Yz:t.aA=s.aA:=by have:=dp (·.1) Yv.b;exact this
 have Yn:(t.leads.map (·.1)).Nodup:=by rw[Yj];exact v.en
 obtain⟨kD,yl,q3⟩:=ajY t m Yn;have b7:=II t m;have X:=Ig t m;have W:(t.Uw m).aA=t.aA:=by have:=dp (·.1) X.b;exact this
 cases d:a8 t.leads m.Item with
 |none=>
  have e:t.Uw m=t:=by unfold aC.Uw;rw[d]
  rw[e];exact⟨lQ,Yi,Ys.trans Yq⟩
 |some e=>
  have R:∀o∈t.Vz m,o.Item=m.Item:=by
   intro o C;unfold aC.Vz at C;rw[d]at C;dsimp only at C;split at C
   .have c1:=y.cw _ (ml (by rw[Yj]at d;exact d));exact uo (tZ c1.1 m) o C
   .cases C
  have j:t.Vz m=if(e.v.y' m).2=true then(e.v.y' m).1.E' else[]:=by unfold aC.Vz;rw[d]
  have f:∀z,z≠m.Item->(t.Uw m).aA.p.at z=t.aA.p.at z/\a8 (t.Uw m).leads z=a8 t.leads z/\a8 (t.Uw m).bp z=a8 t.bp z/\(∀o,o.Item=z->(o∈(t.Uw m).inbox↔o∈t.inbox))/\(∀o,o.Item=z->(dj (t.Uw m) z).ck o->(dj t z).ck o):=λz w=>
   ⟨by rw[W],yl z w,by rw[kD],(th Lp b7 R w).1,(th Lp b7 R w).2⟩
  by_cases N:bq m.Item n=true
  .obtain⟨Yx,Yh⟩:=Aq Lp T Yc b7 m.Item;obtain⟨g,E,gb,a3⟩:=di.abN (bD:=dj (t.Uw m) m.Item) (m:=m) (l:=e.v) (c.par N) (c.q _) (c.iG _ _) (Yi m.Item N) c.ao N rfl ((Ym N).1.V' (Yq m.Item N).1) Yp
    (by rw[fP];show(a8 t.leads m.Item).map _=_;rw[d];rfl)
    (q3 e d)
    (by rw[fP];show(a8 (t.Uw m).bp m.Item).map _=(a8 t.bp m.Item).map _;rw[kD])
    (λo=>by
     rw[fP,Yx o,j];refine or_congr Iff.rfl ⟨λ⟨M,D⟩=>?_,λ⟨M,D,ik⟩=>⟨by rw[aQ M];exact D,ik⟩⟩;split at M
     exact TE
     .cases M)
    (λo C=>by
     rw[fP];refine(Yh o C).imp id λ⟨M,D⟩=>?_;rw[j]at M;split at M
     exact TE
     .cases M)
   rw[pz]at gb;exact⟨λz=>if z=m.Item then g else lQ z,Yi.one c (x:=m.Item) (λ_=>by rw[W];exact gb) f,(Ys.trans Yq).trans (tg (λ_=>⟨by rw[W];exact E,λcx Yo=>a3 _ _ Yo,by rw[W];exact id⟩) λz w=>(f z w).1)⟩
  .exact⟨λz=>if z=m.Item then lQ m.Item else lQ z,Yi.one c (x:=m.Item) (λF=>absurd F N) f,(Ys.trans Yq).trans (tg (λF=>absurd F N) λz w=>(f z w).1)⟩
def fj.y'{k:Nat}(c:lP n U Q i)(y:eO k s)(v:dV s)(x:s.n=n)(l:s.self=i)(h:fj n Y U P Q i G Z)(u:DN n Y U P Q i G Z s m)(j:fG s m J):∃q,fj n Y U P Q i q J/\hb n Y i G Z q J:=by
 by_cases K:mj m
 .exact h.ask c y v x l u K j
 .exact h.count c y v x l u K j
def ah6(h:jt s J):J.n=s.n/\J.self=s.self:=by
 induction h with
 |refl=>exact⟨rfl,rfl⟩
 |step _ _ K d=>
  obtain⟨X,q⟩:=K.Vu;exact⟨q.2.2.1.trans d.1,q.2.2.2.trans d.2⟩
def fj.ZQ{k:Nat}(c:lP n U Q i)(y:eO k s)(v:dV s)(N:s.n=n)(x:s.self=i)(h:fj n Y U P Q i G s)(j:jt s J):∃q,fj n Y U P Q i q J/\hb n Y i G s q J:=by
 induction j with
 |refl=>exact⟨G,h,hb.refl⟩
 |@step s1 s2 m l q ao K d=>
  obtain⟨b,k,D⟩:=d;obtain⟨j,M,_⟩:=jt.cQ y q;have f:=jt.U7 y v q;have F:=(M.rest ao).1;have W:dV {s1 with inbox:=l}:=⟨f.en,f.e4,f.bF,λo p=>f.i8 o Uh⟩
  obtain⟨R,f⟩:=ah6 q;obtain⟨q,h,X⟩:=k.y' c F W (R.trans N) (f.trans x) ⟨.inr ao,rfl⟩ K;exact⟨q,h,D.trans X⟩
end
end Go.Proofs.YteogojgnkjegmaaGreatDoor
namespace Go.Proofs.YteogojgnkjegmaaGreatDoor
open Go.ay Go.Proofs.Tryz
variable[Go.ay.b4]
variable{k:Nat}{Q:ag->aN->Prop}{U:ag->Int->aX}{J:ag->Int->hG}
section
variable{n:Int}{P:aD->Prop}{i:Int}{G:ag->c7}{s Y Z t:aC}{m:aD}{x:ag}
def acX(h:k3 s Y):Y.aA=s.aA/\∀x,dj Y x=dj s x:=by obtain⟨N,M,R,C,a,K,y,F,_⟩:=h.same;grind [dj]
def fj.drain(c:lP n J Q i)(y:eO k s)(v:dV s)(C:s.n=n)(l:s.self=i)(h:fj n U J P Q i G s)(w:jT s Y):∃q,fj n U J P Q i q Y/\hb n U i G s q Y:=by obtain⟨s1,N,_,M⟩:=w;obtain⟨q,k,D⟩:=h.ZQ c y v C l N;obtain⟨h,F⟩:=acX M;exact⟨q,λx N=>by rw[h,F];exact k x N,λx N=>by rw[h];exact D x N⟩
def fj.abT(c:lP n J Q i)(y:eO k s)(v:dV s)(n4:s.n=n)(es:s.self=i)(h:fj n U J P Q i G s)(Yj:bq x 7=true)(dz:oP s x Y):∃lr,fj n U J P Q i lr Y/\hb n U i G s lr Y:=by
 have X:=c.gO;have Ym:(s.again x).aA=s.aA/\(s.again x).leads=s.leads/\(s.again x).bp=s.bp/\(s.again x).inbox=s.inbox/\(s.again x).out=s.out/\(s.again x).n=s.n/\(s.again x).self=s.self:=⟨rfl,rfl,rfl,rfl,rfl,rfl,rfl⟩
 have K:∀(t:aC) (u:ab aD) (g:c7),t.aA=s.aA->t.inbox=s.inbox->t.out=s.out->t.n=s.n->t.self=s.self->(∀z,z≠x->a8 t.leads z=a8 s.leads z/\a8 t.bp z=a8 s.bp z)->Y=t.send u->(∀o∈u,o.Item=x)->
   (bq x n=true->(∀o,o∈(dj Y x).bt↔o∈(dj s x).bt\/(o∈u/\o.bK=i))->(∀o,(dj Y x).ck o->(dj s x).ck o\/(o∈u/\c3 o n=true/\o.bK≠i))->(dj Y x).l=(a8 t.leads x).map (·.v)->(dj Y x).r=(a8 t.bp x).map (·.v)->
    ∃g,fo x.a1 i (ef (U x) i (bP s.aA.p x)) (G x) (ef (U x) i (bP s.aA.p x)) g/\di n (cY n) x.a1 x (Q x) (ef (U x) i (bP s.aA.p x)) g (hT (J x) i (dj Y x)) P/\(∀b c,g.pre b c->(G x).pre b c))->
   ∃lr,fj n U J P Q i lr Y/\hb n U i G s lr Y:=by
  intro t u DO t1 t2 t3 t4 t5 uL e Yh R
  have b7:g8 s u Y:=by have:=g8.send t u;rw[<-e]at this;exact⟨by rw[this.1,t2,t5],by rw[this.2.1,t3,t4,t5],by rw[this.2.2.1,t4],by rw[this.2.2.2,t5]⟩
  have W:Y.aA=s.aA:=by rw[e];exact t1
  have f:∀z,z≠x->Y.aA.p.at z=s.aA.p.at z/\a8 Y.leads z=a8 s.leads z/\a8 Y.bp z=a8 s.bp z/\(∀m,m.Item=z->(m∈Y.inbox↔m∈s.inbox))/\(∀m,m.Item=z->(dj Y z).ck m->(dj s z).ck m):=λz w=>
   ⟨by rw[W],by rw[e];exact(uL z w).1,by rw[e];exact(uL z w).2,(th (by rw[n4];exact X) b7 Yh w).1,(th (by rw[n4];exact X) b7 Yh w).2⟩
  by_cases N:bq x n=true
  .obtain⟨E,T⟩:=Aq (by rw[n4];exact X) n4 es b7 x
   obtain⟨g,jY,D,a3⟩:=R N E T (by rw[e];rfl) (by rw[e];rfl)
   exact⟨λz=>if z=x then g else G z,h.one c (λ_=>by rw[W];exact D) f,tg (λ_=>⟨by rw[W];exact jY,λcx Yg=>a3 _ _ Yg,by rw[W];exact id⟩) λz w=>(f z w).1⟩
  .exact⟨λz=>if z=x then DO else G z,h.one c (λmP=>absurd mP N) f,tg (λmP=>absurd mP N) λz w=>(f z w).1⟩
 rcases dz with⟨_,rfl⟩|⟨cd,⟨e,L,C⟩|⟨M,e,L,bH,C⟩|⟨M,_,p,q,C⟩⟩
 .exact⟨G,h,hb.refl⟩
 .have Ye:=y.cw _ (ml L);refine K (s.Vf x e) _ (G x) rfl rfl rfl rfl rfl (λz w=>⟨?_,rfl⟩) C (uo (xI Ye.1)) λN E T d j=>?_
  .show a8 (bx s.leads x _) z=_;rw[hw,aM w]
  .obtain⟨g,jY,D,a3⟩:=di.abO (bD:=dj Y x) (l:=e.v) (c.par N) (c.q x) (c.iG x _) (h x N) c.ao N
    (by rw[fP];show(a8 s.leads x).map _=_;rw[L];rfl)
    (by rw[d];show(a8 (bx s.leads x _) x).map _=_;rw[hw,aQ rfl];rfl)
    (by rw[fP,j];rfl) (λo=>by rw[fP];exact E o) (λo F=>by rw[fP];exact T o F)
   rw[pz]at D;exact⟨g,jY,D,a3⟩
 .have Yf:=y.rs _ (ml L);refine K (s.again x) _ (G x) rfl rfl rfl rfl rfl (λz w=>⟨rfl,rfl⟩) C (λo F=>by rw[vZ Yf.1 o F];exact Yf.2.2.2.1) λN E T d j=>?_;have D:=di.abP (bD:=dj Y x) (r:=e.v) (c.par N) (c.iG x _) (h x N) c.ao N
    M0
    (by rw[fP];show(a8 s.bp x).map _=_;rw[L];rfl)
    KZ
    (by rw[j];show(a8 s.bp x).map _=_;rw[L];rfl) (λo=>by rw[fP];exact E o) (λo F=>by rw[fP];exact T o F)
  rw[pz]at D;exact⟨G x,fo.rfl,D,λ_ _=>id⟩
 .have Yc:(s.UI x).ok:=bL.UL (by have:=c.cM;omega) _ _ _;refine K (s.Vg x p q) _ (G x) rfl rfl rfl rfl rfl (λz w=>⟨rfl,?_⟩) C (λo F=>by rw[vZ Yc o F];rfl) λN E T d j=>?_
  .show a8 (bx s.bp x _) z=_;rw[hw,aM w]
  .have Yi:=(h x N).ez i;rw[lN]at Yi;obtain⟨mE,tT⟩:=Ak X Yi;have Yk:0<=i/\i<7:=by have:=c.ao;omega
   have Yl:cH ((a8 s.high x).getD bm.z) 7=true:=by
    cases dO:a8 s.high x with
    |none=>exact CZ
    |some b=>exact v.bF _ (ml dO)
   obtain⟨hB,kr,ik⟩:=aev (T:=i) (a:=(bP s.aA.p x).bO) (K:=[(bP s.aA.p x).b0,(a8 s.high x).getD bm.z]) Yk mE (λb bH=>by
    rcases dk.1 bH with rfl|bH
    .exact tT
    .rw[i2.1 bH];exact Yl)
   have u:s.VK x=rv i [(bP s.aA.p x).bO,(bP s.aA.p x).b0,(a8 s.high x).getD bm.z]:=by unfold aC.VK;rw[es]
   have a:s.UI x=bL.new n i x (s.VK x):=by unfold aC.UI;rw[n4,es]
   rw[a]at E T;have D:=di.abQ (bD:=dj Y x) (C:=s.VK x) (c.par N) (c.iG x _) (h x N) c.ao N (by rw[lN];exact cd) (by rw[u];exact hB) (by rw[u];exact kr) (by rw[lN,u];exact ik)
    M0
    KZ
    (by rw[j,<-a];show(a8 (bx s.bp x _) x).map _=_;rw[hw,aQ rfl];rfl) (λo=>by rw[fP];exact E o) (λo F=>by rw[fP];exact T o F)
   rw[pz]at D;exact⟨G x,fo.rfl,D,λ_ _=>id⟩
def fj.abU(c:lP n J Q i)(y:eO k s)(v:dV s)(C:s.n=n)(l:s.self=i)(h:fj n U J P Q i G s){N:ab ag}(K:∀x∈N,bq x 7=true)(T:qX s N Y):∃q,fj n U J P Q i q Y/\hb n U i G s q Y/\(∃M,eO M Y)/\dV Y/\Y.n=n/\Y.self=i:=by
 induction T with
 |nil=>exact⟨G,h,hb.refl,⟨k,y⟩,v,C,l⟩
 |@snoc N x s1 s2 _ T d=>
  obtain⟨b,l,D,⟨j,C⟩,f,g,o⟩:=d λz v=>K z (sT _ v);have N:=K x (Ru _ gS);obtain⟨R,h,F⟩:=l.abT c C f g o N T;obtain⟨K,M,_⟩:=T.cQ C f N;obtain⟨_,_,_,X,q⟩:=T.same;exact⟨R,h,D.trans F,⟨_,K⟩,M,q.2.2.1.trans g,q.2.2.2.trans o⟩
def ajS{R:Int}{I E:aX}{m a:aD}{t:Bool}(h:nv n R I m E a t)(u:m.Kind=1)(o:I.Status=0)(X:hY m.bB I.bO=false):E.Status=1:=by
 cases h with
 |ut _ f=>omega
 |pre=>rfl
 |sY _ _ _ N=>omega
 |acc N=>omega
 |DH N=>omega
 |eD N=>omega
 |DI _ _ N=>rw[X]at N;cases N
 |no _ _ N=>omega
 |DJ N=>omega
 |new N=>omega
def fj.sub(c:lP n J Q i)(y:eO k s)(v:dV s)(M:s.n=n)(l:s.self=i)(h:fj n U J P Q i G s)(ao:s.inbox=[]){d:bN}{p:Nat}(dM:s5 d)(C:(fW s.aA s.self).bT<=64)(aW:Q (fW s.aA s.self) (s.Um d).call)(Yh:∀u,¬(G (fW s.aA s.self)).pre i u)(Yc:s.aA.p.at (fW s.aA s.self)=none)(Yf:jT (s.Ut d p) Y):∃lr,fj n U J P Q i lr Y/\(∀x,bq x n=true->fo x.a1 i (ef (U x) i (bP s.aA.p x)) (G x) (ef (U x) i (bP Y.aA.p x)) (lr x)/\(∀c,(lr x).pre x.a1 c->(G x).pre x.a1 c\/x=fW s.aA s.self)/\((s.aA.p.at x).isSome=true->(Y.aA.p.at x).isSome=true))/\(Y.aA.p.at (fW s.aA s.self)).isSome=true:=by
 have w:=c.gO;have Yk:0<=i/\i<n:=c.ao;generalize E:fW s.aA s.self=x at*;have f:x.a1=i:=by rw[<-E];exact l
 have K:bq x n=true:=by
  unfold bq;simp only[c5,dl];refine⟨⟨⟨ac,ac⟩,?_⟩,C⟩;rw[<-E];show 1<=(s.aA.p.top s.self:Int)+1
  omega
 have fk:bP s.aA.p x=aX.z:=by unfold bP;rw[Yc];rfl
 have L:s.Um d=iC n i x ⟨0,i⟩ (s.Um d).call 1:=by
  have Ye:fW s.aA i=x:=by rw[<-l];exact E
  unfold aC.Um;rw[M,l,Ye];rfl
 have W:ip (s.Um d) n i x ⟨0,i⟩:=by rw[L];exact rL ..
 have R:g8 s (s.Um d).E' (s.Ut d p):=by have:=g8.send (s.US d p) (s.Um d).E';exact⟨this.1,this.2.1,this.2.2.1,this.2.2.2⟩
 obtain⟨jf,B1⟩:=Aq (by rw[M];exact w) M l R x;have b:(s.Ut d p).aA=s.aA:=rfl;have Yi:a8 (s.Ut d p).leads x=some ⟨p,0,s.Um d⟩:=by
  show a8 (bx s.leads (fW s.aA s.self) _) x=_
  rw[E,hw,aQ rfl]
 have D:=di.abR (bD:=dj (s.Ut d p) x) (c:=(s.Um d).call) (c.par K) (c.q x) (c.iG x _) (h x K) rfl aW (by rw[f,lN,fk];decide) (by rw[f,lN,fk];show bk bm.z<=i;show(0:Int)*8+0<=i;omega) (by rw[f];exact Yh)
  (by rw[f,fP];exact ao)
  (by show(a8 (s.Ut d p).leads x).map _=_;rw[Yi,f,<-L];rfl)
  (by rw[f,fP];rfl)
  (λo=>by
   rw[jf o,f,<-L];show o∈s.inbox\/_↔_
   rw[ao];simp)
  (λo dy=>by rw[f,fP,<-L];exact B1 o dy)
 rw[f]at D;rw[pz]at D;have r:∀z,z≠x->(s.Ut d p).aA.p.at z=s.aA.p.at z/\a8 (s.Ut d p).leads z=a8 s.leads z/\a8 (s.Ut d p).bp z=a8 s.bp z/\(∀m,m.Item=z->(m∈(s.Ut d p).inbox↔m∈s.inbox))/\(∀m,m.Item=z->(dj (s.Ut d p) z).ck m->(dj s z).ck m):=λz j=>by
  have F:=th (by rw[M];exact w) R (uo W) j;refine⟨rfl,?_,rfl,F.1,F.2⟩;show a8 (bx s.leads (fW s.aA s.self) _) z=_
  rw[E,hw,aM j]
 have dJ:fj n U J P Q i (λz=>if z=x then(G x).U8 i (s.Um d).call else G z) (s.Ut d p):=h.one c (λ_=>by rw[b,f];exact D.2) r;have Yg:∃m,(s.Ut d p).inbox=[m]/\m.Kind=1/\m.Item=x/\m.bB=⟨0,i⟩/\m.bK=i/\c3 m n=true:=by
  refine⟨po (s.Um d) i.toNat,?_,rfl,W.item,W.bj,?_,?_⟩
  .rw[R.1,ao,gJ,l];have dx:(s.Um d).E'=(List.range n.toNat).map (po (s.Um d)):=by unfold a6.E';rw[aQ (.inl rfl),W.n];rfl
   rw[dx,show i=((i.toNat:Nat):Int) by omega];unfold fa;rw[Jf];have bv:((λm:aD=>decide (m.bK=((i.toNat:Nat):Int)))∘po (s.Um d))=λk:Nat=>decide ((k:Int)=((i.toNat:Nat):Int)):=rfl;rw[bv,Jd i.toNat n.toNat ac];rw[i3];rfl
  exact K8
  .rw[hy];refine⟨by show(1:Int)<=1;omega,by show(1:Int)<=8;omega,?_,?_,?_,?_,?_,?_,?_,λ_=>⟨rfl,rfl⟩,λN=>(by cases N),λN=>absurd N (by show¬ig (1:Int).toNat=true;decide)⟩
   .show 0<=(s.Um d).self;rw[W.self];omega
   .show(s.Um d).self<n;rw[W.self];omega
   exact QI
   exact L8
   .show bq (s.Um d).item n=true;rw[W.item];exact K
   .show cH (s.Um d).bj n=true;rw[W.bj];simp[cH];omega
   .show eJ (s.Um d).call n=true;exact(c.q x).g _ aW
 obtain⟨m,lh,lJ,JV,ajL,ah0,air⟩:=Yg;have acW:eO k (s.Ut d p):=y.Ut d p (by rw[E];exact C);have j7:=v.Ut d p;obtain⟨s2,a,Yj⟩:=z1 Yf lh;have X:=(acW.rest lh).1;have T:dV {s.Ut d p with inbox:=[]}:=⟨j7.en,j7.e4,j7.bF,λo dy=>by cases dy⟩
 obtain⟨D,k,q⟩:=dJ.y' c (s:={s.Ut d p with inbox:=[]}) (m:=m) X T M l ⟨.inr lh,rfl⟩ a;have E:=a.cQ X (by rw[JV];exact pS K w);have C:=a.U7 T y.aA (λF=>ac);obtain⟨h,b⟩:=a.Vu;obtain⟨X,h,F⟩:=k.drain c E C (b.2.2.1.trans M) (b.2.2.2.trans l) Yj;have C:(s2.aA.p.at x).isSome=true:=by
  have N:=a.aA;rw[aQ (.inl lJ)]at N;rw[N.1];show((c4 s.aA s.self m).1.p.at x).isSome=true
  have b:c3 m s.aA.n=true:=by rw[y.en,M];exact air
  have W:=(JJ y.aA b (.inl lJ)).1;rw[show m.bK=s.self by rw[l,ah0],JV,fk]at W;cases g:(c4 s.aA s.self m).1.p.at x with
  |some _=>rfl
  |none=>
   exfalso;have e:bP (c4 s.aA s.self m).1.p x=aX.z:=by unfold bP;rw[g];rfl
   rw[e]at W;have:=ajS W lJ rfl (by
    rw[ajL];show hY ⟨0,i⟩ bm.z=false
    unfold hY;rw[aM (by show¬((0:Int)≠0);simp),jZ];show¬i<0
    omega)
   exact absurd this (by show(0:Int)≠1;omega)
 refine⟨X,h,λz j=>?_,(F x K).2.2 C⟩;obtain⟨C,l,E⟩:=q z j;obtain⟨y,q,R⟩:=F z j;have k:({s.Ut d p with inbox:=[]}:aC).aA=s.aA:=rfl;have M:fo z.a1 i (ef (U z) i (bP s.aA.p z)) (G z) (ef (U z) i (bP s.aA.p z)) (if z=x then(G x).U8 i (s.Um d).call else G z):=by
  by_cases e:z=x
  .grind
  .grind [fo.rfl]
 refine⟨(M.trans C).trans y,λu k=>?_,λN=>R (E N)⟩;have N:=l u (q u k);grind
end
end Go.Proofs.YteogojgnkjegmaaGreatDoor
