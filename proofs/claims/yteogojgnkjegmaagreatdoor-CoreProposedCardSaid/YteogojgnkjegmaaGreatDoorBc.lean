/-
 Part of the proof.
-/
import Derived.Test.YteogojgnkjegmaaGreatDoorBb
set_option linter.all false
set_option maxRecDepth 8000
set_option maxHeartbeats 8000000
namespace Go.Proofs.YteogojgnkjegmaaGreatDoor
open Go.ay Go.Proofs.Tryz
variable[Go.ay.b4]
structure jw(n:Int)(Q:aN->Prop):Prop where
 m:tf Q
 z:Q aN.z
 g:∀c,Q c->eJ c n=true
 d:∀c cx,Q c->cx.cv=c.cv->eJ cx n=true->Q cx
def n3(m:aD):Prop:=m.Kind=1\/m.Kind=3\/m.Kind=6
inductive nv(n R:Int)(I:aX)(m:aD):aX->aD->Bool->Prop where
 |ut (cc:n3 m) (cd:I.Status=3):nv n R I m I {oN m 5 with Call:=I.Call} true
 |pre {c:aN} {sm:Bool} (cc:m.Kind=1) (cd:I.Status≠3) (bH:hY m.bB I.bO=false) (dU:¬(I.b0=m.bB/\1<=I.Status)) (dM:c.cv=m.Call.cv) (dE:eJ c n=true) (b7:sm=true->m.bB=⟨0,R⟩/\c=m.Call):nv n R I m ⟨m.bB,m.bB,1,c,sm⟩ {oN m 2 with cL:=sm,Call:=c} true
 |sY (cc:m.Kind=1) (bH:hY m.bB I.bO=false) (dU:I.b0=m.bB) (bg:I.Status=1):nv n R I m {I with bO:=m.bB} {oN m 2 with cL:=I.cL,Call:=I.Call} true
 |acc (cc:m.Kind=3) (cd:I.Status≠3) (bH:hY m.bB I.bO=false) (dU:¬(I.b0=m.bB/\2<=I.Status)):nv n R I m ⟨m.bB,m.bB,2,m.Call,false⟩ (oN m 4) true
 |DH (cc:m.Kind=3) (bH:hY m.bB I.bO=false) (dU:I.b0=m.bB) (bY:I.Status=2):nv n R I m {I with bO:=m.bB} (oN m 4) true
 |eD (cc:m.Kind=6) (cd:I.Status≠3) (bH:hY m.bB I.bO=false):nv n R I m {I with bO:=m.bB} {oN m 7 with b0:=I.b0,Status:=I.Status,cL:=I.cL,Call:=I.Call} true
 |DI (cc:n3 m) (cd:I.Status≠3) (bH:hY m.bB I.bO=true):nv n R I m I {oN m 8 with bB:=I.bO} true
 |no (cc:m.Kind=1) (cd:I.Status≠3) (bg:1<=I.Status):nv n R I m I aD.z false
 |DJ (cc:m.Kind=5) (cd:I.Status=3):nv n R I m I aD.z false
 |new (cc:m.Kind=5) (cd:I.Status≠3):nv n R I m {I with Status:=3,Call:=m.Call,cL:=false} aD.z false
def adp{i:aX}{b:bm}{n:Int}(ao:eW i n=true)(X:cH b n=true):eW {i with bO:=b} n=true:=by obtain⟨Z,N,f,M,p,C⟩:=mJ ao;simp only[eW,c5,iL,dl];grind
def Aj{s:bR}(h:s.ok){x:ag}(Z:bq x s.n=true){f N:aX}(l:f=bP s.p x):bP (mh s x f N).p x=N/\∀y,y≠x->(mh s x f N).p.at y=s.p.at y:=by
 unfold mh;split
 .rename_i e;exact⟨by rw[<-e,l],λ_ _=>rfl⟩
 .refine⟨by grind [bP,uE],λy X=>by grind [uE]⟩
def aiQ{s:bR}(h:s.ok)(x:ag):0<=(bP s.p x).Status/\(bP s.p x).Status<=3:=by have:=mJ (vQ h x);grind
def DK{n R:Int}{I:aX}{m:aD}(u:n3 m)(f:I.Status≠3)(h:hY m.bB I.bO=true\/(m.Kind=1/\1<=I.Status)):nv n R I m I (lm m I).1 (lm m I).2:=by
 unfold lm;split
 .rename_i e;exact .DI u f e
 .rename_i e;exact .no (h.resolve_left e).1 f (h.resolve_left e).2
def JJ{s:bR}(h:s.ok){m:aD}(f:c3 m s.n=true)(X:mj m):nv s.n m.Item.a1 (bP s.p m.Item) m (bP (c4 s m.bK m).1.p m.Item) (c4 s m.bK m).2.1 (c4 s m.bK m).2.2/\∀y,y≠m.Item->(c4 s m.bK m).1.p.at y=s.p.at y:=by
 have K:=hy.1 f;have C:=aiQ h m.Item;unfold c4;rw[aQ ⟨f,rfl⟩];unfold lM;dsimp only;generalize b:bP s.p m.Item=I at*;split
 .rename_i Z;dsimp only;rw[b];exact⟨.ut Z.1 Z.2,λ_ _=>rfl⟩
 rename_i Z;split
 .rename_i u;have g:I.Status≠3:=λe=>Z ⟨.inl u,e⟩;unfold jR;dsimp only;have o:eJ m.Call s.n=true:=by have:=K.call;rw[u]at this;exact this
  split
  .rename_i d;dsimp only;obtain⟨c,N⟩:=Aj h K.item (N:=(i4 I m.bB 1 (qT s m) (ka s m)).1) b.symm;rw[c];refine⟨?_,N⟩;unfold i4 at d⊢;by_cases M:hY m.bB I.bO=true\/I.Status=3
   .grind
   rw[aM M]at d⊢;simp only[qw,mq]at M;by_cases l:I.b0=m.bB/\1<=I.Status
   .rw[aQ l]at d⊢;dsimp only at d⊢;exact .sY u M.1 l.1 (by simpa using d)
   .rw[aM l];dsimp only;refine .pre u g M.1 l rfl (zG h o) λq=>?_;unfold ka at q;grind
  .rename_i d;dsimp only;rw[b];refine⟨DK (.inl u) g ?_,λ_ _=>rfl⟩;grind [i4,hY]
 rename_i k;split
 .rename_i u;have g:I.Status≠3:=λe=>Z ⟨.inr (.inl u),e⟩;unfold jS;dsimp only;split
  .rename_i d;dsimp only;obtain⟨c,N⟩:=Aj h K.item (N:=(i4 I m.bB 2 m.Call false).1) b.symm;rw[c];refine⟨?_,N⟩;unfold i4 at d⊢;by_cases M:hY m.bB I.bO=true\/I.Status=3
   .grind
   rw[aM M]at d⊢;simp only[qw,mq]at M;by_cases l:I.b0=m.bB/\2<=I.Status
   .rw[aQ l]at d⊢;dsimp only at d⊢;exact .DH u M.1 l.1 (by simpa using d)
   .rw[aM l];dsimp only;exact .acc u g M.1 l
  .rename_i d;dsimp only;rw[b];refine⟨DK (.inr (.inl u)) g (.inl ?_),λ_ _=>rfl⟩;grind [i4,hY]
 rename_i T;split
 .rename_i u;have g:I.Status≠3:=λe=>Z ⟨.inr (.inr u),e⟩;unfold mQ;dsimp only;split
  .rename_i d;dsimp only;obtain⟨c,N⟩:=Aj h K.item (N:=(promise I m.bB).1) b.symm;rw[c];refine⟨?_,N⟩;unfold promise at d⊢;split
   .grind
   .rename_i M;exact .eD u g (by simpa using M)
  .rename_i d;dsimp only;rw[b];refine⟨DK (.inr (.inr u)) g (.inl ?_),λ_ _=>rfl⟩;grind [promise,hY]
 rename_i W;have E:m.Kind=5:=by
  rcases X with h|h|h|h
  .exact absurd h k
  .exact absurd h T
  .exact absurd h W
  .exact h
 rw[aQ E];dsimp only;obtain⟨c,N⟩:=Aj h K.item (N:=(pP I m.Call).1) b.symm;rw[c];refine⟨?_,N⟩;unfold pP;split
 .rename_i M;exact .DJ E M
 .rename_i M;exact .new E M
section
variable{n F R:Int}{B J:Int->aX}{G U:c7}{Q:aN->Prop}{i:Int}{x:ag}{m a:aD}{Y:aX}{t:Bool}
theorem JK(B:Int->aX)(i:Int):ef B i (B i)=B:=by grind [ef]
theorem JL{a b:bm}(K:cH a 7=true)(X:cH b 7=true):hY a b=true↔bk a<bk b:=by obtain⟨l,q,f,D⟩:=kn K;obtain⟨h,T,Z,g⟩:=kn X;grind [hY,bk]
structure r2(n F R:Int)(B:Int->aX)(G:c7)(Q:aN->Prop)(i:Int)(m:aD)(Y:aX)(a:aD)(t:Bool)(U:c7):Prop where
 core:e6 n F R (ef B i Y) U
 e:gI R B G (ef B i Y) U
 p9:U.pre=G.pre
 qe:U.acc=G.acc
 ez:eW Y n=true
 q:Q Y.Call
 g0:(B i).Status=3->Y=B i
 JM:Y.Status=3->(B i).Status=3\/(m.Kind=5/\Y.Call=m.Call/\Y.bO=(B i).bO)
 up:bk Y.bO<=bk (B i).bO\/(n3 m/\Y.bO=m.bB)
 mU:m.Kind=5->Y.Status=3
 js:m.Kind=6->Y.Status=3\/bk m.bB<=bk Y.bO
 ki:t=true->hk R U Q a
 ends:t=true->a.bh=m.bK/\a.bK=m.bh/\a.Item=m.Item
 nL:t=true->¬n3 a
 uJ:t=true->a.Kind=7->m.Kind=6/\a.bB=m.bB/\bk m.bB<=bk Y.bO
 a5:t=true->a.Kind=5->(B i).Status=3/\a.Call=(B i).Call
def r2.same(Z:e6 n F R B G)(u:eW (B i) n=true)(aW:Q (B i).Call)(z:m.Kind=5->(B i).Status=3)(K:m.Kind=6->(B i).Status=3\/bk m.bB<=bk (B i).bO)(ki:t=true->hk R G Q a) (W:t=true->a.bh=m.bK/\a.bK=m.bh/\a.Item=m.Item) (L:t=true->¬n3 a) (b:t=true->a.Kind≠7) (l:t=true->a.Kind=5->(B i).Status=3/\a.Call=(B i).Call):r2 n F R B G Q i m (B i) a t G:=by
 refine⟨?_,?_,rfl,rfl,u,aW,λ_=>rfl,λh=>.inl h,.inl (gg _),z,K,ki,W,L,λZ N=>absurd N (b Z),l⟩
 .grind [JK]
 .rw[JK];exact gI.rfl
def ajo(u:a.Kind=8):hk R G Q a:=by constructor<;>intro h<;>rw[u]at h<;>first|exact absurd h T6|cases h
def ai0(u:a.Kind=5)(aW:Q a.Call):hk R G Q a:=by constructor<;>intro h<;>first|exact aW|(rw[u]at h;first|exact absurd h T6|cases h)
def JN(u:a.Kind=2)(aW:Q a.Call)(q:a.cL=true->bk a.bB=R/\G.cF a.bh):hk R G Q a:=by constructor<;>intro h<;>first|exact aW|exact q|(rw[u]at h;first|exact absurd h T6|cases h)
def JO(u:a.Kind=4)(W:G.ed a.bh (bk a.bB)):hk R G Q a:=by constructor<;>intro h<;>first|exact W|(rw[u]at h;first|exact absurd h T6|cases h)
def afz(u:a.Kind=7)(aW:Q a.Call)(W:G.eD a.bh (bk a.bB) (bk a.b0) a.Status a.Call a.cL/\cH a.b0 7=true):hk R G Q a:=by constructor<;>intro h<;>first|exact aW|exact W|(rw[u]at h;first|exact absurd h T6|cases h)
def Ak{I:aX}(p:n<=7)(h:eW I n=true):cH I.bO 7=true/\cH I.b0 7=true:=
 ⟨pT (mJ h).1 p,pT (mJ h).2.1 p⟩
def uK{k:Int}(h:a.Kind=k)(u:k≠1/\k≠3/\k≠6):¬n3 a:=by unfold n3;omega
def S6(M:e6 n F R B G)(r:3<=n/\n<=7)(d:0<=R/\R<7)(L:jw n Q)(v:m.bK=i)(f:c3 m n=true)(Yf:eW (B i) n=true)(aW:Q (B i).Call)(K:hk R G Q m)(h:nv n R (B i) m Y a t):∃U,r2 n F R B G Q i m Y a t U:=by
 have Ye:=hy.1 f;have W:cH m.bB 7=true:=pT Ye.bj r.2;obtain⟨z,Yh⟩:=Ak r.2 Yf;have b:hY m.bB (B i).bO=false->bk (B i).bO<=bk m.bB:=λZ=>by have:=(JL W z).2;grind
 have Yc:(B i).b0=m.bB↔bk (B i).b0=bk m.bB:=⟨λh=>by rw[h],λh=>Jz Yh W h⟩
 obtain⟨s,T,j,y,E,D⟩:=mJ Yf;cases h with
 |ut u o=>
  exact⟨G,r2.same M Yf aW (λh=>by unfold n3 at u;omega) (λ_=>.inl o) (λ_=>ai0 rfl aW) (λ_=>⟨rfl,rfl,rfl⟩) (λ_=>uK (k:=5) rfl ac) (λ_=>by show(5:Int)≠7;omega) λ_ _=>⟨o,rfl⟩⟩
 |DI u o X=>
  refine⟨G,r2.same M Yf aW (λh=>by unfold n3 at u;omega) (λ_=>.inr ?_) (λ_=>ajo rfl) (λ_=>⟨rfl,rfl,rfl⟩) (λ_=>uK (k:=8) rfl ac) (λ_=>by show(8:Int)≠7;omega) λ_ p=>absurd p (by show(8:Int)≠5;omega)⟩;grind [JL]
 |no u o _=>exact⟨G,r2.same M Yf aW (λh=>ac) (λh=>ac) (λh=>Ua) (λh=>Ua) (λh=>Ua) (λh=>Ua) λh=>Ua⟩
 |DJ u o=>exact⟨G,r2.same M Yf aW (λh=>o) (λh=>ac) (λh=>Ua) (λh=>Ua) (λh=>Ua) (λh=>Ua) λh=>Ua⟩
 |new u o=>
  obtain⟨C,l⟩:=M.UF (i:=i) m.Call;have Yg:Q m.Call:=K.q LU;exact⟨G,C,l,rfl,rfl,ui s T Lx (by show(3:Int)<=3;omega) (L.g _ Yg),Yg,λh=>absurd h o,λ_=>.inr ⟨u,rfl,rfl⟩,.inl (gg _),λ_=>rfl,λh=>ac,λh=>Ua,λh=>Ua,λh=>Ua,λh=>Ua,λh=>Ua⟩
 |@pre c P u o X W w f D=>
  have Yg:Q m.Call:=K.q LU;have z:=L.d _ _ Yg w f;have N:P=true->bk m.bB=R/\c=m.Call:=λh=>⟨by rw[(D h).1,oW],(D h).2⟩
  obtain⟨C,l⟩:=M.abK (i:=i) (C:=m.bB) (c:=c) (r:=P) (b X) o (K.gF u) N (λh=>W ⟨Yc.2 h.1,h.2⟩);refine⟨_,C,l,Pv,Pv,ui Ye.bj Ye.bj (by show(1:Int)<=1;omega) Lx f,z,λh=>absurd h o,λh=>absurd h RD,.inr ⟨.inl u,rfl⟩,λh=>ac,λh=>ac,λ_=>JN rfl z λh=>?_,λ_=>⟨rfl,rfl,rfl⟩,λ_=>uK (k:=2) rfl ac,λ_ h=>absurd h (by show(2:Int)≠7;omega),λ_ h=>absurd h (by show(2:Int)≠5;omega)⟩;have z:P=true:=h;refine⟨(N z).1,?_⟩;rw[aQ z];exact .inr v
 |sY u X W Z=>
  obtain⟨C,l⟩:=M.abL (i:=i) (C:=m.bB) (b X) (Yc.1 W) Z;refine⟨_,C,l,Pv,Pv,ui Ye.bj T Uh y E,aW,λh=>ac,λh=>?_,.inr ⟨.inl u,rfl⟩,λh=>ac,λh=>ac,λ_=>JN rfl aW λh=>?_,λ_=>⟨rfl,rfl,rfl⟩,λ_=>uK (k:=2) rfl ac,λ_ h=>absurd h (by show(2:Int)≠7;omega),λ_ h=>absurd h (by show(2:Int)≠5;omega)⟩
  .grind
  .have z:(B i).cL=true:=h;refine⟨?_,?_⟩
   .have:=((M.e5 i).s1 Z).2 z;show bk m.bB=R
    rw[<-W];exact this.1
   .rw[aQ z];exact .inr v
 |acc u o X W=>
  have Yg:Q m.Call:=K.q LU;obtain⟨C,l⟩:=M.ZL (i:=i) (C:=m.bB) (b X) o (K.pv u) (.inl ⟨λh=>W ⟨Yc.2 h.1,h.2⟩,rfl⟩);exact⟨_,C,l,rfl,rfl,ui Ye.bj Ye.bj (by show(1:Int)<=2;omega) (by show(2:Int)<=3;omega) (L.g _ Yg),Yg,λh=>absurd h o,λh=>absurd h (by show(2:Int)≠3;omega),.inr ⟨.inr (.inl u),rfl⟩,λh=>ac,λh=>ac,λ_=>JO rfl (.inr ⟨v,rfl⟩),λ_=>⟨rfl,rfl,rfl⟩,λ_=>uK (k:=4) rfl ac,λ_ h=>absurd h (by show(4:Int)≠7;omega),λ_ h=>absurd h (by show(4:Int)≠5;omega)⟩
 |DH u X W N=>
  obtain⟨C,l⟩:=M.ZL (i:=i) (C:=m.bB) (b X) ac (K.pv u) (.inr ⟨Yc.1 W,N,rfl⟩);refine⟨_,C,l,rfl,rfl,ui Ye.bj T Uh y E,aW,λh=>ac,λh=>?_,.inr ⟨.inr (.inl u),rfl⟩,λh=>ac,λh=>ac,λ_=>JO rfl (.inr ⟨v,rfl⟩),λ_=>⟨rfl,rfl,rfl⟩,λ_=>uK (k:=4) rfl ac,λ_ h=>absurd h (by show(4:Int)≠7;omega),λ_ h=>absurd h (by show(4:Int)≠5;omega)⟩;grind
 |eD u o X=>
  obtain⟨C,l⟩:=M.promise (i:=i) (jD:=m.bB) (b X) o;exact⟨_,C,l,rfl,rfl,adp Yf Ye.bj,aW,λh=>absurd h o,λh=>.inl h,.inr ⟨.inr (.inr u),rfl⟩,λh=>ac,λ_=>.inr (gg _),λ_=>afz rfl aW ⟨.inr ⟨v,rfl,rfl,rfl,rfl,rfl⟩,Yh⟩,λ_=>⟨rfl,rfl,rfl⟩,λ_=>uK (k:=7) rfl ac,λ_ _=>⟨u,rfl,gg _⟩,λ_ h=>absurd h (by show(7:Int)≠5;omega)⟩
end
end Go.Proofs.YteogojgnkjegmaaGreatDoor
namespace Go.Proofs.YteogojgnkjegmaaGreatDoor
open Go.ay Go.Proofs.Tryz
variable[Go.ay.b4]
variable{yh:Int->aX}{yi:c7}
structure hG where
 l:aT a6
 r:aT bL
 bt:ab aD
 ck:aD->Prop
def nw(B:Int->aX)(M:bm):Prop:=bk M<=bk (B M.a1).bO\/(B M.a1).Status=3
def hm(n F R:Int)(B:Int->aX)(G:c7)(j:Int)(L:hG)(c:aN):Prop:=kA n F R B G c\/(j=R/\rZ n F R B G c/\∃l,L.l=some l/\l.phase=3/\l.call=c)
def lO(n:Int)(x:ag)(k:Int)(z:ab aD)(p:aD->Prop):Prop:=∃m∈z,m.Item=x/\m.Kind=k/\c3 m n=true/\p m
structure kB(n F R:Int)(x:ag)(Q:aN->Prop)(B:Int->aX)(G:c7)(j:Int)(L:hG):Prop where
 cw:∀l,L.l=some l->jv n R G Q j x l/\j=R/\l.bj=⟨0,R⟩/\bk (B j).bO<=R/\(l.phase=1\/l.phase=2\/l.phase=3)
 ju:∀l r,L.l=some l->L.r=some r->cH r.x.bj n=false
 jg:∀l,L.l=some l->∀m∈L.bt,m.Item=x->c3 m n=true->n3 m->m.bB=⟨0,R⟩
 eM:∀l,L.l=some l->l.phase=3->hm n F R B G j L l.call/\lO n x 5 L.bt λ_=>True
 hS:∀r,L.r=some r->n2 n F R B G Q j x r
 fb:∀r,L.r=some r->cH r.x.bj n=true->bk r.x.bj<=bk (B j).bO\/lO n x 6 L.bt λm=>m.bB=r.x.bj
 st:(B j).Status=3->L.l=none/\L.r=none
 bt:∀m∈L.bt,m.Item=x->hk R G Q m/\(m.bh=j/\m.bK=j)/\(m.Kind=7->nw B m.bB)/\(m.Kind=5->hm n F R B G j L m.Call)
 ck:∀m,L.ck m->m.Item=x->hk R G Q m/\(m.bh=j/\m.bK≠j)/\(m.Kind=6->nw B m.bB\/lO n x 6 L.bt λo=>o.bB=m.bB)/\(m.Kind=7->nw B m.bB)/\(m.Kind=5->hm n F R B G j L m.Call)
structure fo(R i:Int)(B:Int->aX)(G:c7)(U:Int->aX)(Y:c7):Prop where
 e:gI R B G U Y
 ne:∀j,j≠i->U j=B j
 g0:(B i).Status=3->U i=B i
 own:∀b c,b%8≠i->(Y.acc b c->G.acc b c)/\(Y.pre b c->G.pre b c)
 q3:(B R).Status=3->∀c,Y.acc R c->G.acc R c
structure mX(n F R:Int):Prop where
 e:n=2*F+1
 jr:3<=n/\n<=7
 r:0<=R/\R<n
 f:cY n=F
structure Al(n F R:Int)(Q:aN->Prop)(B:Int->aX)(G:c7)(m:aD):Prop where
 ki:hk R G Q m
 ne:m.bh≠m.bK
 js:m.Kind=6->nw B m.bB
 mW:m.Kind=7->nw B m.bB
 mU:m.Kind=5->kA n F R B G m.Call
structure di(n F R:Int)(x:ag)(Q:aN->Prop)(B:Int->aX)(G:c7)(L:Int->hG)(P:aD->Prop):Prop where
 core:e6 n F R B G
 lc:∀j,kB n F R x Q B G j (L j)
 g9:∀m,P m->m.Item=x->Al n F R Q B G m
 e5:∀j,(B j).Status=3->kA n F R B G (B j).Call
 ez:∀j,eW (B j) n=true
 q:∀j,Q (B j).Call
def hT(L:Int->hG)(i:Int)(bD:hG):Int->hG:=λj=>if j=i then bD else L j
section
variable{n F R:Int}{B U:Int->aX}{G Y:c7}{Q:aN->Prop}{i:Int}{x:ag}{m a:aD}{kC:aX}{t:Bool}{L:Int->hG}{bD:hG}{P:aD->Prop}{c:aN}
theorem fo.rfl:fo R i B G B G:=⟨gI.rfl,λ_ _=>nP _,λ_=>nP _,λ_ _ _=>⟨id,id⟩,λ_ _=>id⟩
def gI.trans(h:gI R B G U Y)(k:gI R U Y yh yi):gI R B G yh yi where
 p j:=mM (h.p j) (k.p j)
 pre b c bg:=k.pre b c (h.pre b c bg)
 acc b c bg:=k.acc b c (h.acc b c bg)
 ed j b bg:=k.ed j b (h.ed j b bg)
 cF j bg:=k.cF j (h.cF j bg)
 eD j b v st c sm bg:=k.eD j b v st c sm (h.eD j b v st c sm bg)
 Ag j b bg bY:=h.Ag j b bg (k.Ag j b (yd bg (h.p j)) bY)
 yc j bg bY:=h.yc j bg (k.yc j (yd bg (h.p j)) bY)
def fo.Xb(s:fo R i B G U Y){j:Int}(h:(B j).Status=3):U j=B j:=by
 by_cases e:j=i
 .subst e;exact s.g0 h
 .exact s.ne j e
def fo.trans(h:fo R i B G U Y)(k:fo R i U Y yh yi):fo R i B G yh yi where
 e:=h.e.trans k.e
 ne j dR:=(k.ne j dR).trans (h.ne j dR)
 g0 cd:=(k.g0 (by rw[h.g0 cd];exact cd)).trans (h.g0 cd)
 own b c bH:=⟨λbg=>(h.own b c bH).1 ((k.own b c bH).1 bg),λbg=>(h.own b c bH).2 ((k.own b c bH).2 bg)⟩
 q3 cd c bg:=h.q3 cd c (k.q3 (by rw[h.Xb cd];exact cd) c bg)
def nw.V'(s:fo R i B G U Y){M:bm}(h:nw B M):nw U M:=by
 rcases h with h|h
 .exact .inl (mM h (s.e.p _))
 .exact .inr (by rw[s.Xb h];exact h)
def kA.V'(s:fo R i B G U Y)(h:kA n F R B G c):kA n F R U Y c:=by
 rcases h with h|⟨h,J,N⟩
 .exact .inl (s.e.jM h)
 .have e:=s.Xb J;exact .inr ⟨⟨s.e.pre _ _ h.pre,h.cF.mono λj y=>s.e.cF j y,λg q=>h.no g (s.q3 J g q),by rw[e];exact h.p⟩,by rw[e];exact J,by rw[e];exact N⟩
def hk.V'(s:fo R i B G U Y)(h:hk R G Q m):hk R Y Q m:=h.mono s.e.pre s.e.acc s.e.ed s.e.cF s.e.eD
def Al.V'(s:fo R i B G U Y)(h:Al n F R Q B G m):Al n F R Q U Y m:=⟨h.ki.V' s,h.ne,λk=>(h.js k).V' s,λk=>(h.mW k).V' s,λk=>(h.mU k).V' s⟩
def hm.either(h:hm n F R B G i bD c):rY n F G c\/rZ n F R B G c:=by
 rcases h with(h|h)|h
 .exact .inl h
 .exact .inr h.1
 .exact .inr h.2.1
def mX.Xc(p:mX n F R):R%8=R:=Tr
def n2.ZP{r:bL}(h:n2 n F R B G Q i x r)(ao:0<=i/\i<8):bk r.x.bj%8=i:=by have:=h.fb;unfold bk;omega
def kB.other(p:mX n F R){j:Int}(y:0<=j/\j<8)(h:kB n F R x Q B G j bD)(s:fo R i B G U Y)(u:j≠i):kB n F R x Q U Y j bD:=by
 have E:=s.ne j u;have f:j=R->∀c,Y.acc R c->G.acc R c:=λe c=>(s.own R c (by rw[p.Xc,<-e];exact u)).1;have X:∀c,hm n F R B G j bD c->hm n F R U Y j bD c:=by
  intro c w;rcases w with w|⟨e,w,T⟩
  .exact .inl (w.V' s)
  .exact .inr ⟨e,⟨s.e.pre _ _ w.pre,w.cF.mono λj y=>s.e.cF j y,λg q=>w.no g (f e g q),by rw[<-e,E,e];exact w.p⟩,T⟩
 exact{
  cw:=λl T=>by obtain⟨J,N,f,Z,p⟩:=h.cw l T;refine⟨J.mono s.e.pre s.e.acc s.e.ed s.e.cF (λc q=>?_),N,f,by rw[E];exact Z,p⟩;grind [oW]
  ju:=h.ju
  jg:=h.jg
  eM:=λl T f=>⟨X _ (h.eM l T f).1,(h.eM l T f).2⟩
  hS:=λr g=>(h.hS r g).mono s.e (λc=>s.own _ c (by rw[(h.hS r g).ZP y];exact u)) λc q=>q.V' s
  fb:=λr g f=>by rw[E];exact h.fb r g f
  st:=by rw[E];exact h.st
  bt:=λm K J=>⟨(h.bt m K J).1.V' s,(h.bt m K J).2.1,λk=>((h.bt m K J).2.2.1 k).V' s,λk=>X _ ((h.bt m K J).2.2.2 k)⟩
  ck:=λm K J=>⟨(h.ck m K J).1.V' s,(h.ck m K J).2.1,λk=>((h.ck m K J).2.2.1 k).imp (λk=>k.V' s) id,λk=>((h.ck m K J).2.2.2.1 k).V' s,λk=>X _ ((h.ck m K J).2.2.2.2 k)⟩}
def kB.idle{q:hG}(h:kB n F R x Q B G i bD)(b:q.l=bD.l)(Z:q.r=bD.r)(z:∀m,m.Item=x->(m∈q.bt↔m∈bD.bt))(M:∀m,m.Item=x->q.ck m->bD.ck m):kB n F R x Q B G i q:=by
 have j:∀k p,lO n x k bD.bt p->lO n x k q.bt p:=λk p ⟨m,J,N,g⟩=>⟨m,(z m N).2 J,N,g⟩
 have w:∀c,hm n F R B G i bD c->hm n F R B G i q c:=λc h=>h.imp id λh=>by rw[b];exact h
 exact{
  cw:=λl T=>h.cw l (b▸T)
  ju:=λl r T d=>h.ju l r (b▸T) (Z▸d)
  jg:=λl T m K J=>h.jg l (b▸T) m ((z m J).1 K) J
  eM:=λl T g=>⟨w _ (h.eM l (b▸T) g).1,j _ _ (h.eM l (b▸T) g).2⟩
  hS:=λr d=>h.hS r (Z▸d)
  fb:=λr d f=>(h.fb r (Z▸d) f).imp id (j _ _)
  st:=λg=>by rw[b,Z];exact h.st g
  bt:=λm K J=>⟨(h.bt m ((z m J).1 K) J).1,(h.bt m ((z m J).1 K) J).2.1,(h.bt m ((z m J).1 K) J).2.2.1,λk=>w _ ((h.bt m ((z m J).1 K) J).2.2.2 k)⟩
  ck:=λm K J=>⟨(h.ck m (M m J K) J).1,(h.ck m (M m J K) J).2.1,λk=>((h.ck m (M m J K) J).2.2.1 k).imp id (j _ _),(h.ck m (M m J K) J).2.2.2.1,λk=>w _ ((h.ck m (M m J K) J).2.2.2.2 k)⟩}
def di.step(p:mX n F R)(S7:∀j,¬(0<=j/\j<8)->(L j).l=none/\(L j).r=none)(h:di n F R x Q B G L P)(s:fo R i B G U Y)(dQ:e6 n F R U Y)(dz:kB n F R x Q U Y i bD)(bH:(U i).Status=3->kA n F R U Y (U i).Call)(bF:eW (U i) n=true)(aW:Q (U i).Call):di n F R x Q U Y (hT L i bD) P where
 core:=dQ
 lc j:=by
  unfold hT;split
  .grind
  .rename_i e;by_cases oy:0<=j/\j<8
   .exact(h.lc j).other p oy s e
   .obtain⟨dx,bv⟩:=S7 j oy;have bg:=h.lc j;have acd:=s.ne j e;have JP:∀c,hm n F R B G j (L j) c->hm n F R U Y j (L j) c:=by
     intro c dM;rcases dM with dM|⟨_,_,l,dz,_⟩
     .exact .inl (dM.V' s)
     .grind
    exact{
     cw:=λl dz=>Tb
     ju:=λl r dz=>Tb
     jg:=λl dz=>Tb
     eM:=λl dz=>Tb
     hS:=λr c1=>by rw[bv]at c1;cases c1
     fb:=λr c1=>by rw[bv]at c1;cases c1
     st:=λ_=>⟨dx,bv⟩
     bt:=λm dO b3=>⟨(bg.bt m dO b3).1.V' s,(bg.bt m dO b3).2.1,λk=>((bg.bt m dO b3).2.2.1 k).V' s,λk=>JP _ ((bg.bt m dO b3).2.2.2 k)⟩
     ck:=λm dO b3=>⟨(bg.ck m dO b3).1.V' s,(bg.ck m dO b3).2.1,λk=>((bg.ck m dO b3).2.2.1 k).imp (λk=>k.V' s) id,λk=>((bg.ck m dO b3).2.2.2.1 k).V' s,λk=>JP _ ((bg.ck m dO b3).2.2.2.2 k)⟩}
 g9 m dO b3:=(h.g9 m dO b3).V' s
 e5 j cd:=by
  by_cases e:j=i
  .subst e;exact bH cd
  .rw[s.ne j e]at cd⊢;exact(h.e5 j cd).V' s
 ez j:=by
  by_cases e:j=i
  .subst e;exact bF
  .rw[s.ne j e];exact h.ez j
 q j:=by
  by_cases e:j=i
  .subst e;exact aW
  .rw[s.ne j e];exact h.q j
def r2.V'(v:r2 n F R B G Q i m kC a t Y):fo R i B G (ef B i kC) Y where
 e:=v.e
 ne j dR:=uH _ _ dR
 g0 h:=by rw[lN];exact v.g0 h
 own b c _:=⟨λh=>by rw[v.qe]at h;exact h,λh=>by rw[v.p9]at h;exact h⟩
 q3 _ c h:=by rw[v.qe]at h;exact h
def di.ask(p:mX n F R)(kX:jw n Q)(Yi:∀j,¬(0<=j/\j<8)->(L j).l=none/\(L j).r=none)(h:di n F R x Q B G L P){rest:ab aD}(b3:m.Item=x)(Ye:m.bK=i)(bF:c3 m n=true)(Yj:hk R G Q m)(Ys:m.Kind=5->hm n F R B G i (L i) m.Call)(X:m.Kind=6->m.bh≠i->nw B m.bB)(Yk:((L i).bt=[]/\rest=[])\/(L i).bt=m::rest)(fI:nv n R (B i) m kC a t)(jf:∀l,bD.l=some l↔(L i).l=some l/\kC.Status≠3/\fL l.bj kC.bO=false)(kD:∀r,bD.r=some r->(L i).r=some r/\kC.Status≠3)(Yc:∀o,o∈bD.bt↔o∈rest\/(t=true/\o=a/\a.bK=i))(Yf:∀o,bD.ck o->(L i).ck o\/(t=true/\o=a/\a.bK≠i)):∃Y,fo R i B G (ef B i kC) Y/\di n F R x Q (ef B i kC) Y (hT L i bD) P/\Y.pre=G.pre:=by
 have Yq:0<=R/\R<7:=Tr
 obtain⟨Y,v⟩:=S6 h.core p.jr Yq kX Ye bF (h.ez i) (h.q i) Yj fI;have s:=v.V';have W:=h.lc i;have g:ef B i kC i=kC:=lN ..;have Yl:=hy.1 bF;have Yg:∀o∈rest,o∈(L i).bt:=λo b=>Uh
 have C:∀k q,lO n x k (L i).bt q->(m∈(L i).bt/\m.Kind=k/\q m)\/lO n x k bD.bt q:=by
  rintro k q⟨o,J,bY,f,Z,y⟩;rcases Yk with⟨X,_⟩|X
  .grind
  .rw[X]at J;rcases dk.1 J with rfl|J
   .grind
   .exact .inr ⟨o,(Yc o).2 (.inl J),bY,f,Z,y⟩
 have Yt:∀l,(L i).l=some l->(m∈(L i).bt)->kC.Status≠3->bk kC.bO<=R:=by
  intro l T Yo f;obtain⟨_,_,_,Z,_⟩:=W.cw l T;rcases v.up with y|⟨y,X⟩
  .omega
  .rw[X,W.jg l T m Yo b3 bF y,oW];exact gg _
 have Yu:cH (⟨0,R⟩:bm) 7=true:=by simp[cH];omega
 have Yv:cH kC.bO 7=true:=(Ak p.jr.2 v.ez).1;have Yr:∀l,(L i).l=some l->kC.Status≠3->bk kC.bO<=R->bD.l=some l:=by intro l T f Z;refine(jf l).2 ⟨T,f,?_⟩;rw[(W.cw l T).2.2.1];grind [fL,ws,oW]
 have K:∀c,hm n F R B G i (L i) c->hm n F R (ef B i kC) Y i bD c:=by
  intro c u;rcases u with u|⟨e,u,l,T,Yh,D⟩
  .exact .inl (u.V' s)
  have Yo:m∈(L i).bt:=by obtain⟨_,o,b,_⟩:=W.eM l T Yh;grind
  have Yn:(B i).Status≠3:=λf=>by rw[(W.st f).1]at T;cases T
  have eh:bk kC.bO<=R->rZ n F R (ef B i kC) Y c:=λZ=>
   ⟨s.e.pre _ _ u.pre,u.cF.mono λj dR=>s.e.cF j dR,λcx D=>u.no cx KF,by rw[<-e,g,e];exact Z⟩
  by_cases f:kC.Status=3
  .rcases v.JM f with Z|⟨Z,y,X⟩
   .exact absurd Z Yn
   .have aet:m.Call=c:=h.core.agree p.e (by have:=p.jr;omega) (Ys Z).either (.inr u);refine .inl (.inr ⟨eh ?_,?_,?_⟩)
    .rw[X];exact(W.cw l T).2.2.2.1
    .rw[<-e,g];exact f
    .rw[<-e,g,y,aet]
  .have Z:=Yt l T Yo f;exact .inr ⟨e,eh Z,l,Yr l T f Z,Yh,D⟩
 refine⟨Y,s,di.step p Yi h s v.core ?_ ?_ (by rw[g];exact v.ez) (by rw[g];exact v.q),v.p9⟩
 .exact{
   cw:=λl T=>by
    obtain⟨J,bY,f⟩:=(jf l).1 T;obtain⟨E,gb,a3,a4,a5⟩:=W.cw l J;refine⟨E.mono s.e.pre s.e.acc s.e.ed s.e.cF (λc D=>KF),gb,a3,?_,a5⟩;rw[g];rw[a3]at f;have Z:=(ws Yu Yv).2;rw[f,oW]at Z;by_cases y:R<bk kC.bO
    .exact absurd (Z y) T3
    .omega
   ju:=λl r T d=>W.ju l r ((jf l).1 T).1 (kD r d).1
   jg:=λl T o b z Yw Ym=>by
    rcases(Yc o).1 b with b|⟨w,rfl,_⟩
    .exact W.jg l ((jf l).1 T).1 o (Yg o b) z Yw Ym
    .exact absurd Ym (v.nL w)
   eM:=λl T f=>by
    obtain⟨hB,kr,ik⟩:=(jf l).1 T;obtain⟨E,gb⟩:=W.eM l hB f;refine⟨K _ E,?_⟩;rcases C _ _ gb with⟨_,Z,_⟩|Z
    .exact absurd (v.mU Z) kr
    .exact Z
   hS:=λr d=>(W.hS r (kD r d).1).mono s.e (λc=>⟨λD=>KF,λD=>by rw[v.p9]at D;exact D⟩) λc D=>D.V' s
   fb:=λr d Yp=>by
    obtain⟨hB,kr⟩:=kD r d;rw[g];rcases W.fb r hB Yp with J|J
    .have:=s.e.p i;rw[g]at this;exact .inl ac
    .rcases C _ _ J with⟨_,Z,y⟩|Z
     .rcases v.js Z with N|N
      .exact absurd N kr
      .rw[y]at N;exact .inl N
     .exact .inr Z
   st:=λf=>by
    rw[g]at f;refine⟨?_,?_⟩
    .cases T:bD.l with
     |none=>rfl
     |some l=>exact absurd f ((jf l).1 T).2.1
    .cases d:bD.r with
     |none=>rfl
     |some r=>exact absurd f (kD r d).2
   bt:=λo b z=>by
    rcases(Yc o).1 b with b|⟨w,rfl,M⟩
    .obtain⟨E,gb,a3,a4⟩:=W.bt o (Yg o b) z;exact⟨E.V' s,gb,λk=>(a3 k).V' s,λk=>K _ (a4 k)⟩
    .obtain⟨dx,bv,gm⟩:=v.ends w;refine⟨v.ki w,⟨by rw[dx,Ye],M⟩,λk=>?_,λk=>?_⟩
     .obtain⟨gF,g2,pv⟩:=v.uJ w k;have d:=(Yj.js gF).2;refine .inl ?_;rw[g2,d,<-bv,M,g];exact pv
     .obtain⟨gF,g2⟩:=v.a5 w k;rw[g2];exact .inl ((h.e5 i gF).V' s)
   ck:=λo b z=>by
    rcases Yf o b with b|⟨w,rfl,M⟩
    .obtain⟨E,gb,a3,a4,a5⟩:=W.ck o b z;refine⟨E.V' s,gb,λk=>?_,λk=>(a4 k).V' s,λk=>K _ (a5 k)⟩;rcases a3 k with J|J
     .exact .inl (J.V' s)
     .rcases C _ _ J with⟨_,Z,y⟩|Z
      .refine .inl ?_;have d:=(E.js k).2;unfold nw;rw[d,gb.1,g];rcases v.js Z with N|N
       .exact .inr N
       .rw[y]at N;exact .inl N
      .exact .inr Z
    .obtain⟨dx,bv,gm⟩:=v.ends w;refine⟨v.ki w,⟨by rw[dx,Ye],M⟩,λk=>?_,λk=>?_,λk=>?_⟩
     .exact absurd (.inr (.inr k)) (v.nL w)
     .obtain⟨gF,g2,pv⟩:=v.uJ w k;rw[g2];exact(X gF (by rw[<-bv];exact M)).V' s
     .obtain⟨gF,g2⟩:=v.a5 w k;rw[g2];exact .inl ((h.e5 i gF).V' s)}
 .rw[g];intro f;rcases v.JM f with Z|⟨Z,y,X⟩
  .have:=(h.e5 i Z).V' s;rw[v.g0 Z]at this⊢;exact this
  .rw[y];rcases K _ (Ys Z)with N|⟨_,_,l,T,_⟩
   .exact N
   .exact absurd f ((jf l).1 T).2.1
end
end Go.Proofs.YteogojgnkjegmaaGreatDoor
namespace Go.Proofs.YteogojgnkjegmaaGreatDoor
open Go.ay Go.Proofs.Tryz
variable[Go.ay.b4]
section
variable{n F R:Int}{B U:Int->aX}{G Y:c7}{Q:aN->Prop}{i:Int}{x:ag}{m a:aD}{J:aX}{t:Bool}{L:Int->hG}{bD g4:hG}{P:aD->Prop}{c:aN}
structure S9(n F R:Int)(x:ag)(Q:aN->Prop)(B:Int->aX)(G:c7)(i:Int)(L:hG)(Ta:ab aD)(o:aD):Prop where
 it:o.Item=x
 ki:hk R G Q o
 jO:o.bh=i
 js:o.Kind=6->c3 o n=true->nw B o.bB\/lO n x 6 Ta λm=>m.bB=o.bB
 mW:o.Kind≠7
 mU:o.Kind=5->hm n F R B G i L o.Call
 jg:∀l,L.l=some l->c3 o n=true->n3 o->o.bB=⟨0,R⟩
def kB.Uy(h:kB n F R x Q B G i bD){ms:ab aD}(b:g4.l=bD.l)(M:g4.r=bD.r)(X:∀o,o∈g4.bt↔o∈bD.bt\/(o∈ms/\o.bK=i))(C:∀o,g4.ck o->bD.ck o\/(o∈ms/\c3 o n=true/\o.bK≠i))(q:∀o∈ms,S9 n F R x Q B G i bD g4.bt o):kB n F R x Q B G i g4:=by
 have v:∀k p,lO n x k bD.bt p->lO n x k g4.bt p:=λk p ⟨m,Z,N,g⟩=>⟨m,(X m).2 (.inl Z),N,g⟩
 have w:∀c,hm n F R B G i bD c->hm n F R B G i g4 c:=λc h=>h.imp id λh=>by rw[b];exact h
 exact{
  cw:=λl T=>h.cw l (b▸T)
  ju:=λl r T d=>h.ju l r (b▸T) (M▸d)
  jg:=λl T m K Z f W=>by
   rcases(X m).1 K with K|K
   .exact h.jg l (b▸T) m K Z f W
   .exact(q m K.1).jg l (b▸T) f W
  eM:=λl T g=>⟨w _ (h.eM l (b▸T) g).1,v _ _ (h.eM l (b▸T) g).2⟩
  hS:=λr d=>h.hS r (M▸d)
  fb:=λr d f=>(h.fb r (M▸d) f).imp id (v _ _)
  st:=λg=>by rw[b,M];exact h.st g
  bt:=λm K Z=>by
   rcases(X m).1 K with K|⟨K,j⟩
   .exact⟨(h.bt m K Z).1,(h.bt m K Z).2.1,(h.bt m K Z).2.2.1,λk=>w _ ((h.bt m K Z).2.2.2 k)⟩
   .have s:=q m K;exact⟨s.ki,⟨s.jO,j⟩,λk=>absurd k s.mW,λk=>w _ (s.mU k)⟩
  ck:=λm K Z=>by
   rcases C m K with K|⟨K,f,j⟩
   .exact⟨(h.ck m K Z).1,(h.ck m K Z).2.1,λk=>((h.ck m K Z).2.2.1 k).imp id (v _ _),(h.ck m K Z).2.2.2.1,λk=>w _ ((h.ck m K Z).2.2.2.2 k)⟩
   .have s:=q m K;exact⟨s.ki,⟨s.jO,j⟩,λk=>s.js k f,λk=>absurd k s.mW,λk=>w _ (s.mU k)⟩}
def kB.drop(h:kB n F R x Q B G i bD){rest:ab aD}(K:¬n3 m/\m.Kind≠5)(b:g4.l=bD.l)(M:g4.r=bD.r)(z:bD.bt=m::rest)(X:g4.bt=rest)(E:∀o,g4.ck o->bD.ck o):kB n F R x Q B G i g4:=by
 have q:∀o,o∈g4.bt->o∈bD.bt:=λo y=>Uh
 have j:∀k p,(k=5\/k=6)->lO n x k bD.bt p->lO n x k g4.bt p:=λk p u ⟨o,Z,N,g,C⟩=>by
  rw[z]at Z;rcases dk.1 Z with rfl|Z
  .exfalso;rcases u with rfl|rfl
   .exact K.2 g
   .exact K.1 (.inr (.inr g))
  .exact⟨o,by rw[X];exact Z,N,g,C⟩
 have w:∀c,hm n F R B G i bD c->hm n F R B G i g4 c:=λc h=>h.imp id λh=>by rw[b];exact h
 exact{
  cw:=λl T=>h.cw l (b▸T)
  ju:=λl r T d=>h.ju l r (b▸T) (M▸d)
  jg:=λl T m K=>h.jg l (b▸T) m (q m K)
  eM:=λl T g=>⟨w _ (h.eM l (b▸T) g).1,j _ _ (.inl rfl) (h.eM l (b▸T) g).2⟩
  hS:=λr d=>h.hS r (M▸d)
  fb:=λr d f=>(h.fb r (M▸d) f).imp id (j _ _ (.inr rfl))
  st:=λg=>by rw[b,M];exact h.st g
  bt:=λm K Z=>⟨(h.bt m (q m K) Z).1,(h.bt m (q m K) Z).2.1,(h.bt m (q m K) Z).2.2.1,λk=>w _ ((h.bt m (q m K) Z).2.2.2 k)⟩
  ck:=λm K Z=>⟨(h.ck m (E m K) Z).1,(h.ck m (E m K) Z).2.1,λk=>((h.ck m (E m K) Z).2.2.1 k).imp id (j _ _ (.inr rfl)),(h.ck m (E m K) Z).2.2.2.1,λk=>w _ ((h.ck m (E m K) Z).2.2.2.2 k)⟩}
def oY.V'{b:Int}(bF:oY b G Y)(bH:b%8=i)(cd:b=R->(B R).Status≠3):fo R i B G B Y where
 e:=bF.ext
 ne _ _:=rfl
 g0 _:=rfl
 own dm c JQ:=⟨bF.acc (λe=>JQ (e▸bH)),bF.pre λe=>JQ (e▸bH)⟩
 q3 h c:=bF.acc λe=>cd e.symm h
def jv.E'{l:a6}(h:jv n R G Q i x l){o:aD}(p:o∈l.E'):hk R G Q o/\o.bh=i/\o.Item=x/\o.bB=l.bj/\o.Call=l.call/\(o.Kind=1\/o.Kind=3\/(o.Kind=5/\l.phase=3)):=by
 unfold a6.E' at p;split at p
 .rename_i z;unfold a6.Uy at p;obtain⟨k,_,rfl⟩:=eS.1 p;have u:∀y,(po l k).Kind=y↔i9 l.phase=y:=λy=>Iff.rfl;refine⟨?_,h.hl.self,h.hl.item,rfl,rfl,?_⟩
  .have b:i9 l.phase=1->l.phase=1:=by unfold i9;intro h;split at h;assumption;split at h<;>omega
   have j:i9 l.phase=3->l.phase=2:=by grind [i9]
   have s:i9 l.phase=1\/i9 l.phase=3\/i9 l.phase=5:=by unfold i9;split;simp;split<;>simp
   refine⟨λ_=>h.q,λZ=>(h.oO (b Z)).1,λZ=>?_,λZ=>h.oG (j Z),λZ=>?_,λZ=>?_,λZ=>?_⟩;all_goals
    have d:i9 l.phase=_:=Z;omega
  .show i9 l.phase=1\/i9 l.phase=3\/(i9 l.phase=5/\l.phase=3);grind [i9]
 .cases p
def adQ{l:a6}(h:jv n R G Q i x l)(z:l.phase=3)(ao:0<=i/\i<n):∃o∈l.E',o.bK=i/\o.Kind=5:=by
 refine⟨po l i.toNat,?_,?_,?_⟩
 .rw[adO (.inr (.inr z))];unfold a6.Uy;refine eS.2 ⟨i.toNat,?_,rfl⟩;rw[pC,h.hl.n];omega
 exact K8
 .show i9 l.phase=5;rw[z];rfl
def ag1{l:a6}(h:jv n R G Q i x l)(z:jw n Q)(r:n<=7)(ao:0<=i/\i<n)(N:bq x n=true)(X:cH l.bj n=true){o:aD}(p:o∈l.E')(j:o.bK=i)(u:o.Kind=5):c3 o n=true:=by
 have W:=h.E' p;unfold a6.E' at p;split at p
 .unfold a6.Uy at p;obtain⟨k,_,rfl⟩:=eS.1 p;rw[hy];have s:i9 l.phase=5:=u;refine⟨by rw[u];decide,by rw[u];decide,by rw[W.2.1];omega,by rw[W.2.1];omega,by rw[j];omega,by rw[j];omega,by rw[W.2.2.1];exact N,by rw[W.2.2.2.1];exact X,?_,λ_=>⟨rfl,rfl⟩,λZ=>PF,λZ=>?_⟩
  .rw[u];show eJ l.call n=true
   exact z.g _ h.q
  .rw[u]at Z;exact absurd Z T6
 .cases p
def n2.E'{r:bL}(h:n2 n F R B G Q i x r)(ao:0<=i/\i<n)(v:n<=7)(N:bq x n=true){o:aD}(p:o∈r.E'):o.Item=x/\hk R G Q o/\o.bh=i/\o.bB=r.x.bj/\o.Kind≠7/\(o.Kind=5->kA n F R B G o.Call)/\(o.Kind=6->c3 o n=true->∃T∈r.E',T.bK=i/\T.Item=x/\T.Kind=6/\c3 T n=true/\T.bB=o.bB):=by
 unfold bL.E' at p⊢;rw[h.ls]at p⊢;rw[aM T3]at p⊢;cases E:r.k0 with
 |some l=>
  rw[E]at p;dsimp only at p⊢;obtain⟨Z,M,f⟩:=h.uI l E;obtain⟨s,q,g,D,C,w⟩:=Z.E' p;have X:=(h.ok.cw l E).bj;grind
 |none=>
  rw[E]at p;dsimp only at p⊢;obtain⟨k,u,rfl⟩:=eS.1 p;refine⟨h.item,?_,h.self,rfl,by show(6:Int)≠7;omega,λZ=>absurd Z (by show(6:Int)≠5;omega),λ_ f=>?_⟩
  .refine⟨λZ=>?_,λZ=>absurd Z (by show(6:Int)≠1;omega),λZ=>absurd Z (by show(6:Int)≠2;omega),λZ=>absurd Z (by show(6:Int)≠3;omega),λZ=>absurd Z (by show(6:Int)≠4;omega),λ_=>⟨h.hE,?_⟩,λZ=>absurd Z (by show(6:Int)≠7;omega)⟩
   .exact absurd Z (by show¬i6 (6:Int).toNat=true;decide)
   .show r.x.bj.a1=r.x.self;rw[h.fb,h.self]
  .refine⟨pq r.x i.toNat,eS.2 ⟨i.toNat,?_,rfl⟩,?_,h.item,rfl,?_,rfl⟩
   .rw[pC,h.e4];omega
   exact K8
   .rw[hy]at f⊢;refine⟨f.gF,f.g2,f.f1,f.f2,?_,?_,f.item,f.bj,f.call,f.bare,f.same,f.known⟩
    exact QI
    exact L8
def Td{r:bL}(h:r.lost=true):r.E'=[]:=by
 unfold bL.lost at h;unfold bL.E';split
 .rfl
 .rename_i Z;rw[iL]at h;grind [OG]
def di.abM(p:mX n F R)(kX:jw n Q)(Yg:∀j,¬(0<=j/\j<8)->(L j).l=none/\(L j).r=none)(h:di n F R x Q B G L P)(ao:0<=i/\i<n)(b3:bq x n=true)(Yl:x.a1=R)(Yi:hk R G Q m)(Ym:m.Kind≠5)(kP:m.Kind=7->nw B m.bB){r:bL}(u:(L i).r=some r)(T:bD.l=(L i).l)(Yj:bD.r=if(r.y' m).2=true/\(r.y' m).1.lost=true then none else some (r.y' m).1)(Ye:∀o,o∈bD.bt↔o∈(L i).bt\/((r.y' m).2=true/\o∈(r.y' m).1.E'/\o.bK=i))(Yf:∀o,bD.ck o->(L i).ck o\/((r.y' m).2=true/\o∈(r.y' m).1.E'/\c3 o n=true/\o.bK≠i)):∃Y,fo R i B G B Y/\di n F R x Q B Y (hT L i bD) P/\(∀b c,Y.pre b c->G.pre b c\/b≠R):=by
 have W:=h.lc i;have aW:=W.hS r u;have D:(B i).Status≠3:=λd=>by rw[(W.st d).2]at u;cases u
 have hz:m.Kind=7->m.bB=r.x.bj->bk r.x.bj<=bk (B i).bO:=by intro k e;have:=kP k;unfold nw at this;rw[e,aW.fb]at this;grind
 obtain⟨Y,v⟩:=aW.y' h.core p.e (by have:=p.e;have:=p.jr;omega) p.jr.2 p.r ao Yl kX.m kX.z p.f Yi Ym hz;have Yn:=aW.hE;have Yp:R<8:=Tr
 have s:fo R i B G B Y:=v.g.V' (aW.ZP ⟨ao.1,by have:=p.jr;omega⟩) λe=>ac
 have Yh:(r.y' m).1.lost=true->(r.y' m).2=true:=λq=>by
  cases M:(r.y' m).2 with
  |true=>rfl
  |false=>have:=v.no M;rw[q]at this;cases this
 have E:∀c,Y.acc R c->G.acc R c:=λc=>v.g.acc ac;have q:kB n F R x Q B Y i ⟨(L i).l,bD.r,(L i).bt,(L i).ck⟩:=by
  have Z:∀c,hm n F R B G i (L i) c->hm n F R B Y i ⟨(L i).l,bD.r,(L i).bt,(L i).ck⟩ c:=by
   intro c Z;rcases Z with Z|⟨e,Z,T⟩
   .exact .inl (Z.V' s)
   .exact .inr ⟨e,⟨s.e.pre _ _ Z.pre,Z.cF.mono λj dR=>s.e.cF j dR,λcx dE=>Z.no cx (E cx dE),Z.p⟩,T⟩
  have K:∀C,bD.r=some C->C=(r.y' m).1/\(r.y' m).1.lost=false:=Uh
  exact{
   cw:=λl T=>by obtain⟨jY,gb,a3,a4,a5⟩:=W.cw l T;exact⟨jY.mono s.e.pre s.e.acc s.e.ed s.e.cF (λc dE=>by grind [oW]),gb,a3,a4,a5⟩
   ju:=λl C T M=>by obtain⟨rfl,_⟩:=K C M;rw[v.b];exact W.ju l r T u
   jg:=W.jg
   eM:=λl T d=>⟨Z _ (W.eM l T d).1,(W.eM l T d).2⟩
   hS:=λC M=>by obtain⟨rfl,d⟩:=K C M;exact v.ok d
   fb:=λC M X=>by obtain⟨rfl,d⟩:=K C M;rw[v.b]at X⊢;exact W.fb r u X
   st:=λd=>absurd d D
   bt:=λo y w=>⟨(W.bt o y w).1.V' s,(W.bt o y w).2.1,(W.bt o y w).2.2.1,λk=>Z _ ((W.bt o y w).2.2.2 k)⟩
   ck:=λo y w=>⟨(W.ck o y w).1.V' s,(W.ck o y w).2.1,(W.ck o y w).2.2.1,(W.ck o y w).2.2.2.1,λk=>Z _ ((W.ck o y w).2.2.2.2 k)⟩}
 have M:kB n F R x Q B Y i bD:=by
  refine q.Uy (ms:=if(r.y' m).2=true then(r.y' m).1.E' else[]) T rfl (λo=>?_) (λo y=>?_) λo y=>?_
  .grind
  .grind
  .split at y
   .rename_i cN;cases N:(r.y' m).1.lost with
    |true=>rw[Td N]at y;cases y
    |false=>
     have Yo:=v.ok N;obtain⟨jY,gb,a3,a4,a5,Am,uJ⟩:=Yo.E' ao p.jr.2 b3 y;refine⟨jY,gb,a3,λk X=>?_,a5,λk=>.inl (Am k),λl Yc X dU=>?_⟩
     .obtain⟨wt,hB,kr,ik,ks,sZ,DL⟩:=uJ k X;exact .inr ⟨wt,(Ye wt).2 (.inr ⟨cN,hB,kr⟩),ik,ks,sZ,DL⟩
     .exfalso;have Yk:=(hy.1 X).bj;rw[a4,v.b]at Yk;have:=W.ju l r Yc u;grind
   .cases y
 refine⟨Y,s,di.step p Yg h s v.core M (λd=>absurd d D) (h.ez i) (h.q i),λb c dE=>?_⟩;by_cases X:b=bk r.x.bj
 .exact .inr ac
 .exact .inl (v.g.pre X dE)
def di.Xd(p:mX n F R)(kX:jw n Q)(Yh:∀j,¬(0<=j/\j<8)->(L j).l=none/\(L j).r=none)(h:di n F R x Q B G L P)(ao:0<=i/\i<n)(b3:bq x n=true){l E:a6}{nV:Bool}(g:(L i).l=some l)(v:py n F R G l E t Y)(dQ:e6 n F R B Y)(T:jv n R Y Q i x E)(u:E.bj=⟨0,R⟩)(Yo:nV=false->E.phase=l.phase)(Ye:bD.l=if E.phase=4 then none else some E)(c1:bD.r=(L i).r)(Yc:∀o,o∈bD.bt↔o∈(L i).bt\/(nV=true/\o∈E.E'/\o.bK=i))(Yf:∀o,bD.ck o->(L i).ck o\/(nV=true/\o∈E.E'/\c3 o n=true/\o.bK≠i)):fo R i B G B Y/\di n F R x Q B Y (hT L i bD) P/\(∀b c,Y.pre b c->G.pre b c):=by
 have W:=h.lc i;obtain⟨yj,wu,An,Ao,ajt⟩:=W.cw l g;have Yn:0<=R/\R<7:=Tr
 have Yj:(B i).Status≠3:=λf=>by rw[(W.st f).1]at g;cases g
 have Yk:oY R G Y:=by have:=v.more;rwa[An,oW]at this
 have s:fo R i B G B Y:=Yk.V' (by rw[p.Xc,wu]) λ_=>by rw[<-wu];exact Yj
 have Ym:cH (⟨0,R⟩:bm) n=true:=by have:=p.r;simp[cH];omega
 have Yl:l.phase≠3->∀c,hm n F R B G i (L i) c->kA n F R B Y c:=by
  intro f c w;rcases w with w|⟨_,_,q,C,cu,_⟩
  .exact w.V' s
  .rw[g]at C;cases C;exact absurd cu f
 have w:∀c,hm n F R B G i (L i) c->hm n F R B Y i bD c:=by
  intro c w;by_cases f:l.phase=3
  .rcases w with w|⟨e,w,B1,C,cu,d⟩
   .exact .inl (w.V' s)
   .rw[g]at C;cases C;cases v with
    |same Z X=>exact .inr ⟨e,w,E,by rw[Ye,aM ac],ac,by rw[X];exact d⟩
    |jM ff=>omega
    |tc ff=>omega
    |done ff=>omega
    |lost ff=>exact absurd f ff
  .exact .inl (Yl f c w)
 have Yp:∀q,bD.l=some q->q=E/\E.phase≠4:=by intro q N;rw[Ye]at N;grind
 have Yi:E.phase=3->hm n F R B Y i bD E.call:=by
  intro Yg;have Yr:bD.l=some E:=by rw[Ye,aM ac]
  cases v with
  |same Z X=>
   rw[X];exact w _ (W.eM l g ac).1
  |jM _ Z=>omega
  |tc ff Z X ik ks=>
   obtain⟨kU,rE⟩:=yj.oO ff;rw[An,oW]at kU rE;rw[X];exact .inr ⟨wu,⟨kU,ks,rE,by rw[wu]at Ao;exact Ao⟩,E,Yr,Yg,X⟩
  |done _ _ X ik=>rw[X];exact .inl (.inl ik)
  |lost _ Z=>omega
 have Yq:kB n F R x Q B Y i bD:=by
  have K:∀o,nV=true->o∈E.E'->hk R Y Q o/\o.bh=i/\o.Item=x/\o.bB=⟨0,R⟩/\(o.Kind=1\/o.Kind=3\/o.Kind=5)/\(o.Kind=5->hm n F R B Y i bD o.Call):=by intro o cN y;obtain⟨M,D,a3,a4,a5,Am⟩:=T.E' y;exact⟨M,D,a3,by rw[a4,u],ac,λk=>by rw[a5];exact Yi ac⟩
  have ix:∀k p,lO n x k (L i).bt p->lO n x k bD.bt p:=λk p ⟨m,bg,N,f⟩=>⟨m,(Yc m).2 (.inl bg),N,f⟩
  exact{
   cw:=λq N=>by obtain⟨rfl,f⟩:=Yp q N;have:=T.hl.phase;exact⟨T,wu,u,Ao,ac⟩
   ju:=λq r N f=>W.ju l r g (c1▸f)
   jg:=λq N o y z bF dU=>by
    rcases(Yc o).1 y with y|⟨M,D,a3⟩
    .exact W.jg l g o y z bF dU
    .exact(K o M D).2.2.2.1
   eM:=λq N f=>by
    obtain⟨rfl,kO⟩:=Yp q N;refine⟨Yi f,?_⟩;cases cN:nV with
    |false=>
     have:=Yo cN;exact ix _ _ (W.eM l g ac).2
    |true=>
     obtain⟨o,M,D,a3⟩:=adQ T f ao;exact⟨o,(Yc o).2 (.inr ⟨cN,M,D⟩),(K o cN M).2.2.1,a3,ag1 T kX p.jr.2 ao b3 (by rw[u];exact Ym) M D a3,trivial⟩
   hS:=λr N=>(W.hS r (c1▸N)).mono s.e (λc=>⟨Yk.acc (by have:=(W.hS r (c1▸N)).hE;omega),Yk.pre (by have:=(W.hS r (c1▸N)).hE;omega)⟩) λc d=>d.V' s
   fb:=λr N bF=>(W.fb r (c1▸N) bF).imp id (ix _ _)
   st:=λf=>absurd f Yj
   bt:=λo y z=>by
    rcases(Yc o).1 y with y|⟨M,D,a3⟩
    .obtain⟨Z,X,ik,ks⟩:=W.bt o y z;exact⟨Z.V' s,X,ik,λk=>w _ (ks k)⟩
    .obtain⟨Z,X,ik,ks,T,l⟩:=K o M D;exact⟨Z,⟨X,a3⟩,λk=>ac,l⟩
   ck:=λo y z=>by
    rcases Yf o y with y|⟨M,D,a3⟩
    .obtain⟨Z,X,ik,ks,T⟩:=W.ck o y z;exact⟨Z.V' s,X,λk=>(ik k).imp id (ix _ _),ks,λk=>w _ (T k)⟩
    .obtain⟨Z,X,ik,ks,T,l⟩:=K o M D;exact⟨Z,⟨X,a3.2⟩,λk=>ac,λk=>ac,l⟩}
 refine⟨s,di.step p Yh h s dQ Yq (λf=>absurd f Yj) (h.ez i) (h.q i),λb c d=>?_⟩;cases v with
 |same=>exact d
 |jM=>exact d
 |tc=>exact d
 |done=>exact d
 |lost=>exact d
def di.abN(p:mX n F R)(W:jw n Q)(y:∀j,¬(0<=j/\j<8)->(L j).l=none/\(L j).r=none)(h:di n F R x Q B G L P)(ao:0<=i/\i<n)(Z:bq x n=true)(u:x.a1=R)(C:hk R G Q m)(q:m.Kind≠5){l:a6}(T:(L i).l=some l)(M:bD.l=if(l.y' m).2=true/\(l.y' m).1.phase=4 then none else some (l.y' m).1)(g:bD.r=(L i).r)(X:∀o,o∈bD.bt↔o∈(L i).bt\/((l.y' m).2=true/\o∈(l.y' m).1.E'/\o.bK=i))(s:∀o,bD.ck o->(L i).ck o\/((l.y' m).2=true/\o∈(l.y' m).1.E'/\c3 o n=true/\o.bK≠i)):∃Y,fo R i B G B Y/\di n F R x Q B Y (hT L i bD) P/\(∀b c,Y.pre b c->G.pre b c):=by
 obtain⟨K,E,d,N,j⟩:=(h.lc i).cw l T;obtain⟨Y,v,N,k⟩:=K.y' h.core Tr u W.m p.f C q;refine⟨Y,di.Xd p W y h ao Z T v N k (by rw[(tZ K.hl m).bj,d]) (nV:=(l.y' m).2) (λN=>?_) ?_ g X s⟩
 .rw[N]at v;cases v with
  |same a b=>exact a
 .rw[M];by_cases Z:(l.y' m).1.phase=4
  .have N:(l.y' m).2=true:=by
    cases N:(l.y' m).2 with
    |true=>rfl
    |false=>
     rw[N]at v;cases v with
     |same a b=>omega
   grind
  .grind
end
end Go.Proofs.YteogojgnkjegmaaGreatDoor
