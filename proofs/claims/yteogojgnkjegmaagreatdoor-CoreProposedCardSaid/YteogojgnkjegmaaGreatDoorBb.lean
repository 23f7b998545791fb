/-
 Part of the proof.
-/
import Derived.Test.YteogojgnkjegmaaGreatDoorBa
set_option linter.all false
set_option maxRecDepth 8000
set_option maxHeartbeats 8000000
namespace Go.Proofs.YteogojgnkjegmaaGreatDoor
variable[Go.ay.b4]
variable{C:bm}{b:Int}
def ef(B:Int->aX)(i:Int)(I:aX):Int->aX:=λj=>if j=i then I else B j
theorem lN(B:Int->aX)(i:Int)(I:aX):ef B i I i=I:=aQ rfl
def uH(B:Int->aX){i j:Int}(I:aX)(h:j≠i):ef B i I j=B j:=aM h
def c7.W9(G:c7)(i b:Int):c7:={G with ed:=λj x=>G.ed j x\/(j=i/\x=b)}
def c7.U2(G:c7)(i:Int):c7:={G with cF:=λj=>G.cF j\/j=i}
def c7.Xa(G:c7)(i b v st:Int)(c:aN)(z:Bool):c7:={G with eD:=λj s t X g D=>G.eD j s t X g D\/(j=i/\s=b/\t=v/\X=st/\g=c/\D=z)}
def c7.VA(G:c7)(b:Int)(c:aN):c7:={G with acc:=λs g=>G.acc s g\/(s=b/\g=c)}
def c7.U8(G:c7)(b:Int)(c:aN):c7:={G with pre:=λs g=>G.pre s g\/(s=b/\g=c)}
section
variable{n F R:Int}{B U:Int->aX}{G Y:c7}
def wm.mono{j v st:Int}{c:aN}{sm:Bool}(h:wm R G j b v st c sm)(cu:∀b c,G.pre b c->Y.pre b c)(fI:∀b c,G.acc b c->Y.acc b c)(r0:∀dm,dm<b->Y.ed j dm->G.ed j dm)(r1:R<b->Y.cF j->G.cF j):wm R Y j b v st c sm where
 Cw:=h.Cw
 Ad:=h.Ad
 s1 bg:=⟨by obtain⟨cx,bY⟩:=(h.s1 bg).1;exact⟨cx,cu _ _ bY⟩,λbY=>⟨((h.s1 bg).2 bY).1,cu _ _ ((h.s1 bg).2 bY).2⟩⟩
 s2 bg:=fI _ _ (h.s2 bg)
 ed dm bH bg:=h.ed dm bH (r0 dm bH bg)
 cF bH bg:=h.cF bH (r1 bH bg)
def ya.mono{j:Int}{I:aX}(h:ya R G j I)(cu:∀b c,G.pre b c->Y.pre b c)(fI:∀b c,G.acc b c->Y.acc b c)(r0:∀b,Y.ed j b->G.ed j b)(r1:Y.cF j->G.cF j)(ye:∀b v st c sm,Y.eD j b v st c sm->G.eD j b v st c sm):ya R Y j I where
 rX:=h.rX
 st:=h.st
 s1 bg:=⟨by obtain⟨cx,bY⟩:=(h.s1 bg).1;exact⟨cx,cu _ _ bY⟩,λbY=>⟨((h.s1 bg).2 bY).1,cu _ _ ((h.s1 bg).2 bY).2⟩⟩
 s2 bg:=fI _ _ (h.s2 bg)
 ed b bg:=h.ed b (r0 b bg)
 cF bg:=h.cF (r1 bg)
 eD b v st c sm bg:=h.eD b v st c sm (ye b v st c sm bg)
def yf{i:Int}{I:aX}(h:bk (B i).bO<=bk I.bO)(j:Int):bk (B j).bO<=bk (ef B i I j).bO:=by
 by_cases e:j=i
 .grind [lN]
 .rw[uH _ _ e];exact gg _
def e6.promise(h:e6 n F R B G){i:Int}{jD:bm}(X:bk (B i).bO<=bk jD)(f:(B i).Status≠3):e6 n F R (ef B i {B i with bO:=jD}) (G.Xa i (bk jD) (bk (B i).b0) (B i).Status (B i).Call (B i).cL)/\gI R B G (ef B i {B i with bO:=jD}) (G.Xa i (bk jD) (bk (B i).b0) (B i).Status (B i).Call (B i).cL):=by
 have e:gI R B G (ef B i {B i with bO:=jD}) (G.Xa i (bk jD) (bk (B i).b0) (B i).Status (B i).Call (B i).cL):=
  ⟨yf X,λ_ _ h=>h,λ_ _ h=>h,λ_ _ h=>h,λ_ h=>h,λ_ _ _ _ _ _ h=>.inl h,λ_ _ _ h=>h,λ_ _ h=>h⟩
 have u:=h.e5 i;refine⟨h.ext e (λ_ _ h=>h) (λ_ _ h=>h) ?_ ?_ (λ_ _ h=>.inl h) (λ_ h=>.inl h),e⟩
 .intro j;by_cases y:j=i
  .subst y;rw[lN];exact⟨mM u.rX X,u.st,u.s1,u.s2,λb J=>⟨mM (u.ed b J).1 X,(u.ed b J).2⟩,λJ=>⟨mM (u.cF J).1 X,(u.cF J).2⟩,λb v st c z J=>by
    rcases J with J|⟨_,rfl,_⟩
    .exact mM (u.eD b v st c z J) X
    .exact gg _⟩
  .rw[uH _ _ y];exact(h.e5 j).mono (λ_ _ h=>h) (λ_ _ h=>h) (λ_ h=>h) (λh=>h) λb v st c z J=>J.resolve_right λN=>y N.1
 .rintro j b v st c z (J|⟨rfl,rfl,rfl,rfl,rfl,rfl⟩)
  .exact(h.eD j b v st c z J).mono (λ_ _ h=>h) (λ_ _ h=>h) (λ_ _ h=>h) (λ_ h=>h)
  .have Z:=u.st;refine⟨mM u.rX X,ac,u.s1,u.s2,λs T J=>?_,λT J=>?_⟩
   .rcases(u.ed s J).2 with N|⟨N,Z⟩|⟨N,Z⟩
    .exact absurd N f
    .grind
    .grind
   .rcases(u.cF J).2 with N|N|N|N
    .exact absurd N f
    .grind
    .exact .inr (.inl N)
    .exact .inr (.inr N)
def e6.UF(h:e6 n F R B G){i:Int}(c:aN):e6 n F R (ef B i {B i with Status:=3,Call:=c,cL:=false}) G/\gI R B G (ef B i {B i with Status:=3,Call:=c,cL:=false}) G:=by
 have e:gI R B G (ef B i {B i with Status:=3,Call:=c,cL:=false}) G:=
  ⟨yf (gg _),λ_ _ h=>h,λ_ _ h=>h,λ_ _ h=>h,λ_ h=>h,λ_ _ _ _ _ _ h=>h,λ_ _ _ h=>h,λ_ _ h=>h⟩
 have u:=h.e5 i;refine⟨h.ext e (λ_ _ h=>h) (λ_ _ h=>h) ?_ h.eD (λ_ _ h=>.inl h) (λ_ h=>.inl h),e⟩;intro j;by_cases y:j=i
 .subst y;rw[lN];exact⟨u.rX,⟨by show(0:Int)<=3;omega,by show(3:Int)<=3;omega⟩,λJ=>absurd J Pf,λJ=>absurd J L4,λb J=>⟨(u.ed b J).1,.inl rfl⟩,λJ=>⟨(u.cF J).1,.inl rfl⟩,u.eD⟩
 .rw[uH _ _ y];exact h.e5 j
def e6.abK(h:e6 n F R B G){i:Int}{c K:aN}{r:Bool}(X:bk (B i).bO<=bk C)(f:(B i).Status≠3)(z:G.pre (bk C) K)(Q:r=true->bk C=R/\c=K)(W:¬(bk (B i).b0=bk C/\1<=(B i).Status)):e6 n F R (ef B i ⟨C,C,1,c,r⟩) (if r=true then G.U2 i else G)/\gI R B G (ef B i ⟨C,C,1,c,r⟩) (if r=true then G.U2 i else G):=by
 have u:=h.e5 i;have o:=u.rX;have x:∀j,(if r=true then G.U2 i else G).cF j↔G.cF j\/(r=true/\j=i):=by
  intro j;split
  exact PP
  exact Q2
 have m:(if r=true then G.U2 i else G).pre=G.pre:=Pv
 have Z:(if r=true then G.U2 i else G).acc=G.acc:=Pv
 have P:(if r=true then G.U2 i else G).ed=G.ed:=Pv
 have T:(if r=true then G.U2 i else G).eD=G.eD:=Pv
 generalize(if r=true then G.U2 i else G)=Y at*;have e:gI R B G (ef B i ⟨C,C,1,c,r⟩) Y:=
  ⟨yf X,λ_ _ h=>Mm,λ_ _ h=>Rb,λ_ _ h=>by rw[P];exact h,λj h=>(x j).2 (.inl h),λ_ _ _ _ _ _ h=>by rw[T];exact h,λ_ _ _ h=>OH,λj J N=>by
   rcases(x j).1 N with N|⟨N,rfl⟩
   .exact N
   .have:=(Q N).1;omega⟩
 refine⟨h.ext e (λ_ _ h=>by rw[m]at h;exact h) (λ_ _ h=>by rw[Z]at h;exact h) ?_ ?_ (λ_ _ h=>.inl OH) (λj J=>?_),e⟩
 .intro j;by_cases y:j=i
  .subst y;rw[lN];refine⟨gg _,⟨by show(0:Int)<=1;omega,Lx⟩,λ_=>⟨⟨K,by rw[m];exact z⟩,λJ=>⟨(Q J).1,by rw[m,(Q J).2,<-(Q J).1];exact z⟩⟩,λJ=>absurd J Kd,λb J=>?_,λJ=>?_,λb v st c r J=>by rw[T]at J;exact mM (u.eD b v st c r J) X⟩
   .rw[P]at J;obtain⟨N,M⟩:=u.ed b J;refine⟨mM N X,.inr (.inl ⟨?_,gg _⟩)⟩;show b<bk C
    grind
   .show R<=bk C/\((1:Int)=3\/(R<bk C/\(1:Int)<=1)\/(bk C=R/\(1:Int)=2)\/(bk C=R/\(1:Int)=1/\r=true));rcases(x j).1 J with J|⟨J,_⟩
    .obtain⟨N,M⟩:=u.cF J;refine⟨ac,.inr (.inl ⟨?_,ac⟩)⟩;by_cases a:bk C=R
     .grind
     .omega
    .have:=(Q J).1;exact⟨ac,.inr (.inr (.inr ⟨this,rfl,J⟩))⟩
  .rw[uH _ _ y];exact(h.e5 j).mono (λ_ _ h=>Mm) (λ_ _ h=>Rb) (λ_ h=>OH) (λJ=>((x j).1 J).resolve_right λN=>y N.2) λb v st c r J=>by rw[T]at J;exact J
 .intro j b v st g D J;rw[T]at J;refine(h.eD j b v st g D J).mono (λ_ _ h=>Mm) (λ_ _ h=>Rb) (λ_ _ h=>OH) λE N=>?_;rcases(x j).1 N with N|⟨N,rfl⟩
  .exact N
  .have:=u.eD b v st g D J;have:=(Q N).1;omega
 .rcases(x j).1 J with J|⟨J,_⟩
  .exact .inl J
  .have:=(Q J).1;grind
def e6.abL(h:e6 n F R B G){i:Int}(X:bk (B i).bO<=bk C)(W:bk (B i).b0=bk C)(J:(B i).Status=1):e6 n F R (ef B i {B i with bO:=C}) (if(B i).cL=true then G.U2 i else G)/\gI R B G (ef B i {B i with bO:=C}) (if(B i).cL=true then G.U2 i else G):=by
 have u:=h.e5 i;have o:=u.rX;have Q:=(u.s1 J).2;have x:∀j,(if(B i).cL=true then G.U2 i else G).cF j↔G.cF j\/((B i).cL=true/\j=i):=by
  intro j;split
  exact PP
  exact Q2
 have m:(if(B i).cL=true then G.U2 i else G).pre=G.pre:=Pv
 have Z:(if(B i).cL=true then G.U2 i else G).acc=G.acc:=Pv
 have z:(if(B i).cL=true then G.U2 i else G).ed=G.ed:=Pv
 have K:(if(B i).cL=true then G.U2 i else G).eD=G.eD:=Pv
 generalize(if(B i).cL=true then G.U2 i else G)=Y at*;have e:gI R B G (ef B i {B i with bO:=C}) Y:=
  ⟨yf X,λ_ _ h=>Mm,λ_ _ h=>Rb,λ_ _ h=>by rw[z];exact h,λj h=>(x j).2 (.inl h),λ_ _ _ _ _ _ h=>by rw[K];exact h,λ_ _ _ h=>L5,λj J N=>by
   rcases(x j).1 N with N|⟨N,rfl⟩
   .exact N
   .have:=(Q N).1;omega⟩
 refine⟨h.ext e (λ_ _ h=>by rw[m]at h;exact h) (λ_ _ h=>by rw[Z]at h;exact h) ?_ ?_ (λ_ _ h=>.inl L5) (λj J=>?_),e⟩
 .intro j;by_cases y:j=i
  .subst y;rw[lN];refine⟨mM u.rX X,u.st,λJ=>by rw[m];exact u.s1 J,λJ=>by rw[Z];exact u.s2 J,λb N=>?_,λN=>?_,λb v st c P J=>by rw[K]at J;exact mM (u.eD b v st c P J) X⟩
   .rw[z]at N;exact⟨mM (u.ed b N).1 X,(u.ed b N).2⟩
   .rcases(x j).1 N with N|⟨N,_⟩
    .exact⟨mM (u.cF N).1 X,(u.cF N).2⟩
    .have M:=(Q N).1;exact⟨by show R<=bk C;omega,.inr (.inr (.inr ⟨M,J,N⟩))⟩
  .rw[uH _ _ y];exact(h.e5 j).mono (λ_ _ h=>Mm) (λ_ _ h=>Rb) (λ_ h=>L5) (λJ=>((x j).1 J).resolve_right λN=>y N.2) λb v st c P J=>by rw[K]at J;exact J
 .intro j b v st g D N;rw[K]at N;refine(h.eD j b v st g D N).mono (λ_ _ h=>Mm) (λ_ _ h=>Rb) (λ_ _ h=>L5) λT a=>?_;rcases(x j).1 a with a|⟨a,rfl⟩
  .exact a
  .have:=u.eD b v st g D N;have:=(Q a).1;omega
 .rcases(x j).1 J with J|⟨J,_⟩
  .exact .inl J
  .exact .inr ⟨_,(Q J).2⟩
def e6.ZL(h:e6 n F R B G){i:Int}{c:aN}{I:aX}(X:bk (B i).bO<=bk C)(f:(B i).Status≠3)(z:G.acc (bk C) c)(m:(¬(bk (B i).b0=bk C/\2<=(B i).Status)/\I=⟨C,C,2,c,false⟩)\/(bk (B i).b0=bk C/\(B i).Status=2/\I={B i with bO:=C})):e6 n F R (ef B i I) (G.W9 i (bk C))/\gI R B G (ef B i I) (G.W9 i (bk C)):=by
 have u:=h.e5 i;have o:=u.rX;have T:I.bO=C:=by rcases m with⟨_,rfl⟩|⟨_,_,rfl⟩<;>rfl
 have e:gI R B G (ef B i I) (G.W9 i (bk C)):=
  ⟨yf (by rw[T];exact X),λ_ _ h=>h,λ_ _ h=>h,λ_ _ h=>.inl h,λj h=>h,λ_ _ _ _ _ _ h=>h,λj b J N=>by
   rcases N with N|⟨rfl,rfl⟩
   .exact N
   .omega,λj J N=>N⟩
 refine⟨h.ext e (λ_ _ h=>h) (λ_ _ h=>h) ?_ ?_ (λj b J=>?_) (λj J=>.inl J),e⟩
 .intro j;by_cases y:j=i
  .subst y;rw[lN];have W:bk I.b0=bk C:=by rcases m with⟨_,rfl⟩|⟨J,_,rfl⟩;rfl;exact J
   have w:I.Status=2:=by rcases m with⟨_,rfl⟩|⟨_,J,rfl⟩;rfl;exact J
   have Z:G.acc (bk C) I.Call:=by
    rcases m with⟨_,rfl⟩|⟨J,N,rfl⟩
    .exact z
    .have:=u.s2 N;rw[J]at this;exact this
   refine⟨by rw[W,T];exact gg _,ac,λJ=>absurd J ac,λ_=>by rw[W];exact Z,λb J=>?_,λJ=>?_,λb v st c P J=>by rw[T];exact mM (u.eD b v st c P J) X⟩
   .rw[T,W,w];rcases J with J|⟨_,rfl⟩
    .obtain⟨N,M⟩:=u.ed b J;refine⟨ac,.inr ?_⟩;grind
    .exact⟨gg _,.inr (.inr ⟨rfl,rfl⟩)⟩
   .rw[T,W,w];obtain⟨N,M⟩:=u.cF J;refine⟨ac,.inr ?_⟩;grind
  .rw[uH _ _ y];exact(h.e5 j).mono (λ_ _ h=>h) (λ_ _ h=>h) (λ_ J=>J.resolve_right λN=>y N.1) (λJ=>J) λb v st c P J=>J
 .intro j b v st g D N;refine(h.eD j b v st g D N).mono (λ_ _ h=>h) (λ_ _ h=>h) (λs E J=>?_) λE a=>a;rcases J with J|⟨rfl,rfl⟩
  .exact J
  .have:=u.eD b v st g D N;omega
 .rcases J with J|⟨_,rfl⟩
  .exact .inl J
  .exact .inr ⟨_,z⟩
def Jx(b:Int)(c:aN):gI R B G B (G.VA b c):=⟨λ_=>gg _,λ_ _ h=>h,λ_ _ h=>.inl h,λ_ _ h=>h,λ_ h=>h,λ_ _ _ _ _ _ h=>h,λ_ _ _ h=>h,λ_ _ h=>h⟩
def Jy(b:Int)(c:aN):gI R B G B (G.U8 b c):=⟨λ_=>gg _,λ_ _ h=>.inl h,λ_ _ h=>h,λ_ _ h=>h,λ_ h=>h,λ_ _ _ _ _ _ h=>h,λ_ _ _ h=>h,λ_ _ h=>h⟩
def e6.ZM(h:e6 n F R B G){c:aN}(no:∀g,¬G.acc b g)(W:n1 R b)(Q:∀s,s<b->n1 R s->Safe n F B G s c)(k:b≠R->G.pre R c\/pw n R B G)(p:b≠R->b<=bk (B (b%8)).bO)(z:b=R->∃g,G.pre R g):e6 n F R B (G.VA b c):=by
 have e:gI R B G B (G.VA b c):=Jx b c;refine⟨λj=>(h.e5 j).mono (λ_ _ h=>h) (λ_ _ h=>.inl h) (λ_ h=>h) (λh=>h) λ_ _ _ _ _ h=>h,λj b v st c P J=>(h.eD j b v st c P J).mono (λ_ _ h=>h) (λ_ _ h=>.inl h) (λ_ _ h=>h) λ_ h=>h,?_,h.wo,?_,h.jR,?_,?_,?_,?_,?_,?_,?_⟩
 .rintro x Z i (J|⟨rfl,rfl⟩) (N|⟨N,rfl⟩)
  .exact h.wn x Z i J N
  .grind
  .exact absurd N (no _)
  .rfl
 .rintro x Z (J|⟨rfl,rfl⟩)
  .exact h.jS x Z J
  .exact W
 .rintro x Z (J|⟨rfl,rfl⟩) s T u
  .exact e.safe (h.wq x Z J s T u)
  .exact e.safe (Q s T u)
 .rintro x Z (J|⟨rfl,rfl⟩) T
  .exact(h.wr x Z J T).imp (e.pre _ _) e.dead
  .exact(k T).imp (e.pre _ _) e.dead
 .intro x Z J T;exact⟨λs N f=>e.Wh ((h.ka x Z J T).1 s N f),e.dead (h.ka x Z J T).2⟩
 .rintro x Z ((J|⟨rfl,rfl⟩)|J) T
  .exact h.own x Z (.inl J) T
  .exact p T
  .exact h.own x Z (.inr J) T
 .intro j x J;obtain⟨Z,N⟩:=h.Ae j x J;exact⟨Z,.inl N⟩
 .exact h.Af
 .rintro Z (J|⟨J,rfl⟩)
  .exact h.yb Z J
  .exact z J.symm
def e6.ZN(h:e6 n F R B G){c:aN}(no:∀g,¬G.pre b g)(W:n1 R b)(Q:b≠R->(∀s,s<b->n1 R s->rW n F B G s)/\pw n R B G)(p:b≠R->b<=bk (B (b%8)).bO):e6 n F R B (G.U8 b c):=by
 have e:gI R B G B (G.U8 b c):=Jy b c;refine⟨λj=>(h.e5 j).mono (λ_ _ h=>.inl h) (λ_ _ h=>h) (λ_ h=>h) (λh=>h) λ_ _ _ _ _ h=>h,λj b v st c z J=>(h.eD j b v st c z J).mono (λ_ _ h=>.inl h) (λ_ _ h=>h) (λ_ _ h=>h) λ_ h=>h,h.wn,?_,h.jS,?_,?_,?_,?_,?_,?_,?_,?_⟩
 .rintro x Z i (J|⟨rfl,rfl⟩) (N|⟨N,rfl⟩)
  .exact h.wo x Z i J N
  .grind
  .exact absurd N (no _)
  .rfl
 .rintro x Z (J|⟨rfl,rfl⟩)
  .exact h.jR x Z J
  .exact W
 .intro x Z J s T u;exact e.safe (h.wq x Z J s T u)
 .intro x Z J T;exact(h.wr x Z J T).imp (e.pre _ _) e.dead
 .rintro x Z (J|⟨rfl,rfl⟩) T
  .exact⟨λs N f=>e.Wh ((h.ka x Z J T).1 s N f),e.dead (h.ka x Z J T).2⟩
  .exact⟨λs N f=>e.Wh ((Q T).1 s N f),e.dead (Q T).2⟩
 .rintro x Z (J|(J|⟨rfl,rfl⟩)) T
  .exact h.own x Z (.inl J) T
  .exact h.own x Z (.inr J) T
  .exact p T
 .exact h.Ae
 .intro j J;obtain⟨Z,N⟩:=h.Af j J;exact⟨Z,.inl N⟩
 .intro Z J;obtain⟨i,N⟩:=h.yb Z J;exact⟨i,.inl N⟩
end
end Go.Proofs.YteogojgnkjegmaaGreatDoor
namespace Go.Proofs.YteogojgnkjegmaaGreatDoor
variable[Go.ay.b4]
theorem ws{a b:bm}(K:cH a 7=true)(X:cH b 7=true):fL a b=true↔bk a<bk b:=by obtain⟨l,Q,f,D⟩:=kn K;obtain⟨h,T,Z,g⟩:=kn X;rw[xc];unfold bk;omega
def Jz{a b:bm}(K:cH a 7=true)(X:cH b 7=true)(h:bk a=bk b):a=b:=by obtain⟨l,Q,f,D⟩:=kn K;obtain⟨x,T,Z,g⟩:=kn X;rw[Fu];unfold bk at h;omega
theorem oW(R:Int):bk ⟨0,R⟩=R:=by
 show(0:Int)*8+R=R
 omega
def yg{st:Int}{Y:ab aD}(h:ao st Y=none):∀m∈Y,m.Status≠st:=by have:=Cc st Y;rw[h]at this;exact this
def oX{st:Int}{Y:ab aD}{a:aD}(f:∀m∈Y,cH m.b0 7=true)(h:ao st Y=some a):a∈Y/\a.Status=st/\∀o∈Y,o.Status=st->bk o.b0<=bk a.b0:=by
 have:=Cc st Y;rw[h]at this;obtain⟨i,U,N,t⟩:=this;have K:=jX U;refine⟨K,N,λo p Q=>?_⟩;obtain⟨k,u⟩:=List.mem_iff_getElem?.1 p;have Z:=(t k o u Q).1;by_cases y:bk a.b0<bk o.b0
 .rw[(ws (f a K) (f o p)).2 y]at Z;cases Z
 .omega
structure DC(n F R:Int)(B:Int->aX)(G:c7)(b:Int)(Y:ab aD):Prop where
 jN:(Y.map (·.bh)).Nodup
 jO:∀m∈Y,0<=m.bh/\m.bh<n
 eD:∀m∈Y,G.eD m.bh b (bk m.b0) m.Status m.Call m.cL
 aV:∀m∈Y,cH m.b0 7=true
section
variable{n F R:Int}{B:Int->aX}{G:c7}{b:Int}{Y:ab aD}
def JA{t:Type}(p:t->Bool):∀l:ab t,l.length=(l.filter p).length+(l.filter λx=>!p x).length
 |[]=>rfl
 |a::l=>by have:=JA p l;rw[vj,vj];cases p a<;>simp<;>omega
def DC.Cz(h:e6 n F R B G)(g:DC n F R B G b Y)(cM:n=2*F+1)(c2:1<=F)(Yq:cY n=F)(ew:0<=R/\R<n)(Yh:n<=7)(bH:8<=b){x:ag}(b3:x.a1=R)(cG:(choose n x Y).1≠0):((choose n x Y).1=2/\(∀s,s<b->n1 R s->Safe n F B G s (choose n x Y).2)/\(G.pre R (choose n x Y).2\/pw n R B G))\/((choose n x Y).1=3/\(∀s,s<b->n1 R s->rW n F B G s)/\pw n R B G):=by
 have Yc:¬(Y.length:Int)<F+1:=by intro U;apply cG;unfold choose;rw[Yq,aQ U]
 have W:∀m∈Y,wm R G m.bh b (bk m.b0) m.Status m.Call m.cL:=λm K=>h.eD _ _ _ _ _ _ (g.eD m K);have Ah:∀m∈Y,b<=bk (B m.bh).bO:=λm K=>(h.e5 m.bh).eD _ _ _ _ _ (g.eD m K);have cd:ao 3 Y=none:=by
  cases dE:ao 3 Y with
  |none=>rfl
  |some a=>
   obtain⟨U,N,_⟩:=oX g.aV dE;have:=(W a U).Ad;omega
 have Yw:nu n (F+1) λj=>∃m∈Y,m.bh=j:=⟨Y.map (·.bh),g.jN,λj dR=>by obtain⟨m,K,rfl⟩:=eS.1 dR;exact⟨g.jO m K,m,K,rfl⟩,by rw[eT];omega⟩
 have E:∀s,s<b->(¬∃m∈Y,G.ed m.bh s)->rW n F B G s:=λs T w=>Yw.mono λj ⟨m,K,c9⟩=>by subst c9;exact⟨by have:=Ah m K;omega,λU=>w ⟨m,K,U⟩⟩
 have e2:∀s v,n1 R s->s<v->v≠R:=λs v U N Z=>by rcases U with U|U<;>omega
 have Q:choose n x Y=(match mO Y with
   |some m=>(2,m.Call)
   |none=>match kY x Y with
    |m::t=>if F<=((t.length+1:Nat):Int)then(2,m.Call)else match ao 1 Y with
     |none=>(2,aN.z)
     |some a=>(3,gH a.Call Y)
    |[]=>match ao 1 Y with
     |none=>(2,aN.z)
     |some a=>(3,gH a.Call Y)):=by
  unfold choose
  rw[Yq,aM Yc,cd]
  rfl
 cases C:mO Y with
 |some m=>
  rw[Q,C];have Ys:ao 2 Y=some m/\∀a,ao 1 Y=some a->bk a.b0<=bk m.b0:=by
   unfold mO at C;cases N:ao 2 Y with
   |none=>rw[N]at C;cases C
   |some rp=>
    rw[N]at C;dsimp only at C;have Yk:=oX g.aV N;cases U:ao 1 Y with
    |none=>
     rw[U]at C;exact⟨by cases C;rfl,λa u=>by cases u⟩
    |some a=>
     rw[U]at C;dsimp only at C;have u:=oX g.aV U;split at C
     .cases C
     .rename_i y;cases C;refine⟨rfl,λgR Yx=>?_⟩;cases Yx;rw[ws (g.aV _ Yk.1) (g.aV _ u.1)]at y;omega
  obtain⟨Ys,Yy⟩:=Ys;obtain⟨K,Yn,Yr⟩:=oX g.aV Ys;have o:=(W m K).s2 Yn;refine .inl ⟨rfl,λs T i=>?_,?_⟩
  .by_cases f:∃L∈Y,G.ed L.bh s
   .obtain⟨L,X,f⟩:=f;have Yl:s<=bk m.b0:=by
     rcases(W L X).ed s T f with⟨Z,l⟩|⟨Z,l⟩
     .have:=Yr L X Z;omega
     .cases U:ao 1 Y with
      |none=>exact absurd Z (yg U L X)
      |some a=>
       have l1:=Yy a U;have kP:=(oX g.aV U).2.2 L X Z;omega
    by_cases c9:s=bk m.b0
    .rw[c9];exact .inr o
    .exact h.wq _ _ o s ac i
   .exact .inl (E s T f)
  .by_cases Yu:bk m.b0=R
   .exact .inr (.inr (.inl ⟨_,by rw[Yu]at o;exact o⟩))
   .exact h.wr _ _ o Yu
 |none=>
  have Yv:∀m,ao 2 Y=some m->∃a,ao 1 Y=some a/\bk m.b0<bk a.b0:=by
   intro m N;unfold mO at C;rw[N]at C;dsimp only at C;cases U:ao 1 Y with
   |none=>rw[U]at C;cases C
   |some a=>
    rw[U]at C;dsimp only at C;split at C
    .rename_i y;exact⟨a,rfl,(ws (g.aV _ (oX g.aV N).1) (g.aV _ (oX g.aV U).1)).1 y⟩
    .cases C
  have J:∀a,ao 1 Y=some a->∃c,G.pre (bk a.b0) c:=λa u=>((W a (oX g.aV u).1).s1 (oX g.aV u).2.1).1;have P:∀s,s<b->n1 R s->rW n F B G s:=by
   intro s T i;by_cases f:∃L∈Y,G.ed L.bh s
   .obtain⟨L,X,f⟩:=f;have:∃a,ao 1 Y=some a/\s<bk a.b0:=by
     rcases(W L X).ed s T f with⟨Z,l⟩|⟨Z,l⟩
     .cases N:ao 2 Y with
      |none=>exact absurd Z (yg N L X)
      |some m=>
       obtain⟨a,u,y⟩:=Yv m N;have:=(oX g.aV N).2.2 L X Z;exact⟨a,u,ac⟩
     .cases U:ao 1 Y with
      |none=>exact absurd Z (yg U L X)
      |some a=>
       have:=(oX g.aV U).2.2 L X Z;exact⟨a,rfl,ac⟩
    obtain⟨a,u,y⟩:=this;obtain⟨c,dE⟩:=J a u;exact(h.ka _ c dE (e2 s _ i y)).1 s y i
   .exact E s T f
  have q:¬(∃m t,kY x Y=m::t/\F<=((t.length+1:Nat):Int))->pw n R B G:=by
   intro w;by_cases Yt:∃a,ao 1 Y=some a/\bk a.b0≠R
   .obtain⟨a,u,Ye⟩:=Yt;obtain⟨c,dE⟩:=J a u;exact(h.ka _ c dE Ye).2
   .have Yz:ao 2 Y=none:=by
     cases N:ao 2 Y with
     |none=>rfl
     |some m=>
      obtain⟨a,u,y⟩:=Yv m N;have K:=oX g.aV N;have i:=h.jS _ _ ((W m K.1).s2 K.2.1);exact absurd ⟨a,u,e2 _ _ i y⟩ Yt
    by_cases D:∃m∈Y,m.bh=R
    .obtain⟨m,K,c9⟩:=D;have:=Ah m K;rw[c9]at this;exact .inl ac
    .have b7:kY x Y=Y.filter (j5 x):=by unfold kY;rw[aM];intro Z;obtain⟨m,K,c9⟩:=List.any_eq_true.1 Z;exact D ⟨m,K,by rw[<-b3];simpa using c9⟩
     have y:((Y.filter (j5 x)).length:Int)<F:=by
      cases aW:Y.filter (j5 x)with
      |nil=>simp;omega
      |cons m t=>
       by_cases Z:F<=((t.length+1:Nat):Int)
       .exact absurd ⟨m,t,by rw[b7,aW],Z⟩ w
       .rw[dD];omega
     have Yf:=JA (j5 x) Y;have M:(Y.filter λm=>!j5 x m).Sublist Y:=Bg;have p:∀m∈Y.filter (λm=>!j5 x m),m∈Y/\¬G.cF m.bh:=by
      intro m K;have d:=oz.1 K;refine⟨d.1,λYo=>?_⟩;have cu:=W m d.1;have l1:=cu.Ad;have Yp:=yg Yz m d.1;have Yi:m.Status=1->bk m.b0<=R:=by
       intro l;cases U:ao 1 Y with
       |none=>exact absurd l (yg U m d.1)
       |some a=>
        have kP:=(oX g.aV U).2.2 m d.1 l;have oy:bk a.b0=R:=by
         by_cases mP:bk a.b0=R
         .exact mP
         .exact absurd ⟨a,U,mP⟩ Yt
        omega
      rcases cu.cF ac Yo with⟨kP,oy⟩|⟨kP,oy⟩|⟨kP,oy,mP⟩
      .have:=Yi ac;omega
      .exact Yp oy
      .have:j5 x m=true:=by unfold j5;have dx:m.b0=⟨0,x.a1⟩:=Jz (g.aV m d.1) (by rw[b3];simp[cH];omega) (by rw[b3,oW];exact kP);rw[mP,ic oy,ic dx];rfl
       rw[this]at d;simp at d
     match aW:Y.filter (λm=>!j5 x m)with
     |[]=>rw[aW,gv]at Yf;omega
     |[_]=>rw[aW]at Yf;simp only[dD,gv]at Yf;omega
     |lh::lJ::t=>
      rw[aW]at p M;have Yg:((lh::lJ::t).map (·.bh)).Nodup:=g.jN.sublist (M.map _);simp only[e7,la,dk,qw]at Yg;obtain⟨kU,rE⟩:=p lh gS;obtain⟨JB,agK⟩:=p lJ (hI _ gS);refine .inr (.inr ⟨lh.bh,lJ.bh,Yg.1.1,⟨g.jO lh kU,g.jO lJ JB⟩,⟨?_,rE⟩,⟨?_,agK⟩⟩)
      .have:=Ah lh kU;omega
      .have:=Ah lJ JB;omega
  rw[Q,C];dsimp only;have k:¬(∃m t,kY x Y=m::t/\F<=((t.length+1:Nat):Int))->∀r:Int×aN,r=(match ao 1 Y with
     |none=>(2,aN.z)
     |some a=>(3,gH a.Call Y))->(r.1=2/\(∀s,s<b->n1 R s->Safe n F B G s r.2)/\(G.pre R r.2\/pw n R B G))\/(r.1=3/\(∀s,s<b->n1 R s->rW n F B G s)/\pw n R B G):=by
   intro w r c1
   cases U:ao 1 Y with
   |none=>
    rw[U]at c1;subst c1;exact .inl ⟨rfl,λs T i=>.inl (P s T i),.inr (q w)⟩
   |some a=>
    rw[U]at c1;subst c1;exact .inr ⟨rfl,P,q w⟩
  cases Yj:kY x Y with
  |nil=>
   dsimp only;exact k (by rintro⟨m,t,Z,_⟩;rw[Yj]at Z;cases Z) _ rfl
  |cons m t=>
   dsimp only;by_cases Ym:F<=((t.length+1:Nat):Int)
   .rw[aQ Ym];have K:m∈Y/\j5 x m=true:=by
     have Z:m∈kY x Y:=by rw[Yj];exact gS
     unfold kY at Z;split at Z
     .cases Z
     .exact oz.1 Z
    have cu:=K.2;unfold j5 at cu;simp only[c5,dl]at cu;exact .inl ⟨rfl,λs T i=>.inl (P s T i),.inl (((W m K.1).s1 cu.1).2 cu.2.1).2⟩
   .rw[aM Ym];refine k ?_ _ rfl;rintro⟨rp,ab7,Z,l⟩;rw[Yj]at Z;cases Z;exact Ym l
end
end Go.Proofs.YteogojgnkjegmaaGreatDoor
namespace Go.Proofs.YteogojgnkjegmaaGreatDoor
open Go.ay Go.Proofs.Tryz
variable[Go.ay.b4]
def tf(Q:aN->Prop):Prop:=∀c d,Q c->Q d->Q (li c d)
structure hk(R:Int)(G:c7)(Q:aN->Prop)(m:aD):Prop where
 q:i6 m.Kind.toNat=true->Q m.Call
 gF:m.Kind=1->G.pre (bk m.bB) m.Call
 g2:m.Kind=2->m.cL=true->bk m.bB=R/\G.cF m.bh
 pv:m.Kind=3->G.acc (bk m.bB) m.Call
 s7:m.Kind=4->G.ed m.bh (bk m.bB)
 js:m.Kind=6->8<=bk m.bB/\m.bB.a1=m.bh
 mW:m.Kind=7->G.eD m.bh (bk m.bB) (bk m.b0) m.Status m.Call m.cL/\cH m.b0 7=true
structure jv(n R:Int)(G:c7)(Q:aN->Prop)(i:Int)(x:ag)(l:a6):Prop where
 hl:ip l n i x l.bj
 fb:l.bj.a1=i
 q:Q l.call
 px:∀p∈fD l.pl l.dB,Q p.2.Call/\(p.1:Int)<n/\(p.2.cL=true->bk l.bj=R->G.cF p.1)
 ft:∀k:Nat,l.ft.getD k false=true->(k:Int)<n/\G.ed k (bk l.bj)
 oO:l.phase=1->G.pre (bk l.bj) l.call/\∀c,¬G.acc (bk l.bj) c
 oG:l.phase=2->G.acc (bk l.bj) l.call
section
variable{n F R:Int}{B U:Int->aX}{G Y:c7}{Q:aN->Prop}{i:Int}{x:ag}{l:a6}{m:aD}
def jv.mono(h:jv n R G Q i x l)(cu:∀b c,G.pre b c->Y.pre b c)(fI:∀b c,G.acc b c->Y.acc b c)(r0:∀j b,G.ed j b->Y.ed j b)(r1:∀j,G.cF j->Y.cF j)(cM:∀c,Y.acc (bk l.bj) c->G.acc (bk l.bj) c):jv n R Y Q i x l where
 hl:=h.hl
 fb:=h.fb
 q:=h.q
 px p cu:=⟨(h.px p cu).1,(h.px p cu).2.1,λbg bY=>r1 _ ((h.px p cu).2.2 bg bY)⟩
 ft k cc:=⟨(h.ft k cc).1,r0 _ _ (h.ft k cc).2⟩
 oO bg:=⟨cu _ _ (h.oO bg).1,λc dE=>(h.oO bg).2 c (cM c dE)⟩
 oG bg:=fI _ _ (h.oG bg)
def hk.mono(h:hk R G Q m)(cu:∀b c,G.pre b c->Y.pre b c)(fI:∀b c,G.acc b c->Y.acc b c)(r0:∀j b,G.ed j b->Y.ed j b)(r1:∀j,G.cF j->Y.cF j)(ye:∀j b v st c sm,G.eD j b v st c sm->Y.eD j b v st c sm):hk R Y Q m where
 q:=h.q
 gF bg:=cu _ _ (h.gF bg)
 g2 bg bY:=⟨(h.g2 bg bY).1,r1 _ (h.g2 bg bY).2⟩
 pv bg:=fI _ _ (h.pv bg)
 s7 bg:=r0 _ _ (h.s7 bg)
 js:=h.js
 mW bg:=⟨ye _ _ _ _ _ _ (h.mW bg).1,(h.mW bg).2⟩
def JC{t:Type}{l:ab t}{h:ab Bool}:∀k,∀p∈iW l h k,p.1<k
 |0,p,z=>by simp[iW]at z
 |k+1,p,z=>by
  rw[oL,fd]at z;rcases z with z|z
  .have:=JC k p z;omega
  .rw[Option.mem_toList]at z;unfold i7 at z;split at z
   .cases J:l[k]? with
    |none=>rw[J]at z;cases z
    |some y=>rw[J]at z;cases z;exact Nat.lt_succ_self _
   .cases z
def DD{t:Type}{l:ab t}{h:ab Bool}:∀k,((iW l h k).map (·.1)).Nodup
 |0=>by simp[iW]
 |k+1=>by
  rw[oL,jo,hH];refine⟨DD k,?_,?_⟩
  .cases i7 l h k<;>simp
  .intro a K b X e;obtain⟨p,z,rfl⟩:=eS.1 K;have J:=JC k p z;obtain⟨q,aW,rfl⟩:=eS.1 X;rw[Option.mem_toList]at aW;unfold i7 at aW;split at aW
   .cases N:l[k]? with
    |none=>rw[N]at aW;cases aW
    |some y=>rw[N]at aW;cases aW;dsimp only at e;omega
   .cases aW
def JD{l:ab Nat}(h:l.Nodup):(l.map λk:Nat=>(k:Int)).Nodup:=by
 induction l with
 |nil=>exact pK
 |cons a l d=>
  rw[la]at h;rw[e7,la];refine⟨λJ=>?_,d h.2⟩;obtain⟨b,X,L⟩:=eS.1 J;have:b=a:=ac
  exact h.1 (this▸X)
def JE{t:Type}{l:ab t}{h:ab Bool}{k:Int}{p:Int->Prop}(f:Nat×t->Bool)(u:k<=(((fD l h).filter f).length:Int))(z:∀q∈fD l h,f q=true->(q.1:Int)<n/\p q.1):nu n k p:=by
 refine⟨((fD l h).filter f).map λq=>(q.1:Int),?_,λj y=>?_,by rw[eT];exact u⟩
 .have J:(((fD l h).filter f).map (·.1)).Nodup:=(DD 7).sublist ((Bg).map _);have N:=JD J;rw[uq]at N;exact N
 .obtain⟨q,aW,rfl⟩:=eS.1 y;have aW:=oz.1 aW;have:=z q aW.1 aW.2;exact⟨⟨ac,this.1⟩,this.2⟩
def JF(o:tf Q):∀(Z:ab (Nat×aD)) (c:aN),Q c->(∀p∈Z,Q p.2.Call)->Q (Z.foldl (λc p=>li c p.2.Call) c)
 |[],c,h,_=>h
 |p::Z,c,h,J=>JF o Z _ (o _ _ h (J p gS)) λq aW=>J q (hI _ aW)
def DE(k:Nat):¬(List.replicate 7 false).getD k false=true:=by rw[km,yX];split<;>simp
def DF{n X:Int}{x:ag}{b:bm}{c:aN}{p:Int}{k:Nat}(h:(iC n X x b c p).ft.getD k false=true):False:=DE k h
def DG{n X:Int}{x:ag}{b:bm}{c:aN}{p:Int}{q:Nat×aD}(h:q∈fD (iC n X x b c p).pl (iC n X x b c p).dB):False:=DE q.1 (x9 h).1
def jv.ZO(Z:e6 n F R B G)(f:0<=R/\R<8)(o:tf Q)(h:jv n R G Q i x l)(J:l.phase=1):e6 n F R B (G.VA (bk l.bj) l.jM.call)/\jv n R (G.VA (bk l.bj) l.jM.call) Q i x l.jM:=by
 have z:=h.oO J;have W:=Z.jR _ _ z.1;have f:ip l.jM n i x l.bj:=⟨a6.W0 h.hl.wf,h.hl.n,h.hl.self,h.hl.item,rfl,.inr (.inl rfl)⟩
 refine⟨Z.ZM z.2 W ?_ ?_ ?_ ?_,f,h.fb,JF o _ _ h.q (λp z=>(h.px p z).1),h.px,h.ft,λN=>absurd N (by show(2:Int)≠1;omega),λ_=>.inr ⟨rfl,rfl⟩⟩
 .intro s T u;by_cases X:bk l.bj=R
  .exfalso;rcases u with u|u<;>omega
  .exact .inl ((Z.ka _ _ z.1 X).1 s T u)
 .intro X;exact .inr (Z.ka _ _ z.1 X).2
 .intro X;exact Z.own _ _ (.inr z.1) X
 .intro X;exact⟨_,X▸z.1⟩
inductive py(n F R:Int)(G:c7)(l ij:a6):Bool->c7->Prop where
 |same (bg:ij.phase=l.phase) (bY:ij.call=l.call):py n F R G l ij false G
 |jM (eE:l.phase=1) (bg:ij.phase=2):py n F R G l ij true (G.VA (bk l.bj) ij.call)
 |tc (eE:l.phase=1) (bg:ij.phase=3) (bY:ij.call=l.call) (bH:l.bj=⟨0,R⟩) (b7:nu n (2*F) G.cF):py n F R G l ij true G
 |done(eE:l.phase=2) (bg:ij.phase=3) (bY:ij.call=l.call) (b7:rY n F G l.call):py n F R G l ij true G
 |lost (eE:l.phase≠3) (bg:ij.phase=4) (bY:ij.call=l.call):py n F R G l ij true G
def jv.y'(C:e6 n F R B G)(ew:0<=R/\R<7)(b3:x.a1=R)(kX:tf Q)(t:cY n=F)(h:jv n R G Q i x l)(W:hk R G Q m)(kO:m.Kind≠5):∃Y,py n F R G l (l.y' m).1 (l.y' m).2 Y/\e6 n F R B Y/\jv n R Y Q i x (l.y' m).1:=by
 have s:=tZ h.hl m;unfold a6.y' at s⊢;have M:∀y:a6×Bool,y=(l,false)->∃Y,py n F R G l y.1 y.2 Y/\e6 n F R B Y/\jv n R Y Q i x y.1:=by rintro _ rfl;exact⟨G,.same rfl rfl,C,h⟩
 split
 .exact M _ rfl
 rename_i r;rw[aM r]at s;simp only[qw]at r;obtain⟨vG,wt,zv,SY,JG⟩:=r;have c:0<=m.bh/\m.bh<n:=⟨ac,by rw[<-h.hl.n];omega⟩
 rw[aM kO]at s;split
 .rename_i z;rw[aQ z]at s;exact⟨G,.lost ac rfl rfl,C,⟨s,h.fb,h.q,h.px,h.ft,λJ=>absurd J (by show(4:Int)≠1;omega),λJ=>absurd J (by show(4:Int)≠2;omega)⟩⟩
 rename_i z;rw[aM z]at s;split
 .exact M _ rfl
 rename_i bH;rw[aM bH]at s;have Yc:m.bB=l.bj:=Decidable.not_not.1 bH;split
 .rename_i u;rw[aQ u]at s;obtain⟨L,X⟩:=u;unfold a6.UM at s⊢;split
  .rename_i f;rw[aQ f]at s;obtain⟨hV,jm⟩:=aiG h.hl.wf f;have P:=HD (m:=m) hV h.hl.wf.pl jm;have Z:∀p∈fD (l.put m.bh m).pl (l.put m.bh m).dB,Q p.2.Call/\(p.1:Int)<n/\(p.2.cL=true->bk l.bj=R->G.cF p.1):=by
    intro p cu;have K:p∈(m.bh.toNat,m)::fD l.pl l.dB:=P.mem_iff.1 cu;rcases dk.1 K with rfl|K
    .have e:((m.bh.toNat:Nat):Int)=m.bh:=by omega
     refine⟨W.q (by rw[L];rfl),Lk,λJ _=>?_⟩;dsimp only;rw[e];exact(W.g2 L J).2
    .exact h.px p K
   have v:jv n R G Q i x (l.put m.bh m):=
    ⟨⟨h.hl.wf.put f m,h.hl.n,h.hl.self,h.hl.item,rfl,h.hl.phase⟩,h.fb,h.q,Z,h.ft,h.oO,h.oG⟩
   split
   .rename_i g;rw[aQ g]at s;obtain⟨b,E⟩:=g;have j:l.bj=⟨0,R⟩:=by have:l.bj=⟨0,l.item.a1⟩:=wK b;rw[this,h.hl.item,b3]
    have Ye:bk l.bj=R:=by rw[j,oW]
    refine⟨G,.tc X rfl rfl j ?_,C,⟨s,h.fb,h.q,Z,h.ft,λJ=>absurd J Pf,λJ=>absurd J L4⟩⟩;refine JE (l:=(l.put m.bh m).pl) (h:=(l.put m.bh m).dB) (λp=>p.2.cL) ?_ λq aW b7=>⟨(Z q aW).2.1,(Z q aW).2.2 b7 Ye⟩
    have e:(l.put m.bh m).n=n:=h.hl.n;have bv:l.n=n:=h.hl.n;rw[bv,t]at E;exact E
   .rename_i g;rw[aM g]at s;split
    .exact⟨G,.same rfl rfl,C,v⟩
    .rename_i mP;rw[aM mP]at s;split
     .obtain⟨jY,gb⟩:=v.ZO C ⟨ew.1,ac⟩ kX X;exact⟨_,.jM X rfl,jY,gb⟩
     .exact⟨G,.same rfl rfl,C,v⟩
  .exact M _ rfl
 rename_i u;rw[aM u]at s;split
 .rename_i N;rw[aQ N]at s;obtain⟨N,d⟩:=N;split
  .rename_i f;rw[aQ f]at s;obtain⟨hV,jm,x2⟩:=a6.Wz.1 f;have a:G.ed m.bh (bk l.bj):=by rw[<-Yc];exact W.s7 N
   have w:∀k:Nat,(l.U4 m.bh).ft.getD k false=true->(k:Int)<n/\G.ed k (bk l.bj):=by
    intro k u;have T:(l.ft.set m.bh.toNat true).getD k false=true:=u;by_cases c9:k=m.bh.toNat
    .have e:(k:Int)=m.bh:=by omega
     rw[e];exact⟨c.2,a⟩
    .rw[km,De ac,<-km]at T;exact h.ft k T
   have o:=h.hl.wf.U4 f;split
   .rename_i D;rw[aQ D]at s;refine⟨G,.done d rfl rfl ⟨_,h.oG d,?_⟩,C,⟨s,h.fb,h.q,h.px,w,λJ=>absurd J Pf,λJ=>absurd J L4⟩⟩;refine JE (l:=(l.U4 m.bh).ol) (h:=(l.U4 m.bh).ft) (λ_=>true) ?_ λq aW _=>w q.1 (x9 aW).1;rw[w1.2 (λ_ _=>rfl),Jc o.ol o.ft,<-o.fZ];have e:l.n=n:=h.hl.n;rw[e,t]at D;exact D
   .exact⟨G,.same rfl rfl,C,⟨⟨o,h.hl.n,h.hl.self,h.hl.item,rfl,h.hl.phase⟩,h.fb,h.q,h.px,w,h.oO,h.oG⟩⟩
  .exact M _ rfl
 .exact M _ rfl
def jv.late(Z:e6 n F R B G)(f:0<=R/\R<7)(o:tf Q)(h:jv n R G Q i x l):∃Y,((Y=G/\l.late.1=l)\/(l.phase=1/\l.late.1=l.jM/\Y=G.VA (bk l.bj) l.jM.call))/\e6 n F R B Y/\jv n R Y Q i x l.late.1:=by
 unfold a6.late;split
 .rename_i J;obtain⟨s,q⟩:=h.ZO Z ⟨f.1,ac⟩ o J.1;exact⟨_,.inr ⟨J.1,rfl,rfl⟩,s,q⟩
 .exact⟨G,.inl ⟨rfl,rfl⟩,Z,h⟩
end
end Go.Proofs.YteogojgnkjegmaaGreatDoor
namespace Go.Proofs.YteogojgnkjegmaaGreatDoor
open Go.ay Go.Proofs.Tryz
variable[Go.ay.b4]
def kA(n F R:Int)(B:Int->aX)(G:c7)(c:aN):Prop:=rY n F G c\/(rZ n F R B G c/\(B R).Status=3/\(B R).Call=c)
structure n2(n F R:Int)(B:Int->aX)(G:c7)(Q:aN->Prop)(i:Int)(x:ag)(r:bL):Prop where
 ok:r.ok
 e4:r.x.n=n
 self:r.x.self=i
 item:r.x.item=x
 ls:r.x.lost=false
 hE:8<=bk r.x.bj
 fb:r.x.bj.a1=i
 no:r.k0=none->(∀c,¬G.acc (bk r.x.bj) c/\¬G.pre (bk r.x.bj) c)/\∀p∈fD r.x.fz r.x.ey,(p.2.bh=(p.1:Int)/\(p.1:Int)<n)/\(Q p.2.Call/\cH p.2.b0 7=true)/\G.eD p.2.bh (bk r.x.bj) (bk p.2.b0) p.2.Status p.2.Call p.2.cL
 uI:∀l,r.k0=some l->jv n R G Q i x l/\(l.phase=1\/l.phase=2\/l.phase=3)/\(l.phase=3->kA n F R B G l.call)
def oY(b:Int)(G Y:c7):Prop:=Y=G\/(∃c,Y=G.VA b c)\/∃c,Y=G.U8 b c
section
variable{n F R:Int}{B U:Int->aX}{G Y:c7}{Q:aN->Prop}{i:Int}{x:ag}{r:bL}{m:aD}{b:Int}
def oY.ext(h:oY b G Y):gI R B G B Y:=by
 rcases h with rfl|⟨c,rfl⟩|⟨c,rfl⟩
 .exact gI.rfl
 .exact Jx b c
 .exact Jy b c
def oY.acc(h:oY b G Y){s:Int}{c:aN}(X:s≠b)(K:Y.acc s c):G.acc s c:=by
 rcases h with rfl|⟨g,rfl⟩|⟨g,rfl⟩
 .exact K
 .exact K.resolve_right λh=>X h.1
 .exact K
def oY.pre(h:oY b G Y){s:Int}{c:aN}(X:s≠b)(K:Y.pre s c):G.pre s c:=by
 rcases h with rfl|⟨g,rfl⟩|⟨g,rfl⟩
 .exact K
 .exact K
 .exact K.resolve_right λh=>X h.1
def py.more{l X:a6}{t:Bool}(h:py n F R G l X t Y):oY (bk l.bj) G Y:=by
 cases h with
 |same=>exact .inl rfl
 |jM=>exact .inr (.inl ⟨_,rfl⟩)
 |tc=>exact .inl rfl
 |done=>exact .inl rfl
 |lost=>exact .inl rfl
def n2.mono(h:n2 n F R B G Q i x r)(e:gI R B G U Y)(cM:∀c,(Y.acc (bk r.x.bj) c->G.acc (bk r.x.bj) c)/\(Y.pre (bk r.x.bj) c->G.pre (bk r.x.bj) c))(dR:∀c,kA n F R B G c->kA n F R U Y c):n2 n F R U Y Q i x r where
 ok:=h.ok
 e4:=h.e4
 self:=h.self
 item:=h.item
 ls:=h.ls
 hE:=h.hE
 fb:=h.fb
 no bg:=⟨λc=>⟨λbY=>((h.no bg).1 c).1 ((cM c).1 bY),λbY=>((h.no bg).1 c).2 ((cM c).2 bY)⟩,λp cu=>⟨((h.no bg).2 p cu).1,((h.no bg).2 p cu).2.1,e.eD _ _ _ _ _ _ ((h.no bg).2 p cu).2.2⟩⟩
 uI l dz:=by obtain⟨bg,bY,cd⟩:=h.uI l dz;have bH:=(h.ok.cw l dz).bj;exact⟨bg.mono e.pre e.acc e.ed e.cF (λc dE=>by rw[bH]at dE⊢;exact(cM c).1 dE),bY,λgX=>dR _ (cd gX)⟩
def JH(W:tf Q):∀(Z:ab aD) (c:aN),Q c->(∀m∈Z,Q m.Call)->Q (gH c Z)
 |[],c,h,_=>h
 |m::Z,c,h,J=>by
  show Q (gH (if m.Status=1 then li c m.Call else c) Z)
  refine JH W Z _ ?_ λo p=>J o (hI _ p);split
  .exact W _ _ h (J m gS)
  .exact h
def Ai{st:Int}{Z:ab aD}{a:aD}(h:ao st Z=some a):a∈Z:=by have:=Cc st Z;rw[h]at this;obtain⟨i,J,_⟩:=this;exact jX J
def acD(o:tf Q)(M:Q aN.z){Z:ab aD}(J:∀m∈Z,Q m.Call):Q (choose n x Z).2:=by
 unfold choose;split
 .exact M
 have v:Q (match ao 1 Z with
     |none=>((2:Int),aN.z)
     |some a=>(3,gH a.Call Z)).2:=by
  split
  .exact M
  .rename_i a X
   exact JH o Z _ (J a (Ai X)) J
 split
 .rename_i m K;exact J m (Ai K)
 .split
  .rename_i m K;refine J m ?_;unfold mO at K;split at K
   .rename_i T N;split at K
    .split at K
     .cases K
     .cases K;exact Ai N
    .cases K;exact Ai N
   .cases K
  .split
   .rename_i m t q;split
    .refine J m ?_;have:m∈kY x Z:=by rw[q];exact gS
     unfold kY at this;split at this
     .cases this
     .exact(oz.1 this).1
    .exact v
   .exact v
structure JI(n F R:Int)(B:Int->aX)(G:c7)(Q:aN->Prop)(i:Int)(x:ag)(r nx:bL)(t:Bool)(Y:c7):Prop where
 g:oY (bk r.x.bj) G Y
 core:e6 n F R B Y
 b:nx.x.bj=r.x.bj
 ok:nx.lost=false->n2 n F R B Y Q i x nx
 go:t=true->nx.lost=false->∃l,nx.k0=some l
 no:t=false->nx.lost=false
def n2.y'(u:e6 n F R B G)(cM:n=2*F+1)(c2:1<=F)(Yc:n<=7)(ew:0<=R/\R<n)(ao:0<=i/\i<n)(b3:x.a1=R)(kX:tf Q)(Yo:Q aN.z)(Yi:cY n=F)(h:n2 n F R B G Q i x r)(dO:hk R G Q m)(kO:m.Kind≠5) (hz:m.Kind=7->m.bB=r.x.bj->bk r.x.bj<=bk (B i).bO):∃Y,JI n F R B G Q i x r (r.y' m).1 (r.y' m).2 Y:=by
 have Ym:0<=R/\R<7:=ac
 have Yl:bk r.x.bj≠R:=by have:=h.hE;omega
 have Yp:bk r.x.bj%8=i:=by have:=h.fb;unfold bk;omega
 have M:∀y:bL×Bool,y=(r,false)->∃Y,JI n F R B G Q i x r y.1 y.2 Y:=by
  rintro _ rfl;refine⟨G,.inl rfl,u,rfl,λ_=>h,λZ=>PF,λ_=>?_⟩;unfold bL.lost;rw[h.ls,wI];cases T:r.k0 with
  |none=>rfl
  |some l=>
   have:=(h.uI l T).2.1;simp;omega
 have J:=h.ok.y' m;unfold bL.y' at J⊢;split
 .exact M _ rfl
 rename_i E;rw[aM E]at J;have E:=bV.Wc E;cases T:r.k0 with
 |some l=>
  rw[T]at J;dsimp only at J⊢;obtain⟨Z,bY,cd⟩:=h.uI l T;have Yf:l.bj=r.x.bj:=(h.ok.cw l T).bj;obtain⟨Y,jY,gb,a3⟩:=Z.y' u Ym b3 kX Yi dO kO;have Yh:oY (bk r.x.bj) G Y:=Yf▸jY.more;refine⟨Y,Yh,gb,rfl,λc=>?_,λ_ _=>⟨_,rfl⟩,λcN=>?_⟩
  .have Ye:(l.y' m).1.phase≠4:=by unfold bL.lost at c;dsimp only at c;rw[Cv]at c;simpa using c.2
   refine⟨J,h.e4,h.self,h.item,h.ls,h.hE,h.fb,(λK=>by cases K),λij N=>?_⟩;cases N;refine⟨a3,?_,λK=>?_⟩
   .have:=a3.hl.phase;omega
   .generalize(l.y' m).1=ij at*;generalize(l.y' m).2=t at*;cases jY with
    |same hB kr=>rw[kr];exact cd ac
    |jM _ hB=>omega
    |tc _ _ _ ks=>exact absurd (by rw[<-Yf,ks,oW]) Yl
    |done _ _ ik ks=>rw[ik];exact .inl ks
    |lost _ hB _=>omega
  .unfold bL.lost;dsimp only;rw[h.ls,wI];generalize(l.y' m).1=ij at*;rw[cN]at jY;cases jY with
   |same hB kr=>simp;omega
 |none=>
  rw[T]at J;dsimp only at J⊢;rw[aM kO]at J;split
  .refine⟨G,.inl rfl,u,rfl,λZ=>?_,λ_ Z=>?_,λZ=>PF⟩
   .unfold bL.lost at Z;simp at Z
   .unfold bL.lost at Z;simp at Z
  rename_i oy;rw[aM oy]at J;split
  .rename_i kP;rw[aQ kP]at J;obtain⟨s,Yk⟩:=kP;split
   .exact M _ rfl
   rename_i W;rw[aM W]at J;obtain⟨vS,S0⟩:=h.no T;have Yg:0<=m.bh/\m.bh<n:=⟨E.f0,by rw[<-h.e4];exact E.fn⟩
   have Yq:r.x.ey[m.bh.toNat]?=some false:=by
    have dz:m.bh.toNat<r.x.ey.length:=by rw[h.ok.w.ey];omega
    obtain⟨v,dU⟩:=cl (t:=r.x.ey) dz;rw[km,dU]at W;rw[dU];cases v
    .rfl
    .exact absurd rfl W
   have j:(fD (eC r.x m).fz (eC r.x m).ey).Perm ((m.bh.toNat,m)::fD r.x.fz r.x.ey):=HD ac h.ok.w.fz Yq;have Yr:cH m.b0 7=true:=(dO.mW s).2;have a:∀p∈fD (eC r.x m).fz (eC r.x m).ey,(p.2.bh=(p.1:Int)/\(p.1:Int)<n)/\(Q p.2.Call/\cH p.2.b0 7=true)/\G.eD p.2.bh (bk r.x.bj) (bk p.2.b0) p.2.Status p.2.Call p.2.cL:=by
    intro p P;rcases dk.1 (j.mem_iff.1 P)with rfl|P
    .refine⟨⟨Lk,Lk⟩,⟨dO.q (by rw[s];rfl),Yr⟩,?_⟩;rw[<-Yk];exact(dO.mW s).1
    .exact S0 p P
   split
   .rename_i cG;rw[aQ cG]at J;refine⟨G,.inl rfl,u,rfl,λ_=>⟨J,h.e4,h.self,h.item,h.ls,h.hE,h.fb,λ_=>⟨vS,a⟩,λl dz=>by cases dz⟩,λZ=>PF,λ_=>?_⟩;show(r.x.lost||false)=false
    rw[h.ls];rfl
   .rename_i cG;rw[aM cG]at J;have L:DC n F R B G (bk r.x.bj) (eC r.x m).list:=by
     unfold bV.list;refine⟨?_,λo X=>?_,λo X=>?_,λo X=>?_⟩
     .rw[uq];have Z:=JD (DD (l:=(eC r.x m).fz) (h:=(eC r.x m).ey) 7);rw[uq]at Z;have e:(fD (eC r.x m).fz (eC r.x m).ey).map ((λo:aD=>o.bh)∘λp=>p.2)=(fD (eC r.x m).fz (eC r.x m).ey).map ((λk:Nat=>(k:Int))∘λp=>p.1):=
       C5 λp P=>(a p P).1.1
      rw[e];exact Z
     .obtain⟨p,P,rfl⟩:=eS.1 X;have:=(a p P).1;omega
     .obtain⟨p,P,rfl⟩:=eS.1 X;exact(a p P).2.2
     .obtain⟨p,P,rfl⟩:=eS.1 X;exact(a p P).2.1.2
    have Yn:Q (eC r.x m).U1:=acD kX Yo λo X=>by obtain⟨p,P,rfl⟩:=eS.1 X;exact(a p P).2.1.1
    have D:bk r.x.bj≠R->bk r.x.bj<=bk (B (bk r.x.bj%8)).bO:=λ_=>by rw[Yp];exact hz s Yk
    have f:(eC r.x m).n=n:=h.e4;have d:(eC r.x m).item=x:=h.item;have Yj:(choose n x (eC r.x m).list).1≠0:=by have:(eC r.x m).iO≠0:=cG;unfold bV.iO at this;rwa[f,d]at this
    have g:(eC r.x m).iO=(choose n x (eC r.x m).list).1:=by unfold bV.iO;rw[f,d]
    have C:(eC r.x m).U1=(choose n x (eC r.x m).list).2:=by unfold bV.U1;rw[f,d]
    rcases L.Cz u cM c2 Yi ew Yc h.hE b3 Yj with⟨eX,oo,m2⟩|⟨eX,oo,m2⟩
    .have e:(eC r.x m).UR=iC n i x r.x.bj (eC r.x m).U1 2:=by
      unfold bV.UR;rw[g,eX,aM ac,aM ac];show iC r.x.n r.x.self r.x.item r.x.bj _ 2=_
      rw[h.e4,h.self,h.item]
     refine⟨G.VA (bk r.x.bj) (eC r.x m).U1,.inr (.inl ⟨_,rfl⟩),u.ZM (λcx=>(vS cx).1) (.inr h.hE) (by rw[C];exact oo) (λ_=>by rw[C];exact m2) D (λK=>absurd K Yl),rfl,λ_=>?_,λ_ _=>⟨_,rfl⟩,λZ=>PF⟩;refine⟨J,h.e4,h.self,h.item,h.ls,h.hE,h.fb,λK=>(by cases K),λij N=>?_⟩;cases N;rw[e];exact⟨⟨rL n i x r.x.bj _ 2,h.fb,Yn,λp P=>(DG P).elim,λk cc=>(DF cc).elim,λK=>absurd K (by show(2:Int)≠1;omega),λ_=>.inr ⟨rfl,rfl⟩⟩,.inr (.inl rfl),λK=>absurd K (by show(2:Int)≠3;omega)⟩
    .have e:(eC r.x m).UR=iC n i x r.x.bj (eC r.x m).U1 1:=by
      unfold bV.UR;rw[g,eX,aM ac,aQ rfl];show iC r.x.n r.x.self r.x.item r.x.bj _ 1=_
      rw[h.e4,h.self,h.item]
     refine⟨G.U8 (bk r.x.bj) (eC r.x m).U1,.inr (.inr ⟨_,rfl⟩),u.ZN (λcx=>(vS cx).2) (.inr h.hE) (λ_=>⟨oo,m2⟩) D,rfl,λ_=>?_,λ_ _=>⟨_,rfl⟩,λZ=>PF⟩;refine⟨J,h.e4,h.self,h.item,h.ls,h.hE,h.fb,λK=>(by cases K),λij N=>?_⟩;cases N;rw[e];exact⟨⟨rL n i x r.x.bj _ 1,h.fb,Yn,λp P=>(DG P).elim,λk cc=>(DF cc).elim,λ_=>⟨.inr ⟨rfl,rfl⟩,λc q=>(vS c).1 q⟩,λK=>absurd K Kd⟩,.inl rfl,λK=>absurd K RD⟩
  .exact M _ rfl
end
end Go.Proofs.YteogojgnkjegmaaGreatDoor
