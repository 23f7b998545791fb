/-
 Part of the proof.
-/
import Derived.Test.YteogojgnkjegmaaGreatDoorAu
set_option linter.all false
set_option maxRecDepth 8000
set_option maxHeartbeats 8000000
namespace Go.Proofs.YteogojgnkjegmaaGreatDoor
open Go.ay Go.Proofs.Tryz
variable[Go.ay.b4]
variable{k:Nat}{N:Int}
def aC.again(s:aC)(x:ag):aC:={s with dA:=s.dA+1,pl:=iU ⟨x,s.now+nK s.n s.self x.a1 (bS s.fi x+1),s.dA⟩ (ii x s.pl),fi:=bx s.fi x (bS s.fi x+1)}
def aC.VK(s:aC)(x:ag):bm:=rv s.self [(bP s.aA.p x).bO,(bP s.aA.p x).b0,(a8 s.high x).getD bm.z]
def aC.Vf(s:aC)(x:ag)(e:er a6):aC:={s.again x with leads:=bx s.leads x ⟨e.p,e.q,e.v.late.1⟩}
def aC.UI(s:aC)(x:ag):bL:=bL.new s.n s.self x (s.VK x)
def aC.Vg(s:aC)(x:ag)(p q:Nat):aC:={s.again x with bp:=bx s.bp x ⟨p,q,s.UI x⟩}
def oP(s:aC)(x:ag)(d:aC):Prop:=
 ((bP s.aA.p x).Status=3/\d=s)\/
 ((bP s.aA.p x).Status≠3/\
  ((∃e,a8 s.leads x=some e/\d=(s.Vf x e).send e.v.late.1.E')\/
   (a8 s.leads x=none/\∃e,a8 s.bp x=some e/\e.v.x.bj=(bP s.aA.p x).bO/\d=(s.again x).send e.v.E')\/
   (a8 s.leads x=none/\(∀e,a8 s.bp x=some e->e.v.x.bj≠(bP s.aA.p x).bO)/\∃p q,d=(s.Vg x p q).send (s.UI x).E')))
def afR{s:aC}(h:k2 k s)(x:ag)(G:bq x 7=true):k2 (k+1) (s.again x):=by
 have Y:=h.w.set x (s.now+nK s.n s.self x.a1 (bS s.fi x+1));have j:=h.t;refine⟨Y,by show s.dA+1<=_;omega,λy F=>?_,qy h.td,λy=>?_⟩
 .rcases HZ h.w F with rfl|F
  .exact G
  .exact h.aV y F
 .have N:=h.bS x;have R:=h.bS y;show 0<=bS (bx s.fi x _) y/\bS (bx s.fi x _) y<=_
  grind [G7]
def RepI.again{s:aC}(h:RepI k s)(x:ag)(G:bq x 7=true):RepI (k+1) (s.again x):=
 ⟨h.n,h.self,h.now,h.run,h.M,afR h.fX x G⟩
def oP.cQ{s d:aC}{x:ag}(h:eO k s)(W:dV s)(U:bq x 7=true)(T:oP s x d):eO (k+1) d/\dV d/\fH d.inbox<=fH s.inbox+3/\d.out.length<=s.out.length+7/\d.told=s.told/\d.n=s.n:=by
 have c:bq x 7=true:=U;have w:=h.da;have b:=h.toRepI.again x c;rcases T with⟨_,rfl⟩|⟨_,⟨e,L,rfl⟩|⟨_,e,L,_,rfl⟩|⟨_,_,p,q,rfl⟩⟩
 .exact⟨⟨h.toRepI.mono ac,h.toRepG,h.aA,h.en,h.sp,ac⟩,W,jL _ _,jL _ _,rfl,rfl⟩
 .have u:=xI (h.cw _ (ml L)).1;have z:ip e.v.late.1 s.n s.self x e.v.late.1.bj:=⟨u.wf,u.n,u.self,u.item,rfl,u.phase⟩
  have J:RepG (s.Vf x e):=by
   refine⟨λy F=>?_,h.rs,h.bt⟩;rcases vY F with rfl|F
   .exact⟨z,U⟩
   .exact h.cw y F
  refine⟨⟨b.of rfl,J.send λm K=>by grind [uo],h.aA,h.en,h.sp,As w⟩,dV.send (s:=s.Vf x e) ⟨qy W.en,W.e4,W.bF,W.i8⟩ (zL _),?_,?_,rfl,rfl⟩
  .show fH (s.inbox++fa s.self e.v.late.1.E')<=_;grind [vW,um]
  .have Y:=(s4 (s.Vf x e) e.v.late.1.E').2;have N:=a6.Va z h.gO.2;have R:(s.Vf x e).out.length=s.out.length:=rfl;omega
 .obtain⟨i,C,j,P,M⟩:=h.rs _ (ml L);have J:RepG (s.again x):=⟨h.cw,h.rs,h.bt⟩
  refine⟨⟨b.of rfl,J.send λm K=>by grind [vZ],h.aA,h.en,h.sp,As w⟩,dV.send (s:=s.again x) ⟨W.en,W.e4,W.bF,W.i8⟩ (C0 _),?_,?_,rfl,rfl⟩
  .show fH (s.inbox++fa s.self e.v.E')<=_;grind [vW,CT]
  .have Y:=(s4 (s.again x) e.v.E').2;have N:=bL.Va i;exact jy Y (Nat.add_le_add_left N _)
 .have r:(s.UI x).ok:=bL.UL h.gO ..;have J:RepG (s.Vg x p q):=by
   refine⟨h.cw,λy F=>?_,h.bt⟩;rcases vY F with rfl|F
   .exact⟨r,rfl,rfl,rfl,U⟩
   .exact h.rs y F
  refine⟨⟨b.of rfl,J.send λm K=>by rw[vZ r m K];exact U,h.aA,h.en,h.sp,As w⟩,dV.send (s:=s.Vg x p q) ⟨W.en,qy W.e4,W.bF,W.i8⟩ (C0 _),?_,?_,rfl,rfl⟩
  .show fH (s.inbox++fa s.self (s.UI x).E')<=_;grind [vW,CT]
  .have Y:=(s4 (s.Vg x p q) (s.UI x).E').2;have N:=bL.Va r;have R:(s.Vg x p q).out.length=s.out.length:=rfl;omega
def aiv(L:cW)(s:aC)(k:Nat)(h:RepI k s)(u:k<=1000000000000)(x:ag)(G:bq x 7=true):ar prog 95 [aw L.dS 0,I s.now,A x.c] [kv L s] (λr J=>∃d,r=.tuple #[]/\J=[kv {L with ek:=d} (s.again x)]):=by have y:=h.gO;have Q:=h.self;have a:=h.now;have b:=h.fX.len;have N:=h.fX.t;have Z:=h.fX.bS x;have l:=l2 G;refine ar.eqv aO.aL (ahy L.dS s.n s.self L.wp L.dZ L.ek s.dA s.pl s.fi s.now x h.fX.w ac ac ac ac ac ac ac) ?_;rintro r J⟨g,E,rfl,rfl⟩;exact⟨_,⟨.slice (some ⟨g,0,none⟩) (iU ⟨x,s.now+nK s.n s.self x.a1 (bS s.fi x+1),s.dA⟩ (ii x s.pl)).length E,rfl,rfl⟩,aO.aL.symm⟩
def aiw(b:Nat)(L:cW)(s:aC)(x:ag)(k:Nat)(h:eO k s)(dU:dV s)(b3:bq x 7=true)(cc:k<=900000000000)(ao:s.inbox.length<=900000)(dy:s.out.length<=900000):ar prog 72 [aw b 0,A x.c] (cb b L s++[cJ]) (λr J=>∃bD cE,oP s x cE/\r=.tuple #[]/\J=cb b bD cE++[cJ]):=by
 have kP:bq x 7=true:=b3;have Yg:=h.gO;have dJ:=zH L.ec s.bQ s.X s.aA x h.aA.p.towf;have hz:=aiv L s k h.toRepI ac x kP;by_cases U:(bP s.aA.p x).Status=3
 .have gm:bd .eql (bP s.aA.p x).Status 3=some true:=by simp[bd,U]
  have Yk:oP s x s:=.inl ⟨U,rfl⟩;obtain⟨M,Z,o,dS,wp,C,ek,el,dP,F,u,e0,dN,bS⟩:=L;clear hz h dU;unfold cb eN;dsimp only[List.cons_append,List.nil_append]at dJ⊢;generalize bP s.aA.p x=i at*;refine aE func72 λW=>?_;generalize bn _=D;refine aq 2 λgq=>?_;refine aa 3 ?_;refine M2 (λfT=>?_) ?_;refine aa 7 ?_;refine ai.v (V.cmp rfl rfl gm) ?_;refine aa 6 ?_;rotate_left;refine O.N' ad (λfT=>?_);refine au ?_;refine af.p' 5 rfl rfl (dJ) ?_;refine aa 2 ?_;refine ae 1 7 ?_;refine aa 7 ?_;refine ai.v (V.cmp rfl rfl gm) ?_;refine aa 6 ?_;rotate_left;all_goals exact⟨_,_,⟨⟨M,Z,o,dS,wp,C,ek,el,dP,F,u,e0,dN,bS⟩,s,Yk,rfl,rfl⟩,Uc⟩
 have gm:bd .eql (bP s.aA.p x).Status 3=some false:=by simp[bd,U]
 have Yn:=h.self;have Yp:=h.n;suffices Yc:∀i,i=bP s.aA.p x->ar prog 72 [aw b 0,A x.c] (cb b L s++[cJ]) (λr J=>∃bD cE,oP s x cE/\r=.tuple #[]/\J=cb b bD cE++[cJ])from Yc _ rfl
 intro i N;rw[<-N]at dJ gm;have Yo:eW i s.aA.n=true:=by rw[N];exact vQ h.aA x
 have Yw:cH i.bO 7=true:=pT (mJ Yo).1 (by have:=h.aA.size;omega);have YG:cH i.b0 7=true:=pT (mJ Yo).2.1 (by have:=h.aA.size;omega);have Ys:cH ((a8 s.high x).getD bm.z) 7=true:=by
  cases bF:a8 s.high x with
  |none=>exact CZ
  |some y=>exact dU.bF _ (ml bF)
 have Yi:=λe j=>(h.cw _ (ml (k:=x) (v:=e) j)).1;have Ym:=λe j=>(h.rs _ (ml (k:=x) (v:=e) j))
 have Yy (e:er a6) (j:a8 s.leads x=some e):oP s x ((s.Vf x e).send e.v.late.1.E'):=.inr ⟨U,.inl ⟨e,j,rfl⟩⟩;have Yz (dz:a8 s.leads x=none) (e:er bL) (j:a8 s.bp x=some e) (u:e.v.x.bj=i.bO):oP s x ((s.again x).send e.v.E'):=.inr ⟨U,.inr (.inl ⟨dz,e,j,by rw[u,N],rfl⟩)⟩;have YA (dz:a8 s.leads x=none) (u:∀e,a8 s.bp x=some e->e.v.x.bj≠i.bO) (p q:Nat):oP s x ((s.Vg x p q).send (s.UI x).E'):=.inr ⟨U,.inr (.inr ⟨dz,λe j=>by rw[<-N];exact u e j,p,q,rfl⟩)⟩;have YH:s.VK x=rv s.self [i.bO,i.b0,(a8 s.high x).getD bm.z]:=by unfold aC.VK;rw[<-N]
 clear h dU U;have Yr:∃Ir,Ir=L:=⟨L,rfl⟩
 obtain⟨Ir,Yj⟩:=Yr;obtain⟨M,Z,o,dS,wp,C,ek,el,dP,F,u,e0,dN,bS⟩:=L;unfold cb eN;dsimp only[List.cons_append,List.nil_append]at dJ hz⊢;refine aE func72 λW=>?_;generalize bn _=D;refine aq 2 λgq=>?_;refine aa 2 ?_;refine ah.mt [0,3] (λ_:Nat=>True) (λp=>[(4,aw p 0)]) (λp=>[cells p 54 i.c]) (i:=[]) ?_ ?_
 .intro fM a;refine M2 (λfT=>?_) ?_;refine au ?_;rotate_left;refine O.N' ad (λfT=>?_);refine au ?_;refine af.p' 5 rfl rfl (dJ) ?_;refine aa 2 ?_;refine ae 1 7 ?_;refine au ?_;rotate_left;all_goals exact Out.z' a _ trivial trivial
 rintro fT-;refine bl ?_;refine aa 5 ?_;refine ai.v (V.cmp rfl rfl gm) ?_;refine aa 5 ?_;refine ah.mt [0,3,4] (λ_:aj=>True) (λ_=>[]) (λv=>[kv ⟨M,Z,o,dS,wp,C,v,el,dP,F,u,e0,dN,bS⟩ (s.again x)]) (i:=[kv ⟨M,Z,o,dS,wp,C,ek,el,dP,F,u,e0,dN,bS⟩ s]) ?_ ?_
 .intro fM a;refine ah.n' ?_ aB.j.j.j.j.j.j.j.j.j.j.j.j.j.j.d'.d'.j;refine ae 9 0 ?_;refine af.p' 9 rfl rfl (hz) ?_;rintro _ _⟨Yu,rfl,rfl⟩;refine aa 3 ?_;all_goals exact Out.z' a _ trivial trivial
 rintro m-;refine bl ?_;clear hz dJ;cases K:a8 s.leads x with
 |some e=>
  obtain⟨nO,Yv⟩:∃nO:aj,nO=(match a8 s.bp x with|some y=>aw y.p 0|none=>.pointer none):=⟨_,rfl⟩
  refine ah.mt [0,3,4] (λ_:Unit=>True) (λ_=>[(5,aw e.p 0)]) (λ_=>[]) (i:=[]) ?_ ?_
  .intro fM a;cases f:a8 s.bp x with
   |none=>
    refine Nk ?_ ?_;refine RI ?_;rotate_left;refine av.x' (aK.U6 (l:=s.bp) (k:=x) (aU:=c0) f ct kx mR rfl rfl T1) ?_;refine KB ?_;rotate_left;all_goals exact Out.z' a () trivial trivial
   |some y=>
    refine Nk ?_ ?_;refine Si ?_;rotate_left;refine av.x' (aK.h4 (l:=s.bp) (k:=x) (aU:=c0) f ct kx mR rfl rfl T1) ?_;refine KB ?_;rotate_left;all_goals exact Out.z' a () trivial trivial
  rintro⟨⟩-;refine bl ?_;have cc:=Yi e K;have d:=Yy e K;have Yl:e.v.late.1.E'.length<=7:=a6.Va (xI cc) Yg.2;have cy:=ar.W6 (bW:=jd) (Q:=λr (_:Unit)=>r=B e.v.late.2) (i:=λ_=>⟨e.p,e.q,e.v.late.1⟩) K (ar.post (OB e.p e.v cc.wf (by rw[cc.n];omega)) (by rintro v J⟨rfl,rfl⟩;exact⟨_,⟨(),rfl,rfl⟩,λ_ _ _ h=>h⟩));refine aa 13 ?_;rintro _ _⟨YJ,rfl,rfl⟩;refine aa 3 ?_;have Yt:=xQ Z (i:=(⟨e.p,e.q,e.v.late.1⟩:er a6)) K rfl;refine ah.WD Yt.symm ?_;refine ah.iN (a2:=cb b ⟨M,Z,o,dS,wp,C,m,el,dP,F,u,e0,dN,bS⟩ (s.Vf x e)++[cJ]) (λw cG=>cG.gW (by unfold cb eN aC.Vf;(repeat(first|exact ak.nil|exact al.here|apply ak.cons|apply al.there)))) ?_;have bF:a8 (s.Vf x e).leads x=some ⟨e.p,e.q,e.v.late.1⟩:=Rj
  have Yh:=xI cc;have P:=ar.V3 (bW:=jd) (Q:=λr (z:aT Go.Addr×Nat)=>r=.slice z.1 e.v.late.1.E'.length z.2) (T:=λz=>rows aD.c (.slice z.1 e.v.late.1.E'.length z.2) 176 25 e.v.late.1.E') bF (ar.post (ar.pr aD.len (zA e.p e.v.late.1 (by rw[Yh.n];omega))) No);have G (Y:aT Go.Addr) (R:Nat):=uk b ⟨M,Z,o,dS,wp,C,m,el,dP,F,u,e0,dN,bS⟩ (s.Vf x e) Y R e.v.late.1.E' QD ac OZ Q1;generalize s.Vf x e=s2 at*;unfold cb eN at G⊢;dsimp only[List.cons_append,List.nil_append]at P G⊢;refine aa 4 ?_;refine M6 λYK YI=>?_;refine aa 4 ?_;all_goals exact⟨_,_,⟨_,_,d,rfl,rfl⟩,Uc⟩
 |none=>
  by_cases Yq:∃e,a8 s.bp x=some e/\e.v.x.bj=i.bO
  .obtain⟨e,f,YB⟩:=Yq;obtain⟨s6,jI,qW,nR,v1⟩:=Ym e f;have d:=Yz K e f YB;have Yl:e.v.E'.length<=7:=bL.Va s6;refine ah.mt [0,3,4] (λ_:Unit=>True) (λ_=>[(5,.pointer none),(6,aw e.p 0)]) (λ_=>[]) (i:=[]) ?_ ?_
   .intro fM a;refine Mo ?_ ?_;refine Si ?_;rotate_left;refine av.x' (aK.h4 (l:=s.bp) (k:=x) (aU:=c0) f ct kx mR rfl rfl T1) ?_;refine Mn ?_;rotate_left;all_goals exact Out.z' a () trivial trivial
   rintro⟨⟩-;refine bl ?_;have mN:=ar.gQ (bW:=gQ) f (CC e.p e.q e.v);rw[YB]at mN;have P:=ar.V3 (bW:=gQ) (Q:=λr (z:aT Go.Addr×Nat)=>r=.slice z.1 e.v.E'.length z.2) (T:=λz=>rows aD.c (.slice z.1 e.v.E'.length z.2) 176 25 e.v.E') f (ar.post (CB e.p e.q e.v s6) No);have G (Y:aT Go.Addr) (R:Nat):=uk b ⟨M,Z,o,dS,wp,C,m,el,dP,F,u,e0,dN,bS⟩ (s.again x) Y R e.v.E' QD ac OZ Q1;refine aa 10 ?_;refine MA ?_;refine aa 2 ?_;refine ah.c (λt=>?_) (λt=>?_);replace t:=gD t;rotate_left;exact lz t;refine ah.iN (a2:=cb b ⟨M,Z,o,dS,wp,C,m,el,dP,F,u,e0,dN,bS⟩ (s.again x)++[cJ]) (λw cG=>cG.gW O2) ?_;change ar _ _ _ [fh gQ (s.again x).bp] (λr J=>∃z,_/\J=[_,fh gQ (s.again x).bp])at P;generalize s.again x=s2 at*;unfold cb eN at G⊢;dsimp only[List.cons_append,List.nil_append]at P G⊢;refine aa 4 ?_;refine M6 λYL YD=>?_;refine aa 4 ?_;all_goals exact⟨_,_,⟨_,_,d,rfl,rfl⟩,Uc⟩
  .have d:=YA K (λe j u=>Yq ⟨e,j,u⟩);obtain⟨nO,Yv⟩:∃nO:aj,nO=(match a8 s.bp x with|some y=>aw y.p 0|none=>.pointer none):=⟨_,rfl⟩
   refine ah.mt [0,3,4] (λ_:Unit=>True) (λ_=>[(5,.pointer none),(6,nO)]) (λ_=>[]) (i:=[]) ?_ ?_
   .intro fM a;subst Yv;cases f:a8 s.bp x with
    |none=>
     rw[f]at a;refine Mo ?_ ?_;refine RI ?_;rotate_left;refine av.x' (aK.U6 (l:=s.bp) (k:=x) (aU:=c0) f ct kx mR rfl rfl T1) ?_;refine Mn ?_;rotate_left;all_goals exact Out.z' a () trivial trivial
    |some y=>
     rw[f]at a;refine Mo ?_ ?_;refine Si ?_;rotate_left;refine av.x' (aK.h4 (l:=s.bp) (k:=x) (aU:=c0) f ct kx mR rfl rfl T1) ?_;refine Mn ?_;rotate_left;all_goals exact Out.z' a () trivial trivial
   rintro⟨⟩-;refine bl ?_;refine aa 9 ?_;refine ah.mt [0,3,4] (λ_:Unit=>True) (λ_=>[(83,B false)]) (λ_=>[]) (i:=[]) ?_ ?_
   .intro fM a;subst Yv;cases f:a8 s.bp x with
    |none=>
     dsimp only;refine ah.n' ?_ aB.j.j.j.j.j.j.j.j.j.j.j.j.j.j.j.d'.j;refine ae 10 0 ?_;refine au ?_;all_goals exact Out.z' a () trivial trivial
    |some y=>
     have mN:=ar.gQ (bW:=gQ) f (CC y.p y.q y.v);have Yf:y.v.x.bj≠i.bO:=λu=>Yq ⟨y,f,u⟩;dsimp only;have dM:decide (y.v.x.bj=i.bO)=false:=lg Yf;refine MA ?_;refine au ?_;all_goals rw[dM]
     all_goals exact Out.z' a () trivial trivial
   rintro⟨⟩-;refine bl ?_;refine au ?_;refine ah.mt [0,3] (λ_:Nat=>True) (λp=>[(6,aw p 0)]) (λp=>[cells p 243 (s.UI x).x.c]) (i:=[cells fT 54 i.c]) ?_ ?_
   .intro fM a;have YC (g:Nat):=ajj _ _ 3 g 0 s.self [i.bO,i.b0,(a8 s.high x).getD bm.z] (Rd.rows (E:=48) (cap:=3) (l:=[i.bO,i.b0,(a8 s.high x).getD bm.z]) bm.len T3) (by
     have:=kn (Ik Yw (l:=[i.b0,(a8 s.high x).getD bm.z]) (λb u=>by
      rcases dk.1 u with rfl|u
      .exact YG
      .rw[i2.1 u];exact Ys))
     omega)
    rw[<-YH]at YC;have Yx:ar prog 99 [I s.n,I s.self,A x.c,A (s.VK x).c] [] (λr J=>∃q,r=aw q 0/\J=[cells q 243 (s.UI x).x.c]):=ajy ..;refine ah.n' ?_ aB.j.j.j.j.j.j.j.j.j.j.j.j.j.d'.d'.d'.j;refine ae 22 0 ?_;refine af.q' 22 rfl (av.x' (aK.UD (l:=s.high) (k:=x) (aU:=ln) bm.z ct xS H4 rfl rfl T1) ?_);refine au ?_;refine af.q' 23 rfl (O.Q' ad bm.c [i.bO,i.b0,(a8 s.high x).getD bm.z] rfl (bI.agg rfl (bI.agg rfl (bI.agg rfl bI.nil))) rfl rfl (λYE=>?_));refine au ?_;refine af.p' 24 rfl rfl (YC _) ?_;refine aa 2 ?_;refine af.p' 25 rfl rfl (Yx) ?_;rintro _ _⟨YM,rfl,rfl⟩;refine aa 2 ?_;refine ae 1 26 ?_;refine au ?_;all_goals exact Out.z' a _ trivial trivial
   rintro q-;refine bl ?_;refine ah.mt [0,6] (λ_:Unit=>True) (λp=>[]) (λp=>[bz cg c0 o (bx s.bp x ⟨q,0,s.UI x⟩)]) (i:=[bz cg c0 o s.bp,cells gq 46 x.c]) ?_ ?_
   .intro fM a;refine ah.n' ?_ aB.j.j.j.j.j.j.j.j.j.j.j.j.j.d'.d'.j.j;refine ae 6 0 ?_;refine af.q' 6 rfl (av.UC (l:=s.bp) (k:=x) (v:=(⟨q,0,s.UI x⟩:er bL)) (b1:=cg) (aU:=c0) ct kx rfl rfl rfl T2 ?_);refine aa 2 ?_;all_goals exact Out.z' a () trivial trivial
   rintro⟨⟩-;refine bl ?_;have YF:=d q 0;have Ye:(s.UI x).ok:=bL.UL Yg ..;have Yl:(s.UI x).E'.length<=7:=bL.Va Ye;have bF:a8 (s.Vg x q 0).bp x=some ⟨q,0,s.UI x⟩:=Rj
   have P:=ar.V3 (bW:=gQ) (Q:=λr (z:aT Go.Addr×Nat)=>r=.slice z.1 (s.UI x).E'.length z.2) (T:=λz=>rows aD.c (.slice z.1 (s.UI x).E'.length z.2) 176 25 (s.UI x).E') bF (ar.post (CB q 0 (s.UI x) Ye) No);have G (Y:aT Go.Addr) (R:Nat):=uk b ⟨M,Z,o,dS,wp,C,m,el,dP,F,u,e0,dN,bS⟩ (s.Vg x q 0) Y R (s.UI x).E' QD ac OZ Q1;refine ah.iN (a2:=cb b ⟨M,Z,o,dS,wp,C,m,el,dP,F,u,e0,dN,bS⟩ (s.Vg x q 0)++[cJ]) (λw cG=>?_) ?_
   .have bg:=cG.UP (be:=gQ ⟨q,0,s.UI x⟩++[fh gQ s.bp]) (by show ak _ [cells q 243 (s.UI x).x.c,fh gQ s.bp] _;(repeat(first|exact ak.nil|exact al.here|apply ak.cons|apply al.there)));rw[cn]at bg;have bY:=In gQ s.bp x ⟨q,0,s.UI x⟩ bg;exact bY.gW (g:=[]) (by unfold cb eN aC.Vg;(repeat(first|exact ak.nil|exact al.here|apply ak.cons|apply al.there)))
   clear YA Yy Yz d Yq;generalize s.Vg x q 0=s2 at*;unfold cb eN at G⊢;dsimp only[List.cons_append,List.nil_append]at P G⊢;refine aa 4 ?_;refine M6 λa p=>?_;refine aa 4 ?_;all_goals exact⟨_,_,⟨_,_,YF,rfl,rfl⟩,Uc⟩
inductive qX(s:aC):List ag->aC->Prop where
 |nil:qX s [] s
 |snoc {xs:List ag} {x:ag} {s1 s2:aC} (h:qX s xs s1) (dz:oP s1 x s2):qX s (xs++[x]) s2
def oQ(s:aC)(N:Int)(e:Int)(d:aC):Prop:=
 ((N<s.now\/1099511627776<N)/\e=1/\d=s)\/
 (s.now<=N/\N<=1099511627776/\e=0/\∃Z k s1,ur N s.pl Z k/\qX {s with now:=N,pl:=k} Z s1/\jT s1 d)
def ur.sub{R s:ab br}{Z:ab ag}(h:ur N R Z s):s.Sublist R/\Z.length<=R.length/\(∀x∈Z,∃y∈R,y.key=x)/\((R.map (·.key)).Nodup->Z.Nodup):=by
 obtain⟨k,rfl,rfl,_,_⟩:=h;refine⟨List.drop_sublist ..,by rw[eT,fp];omega,λx U=>?_,λa=>?_⟩
 .obtain⟨y,F,rfl⟩:=eS.1 U;exact⟨y,List.mem_of_mem_take F,rfl⟩
 .exact a.sublist ((List.take_sublist ..).map _)
def eO.due{s:aC}(h:eO k s)(o:s.now<=N)(Y:N<=1099511627776){x:ab br}(Q:x.Sublist s.pl):eO k {s with now:=N,pl:=x}:=by have a:=h.now;have i:=h.fX.w;exact⟨⟨h.n,h.self,⟨by show 0<=N;omega,Y⟩,h.run,h.M,⟨⟨i.t0,i.sorted.sublist Q,i.mb.sublist (Q.map _),λy F=>i.fJ y (Q.subset F)⟩,h.fX.t,λy F=>h.fX.aV y (Q.subset F),h.fX.td,h.fX.bS⟩⟩,⟨h.cw,h.rs,h.bt⟩,h.aA,h.en,h.sp,h.da⟩
def aej(L:cW)(s:aC)(N:Int):ar prog 71 [aw L.dS 0,I N] [kv L s] (λr J=>∃a c,r=.func (.func 133) #[] #[aw a 0,aw c 0]/\J=[cells a 192 [aw L.wp 0],cells c 3 [I N],kv L s]):=by refine ar.eqv aO.aL (afD L.dS s.n s.self L.wp L.dZ L.ek s.dA s.pl s.fi N) ?_;rintro r J⟨a,c,rfl,rfl⟩;exact⟨_,⟨a,c,rfl,rfl⟩,aO.cons _ (aO.cons _ aO.aL.symm)⟩
def aew(L:cW)(s:aC)(M:Int)(a c:Nat)(T:s.pl.length<=100000):ar prog 70 [.func (.func 133) #[] #[aw a 0,aw c 0]] [cells a 192 [aw L.wp 0],cells c 3 [I M],kv L s] (λr J=>∃m E Z t k,ur M s.pl Z k/\r=.slice m Z.length E/\J=[rows ag.c (.slice m Z.length E) 46 2 Z,kv {L with ek:=t} {s with pl:=k}]):=by
 have N:=ar.frame (be:=[cells L.dS 194 (mz.c ⟨s.n,s.self,aw L.wp 0,.map (some L.dZ)⟩),bz (λx:ag=>A x.c) (λn:Int=>I n) L.dZ s.fi]) (acQ L.wp a c M L.ek s.dA s.pl T);unfold fu at N;have Q:ak (cells a 192 [aw L.wp 0]::cells c 3 [I M]::iV L.dS s.n s.self L.wp L.dZ L.ek s.dA s.pl s.fi) (([cells a 192 [aw L.wp 0],cells c 3 [I M]]++[cells L.wp 254 (kL.c ⟨L.ek,s.dA⟩),rows br.c L.ek 271 4 s.pl])++[cells L.dS 194 (mz.c ⟨s.n,s.self,aw L.wp 0,.map (some L.dZ)⟩),bz (λx:ag=>A x.c) (λn:Int=>I n) L.dZ s.fi]) []:=by unfold iV;(repeat(first|exact ak.nil|exact al.here|apply ak.cons|apply al.there))
 have z:=Q.perm;rw[dT]at z;have Y:=(aO.cons (cells a 192 [aw L.wp 0]) (aO.cons (cells c 3 [I M]) (aO.aL (be:=iV L.dS s.n s.self L.wp L.dZ L.ek s.dA s.pl s.fi)))).trans (aO.UA z);refine ar.UB (ar.eqv Y N (R:=_) λr J h=>⟨J,h,aO.refl _⟩) ?_;rintro v J W D w⟨_,⟨u,Z,t,k,y,rfl,rfl⟩,rfl⟩ p;obtain⟨m,E,b,rfl,_⟩:=iD (f:=ag.c) ag.len (aF _) w p;refine⟨_,⟨m,E,Z,t,k,y,rfl,rfl⟩,?_⟩;refine H.eqv (aO.cons _ aO.aL).symm (an:=_::iV L.dS s.n s.self L.wp L.dZ t s.dA k s.fi) (p.gW (g:=[]) ?_);unfold iV;refine bl ?_;(repeat(first|exact ak.nil|exact al.here|apply ak.cons|apply al.there))
def afg(b:Nat)(L:cW)(s:aC)(N:Int)(k:Nat)(h:eO k s)(P:dV s)(ao:s.inbox=[])(cc:k<=800000000000)(dy:s.out.length<=100000)(cN:s.told.length<=1000000):ar prog 43 [aw b 0,I N] (cb b L s++[cJ]) (λr Yc=>∃bD d e,oQ s N e d/\r=I e/\Yc=cb b bD d++[cJ]):=by
 by_cases q:s.now<=N/\N<=1099511627776
 .have dx:bd .lss N s.now=some false:=by simp[bd];omega
  have bv:bd .gtr N 1099511627776=some false:=TZ
  have Yo:=h.fX.len;have J:=aej L {s with now:=N} N;have Y (a c:Nat):=aew L {s with now:=N} N a c (by show s.pl.length<=_;omega);obtain⟨o,Q,hi,dS,wp,G,ek,el,dP,g,u,e0,dN,bS⟩:=L;unfold cb eN;dsimp only[List.cons_append,List.nil_append]at J Y⊢;refine aE func43 λW=>?_;generalize bn _=D;refine aa 22 ?_;refine ai.v (V.cmp rfl rfl dx) ?_;refine aa 2 ?_;refine ai.v (V.cmp rfl rfl bv) ?_;refine aa 17 ?_;refine ah.iN (a2:=cb b ⟨o,Q,hi,dS,wp,G,ek,el,dP,g,u,e0,dN,bS⟩ {s with now:=N}++[cJ]) (λw cG=>cG.gW O2) ?_;unfold cb eN;refine bl ?_;refine aa 9 ?_;rintro _ _⟨YE,YF,rfl,rfl⟩;refine au ?_;refine ai.p' rfl (Y _ _) ?_;rintro _ _⟨T,n,j,X,M,Yj,rfl,rfl⟩;refine aa 6 ?_;have U:ur N s.pl j M:=TX
  obtain⟨C,Yg,F,-⟩:=U.sub;have Yt:eO k {s with now:=N,pl:=M}:=h.due q.1 q.2 C;have Yz:dV {s with now:=N,pl:=M}:=⟨P.en,P.e4,P.bF,P.i8⟩
  have Yl:∀x∈j,bq x 7=true:=λx E=>by obtain⟨y,fy,rfl⟩:=F x E;exact h.fX.aV y fy
  have Yu (s1 d:aC) (bg:qX {s with now:=N,pl:=M} j s1) (bY:jT s1 d):oQ s N 0 d:=.inr ⟨q.1,q.2,rfl,j,M,s1,U,bg,bY⟩;have Yp:fH ({s with now:=N,pl:=M}:aC).inbox=0:=C3 ao;have YB:({s with now:=N,pl:=M}:aC).out.length=s.out.length:=rfl;have YA:({s with now:=N,pl:=M}:aC).told=s.told:=rfl;refine ah.iN (a2:=rows ag.c (.slice T j.length n) 46 2 j::(cb b ⟨o,Q,hi,dS,wp,G,X,el,dP,g,u,e0,dN,bS⟩ {s with now:=N,pl:=M}++[cJ])) (λw cG=>cG.gW O2) ?_;clear J Y U C F h P ao;generalize({s with now:=N,pl:=M}:aC)=R at*;generalize j=Z at*;generalize T=cV at*;generalize n=Ye at*;clear q dx bv;refine ah.fact (iD (f:=ag.c) (v:=.slice cV Z.length Ye) (l:=Z) ag.len T1) λdO=>?_;obtain⟨Yx,Yi,rF,c9,ew⟩:=dO;simp only[sQ]at c9;obtain⟨rfl,-,rfl⟩:=c9;refine ah.cp [32,31,0] (λz:Nat×cW×aC=>z.1<=Z.length/\qX R (Z.take z.1) z.2.2/\eO (k+z.1) z.2.2/\dV z.2.2/\fH z.2.2.inbox<=3*z.1/\z.2.2.out.length<=s.out.length+7*z.1/\z.2.2.told=s.told) (λz=>[(33,I (z.1:Int))]) (λz=>cb b z.2.1 z.2.2++[cJ]) (λz=>Z.length-z.1) (0,⟨o,Q,hi,dS,wp,G,X,el,dP,g,u,e0,dN,bS⟩,R) ⟨cO _,.nil,Yt,Yz,by show fH R.inbox<=0;omega,by show R.out.length<=_;omega,YA⟩ ?_;rintro⟨i,gA,s1⟩⟨Yq,lj,mK,qU,Ys,Yv,p⟩ K cA;dsimp only at Yq lj mK qU Ys Yv p;by_cases Yf:i<Z.length
  .obtain⟨x,E⟩:=cl Yf;have YC:=jB (f:=ag.c) E;have Yw:x∈Z:=jX E;have Yr:=Yl x Yw;have Yk:s1.inbox.length<=3*i:=by
    have bg:∀l:ab aD,l.length<=fH l:=λl=>by
     unfold fH;induction l with
     |nil=>exact cD _
     |cons m l lu=>
      have:=(ul m).1;rw[e7,xV,dD];omega
    have:=bg s1.inbox;omega
   have YD:=aiw b gA s1 x (k+i) mK qU Yr ac ac ac;have gC:bd .lss (i:Int) (Z.length:Int)=some true:=TZ
   unfold cb eN at YD⊢;dsimp only[List.cons_append,List.nil_append]at YD⊢;refine aa 2 ?_;refine ai.v (V.cmp rfl rfl gC) ?_;refine aa 10 ?_;refine ai.v (V.Vm ad (k:=i) rfl rfl ew (z:=ac)) ?_;refine ai.v (V.Ux ad (k:=i) rfl ew YC) ?_;refine aq 0 λnj=>?_;refine aa 7 ?_;rintro _ _⟨Yy,t,Yh,rfl,rfl⟩;refine aa 8 ?_;have Yn:oP s1 x t:=TX
   obtain⟨gF,g2,pv,s7,mU,js⟩:=Yn.cQ mK qU Yr;have Ym:Z.take (i+1)=Z.take i++[x]:=by rw[oj,E];rfl
   all_goals(refine Out.z' cA (i+1,Yy,t) ?_ TY;exact ⟨Uk,by show qX R (Z.take (i+1)) _;rw[Ym];exact .snoc lj Yn,gF,g2,by show fH t.inbox<=3*(i+1);omega,by show t.out.length<=_+7*(i+1);omega,mU.trans p⟩)
  .obtain rfl:i=Z.length:=by omega
   clear cA;rw[ir]at lj;have gC:bd .lss (Z.length:Int) (Z.length:Int)=some false:=Sl
   have l:=mK.VT qU;have x:=CY b gA s1 (k+Z.length) mK ac ac ac (by rw[p];exact cN);have r:=λd=>Yu s1 d lj;unfold cb eN at x⊢;dsimp only[List.cons_append,List.nil_append]at x⊢;refine aa 2 ?_;refine ai.v (V.cmp rfl rfl gC) ?_;refine aa 13 ?_;rintro _ _⟨R,f,Yh,rfl,rfl⟩;refine aa 10 ?_;all_goals exact⟨_,_,⟨_,_,0,r _ TX,rfl,rfl⟩,Uc⟩
 .have u:N<s.now\/1099511627776<N:=by omega
  have U:oQ s N 1 s:=.inl ⟨u,rfl,rfl⟩;clear h P;obtain⟨o,Q,hi,dS,wp,G,ek,el,dP,g,u,e0,dN,bS⟩:=L;unfold cb eN;refine bl ?_;refine aE func43 λW=>?_;generalize bn _=D;refine aa 24 ?_;refine ai.aY (λW=>?_) (λW=>?_);refine aa 16 ?_;rotate_left;refine aa 16 ?_;rotate_left;all_goals exact⟨_,_,⟨⟨o,Q,hi,dS,wp,G,ek,el,dP,g,u,e0,dN,bS⟩,s,1,U,rfl,rfl⟩,Uc⟩
end Go.Proofs.YteogojgnkjegmaaGreatDoor
namespace Go.ay
open Go
section
def zO(l:Array Bool):Nat:=l.toList.count false
def Is:∀(l:ab Bool) (i:Nat),l[i]?=some false->(l.set i true).count false+1=l.count false
 |[],i,h=>Uj
 |b::l,0,h=>by simp only[qk,eY]at h;subst h;simp
 |b::l,i+1,h=>by simp only[sf]at h;have:=Is l i h;simp only[List.set_cons_succ,List.count_cons];omega
def ac3{l:Array Bool}{i:Nat}(h:l.getD i true=false):l.toList[i]?=some false:=by
 rw[uP]at h;rw[Array.getElem?_toList];cases e:l[i]? with
 |none=>rw[e]at h;cases h
 |some b=>rw[e]at h;exact dp some h
def It{l:Array Bool}{i:Nat}(h:l.getD i true=false):zO (l.setIfInBounds i true)+1=zO l:=by unfold zO;rw[Array.toList_setIfInBounds];exact Is _ _ (ac3 h)
def Iu{l:Array Bool}{i j:Nat}(h:l.getD i true=false):(l.setIfInBounds i true).getD j true=(decide (j=i)||l.getD j true):=by
 by_cases e:j=i
 .subst e;simp[uP,Array.getElem?_setIfInBounds];split<;>rfl
 .simp[uP,Array.getElem?_setIfInBounds,o5 e,e]
variable{P:bU}{r:aT Nat}{W:aZ}{D:ab Nat}{n:dq}{Y:Array b6}
def av.Vh{o:b6}{M:bC}{K:ab ax}{C G:bC->ab ax->Prop}(h:av P r W D n o M K C)(u:∀y J,C y J->G y J):av P r W D n o M K G:=
 h.Xq λy J q=>⟨J,u _ _ q,λ_ h=>h⟩
def av.abB{o:b6}{M:bC}{K L:ab ax}{C:bC->ab ax->Prop}(z:K.Perm L)(h:av P r W D n o M L C):av P r W D n o M K C:=
 av.of λK Q b a w j v=>by unfold av at h;exact h K Q b a w j (v.perm z)
def af.inv{Q:cU}{e:dI}{k F:ab ax}{j:ab Nat}(I:Array Bool->bC->ab ax->Prop) (R:∀a M C,I a M C->(∀w,H W D C w->fw k w)/\(∀w,H W D C w->fw F w)) (step:∀a M C i o,I a M C->Y[i]?=some o->a.getD i true=false->(∀e∈o.after,Region.binds .any e=true->a.getD e.on false=true)->hp M Y o.guard=some true/\av P r W D n o M C (λm J=>I (a.setIfInBounds i true) m J)) (done:∀a M C,I a M C->Region.ready .any Y a=[]->Out W D n Q e M C):∀(c:Nat) (a:Array Bool) (M:bC) (C:ab ax) (d:Bool),zO a<=c->I a M C->af P r W D n Y (Q e) k F j d c a M C
 |0,a,M,C,d,q,b=>by
  have f:Region.ready .any Y a=[]:=by refine Iv.2 λj y=>?_;have U:=(q9.1 y).1;have:=It U;omega
  exact af.out (by rw[f];rfl) (done _ _ _ b f)
 |c+1,a,M,C,d,q,b=>by
  by_cases f:Region.ready .any Y a=[]
  .exact af.out (by rw[f];rfl) (done _ _ _ b f)
  .refine af.each (Region.ready .any Y a) (by simp[f]) λi ao=>?_;obtain⟨U,o,p,L⟩:=q9.1 ao;obtain⟨G,N⟩:=step a M C i o b p U L;refine⟨o,p,G,N.Vh λm J h=>⟨(R _ _ _ h).1,(R _ _ _ h).2,?_⟩⟩;exact af.inv I R step done c _ _ _ _ (by have:=It U;omega) h
def ahK(Y:Array b6):Bool:=(List.range Y.size).all λj=>match Y[j]? with|some o=>o.after.toList.all λe=>Nat.blt e.on j|none=>true
def Iw{l:Array Bool}(f:Region.ready .any Y l=[])(Q:l.size=Y.size)(p:ahK Y=true):∀(k j:Nat),j<k->j<Y.size->l.getD j true=true
 |0,j,h,_=>ac
 |k+1,j,h,y=>by
  cases x:l.getD j true with
  |true=>rfl
  |false=>
   have v:=hq.1 p j (pC.2 y);have c:Y[j]?=some Y[j]:=Bf y;rw[c]at v;have:j∈Region.ready .any Y l:=q9.2 ⟨x,_,c,λe L _=>by
    have U:e.on<j:=o0 (hq.1 v e (Array.mem_toList_iff.2 L));have N:=Iw f Q p k e.on ac ac;have R:e.on<l.size:=ac
    simpa[uP,Bf R]using N⟩
   rw[f]at this;cases this
def zP{l:Array Bool}{j:Nat}(h:l.getD j false=true):l.getD j true=true:=by
 rw[uP]at h⊢;cases e:l[j]? with
 |none=>rfl
 |some b=>rw[e]at h;exact h
def acJ{t M:Type}{E:ab t}(a:E.Nodup){i:t}(ao:i∈E)(f g:t->ab M)(o:f i=[])(Q:∀j∈E,j≠i->g j=f j):(E.flatMap g).Perm (g i++E.flatMap f):=by
 induction E with
 |nil=>cases ao
 |cons j E d=>
  rw[la]at a;rw[gn,gn];rcases dk.1 ao with rfl|ao
  .rw[o,gJ];refine C4 _ ?_;rw[wO,wO,C5 (f:=g) (g:=f) λj y=>Q j (hI _ y) λe=>a.1 (e▸y)]
  .have y:g j=f j:=Q j (gS ..) λe=>a.1 (e▸ao);rw[y];refine(C4 (f j) (d a.2 ao λk u=>Q k (hI _ u))).trans ?_;rw[<-cn,<-cn];exact Ix _ oq
end
end Go.ay
