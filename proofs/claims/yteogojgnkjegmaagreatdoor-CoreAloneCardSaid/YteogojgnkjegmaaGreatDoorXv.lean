/-
 Part of the proof.
-/
import Derived.Test.YteogojgnkjegmaaGreatDoorXu
set_option linter.all false
set_option maxRecDepth 8000
set_option maxHeartbeats 8000000
namespace Go.Proofs.YteogojgnkjegmaaGreatDoor
open Go.ay Go.Proofs.Tryz
variable[Go.ay.bR]
variable{k:Nat}
def aC.again(s:aC)(x:ag):aC:={s with de:=s.de+1,pl:=h3 ⟨x,s.now+mv s.n s.self x.be (bC s.eT x+1),s.de⟩ (hv x s.pl),eT:=bw s.eT x (bC s.eT x+1)}
def aC.TS(s:aC)(x:ag):bk:=w7 s.self [(b7 s.aH.p x).cJ,(b7 s.aH.p x).cY,(br s.high x).getD bk.z]
def aC.Sy(s:aC)(x:ag)(e:dQ a2):aC:={s.again x with leads:=bw s.leads x ⟨e.p,e.q,e.v.late.1⟩}
def aC.RV(s:aC)(x:ag):bO:=bO.new s.n s.self x (s.TS x)
def aC.Sz(s:aC)(x:ag)(p q:Nat):aC:={s.again x with bp:=bw s.bp x ⟨p,q,s.RV x⟩}
def np(s:aC)(x:ag)(z:aC):Prop:=
 ((b7 s.aH.p x).Status=3/\z=s)\/
 ((b7 s.aH.p x).Status≠3/\
  ((∃e,br s.leads x=some e/\z=(s.Sy x e).send e.v.late.1.C')\/
   (br s.leads x=none/\∃e,br s.bp x=some e/\e.v.x.b2=(b7 s.aH.p x).cJ/\z=(s.again x).send e.v.C')\/
   (br s.leads x=none/\(∀e,br s.bp x=some e->e.v.x.b2≠(b7 s.aH.p x).cJ)/\∃p q,z=(s.Sz x p q).send (s.RV x).C')))
def aex{s:aC}(h:jX k s)(x:ag)(q:bB x 7=true):jX (k+1) (s.again x):=by
 have F:=h.w.set x (s.now+mv s.n s.self x.be (bC s.eT x+1));have j:=h.t;refine⟨F,by show s.de+1<=_;omega,λy G=>?_,p1 h.td,λy=>?_⟩
 .rcases FF h.w G with rfl|G
  .exact q
  .exact h.aW y G
 .have M:=h.bC x;have g:=h.bC y;show 0<=bC (bw s.eT x _) y/\bC (bw s.eT x _) y<=_
  grind [EH]
def RepI.again{s:aC}(h:RepI k s)(x:ag)(q:bB x 7=true):RepI (k+1) (s.again x):=
 ⟨h.n,h.self,h.now,h.run,h.M,aex h.fs x q⟩
def np.cx{s z:aC}{x:ag}(h:eI k s)(t:dR s)(U:bB x 7=true)(E:np s x z):eI (k+1) z/\dR z/\fg z.inbox<=fg s.inbox+3/\z.out.length<=s.out.length+7/\z.told=s.told/\z.n=s.n:=by
 have Y:bB x 7=true:=U;have Q:=h.cU;have j:=h.toRepI.again x Y;rcases E with⟨_,rfl⟩|⟨_,⟨e,d,rfl⟩|⟨_,e,d,_,rfl⟩|⟨_,_,p,q,rfl⟩⟩
 .exact⟨⟨h.toRepI.mono ac,h.toRepG,h.aH,h.eF,h.sp,ac⟩,t,iZ _ _,iZ _ _,rfl,rfl⟩
 .have T:=Ag (h.cC _ (lH d)).1;have R:hp e.v.late.1 s.n s.self x e.v.late.1.b2:=⟨T.wf,T.n,T.self,T.item,rfl,T.phase⟩
  have J:RepG (s.Sy x e):=by
   refine⟨λy G=>?_,h.rs,h.dy⟩;rcases oK G with rfl|G
   .exact⟨R,U⟩
   .exact h.cC y G
  refine⟨⟨j.of rfl,J.send λm K=>by grind [xU],h.aH,h.eF,h.sp,yk Q⟩,dR.send (s:=s.Sy x e) ⟨p1 t.eF,t.gw,t.bU,t.i8⟩ (xV _),?_,?_,rfl,rfl⟩
  .show fg (s.inbox++ez s.self e.v.late.1.C')<=_;grind [ue,sD]
  .have F:=(rx (s.Sy x e) e.v.late.1.C').2;have M:=a2.Su R h.hN.2;have g:(s.Sy x e).out.length=s.out.length:=rfl;omega
 .obtain⟨b,C,f,X,i⟩:=h.rs _ (lH d);have J:RepG (s.again x):=⟨h.cC,h.rs,h.dy⟩
  refine⟨⟨j.of rfl,J.send λm K=>by grind [AM],h.aH,h.eF,h.sp,yk Q⟩,dR.send (s:=s.again x) ⟨t.eF,t.gw,t.bU,t.i8⟩ (AP _),?_,?_,rfl,rfl⟩
  .show fg (s.inbox++ez s.self e.v.C')<=_;grind [ue,AJ]
  .have F:=(rx (s.again x) e.v.C').2;have M:=bO.Su b;exact jk F (Nat.add_le_add_left M _)
 .have W:(s.RV x).ok:=bO.R8 h.hN ..;have J:RepG (s.Sz x p q):=by
   refine⟨h.cC,λy G=>?_,h.dy⟩;rcases oK G with rfl|G
   .exact⟨W,rfl,rfl,rfl,U⟩
   .exact h.rs y G
  refine⟨⟨j.of rfl,J.send λm K=>by rw[AM W m K];exact U,h.aH,h.eF,h.sp,yk Q⟩,dR.send (s:=s.Sz x p q) ⟨t.eF,p1 t.gw,t.bU,t.i8⟩ (AP _),?_,?_,rfl,rfl⟩
  .show fg (s.inbox++ez s.self (s.RV x).C')<=_;grind [ue,AJ]
  .have F:=(rx (s.Sz x p q) (s.RV x).C').2;have M:=bO.Su W;have g:(s.Sz x p q).out.length=s.out.length:=rfl;omega
def abG(L:cO)(s:aC)(k:Nat)(h:RepI k s)(T:k<=1000000000000)(x:ag)(q:bB x 7=true):ar prog 95 [au L.dt 0,I s.now,A x.c] [jy L s] (λr Y=>∃X,r=.tuple #[]/\Y=[jy {L with dI:=X} (s.again x)]):=by have F:=h.hN;have Q:=h.self;have v:=h.now;have d:=h.fs.len;have E:=h.fs.t;have J:=h.fs.bC x;have z:=kN q;refine ar.eqv aL.aI (afs L.dt s.n s.self L.wp L.c4 L.dI s.de s.pl s.eT s.now x h.fs.w ac ac ac ac ac ac ac) ?_;rintro r Y⟨g,C,rfl,rfl⟩;exact⟨_,⟨.slice (some ⟨g,0,none⟩) (h3 ⟨x,s.now+mv s.n s.self x.be (bC s.eT x+1),s.de⟩ (hv x s.pl)).length C,rfl,rfl⟩,aL.aI.symm⟩
def OP(b:Nat)(L:cO)(s:aC)(x:ag)(k:Nat)(h:eI k s)(ej:dR s)(cr:bB x 7=true)(cc:k<=900000000000)(ao:s.inbox.length<=900000)(dz:s.out.length<=900000):ar prog 72 [au b 0,A x.c] (bX b L s++[cv]) (λr Y=>∃gm cn,np s x cn/\r=.tuple #[]/\Y=bX b gm cn++[cv]):=by
 have p0:bB x 7=true:=cr;have Yj:=h.hN;have dO:=xQ L.dC s.bD s.X s.aH x h.aH.p.towf;have jv:=abG L s k h.toRepI ac x p0;by_cases F:(b7 s.aH.p x).Status=3
 .have hb:a8 .eql (b7 s.aH.p x).Status 3=some true:=by simp[a8,F]
  have Yh:np s x s:=.inl ⟨F,rfl⟩;obtain⟨Z,J,U,dt,wp,M,dI,dJ,dr,u,R,ey,dH,bC⟩:=L;clear jv h ej;unfold bX ec;dsimp only[List.cons_append,List.nil_append]at dO⊢;generalize b7 s.aH.p x=i at*;refine aB func72 λW=>?_;generalize bg _=D;refine aq 2 λfI=>?_;refine aa 3 ?_;refine Ku (λfp=>?_) ?_;refine aa 7 ?_;refine ai.v (V.cmp rfl rfl hb) ?_;refine aa 6 ?_;rotate_left;refine O.K' ad (λfp=>?_);refine av ?_;refine af.o' 5 rfl rfl (dO) ?_;refine aa 2 ?_;refine ae 1 7 ?_;refine aa 7 ?_;refine ai.v (V.cmp rfl rfl hb) ?_;refine aa 6 ?_;rotate_left;all_goals exact⟨_,_,⟨⟨Z,J,U,dt,wp,M,dI,dJ,dr,u,R,ey,dH,bC⟩,s,Yh,rfl,rfl⟩,XC⟩
 have hb:a8 .eql (b7 s.aH.p x).Status 3=some false:=by simp[a8,F]
 have Yn:=h.self;have Yq:=h.n;suffices Yc:∀i,i=b7 s.aH.p x->ar prog 72 [au b 0,A x.c] (bX b L s++[cv]) (λr Y=>∃gm cn,np s x cn/\r=.tuple #[]/\Y=bX b gm cn++[cv])from Yc _ rfl
 intro i G;rw[<-G]at dO hb;have Ym:fb i s.aH.n=true:=by rw[G];exact tZ h.aH x
 have Yw:eD i.cJ 7=true:=rj (nS Ym).1 (by have:=h.aH.size;omega);have YG:eD i.cY 7=true:=rj (nS Ym).2.1 (by have:=h.aH.size;omega);have Yr:eD ((br s.high x).getD bk.z) 7=true:=by
  cases bU:br s.high x with
  |none=>exact FY
  |some y=>exact ej.bU _ (lH bU)
 have Yl:=λe d=>(h.cC _ (lH (k:=x) (v:=e) d)).1;have Yi:=λe d=>(h.rs _ (lH (k:=x) (v:=e) d))
 have Yy (e:dQ a2) (d:br s.leads x=some e):np s x ((s.Sy x e).send e.v.late.1.C'):=.inr ⟨F,.inl ⟨e,d,rfl⟩⟩;have Yz (fE:br s.leads x=none) (e:dQ bO) (d:br s.bp x=some e) (R:e.v.x.b2=i.cJ):np s x ((s.again x).send e.v.C'):=.inr ⟨F,.inr (.inl ⟨fE,e,d,by rw[R,G],rfl⟩)⟩;have YA (fE:br s.leads x=none) (R:∀e,br s.bp x=some e->e.v.x.b2≠i.cJ) (p q:Nat):np s x ((s.Sz x p q).send (s.RV x).C'):=.inr ⟨F,.inr (.inr ⟨fE,λe d=>by rw[<-G];exact R e d,p,q,rfl⟩)⟩;have YH:s.TS x=w7 s.self [i.cJ,i.cY,(br s.high x).getD bk.z]:=by unfold aC.TS;rw[<-G]
 clear h ej F;have Yp:∃F4,F4=L:=⟨L,rfl⟩
 obtain⟨F4,Yu⟩:=Yp;obtain⟨Z,J,U,dt,wp,M,dI,dJ,dr,u,R,ey,dH,bC⟩:=L;unfold bX ec;dsimp only[List.cons_append,List.nil_append]at dO jv⊢;refine aB func72 λW=>?_;generalize bg _=D;refine aq 2 λfI=>?_;refine aa 2 ?_;refine ah.mt [0,3] (λ_:Nat=>True) (λp=>[(4,au p 0)]) (λp=>[cells p 54 i.c]) (b:=[]) ?_ ?_
 .intro fa j;refine Ku (λfp=>?_) ?_;refine av ?_;rotate_left;refine O.K' ad (λfp=>?_);refine av ?_;refine af.o' 5 rfl rfl (dO) ?_;refine aa 2 ?_;refine ae 1 7 ?_;refine av ?_;rotate_left;all_goals exact Out.t' j _ trivial trivial
 rintro fp-;refine bh ?_;refine aa 5 ?_;refine ai.v (V.cmp rfl rfl hb) ?_;refine aa 5 ?_;refine ah.mt [0,3,4] (λ_:aj=>True) (λ_=>[]) (λv=>[jy ⟨Z,J,U,dt,wp,M,v,dJ,dr,u,R,ey,dH,bC⟩ (s.again x)]) (b:=[jy ⟨Z,J,U,dt,wp,M,dI,dJ,dr,u,R,ey,dH,bC⟩ s]) ?_ ?_
 .intro fa j;refine ah.n' ?_ aA.j.j.j.j.j.j.j.j.j.j.j.j.j.j.d'.d'.j;refine ae 9 0 ?_;refine af.o' 9 rfl rfl (jv) ?_;rintro _ _⟨Yt,rfl,rfl⟩;refine aa 3 ?_;all_goals exact Out.t' j _ trivial trivial
 rintro N-;refine bh ?_;clear jv dO;cases K:br s.leads x with
 |some e=>
  obtain⟨mz,Yv⟩:∃mz:aj,mz=(match br s.bp x with|some y=>au y.p 0|none=>.pointer none):=⟨_,rfl⟩
  refine ah.mt [0,3,4] (λ_:Unit=>True) (λ_=>[(5,au e.p 0)]) (λ_=>[]) (b:=[]) ?_ ?_
  .intro fa j;cases o:br s.bp x with
   |none=>
    refine Ir ?_ ?_;refine PF ?_;rotate_left;refine aw.q' (aK.Sr (l:=s.bp) (k:=x) (aR:=cL) o cq jA lE rfl rfl XB) ?_;refine NL ?_;rotate_left;all_goals exact Out.t' j () trivial trivial
   |some y=>
    refine Ir ?_ ?_;refine I3 ?_;rotate_left;refine aw.q' (aK.hj (l:=s.bp) (k:=x) (aR:=cL) o cq jA lE rfl rfl XB) ?_;refine NL ?_;rotate_left;all_goals exact Out.t' j () trivial trivial
  rintro⟨⟩-;refine bh ?_;have cc:=Yl e K;have P:=Yy e K;have Yk:e.v.late.1.C'.length<=7:=a2.Su (Ag cc) Yj.2;have cM:=ar.Uk (bG:=iq) (Q:=λr (_:Unit)=>r=B e.v.late.2) (c:=λ_=>⟨e.p,e.q,e.v.late.1⟩) K (ar.post (LX e.p e.v cc.wf (by rw[cc.n];omega)) (by rintro v Y⟨rfl,rfl⟩;exact⟨_,⟨(),rfl,rfl⟩,λ_ _ _ h=>h⟩));refine aa 13 ?_;rintro _ _⟨YJ,rfl,rfl⟩;refine aa 3 ?_;have Ys:=vZ J (c:=(⟨e.p,e.q,e.v.late.1⟩:dQ a2)) K rfl;refine ah.TR Ys.symm ?_;refine ah.hC (aX:=bX b ⟨Z,J,U,dt,wp,M,N,dJ,dr,u,R,ey,dH,bC⟩ (s.Sy x e)++[cv]) (λw cB=>cB.gB (by unfold bX ec aC.Sy;(repeat(first|exact ak.nil|exact al.here|apply ak.cons|apply al.there)))) ?_;have bU:br (s.Sy x e).leads x=some ⟨e.p,e.q,e.v.late.1⟩:=OD
  have Yg:=Ag cc;have f:=ar.Tj (bG:=iq) (Q:=λr (z:aQ Go.Addr×Nat)=>r=.slice z.1 e.v.late.1.C'.length z.2) (T:=λz=>rows aD.c (.slice z.1 e.v.late.1.C'.length z.2) 176 25 e.v.late.1.C') bU (ar.post (ar.nY aD.len (xI e.p e.v.late.1 (by rw[Yg.n];omega))) Jl);have a (m:aQ Go.Addr) (C:Nat):=sA b ⟨Z,J,U,dt,wp,M,N,dJ,dr,u,R,ey,dH,bC⟩ (s.Sy x e) m C e.v.late.1.C' Q4 ac NI Z0;generalize s.Sy x e=s2 at*;unfold bX ec at a⊢;dsimp only[List.cons_append,List.nil_append]at f a⊢;refine aa 4 ?_;refine Rn λYK YI=>?_;refine aa 4 ?_;all_goals exact⟨_,_,⟨_,_,P,rfl,rfl⟩,XC⟩
 |none=>
  by_cases Yo:∃e,br s.bp x=some e/\e.v.x.b2=i.cJ
  .obtain⟨e,o,YB⟩:=Yo;obtain⟨xY,lR,sG,mE,ug⟩:=Yi e o;have P:=Yz K e o YB;have Yk:e.v.C'.length<=7:=bO.Su xY;refine ah.mt [0,3,4] (λ_:Unit=>True) (λ_=>[(5,.pointer none),(6,au e.p 0)]) (λ_=>[]) (b:=[]) ?_ ?_
   .intro fa j;refine OV ?_ ?_;refine I3 ?_;rotate_left;refine aw.q' (aK.hj (l:=s.bp) (k:=x) (aR:=cL) o cq jA lE rfl rfl XB) ?_;refine Mn ?_;rotate_left;all_goals exact Out.t' j () trivial trivial
   rintro⟨⟩-;refine bh ?_;have ly:=ar.gg (bG:=gg) o (Au e.p e.q e.v);rw[YB]at ly;have f:=ar.Tj (bG:=gg) (Q:=λr (z:aQ Go.Addr×Nat)=>r=.slice z.1 e.v.C'.length z.2) (T:=λz=>rows aD.c (.slice z.1 e.v.C'.length z.2) 176 25 e.v.C') o (ar.post (As e.p e.q e.v xY) Jl);have a (m:aQ Go.Addr) (C:Nat):=sA b ⟨Z,J,U,dt,wp,M,N,dJ,dr,u,R,ey,dH,bC⟩ (s.again x) m C e.v.C' Q4 ac NI Z0;refine aa 10 ?_;refine Nc ?_;refine aa 2 ?_;refine ah.c (λt=>?_) (λt=>?_);replace t:=fT t;rotate_left;exact ko t;refine ah.hC (aX:=bX b ⟨Z,J,U,dt,wp,M,N,dJ,dr,u,R,ey,dH,bC⟩ (s.again x)++[cv]) (λw cB=>cB.gB Z1) ?_;change ar _ _ _ [eS gg (s.again x).bp] (λr Y=>∃z,_/\Y=[_,eS gg (s.again x).bp])at f;generalize s.again x=s2 at*;unfold bX ec at a⊢;dsimp only[List.cons_append,List.nil_append]at f a⊢;refine aa 4 ?_;refine Rn λYL YD=>?_;refine aa 4 ?_;all_goals exact⟨_,_,⟨_,_,P,rfl,rfl⟩,XC⟩
  .have P:=YA K (λe d R=>Yo ⟨e,d,R⟩);obtain⟨mz,Yv⟩:∃mz:aj,mz=(match br s.bp x with|some y=>au y.p 0|none=>.pointer none):=⟨_,rfl⟩
   refine ah.mt [0,3,4] (λ_:Unit=>True) (λ_=>[(5,.pointer none),(6,mz)]) (λ_=>[]) (b:=[]) ?_ ?_
   .intro fa j;subst Yv;cases o:br s.bp x with
    |none=>
     rw[o]at j;refine OV ?_ ?_;refine PF ?_;rotate_left;refine aw.q' (aK.Sr (l:=s.bp) (k:=x) (aR:=cL) o cq jA lE rfl rfl XB) ?_;refine Mn ?_;rotate_left;all_goals exact Out.t' j () trivial trivial
    |some y=>
     rw[o]at j;refine OV ?_ ?_;refine I3 ?_;rotate_left;refine aw.q' (aK.hj (l:=s.bp) (k:=x) (aR:=cL) o cq jA lE rfl rfl XB) ?_;refine Mn ?_;rotate_left;all_goals exact Out.t' j () trivial trivial
   rintro⟨⟩-;refine bh ?_;refine aa 9 ?_;refine ah.mt [0,3,4] (λ_:Unit=>True) (λ_=>[(83,B false)]) (λ_=>[]) (b:=[]) ?_ ?_
   .intro fa j;subst Yv;cases o:br s.bp x with
    |none=>
     dsimp only;refine ah.n' ?_ aA.j.j.j.j.j.j.j.j.j.j.j.j.j.j.j.d'.j;refine ae 10 0 ?_;refine av ?_;all_goals exact Out.t' j () trivial trivial
    |some y=>
     have ly:=ar.gg (bG:=gg) o (Au y.p y.q y.v);have Yf:y.v.x.b2≠i.cJ:=λR=>Yo ⟨y,o,R⟩;dsimp only;have ef:decide (y.v.x.b2=i.cJ)=false:=kc Yf;refine Nc ?_;refine av ?_;all_goals rw[ef]
     all_goals exact Out.t' j () trivial trivial
   rintro⟨⟩-;refine bh ?_;refine av ?_;refine ah.mt [0,3] (λ_:Nat=>True) (λp=>[(6,au p 0)]) (λp=>[cells p 243 (s.RV x).x.c]) (b:=[cells fp 54 i.c]) ?_ ?_
   .intro fa j;have YC (g:Nat):=aeH _ _ 3 g 0 s.self [i.cJ,i.cY,(br s.high x).getD bk.z] (Rd.rows (E:=48) (cap:=3) (l:=[i.cJ,i.cY,(br s.high x).getD bk.z]) bk.len XE) (by
     have:=ou (FX Yw (l:=[i.cY,(br s.high x).getD bk.z]) (λb R=>by
      rcases dq.1 R with rfl|R
      .exact YG
      .rw[iz.1 R];exact Yr))
     omega)
    rw[<-YH]at YC;have Yx:ar prog 99 [I s.n,I s.self,A x.c,A (s.TS x).c] [] (λr Y=>∃q,r=au q 0/\Y=[cells q 243 (s.RV x).x.c]):=aeu ..;refine ah.n' ?_ aA.j.j.j.j.j.j.j.j.j.j.j.j.j.d'.d'.d'.j;refine ae 22 0 ?_;refine af.p' 22 rfl (aw.q' (aK.RW (l:=s.high) (k:=x) (aR:=kh) bk.z cq v2 FL rfl rfl XB) ?_);refine av ?_;refine af.p' 23 rfl (O.N' ad bk.c [i.cJ,i.cY,(br s.high x).getD bk.z] rfl (bx.agg rfl (bx.agg rfl (bx.agg rfl bx.nil))) rfl rfl (λYE=>?_));refine av ?_;refine af.o' 24 rfl rfl (YC _) ?_;refine aa 2 ?_;refine af.o' 25 rfl rfl (Yx) ?_;rintro _ _⟨YM,rfl,rfl⟩;refine aa 2 ?_;refine ae 1 26 ?_;refine av ?_;all_goals exact Out.t' j _ trivial trivial
   rintro q-;refine bh ?_;refine ah.mt [0,6] (λ_:Unit=>True) (λp=>[]) (λp=>[bn bW cL U (bw s.bp x ⟨q,0,s.RV x⟩)]) (b:=[bn bW cL U s.bp,cells fI 46 x.c]) ?_ ?_
   .intro fa j;refine ah.n' ?_ aA.j.j.j.j.j.j.j.j.j.j.j.j.j.d'.d'.j.j;refine ae 6 0 ?_;refine af.p' 6 rfl (aw.R1 (l:=s.bp) (k:=x) (v:=(⟨q,0,s.RV x⟩:dQ bO)) (bN:=bW) (aR:=cL) cq jA rfl rfl rfl XH ?_);refine aa 2 ?_;all_goals exact Out.t' j () trivial trivial
   rintro⟨⟩-;refine bh ?_;have YF:=P q 0;have Ye:(s.RV x).ok:=bO.R8 Yj ..;have Yk:(s.RV x).C'.length<=7:=bO.Su Ye;have bU:br (s.Sz x q 0).bp x=some ⟨q,0,s.RV x⟩:=OD
   have f:=ar.Tj (bG:=gg) (Q:=λr (z:aQ Go.Addr×Nat)=>r=.slice z.1 (s.RV x).C'.length z.2) (T:=λz=>rows aD.c (.slice z.1 (s.RV x).C'.length z.2) 176 25 (s.RV x).C') bU (ar.post (As q 0 (s.RV x) Ye) Jl);have a (m:aQ Go.Addr) (C:Nat):=sA b ⟨Z,J,U,dt,wp,M,N,dJ,dr,u,R,ey,dH,bC⟩ (s.Sz x q 0) m C (s.RV x).C' Q4 ac NI Z0;refine ah.hC (aX:=bX b ⟨Z,J,U,dt,wp,M,N,dJ,dr,u,R,ey,dH,bC⟩ (s.Sz x q 0)++[cv]) (λw cB=>?_) ?_
   .have cm:=cB.Se (bc:=gg ⟨q,0,s.RV x⟩++[eS gg s.bp]) (by show ak _ [cells q 243 (s.RV x).x.c,eS gg s.bp] _;(repeat(first|exact ak.nil|exact al.here|apply ak.cons|apply al.there)));rw[cd]at cm;have dd:=F1 gg s.bp x ⟨q,0,s.RV x⟩ cm;exact dd.gB (o:=[]) (by unfold bX ec aC.Sz;(repeat(first|exact ak.nil|exact al.here|apply ak.cons|apply al.there)))
   clear YA Yy Yz P Yo;generalize s.Sz x q 0=s2 at*;unfold bX ec at a⊢;dsimp only[List.cons_append,List.nil_append]at f a⊢;refine aa 4 ?_;refine Rn λp w=>?_;refine aa 4 ?_;all_goals exact⟨_,_,⟨_,_,YF,rfl,rfl⟩,XC⟩
inductive pB(s:aC):List ag->aC->Prop where
 |nil:pB s [] s
 |snoc {xs:List ag} {x:ag} {s1 s2:aC} (h:pB s xs s1) (fE:np s1 x s2):pB s (xs++[x]) s2
def nq(s:aC)(k:Int)(e:Int)(z:aC):Prop:=
 ((k<s.now\/1099511627776<k)/\e=1/\z=s)\/
 (s.now<=k/\k<=1099511627776/\e=0/\∃Z P s1,sF k s.pl Z P/\pB {s with now:=k,pl:=P} Z s1/\jB s1 z)
def sF.sub{Y:Int}{F P:ab bi}{Z:ab ag}(h:sF Y F Z P):P.Sublist F/\Z.length<=F.length/\(∀x∈Z,∃y∈F,y.key=x)/\((F.map (·.key)).Nodup->Z.Nodup):=by
 obtain⟨k,rfl,rfl,_,_⟩:=h;refine⟨List.drop_sublist ..,by rw[ev,eX];omega,λx U=>?_,λv=>?_⟩
 .obtain⟨y,G,rfl⟩:=fh.1 U;exact⟨y,List.mem_of_mem_take G,rfl⟩
 .exact v.sublist ((List.take_sublist ..).map _)
def eI.due{s:aC}(h:eI k s){x:Int}(f:s.now<=x)(F:x<=1099511627776){P:ab bi}(Q:P.Sublist s.pl):eI k {s with now:=x,pl:=P}:=by have v:=h.now;have m:=h.fs.w;exact⟨⟨h.n,h.self,⟨by show 0<=x;omega,F⟩,h.run,h.M,⟨⟨m.t0,m.sorted.sublist Q,m.kV.sublist (Q.map _),λy G=>m.fi y (Q.subset G)⟩,h.fs.t,λy G=>h.fs.aW y (Q.subset G),h.fs.td,h.fs.bC⟩⟩,⟨h.cC,h.rs,h.dy⟩,h.aH,h.eF,h.sp,h.cU⟩
def OQ(L:cO)(s:aC)(k:Int):ar prog 71 [au L.dt 0,I k] [jy L s] (λr Y=>∃a c,r=.func (.func 133) #[] #[au a 0,au c 0]/\Y=[cells a 192 [au L.wp 0],cells c 3 [I k],jy L s]):=by refine ar.eqv aL.aI (Li L.dt s.n s.self L.wp L.c4 L.dI s.de s.pl s.eT k) ?_;rintro r Y⟨a,c,rfl,rfl⟩;exact⟨_,⟨a,c,rfl,rfl⟩,aL.cons _ (aL.cons _ aL.aI.symm)⟩
def OR(L:cO)(s:aC)(k:Int)(a c:Nat)(E:s.pl.length<=100000):ar prog 70 [.func (.func 133) #[] #[au a 0,au c 0]] [cells a 192 [au L.wp 0],cells c 3 [I k],jy L s] (λr Y=>∃m C Z X P,sF k s.pl Z P/\r=.slice m Z.length C/\Y=[rows ag.c (.slice m Z.length C) 46 2 Z,jy {L with dI:=X} {s with pl:=P}]):=by
 have K:=ar.frame (bc:=[cells L.dt 194 (lh.c ⟨s.n,s.self,au L.wp 0,.map (some L.c4)⟩),bn (λx:ag=>A x.c) (λn:Int=>I n) L.c4 s.eT]) (OM L.wp a c k L.dI s.de s.pl E);unfold e2 at K;have Q:ak (cells a 192 [au L.wp 0]::cells c 3 [I k]::h4 L.dt s.n s.self L.wp L.c4 L.dI s.de s.pl s.eT) (([cells a 192 [au L.wp 0],cells c 3 [I k]]++[cells L.wp 254 (jJ.c ⟨L.dI,s.de⟩),rows bi.c L.dI 271 4 s.pl])++[cells L.dt 194 (lh.c ⟨s.n,s.self,au L.wp 0,.map (some L.c4)⟩),bn (λx:ag=>A x.c) (λn:Int=>I n) L.c4 s.eT]) []:=by unfold h4;(repeat(first|exact ak.nil|exact al.here|apply ak.cons|apply al.there))
 have p:=Q.perm;rw[dk]at p;have l:=(aL.cons (cells a 192 [au L.wp 0]) (aL.cons (cells c 3 [I k]) (aL.aI (bc:=h4 L.dt s.n s.self L.wp L.c4 L.dI s.de s.pl s.eT)))).trans (aL.RS p);refine ar.RR (ar.eqv l K (R:=_) λr Y h=>⟨Y,h,aL.refl _⟩) ?_;rintro v Y W D w⟨_,⟨u,Z,X,P,i,rfl,rfl⟩,rfl⟩ j;obtain⟨m,C,b,rfl,_⟩:=hM (f:=ag.c) ag.len (aE _) w j;refine⟨_,⟨m,C,Z,X,P,i,rfl,rfl⟩,?_⟩;refine H.eqv (aL.cons _ aL.aI).symm (an:=_::h4 L.dt s.n s.self L.wp L.c4 X s.de P s.eT) (j.gB (o:=[]) ?_);unfold h4;refine bh ?_;(repeat(first|exact ak.nil|exact al.here|apply ak.cons|apply al.there))
def abu(b:Nat)(L:cO)(s:aC)(Y:Int)(k:Nat)(h:eI k s)(g:dR s)(ao:s.inbox=[])(cc:k<=800000000000)(dz:s.out.length<=100000)(c8:s.told.length<=1000000):ar prog 43 [au b 0,I Y] (bX b L s++[cv]) (λr Yc=>∃gm j e,nq s Y e j/\r=I e/\Yc=bX b gm j++[cv]):=by
 by_cases P:s.now<=Y/\Y<=1099511627776
 .have eu:a8 .lss Y s.now=some false:=by simp[a8];omega
  have bu:a8 .gtr Y 1099511627776=some false:=XS
  have Yn:=h.fs.len;have q:=OQ L {s with now:=Y} Y;have U (a c:Nat):=OR L {s with now:=Y} Y a c (by show s.pl.length<=_;omega);obtain⟨p,G,gH,dt,wp,C,dI,dJ,dr,X,R,ey,Q,bC⟩:=L;unfold bX ec;dsimp only[List.cons_append,List.nil_append]at q U⊢;refine aB func43 λW=>?_;generalize bg _=D;refine aa 22 ?_;refine ai.v (V.cmp rfl rfl eu) ?_;refine aa 2 ?_;refine ai.v (V.cmp rfl rfl bu) ?_;refine aa 17 ?_;refine ah.hC (aX:=bX b ⟨p,G,gH,dt,wp,C,dI,dJ,dr,X,R,ey,Q,bC⟩ {s with now:=Y}++[cv]) (λw cB=>cB.gB Z1) ?_;unfold bX ec;refine bh ?_;refine aa 9 ?_;rintro _ _⟨YE,YF,rfl,rfl⟩;refine av ?_;refine ai.o' rfl (U _ _) ?_;rintro _ _⟨o,E,F,M,n,Yj,rfl,rfl⟩;refine aa 6 ?_;have J:sF Y s.pl F n:=XF
  obtain⟨T,Yg,u,-⟩:=J.sub;have Ym:eI k {s with now:=Y,pl:=n}:=h.due P.1 P.2 T;have Yz:dR {s with now:=Y,pl:=n}:=⟨g.eF,g.gw,g.bU,g.i8⟩
  have Yr:∀x∈F,bB x 7=true:=λx N=>by obtain⟨y,e7,rfl⟩:=u x N;exact h.fs.aW y e7
  have Yt (s1 j:aC) (cm:pB {s with now:=Y,pl:=n} F s1) (dd:jB s1 j):nq s Y 0 j:=.inr ⟨P.1,P.2,rfl,F,n,s1,J,cm,dd⟩;have Yo:fg ({s with now:=Y,pl:=n}:aC).inbox=0:=AT ao;have YD:({s with now:=Y,pl:=n}:aC).out.length=s.out.length:=rfl;have YA:({s with now:=Y,pl:=n}:aC).told=s.told:=rfl;refine ah.hC (aX:=rows ag.c (.slice o F.length E) 46 2 F::(bX b ⟨p,G,gH,dt,wp,C,M,dJ,dr,X,R,ey,Q,bC⟩ {s with now:=Y,pl:=n}++[cv])) (λw cB=>cB.gB Z1) ?_;clear q U J T u h g ao;generalize({s with now:=Y,pl:=n}:aC)=nE at*;generalize F=Z at*;generalize o=cG at*;generalize E=Ye at*;clear P eu bu;refine ah.fact (hM (f:=ag.c) (v:=.slice cG Z.length Ye) (l:=Z) ag.len XB) λfF=>?_;obtain⟨Yw,Yi,sq,ea,eU⟩:=fF;simp only[rk]at ea;obtain⟨rfl,-,rfl⟩:=ea;refine ah.cb [32,31,0] (λz:Nat×cO×aC=>z.1<=Z.length/\pB nE (Z.take z.1) z.2.2/\eI (k+z.1) z.2.2/\dR z.2.2/\fg z.2.2.inbox<=3*z.1/\z.2.2.out.length<=s.out.length+7*z.1/\z.2.2.told=s.told) (λz=>[(33,I (z.1:Int))]) (λz=>bX b z.2.1 z.2.2++[cv]) (λz=>Z.length-z.1) (0,⟨p,G,gH,dt,wp,C,M,dJ,dr,X,R,ey,Q,bC⟩,nE) ⟨cw _,.nil,Ym,Yz,by show fg nE.inbox<=0;omega,by show nE.out.length<=_;omega,YA⟩ ?_;rintro⟨i,fX,s1⟩⟨Yp,lA,lv,ru,Ys,Yu,t⟩ K cu;dsimp only at Yp lA lv ru Ys Yu t;by_cases Yf:i<Z.length
  .obtain⟨x,N⟩:=b8 Yf;have YB:=iM (f:=ag.c) N;have Yv:x∈Z:=j5 N;have Yq:=Yr x Yv;have Yx:s1.inbox.length<=3*i:=by
    have cm:∀l:ab aD,l.length<=fg l:=λl=>by
     unfold fg;induction l with
     |nil=>exact cl _
     |cons m l la=>
      have:=(sC m).1;rw[eK,v8,dp];omega
    have:=cm s1.inbox;omega
   have YC:=OP b fX s1 x (k+i) lv ru Yq ac ac ac;have fS:a8 .lss (i:Int) (Z.length:Int)=some true:=XS
   unfold bX ec at YC⊢;dsimp only[List.cons_append,List.nil_append]at YC⊢;refine aa 2 ?_;refine ai.v (V.cmp rfl rfl fS) ?_;refine aa 10 ?_;refine ai.v (V.SG ad (k:=i) rfl rfl eU (z:=ac)) ?_;refine ai.v (V.RP ad (k:=i) rfl eU YB) ?_;refine aq 0 λnm=>?_;refine aa 7 ?_;rintro _ _⟨Yy,d,Yh,rfl,rfl⟩;refine aa 8 ?_;have Yl:np s1 x d:=XF
   obtain⟨jb,kd,AU,AV,xZ,sB⟩:=Yl.cx lv ru Yq;have Yk:Z.take (i+1)=Z.take i++[x]:=by rw[mY,N];rfl
   all_goals(refine Out.t' cu (i+1,Yy,d) ?_ XR;exact ⟨XO,by show pB nE (Z.take (i+1)) _;rw[Yk];exact .snoc lA Yl,jb,kd,by show fg d.inbox<=3*(i+1);omega,by show d.out.length<=_+7*(i+1);omega,xZ.trans t⟩)
  .obtain rfl:i=Z.length:=by omega
   clear cu;rw[hE]at lA;have fS:a8 .lss (Z.length:Int) (Z.length:Int)=some false:=ZP
   have z:=lv.S9 ru;have w:=AO b fX s1 (k+Z.length) lv ac ac ac (by rw[t];exact c8);have c:=λj=>Yt s1 j lA;unfold bX ec at w⊢;dsimp only[List.cons_append,List.nil_append]at w⊢;refine aa 2 ?_;refine ai.v (V.cmp rfl rfl fS) ?_;refine aa 13 ?_;rintro _ _⟨m,y,Yh,rfl,rfl⟩;refine aa 10 ?_;all_goals exact⟨_,_,⟨_,_,0,c _ XF,rfl,rfl⟩,XC⟩
 .have R:Y<s.now\/1099511627776<Y:=by omega
  have M:nq s Y 1 s:=.inl ⟨R,rfl,rfl⟩;clear h g;obtain⟨p,G,gH,dt,wp,C,dI,dJ,dr,X,R,ey,Q,bC⟩:=L;unfold bX ec;refine bh ?_;refine aB func43 λW=>?_;generalize bg _=D;refine aa 24 ?_;refine ai.aU (λl=>?_) (λl=>?_);refine aa 16 ?_;rotate_left;refine aa 16 ?_;rotate_left;all_goals exact⟨_,_,⟨⟨p,G,gH,dt,wp,C,dI,dJ,dr,X,R,ey,Q,bC⟩,s,1,M,rfl,rfl⟩,XC⟩
end Go.Proofs.YteogojgnkjegmaaGreatDoor
namespace Go.ay
open Go
section
def x0(l:Array Bool):Nat:=l.toList.count false
def F5:∀(l:ab Bool) (i:Nat),l[i]?=some false->(l.set i true).count false+1=l.count false
 |[],i,h=>XU
 |b::l,0,h=>by simp only[oZ,er]at h;subst h;simp
 |b::l,i+1,h=>by simp only[qJ]at h;have:=F5 l i h;simp only[List.set_cons_succ,List.count_cons];omega
def OT{l:Array Bool}{i:Nat}(h:l.getD i true=false):l.toList[i]?=some false:=by
 rw[sU]at h;rw[Array.getElem?_toList];cases e:l[i]? with
 |none=>rw[e]at h;cases h
 |some b=>rw[e]at h;exact db some h
def F6{l:Array Bool}{i:Nat}(h:l.getD i true=false):x0 (l.setIfInBounds i true)+1=x0 l:=by unfold x0;rw[Array.toList_setIfInBounds];exact F5 _ _ (OT h)
def F7{l:Array Bool}{i j:Nat}(h:l.getD i true=false):(l.setIfInBounds i true).getD j true=(decide (j=i)||l.getD j true):=by
 by_cases e:j=i
 .subst e;simp[sU,Array.getElem?_setIfInBounds];split<;>rfl
 .simp[sU,Array.getElem?_setIfInBounds,nz e,e]
variable{P:bF}{r:aQ Nat}{W:aY}{D:ab Nat}{n:c7}{Y:Array bS}
def aw.SA{o:bS}{J:bv}{N:ab ax}{C f:bv->ab ax->Prop}(h:aw P r W D n o J N C)(T:∀t F,C t F->f t F):aw P r W D n o J N f:=
 h.Ux λt F u=>⟨F,T _ _ u,λ_ h=>h⟩
def aw.Xm{o:bS}{J:bv}{N t:ab ax}{C:bv->ab ax->Prop}(v:N.Perm t)(h:aw P r W D n o J t C):aw P r W D n o J N C:=
 aw.of λK Q p a w L f=>by unfold aw at h;exact h K Q p a w L (f.perm v)
def af.inv{Q:cE}{e:dj}{p l:ab ax}{t:ab Nat}(I:Array Bool->bv->ab ax->Prop) (k:∀v J N,I v J N->(∀w,H W D N w->e4 p w)/\(∀w,H W D N w->e4 l w)) (step:∀v J N i o,I v J N->Y[i]?=some o->v.getD i true=false->(∀e∈o.after,Region.binds .any e=true->v.getD e.on false=true)->gK J Y o.guard=some true/\aw P r W D n o J N (λg F=>I (v.setIfInBounds i true) g F)) (done:∀v J N,I v J N->Region.ready .any Y v=[]->Out W D n Q e J N):∀(L:Nat) (v:Array Bool) (J:bv) (N:ab ax) (Z:Bool),x0 v<=L->I v J N->af P r W D n Y (Q e) p l t Z L v J N
 |0,v,J,N,Z,u,a=>by
  have t:Region.ready .any Y v=[]:=by refine F8.2 λj p=>?_;have U:=(pM.1 p).1;have:=F6 U;omega
  exact af.out (by rw[t];rfl) (done _ _ _ a t)
 |L+1,v,J,N,Z,u,a=>by
  by_cases t:Region.ready .any Y v=[]
  .exact af.out (by rw[t];rfl) (done _ _ _ a t)
  .refine af.each (Region.ready .any Y v) (by simp[t]) λi ao=>?_;obtain⟨U,o,Z,d⟩:=pM.1 ao;obtain⟨q,M⟩:=step v J N i o a Z U d;refine⟨o,Z,q,M.SA λg F h=>⟨(k _ _ _ h).1,(k _ _ _ h).2,?_⟩⟩;exact af.inv I k step done L _ _ _ _ (by have:=F6 U;omega) h
def abN(Y:Array bS):Bool:=(List.range Y.size).all λj=>match Y[j]? with|some o=>o.after.toList.all λe=>Nat.blt e.on j|none=>true
def F9{l:Array Bool}(o:Region.ready .any Y l=[])(Q:l.size=Y.size)(Z:abN Y=true):∀(k j:Nat),j<k->j<Y.size->l.getD j true=true
 |0,j,h,_=>ac
 |k+1,j,h,p=>by
  cases s:l.getD j true with
  |true=>rfl
  |false=>
   have v:=gX.1 Z j (qD.2 p);have y:Y[j]?=some Y[j]:=y5 p;rw[y]at v;have:j∈Region.ready .any Y l:=pM.2 ⟨s,_,y,λe d _=>by
    have F:e.on<j:=nw (gX.1 v e (Array.mem_toList_iff.2 d));have M:=F9 o Q Z k e.on ac ac;have g:e.on<l.size:=ac
    simpa[sU,y5 g]using M⟩
   rw[o]at this;cases this
def x1{l:Array Bool}{j:Nat}(h:l.getD j false=true):l.getD j true=true:=by
 rw[sU]at h⊢;cases e:l[j]? with
 |none=>rfl
 |some b=>rw[e]at h;exact h
def adp{o t:Type}{w:ab o}(a:w.Nodup){i:o}(ao:i∈w)(f g:o->ab t)(v:f i=[])(Q:∀j∈w,j≠i->g j=f j):(w.flatMap g).Perm (g i++w.flatMap f):=by
 induction w with
 |nil=>cases ao
 |cons j w u=>
  rw[lf]at a;rw[fG,fG];rcases dq.1 ao with rfl|ao
  .rw[v,gi];refine AW _ ?_;rw[uR,uR,Ga (f:=g) (g:=f) λj p=>Q j (hn _ p) λe=>a.1 (e▸p)]
  .have p:g j=f j:=Q j (iT ..) λe=>a.1 (e▸ao);rw[p];refine(AW (f j) (u a.2 ao λk T=>Q k (hn _ T))).trans ?_;rw[<-cd,<-cd];exact Gb _ mZ
end
end Go.ay
