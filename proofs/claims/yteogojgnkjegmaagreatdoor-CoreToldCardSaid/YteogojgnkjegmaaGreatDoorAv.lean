/-
 Part of the proof.
-/
import Derived.Test.YteogojgnkjegmaaGreatDoorAu
set_option linter.all false
set_option maxRecDepth 8000
set_option maxHeartbeats 8000000
namespace Go.Proofs.YteogojgnkjegmaaGreatDoor
open Go.az Go.Proofs.Tryz
variable[Go.az.b5]
variable{m:aD}{k:Nat}{n:Int}
def fs.told{s L:aA}(q:fs s m L):L.told=s.told:=by
 rcases q with⟨_,X,_,_,q⟩|⟨_,q⟩
 .have Y:(s.U' m X).told=s.told:=by unfold aA.U';split<;>rfl
  rcases q with⟨_,q⟩|⟨_,q⟩
  .obtain⟨w,_,rfl⟩:=q.go;exact Y
  .unfold je at q;subst q;exact Y
 .have:=q.core.b;simp only[nV]at this;exact this.2.2.2.2
def ED(b:Nat)(L:cT)(s:aA)(k:Nat)(h:ek k s)(ca:k+3*s.R'<=1000000000000)(Yc:s.R'<=100000)(ej:s.out.length+14*s.R'<=800000)(x:s.told.length<=1000000):ar prog 61 [av b 0] (ch b L s++[cM]) (λr J=>∃F t,jB s t/\r=.tuple #[]/\J=ch b F t++[cM]):=by
 refine aF func61 λW=>?_;generalize br _=D;refine aa 2 ?_;refine ah.cq [0] (λz:cT×aA×Nat=>ig s z.2.1/\ek (k+3*z.2.2) z.2.1/\z.2.1.R'+z.2.2<=s.R'/\z.2.1.out.length<=s.out.length+14*z.2.2/\z.2.1.told=s.told) (λz=>[]) (λz=>ch b z.1 z.2.1++[cM]) (λz=>z.2.1.R') (L,s,0) ⟨.refl s,h,cx _,cx _,rfl⟩ ?_;rintro⟨⟨U,N,C,ei,R,Z,g,eC,u,T,X,e9,G,bY⟩,j,i⟩⟨y,p,E,m,P⟩ K Y;dsimp only at y p E m P;have M:=ahV j;unfold ch e5;refine bh ?_;refine ah.fact (tJ (f:=aD.c) (v:=e9) (l:=j.inbox) aD.len VF) λo=>?_;obtain⟨n,Q,bu,off,rfl,w,a⟩:=o;cases am:j.inbox with
 |nil=>
  clear Y;have dd:=ar.frame (bg:=[cM]) (JD b ⟨U,N,C,ei,R,Z,g,eC,u,T,X,.slice n j.inbox.length Q,G,bY⟩ j (k+3*i) p.toRepI ac (by rw[P];exact x));have d:=ar.post (a:=λr J=>∃F t,kP j t/\r=.tuple #[]/\J=ch b F t++[cM]) dd (by rintro v J⟨_,⟨F,t,q,rfl,rfl⟩,rfl⟩;exact⟨_,⟨F,t,q,rfl,rfl⟩,λ_ _ _ h=>h⟩);unfold ch e5 at d;dsimp only[List.cons_append,List.nil_append]at d;rw[am]at d;refine aa 20 ?_;refine SY λd W q=>?_;all_goals exact⟨_,_,⟨_,_,⟨j,y,am,VV⟩,rfl,rfl⟩,VH⟩
 |cons m x=>
  obtain⟨o,D,K⟩:=p.rest am;have J:=(vu m).1;rw[am]at a w;have r:(m::x).length=x.length+1:=rfl;have q:((m::x).map aD.c)[0]?=some m.c:=rfl;have L:bb .gtr (((m::x).length:Nat):Int) 0=some true:=by simp only[bb,df];congr 1;rw[cO];omega
  refine aa 8 ?_;refine ai.v (V.cmp rfl rfl L) ?_;refine aa 12 ?_;refine ai.v (V.W9 ad (k:=0) rfl rfl a (z:=VK)) ?_;refine ai.v (V.Wb ad rfl a q) ?_;refine aq 0 λJ=>?_;refine aa 3 ?_;refine ah.acK (f:=aD.c) (E:=176) (o:=25) (k:=n) (l:=m::x) (g:=Q) 1 aD.len VK ?_ (q:=VH);have l:=JJ b ⟨U,N,C,ei,R,Z,g,eC,u,T,X,.slice (Go.az.partAt n Q 1 25) ((m::x).length-1) (Q-1),G,bY⟩ {j with inbox:=x} (k+3*i) m o.z ac D (by rw[am,r]at M;dsimp only;omega) Mm;unfold ch e5 at l;dsimp only[List.cons_append,List.nil_append]at l;dsimp only[List.drop_succ_cons,List.drop_zero];refine aa 7 ?_;refine ai.v (V.WD ad (i:=1) rfl rfl VK) ?_;refine aa 9 ?_;refine SY λv r q=>?_;have U:fs {j with inbox:=x} m r:=VV
  have aV:=U.R' o.z.toRepW;have b:=U.out o;dsimp only at b;all_goals(refine Out.C' Y (v,r,i+1) ?_ (by show r.R'<j.R';omega);exact ⟨.step y am U,U.cu o D,by show r.R'+(i+1)<=s.R';omega,by show r.out.length<=s.out.length+14*(i+1);omega,U.told.trans P⟩)
def aA.flush(s:aA):aA:={s with ax:={s.ax with safe:=(s.ax.data.length:Int)},out:=[],told:=[]}
def ae4(b:Nat)(L:cT)(s:aA):ar prog 62 [av b 0] (ch b L s) (λr J=>∃F j k a w,r=.tuple #[.slice j s.out.length k,.slice a s.told.length w]/\J=rows b2.c (.slice j s.out.length k) 143 3 s.out::rows gf.c (.slice a s.told.length w) 65 6 s.told::ch b F s.flush):=by have y:=aiE L.ef s.bU s.X s.ax;obtain⟨P,N,m,o,D,t,d,z,n,u,T,i,Q,bY⟩:=L;unfold ch e5;dsimp only at y⊢;refine aF func62 λW=>?_;refine ah.fact (jc (f:=b2.c) (v:=Q) (l:=s.out) b2.len VF) λK=>?_;obtain⟨j,k,b3,rfl,G⟩:=K;refine ah.fact (jc (f:=gf.c) (v:=bY) (l:=s.told) gf.WO VF) λK=>?_;obtain⟨a,w,E,rfl,p⟩:=K;refine ah.V5 b2.c 143 3 ?_;refine ah.V5 gf.c 65 6 ?_;refine aa 27 ?_;refine ah.p' ?_ aC.j.j.j.j.j.j.j.j.j.j.j.j.d'.j.j.j;refine ae 10 0 ?_;refine aa 24 ?_;all_goals exact⟨_,_,⟨⟨P,N,m,o,D,t,d,z,n,u,T,i,.slice none 0 0,.slice none 0 0⟩,j,k,a,w,rfl,rfl⟩,VH⟩
def afe:dH prog 13 [.pointer none] (.pointer none):=by refine aF func13 λW=>?_;exact aQ 21
def Su(b:Nat)(L:cT)(s:aA):ar prog 13 [av b 0] (ch b L s) (λr J=>r=av L.ef 0/\J=ch b L s):=by unfold ch e5;refine aF func13 λW=>?_;exact aQ 26
def ig.cu{s r:aA}(h:ek k s)(E:ig s r):∃i,ek (k+3*i) r/\r.R'+i<=s.R':=by
 induction E with
 |refl=>exact⟨0,h,cx _⟩
 |step _ am K X=>
  obtain⟨i,W,M⟩:=X;obtain⟨f,G,Z⟩:=W.rest am;have:=K.R' f.z.toRepW;exact⟨i+1,K.cu f G,ac⟩
def kP.abo{s L:aA}(h:ek k s)(J:kP s L):ek (k+448) L:=by obtain⟨p,x,j,Y,t,n,q,_⟩:=J.same;have X:=h.dv;exact⟨J.cu h.toRepI,⟨by rw[j,t,n];exact h.ce,by rw[Y,t,n];exact h.rs,by rw[q];exact h.bu⟩,by rw[p];exact h.ax,by rw[p,t];exact h.en,by rw[p,x];exact h.sp,by rw[x];omega⟩
def pD(m:aD):Prop:=m.Kind=8->cX m.bC 7=true
structure dP(s:aA):Prop where
 en:(s.leads.map (·.1)).Nodup
 e6:(s.bq.map (·.1)).Nodup
 bG:∀y∈s.high,cX y.2 7=true
 i8:∀m∈s.inbox,pD m
def Sv(a b:bp):kF a b=a\/kF a b=b:=by
 unfold kF;split
 .exact .inr rfl
 .exact .inl rfl
def JU:∀(l:ab bp) (a:bp),(l.foldl kF a=a\/l.foldl kF a∈l)
 |[],a=>.inl rfl
 |b::l,a=>by
  rw[pc];rcases JU l (kF a b)with h|h
  .rw[h];rcases Sv a b with e|e
   .exact .inl e
   .exact .inr (by rw[e];exact er ..)
  .exact .inr (e0 _ h)
def JV{a:bp}{l:ab bp}(J:cX a n=true)(u:∀b∈l,cX b n=true):cX (lE (a::l)) n=true:=by
 show cX (l.foldl kF a) n=true
 rcases JU l a with h|h
 .rw[h];exact J
 .exact u _ h
def EF:cX bp.z 7=true:=rfl
def aA.adl{s:aA}(h:∀y∈s.high,cX y.2 7=true)(K:pD m):∀y∈s.Wa m,cX y.2 7=true:=by
 intro y C;unfold aA.Wa at C;split at C
 .rename_i a;rcases qV C with rfl|C
  .refine JV ?_ (by simpa using K a);cases G:aZ s.high m.Item with
   |none=>exact EF
   |some b=>exact h _ (li G)
  .exact h y C
 .exact h y C
def dP.send{s:aA}(h:dP s){l:ab aD}(u:∀m∈l,pD m):dP (s.send l):=by
 refine⟨h.en,h.e6,h.bG,λm K=>?_⟩;have K:m∈s.inbox++fa s.self l:=K;rcases eh.1 K with K|K
 .exact h.i8 m K
 .exact u m (mU.1 K).1
def rP{k:Int}(h:m.Kind=k)(T:k≠8):pD m:=λa=>absurd (h.symm.trans a) T
def AZ(l:a6):∀m∈l.H',pD m:=by
 intro m K;unfold a6.H' at K;split at K
 .unfold a6.Wc at K;obtain⟨i,_,rfl⟩:=dQ.1 K;refine rP (k:=jz l.phase) rfl ?_;unfold jz;split
  .decide
  .split<;>decide
 .cases K
def EG(r:bM):∀m∈r.H',pD m:=by
 intro m K;unfold bM.H' at K;split at K
 .cases K
 .split at K
  .exact AZ _ m K
  .obtain⟨i,_,rfl⟩:=dQ.1 K;exact rP (k:=6) rfl VI
def EH{i:aY}(am:cX i.bO 7=true):pD (l9 m i).1:=by
 unfold l9;split
 .exactλ_=>am
 exact MM
def Sw{s:bS}(E:Int)(m:aD)(h:s.ok):pD (cH s E m).2.1:=by
 have am:cX (bn s.p m.Item).bO 7=true:=qJ (nB (w2 h m.Item)).1 T6;unfold cH;split
 .unfold mb;dsimp only;split
  .exact rP (k:=5) rfl VI
  split
  .unfold j4;dsimp only;split
   .exact rP (k:=2) rfl VI
   .exact EH am
  split
  .unfold j5;dsimp only;split
   .exact rP (k:=4) rfl VI
   .exact EH am
  split
  .unfold nb;dsimp only;split
   .exact rP (k:=7) rfl VI
   .exact EH am
  split
  exact MM
  exact MM
 exact MM
def aiz{s:aA}(h:dP s)(u:s.ax.ok)(m:aD)(T:eY):dP (s.U' m T):=by
 have Y:dP {s with ax:=(cH s.ax s.self m).1,X:=T}:=⟨h.en,h.e6,h.bG,h.i8⟩
 cases a:(cH s.ax s.self m).2.2
 .rw[yZ T a];exact Y
 .rw[y0 T a];exact Y.send λd i=>by rw[fF.1 i];exact Sw s.self m u
def od.WF{s L:aA}{x:ag}(h:dP s)(J:od s x L):dP L:=by obtain⟨w,q,rfl⟩:=J.go;exact⟨tI h.en,tI h.e6,λy C=>h.bG y ((pp _ _).subset C),h.i8⟩
def je.WF{s L:aA}{x:ag}(h:dP s)(J:je s x L):dP L:=by
 unfold je at J;subst J;refine⟨?_,?_,h.bG,h.i8⟩
 .show((s.Wu x (bn s.ax.p x).bO).map (·.1)).Nodup;unfold aA.Wu;split
  .split
   .exact tI h.en
   .exact h.en
  .exact h.en
 .show((s.Wv x (bn s.ax.p x).bO).map (·.1)).Nodup;unfold aA.Wv;split
  .split
   .exact tI h.e6
   .exact h.e6
  .exact h.e6
def ajq{s:aA}(h:dP s)(m:aD)(n:Nat):dP (s.V1 m n):=by
 unfold aA.V1;split
 .exact h
 .rename_i e P;have b:dP {s with bq:=bA s.bq m.Item ⟨e.p,n,(e.v.B' m).1⟩}:=⟨h.en,rq h.e6,h.bG,h.i8⟩
  have w:=b.send (EG (e.v.B' m).1);split
  .split
   .exact⟨w.en,tI w.e6,w.bG,w.i8⟩
   .exact w
  .exact b
def afp{s:aA}(h:dP s)(m:aD):dP (s.V7 m):=by
 unfold aA.V7;split
 .exact h
 .rename_i e P;have b:dP {s with leads:=bA s.leads m.Item ⟨e.p,e.q,(e.v.B' m).1⟩}:=⟨rq h.en,h.e6,h.bG,h.i8⟩
  have w:=b.send (AZ (e.v.B' m).1);split
  .split
   .exact⟨tI w.en,w.e6,w.bG,w.i8⟩
   .exact w
  .exact b
def fs.WF{s L:aA}(h:dP s)(u:s.ax.ok)(K:pD m)(q:fs s m L):dP L:=by
 rcases q with⟨_,T,X,E,q⟩|⟨_,n,rfl⟩
 .have Y:=aiz h u m T;rcases q with⟨_,q⟩|⟨_,q⟩
  .exact q.WF Y
  .exact q.WF Y
 .exact afp (ajq (s:={s with high:=s.Wa m}) ⟨h.en,h.e6,aA.adl h.bG K,h.i8⟩ m n) m
def kP.WF{s L:aA}(h:dP s)(J:kP s L):dP L:=by obtain⟨p,x,j,Y,t,n,q,z,y,a,_⟩:=J.same;exact⟨by rw[j];exact h.en,by rw[Y];exact h.e6,by rw[a];exact h.bG,by rw[q];exact h.i8⟩
def ig.WF{s r:aA}(W:ek k s)(h:dP s)(E:ig s r):dP r:=by
 induction E with
 |refl=>exact h
 |@step r q m x E am K X=>
  obtain⟨i,f,_⟩:=E.cu W;have R:dP {r with inbox:=x}:=⟨X.en,X.e6,X.bG,λm K=>X.i8 m (by rw[am];exact e0 _ K)⟩
  exact K.WF R f.ax (X.i8 _ Qt)
def JW{o:Type}(t:o->Nat)(c:Nat)(l:ab (ag×eI o))(h:∀y∈l,t y.2.v<=c):nK t l<=c*l.length:=by
 unfold nK;induction l with
 |nil=>exact cG _
 |cons y l X=>
  have Y:=h y (er ..);have Z:=X λz v=>h z (e0 _ v);rw[eE,sG,df,Nat.mul_succ];omega
def JX{o:Type}(l:ab (ag×eI o))(h:(l.map (·.1)).Nodup)(G:∀y∈l,bt y.1 7=true):l.length<=448:=by
 have:=sF h λx U=>by obtain⟨y,C,rfl⟩:=dQ.1 U;exact G y C
 rwa[dZ]at this
def bM.XV{r:bM}(h:r.ok):r.VZ<=4:=by
 unfold bM.VZ;split
 .omega
 .split
  .rename_i l u;have:=a6.XV (h.ce l u);omega
  .omega
def ek.XA{s:aA}(h:ek k s)(t:dP s):s.R'<=12544+gh s.inbox:=by have o:=JX s.leads t.en λy C=>(h.ce y C).2;have Y:=JX s.bq t.e6 λy C=>(h.rs y C).2.2.2.2;have b:=JW a6.VZ 3 s.leads λy C=>a6.XV (h.ce y C).1;have x:=JW bM.VZ 4 s.bq λy C=>bM.XV (h.rs y C).1;unfold aA.R';omega
def JY{o:Type}(b3:eI o->ab ay)(l:ab (ag×eI o))(k:ag)(e:eI o){W:a2}{D:ab Nat}{F:ab ay}{w:a2}(h:H W D (b3 e++(fA b3 l::F)) w):H W D (fA b3 (bA l k e)::F) w:=by have Y:H W D (fA b3 l::(b3 e++F)) w:=h.perm (ow);have Z:=vs b3 l k Y;have G:H W D ((b3 e++[fA b3 (fm l k)])++F) w:=Z.perm (by rw[ck];exact(ow).symm);exact H.eqv ((Es b3 l k e).symm.append (aP.refl F)) G
abbrev EI:aj->aj:=λv=>v
def JZ{o:Type}(b:Nat)(l:ab (ag×eI o)):bz b9 di b l=bz b9 EI b (l.map λy=>(y.1,di y.2)):=by unfold bz;rw[sN];rfl
def J0{o:Type}:∀(l:ab (ag×eI o)) (k:ag) (e:eI o),bA (l.map λy=>(y.1,di y.2)) k (av e.p 0)=(bA l k e).map λy=>(y.1,di y.2)
 |[],k,e=>rfl
 |y::l,k,e=>by
  rw[eE,lB,lB];by_cases h:k=y.1
  .rw[aJ h,aJ h];rfl
  .rw[aG h,aG h,eE,J0 l k e]
def aA.VY(s:aA)(d:bF):a6:=jb s.n s.self (fz s.ax s.self) ⟨0,s.self⟩ ⟨d,(fH s.ax.p d (fz s.ax s.self)).1,(fH s.ax.p d (fz s.ax s.self)).2⟩ 1
def aA.WA(s:aA)(d:bF)(p:Nat):aA:={s with leads:=bA s.leads (fz s.ax s.self) ⟨p,0,s.VY d⟩,cR:=bA s.cR (fz s.ax s.self) true}
noncomputable def aA.V3(s:aA)(d:bF)(p:Nat):aA:=(s.WA d p).send (s.VY d).H'
def uf(d:bF):Prop:=oL d=true/\d.Kind≠0
def oX(s:aA)(d:bF)(x:ag)(e:Int)(L:aA):Prop:=
 (¬uf d/\x=ag.z/\e=1/\L=s)\/(uf d/\64<(fz s.ax s.self).bX/\x=ag.z/\e=6/\L=s)\/
 (uf d/\(fz s.ax s.self).bX<=64/\x=fz s.ax s.self/\e=0/\∃p,jB (s.V3 d p) L)
def ek.V3{s:aA}(h:ek k s)(d:bF)(p:Nat)(b:(fz s.ax s.self).bX<=64):ek k (s.V3 d p):=by
 have T:hU (s.VY d) s.n s.self (fz s.ax s.self) ⟨0,s.self⟩:=rL ..;have U:bt (fz s.ax s.self) 7=true:=by
  have:=h.self;have w:=h.gF;unfold bt;simp only[c1,cO];refine⟨⟨⟨this.1,by show s.self<7;omega⟩,?_⟩,b⟩;show 1<=(s.ax.p.top s.self:Int)+1
  omega
 have u:RepG (s.WA d p):=by
  refine⟨λy C=>?_,h.rs,h.bu⟩;rcases qV C with rfl|C
  .exact⟨⟨T.wf,T.n,T.self,T.item,rfl,T.phase⟩,U⟩
  .exact h.ce y C
 refine⟨h.toRepI.of rfl,u.send λm K=>?_,h.ax,h.en,h.sp,h.dv⟩;rw[vw T m K];exact U
def dP.V3{s:aA}(h:dP s)(d:bF)(p:Nat):dP (s.V3 d p):=
 dP.send (s:=s.WA d p) ⟨rq h.en,h.e6,h.bG,h.i8⟩ (AZ _)
def agl(b:Nat)(L:cT)(s:aA)(d:bF)(k:Nat)(h:ek k s)(dO:dP s)(am:s.inbox=[])(ca:k<=900000000000)(ej:s.out.length<=100000)(cB:s.told.length<=1000000):ar prog 36 [av b 0,A d.c] (ch b L s++[cM]) (λr F=>∃bD j x e,oX s d x e j/\r=.tuple #[A x.c,I e]/\F=ch b bD j++[cM]):=by
 have dA:=Ak d;have Y:=h.self;have u:=ajB L.ef s.bU s.X s.ax s.self h.ax.p.towf Y.1 (by rw[h.en];exact Y.2);have N:=h.dv;by_cases P:uf d
 .have Z:oL d=true:=P.1;have f:d.Kind≠0:=P.2;have A0:bb .eql d.Kind 0=some false:=by simp[bb,f]
  have lF:=tk (show decide (dh d)=true from Z);have ie:=Jz L.ef s.bU s.X s.ax d (fz s.ax s.self) h.ax h.sp (by have:=lF.1;omega) ac;rw[Z]at dA;by_cases jr:(fz s.ax s.self).bX<=64
  .have pm:decide ((s.ax.p.top s.self:Int)+1<=64)=true:=iq jr;rw[pm]at u;have R (p:Nat):=(h.V3 d p jr)
   have E (p:Nat):=(dO.V3 d p)
   have Yc:0<=(s.VY d).n/\(s.VY d).n<=1000:=by have:=h.gF;show 0<=s.n/\s.n<=1000;omega
   have Yf:(s.VY d).H'.length<=7:=a6.WT (rL ..) h.gF.2;have J (p:Nat) (bD:cT):=ED b bD (s.V3 d p) k (R p) (by
    have bf:=(R p).XA (E p);have bW:gh (s.V3 d p).inbox<=3:=by
     show gh (s.inbox++fa s.self (s.VY d).H')<=3
     rw[am,g4];exact vv ..
    omega) (by
    have bf:=(R p).XA (E p);have bW:gh (s.V3 d p).inbox<=3:=by
     show gh (s.inbox++fa s.self (s.VY d).H')<=3
     rw[am,g4];exact vv ..
    omega) (by
    have bf:=(R p).XA (E p);have bW:gh (s.V3 d p).inbox<=3:=by
     show gh (s.inbox++fa s.self (s.VY d).H')<=3
     rw[am,g4];exact vv ..
    have cd:=(ud (s.WA d p) (s.VY d).H').2;have gw:(s.WA d p).out.length=s.out.length:=rfl;have jJ:((s.WA d p).send (s.VY d).H').out.length=(s.V3 d p).out.length:=rfl;omega) cB
   have M:ar prog 57 [I s.n,I s.self,A (fz s.ax s.self).c,A (bp.c ⟨0,s.self⟩),A (aO.c ⟨d,(fH s.ax.p d (fz s.ax s.self)).1,(fH s.ax.p d (fz s.ax s.self)).2⟩),I 1] [] (λr F=>∃q,r=av q 0/\F=[cells q 183 (s.VY d).c]):=IX ..;have m (p:Nat) (cK:aT Go.Addr) (G:Nat):=vt b L (s.WA d p) cK G (s.VY d).H' h.gF.2 ac (by show s.inbox.length<=_;rw[am];decide) R6;have t (p:Nat):=ar.XL (b3:=jQ) (l:=(s.WA d p).leads) (x:=fz s.ax s.self) (e:=⟨p,0,s.VY d⟩) (Q:=λr (z:aT Go.Addr×Nat)=>r=.slice z.1 (s.VY d).H'.length z.2) (T:=λz=>rows aD.c (.slice z.1 (s.VY d).H'.length z.2) 176 25 (s.VY d).H') Vp (ar.post (ar.qh aD.len (AM p (s.VY d) Yc)) (by rintro v F⟨cK,G,rfl,rfl⟩;exact⟨_,⟨(cK,G),rfl,rfl⟩,λ_ _ _ h=>h⟩));have a (j:aA) (p:Nat) (du:jB (s.V3 d p) j):oX s d (fz s.ax s.self) 0 j:=.inr (.inr ⟨P,jr,rfl,rfl,p,du⟩);have Yj (p:Nat):(s.WA d p).leads=bA s.leads (fz s.ax s.self) ⟨p,0,s.VY d⟩:=rfl;clear R E N Y ca ej cB lF P;unfold aA.V3 at J a;obtain⟨ef,K,fS,ei,wp,cV,eU,eC,eg,g,bN,e9,dw,bY⟩:=L;unfold ch e5;generalize b6:fz s.ax s.self=x at*;generalize Ye:s.VY d=iT at*;dsimp only[List.cons_append,List.nil_append]at*;refine aF func36 λW=>?_;generalize br _=D;refine P2 λgD fO=>?_;refine ai.v (V.cmp rfl rfl A0) ?_;refine aa 8 ?_;refine ah.mt [0,3,4] (λ_:Nat=>True) (λp=>[(6,av p 0),(7,B true)]) (λp=>[cells p 46 x.c]) (s:=[]) ?_ ?_
   .intro fP U;clear J m t a ie;refine ah.p' ?_ aC.j.j.j.j.j.j.j.j.j.j.j.j.j.j.d'.j.j;refine ae 8 0 ?_;refine af.bx 8 12 rfl rfl ?_ ?_;refine aw.V0 rfl (u) VH ?_;refine Ni λob=>?_;refine au ?_;rotate_left;refine O.Q' ad (λob=>?_);refine au ?_;refine af.x' 8 rfl rfl (u) ?_;refine Tp ?_;rotate_left;all_goals exact Out.C' U _ trivial trivial
   rintro ob-;refine bh ?_;refine aa 10 ?_;refine ah.mt [0,3,4,6] (λ_:Nat=>True) (λp=>[(8,av p 0),(9,I (fH s.ax.p d x).2)]) (λp=>[cells p 50 (fH s.ax.p d x).1.c]) (s:=[]) ?_ ?_
   .intro fP U;clear J m t a u;refine ah.p' ?_ aC.j.j.j.j.j.j.j.j.j.j.j.j.j.j.d'.d'.j.d';refine ae 6 0 ?_;refine af.bx 6 10 rfl rfl ?_ ?_;refine aw.V0 rfl (ie) VH ?_;refine aa 2 ?_;refine ae 3 7 ?_;refine dr 10 λsy=>?_;refine ae 2 11 ?_;refine au ?_;rotate_left;refine O.Q' ad (λsy=>?_);refine au ?_;refine af.x' 6 rfl rfl (ie) ?_;refine aa 2 ?_;refine ae 3 7 ?_;refine ae 2 11 ?_;refine au ?_;rotate_left;all_goals exact Out.C' U _ trivial trivial
   rintro sy-;refine bh ?_;refine ah.mt [0,4,6] (λ_:Nat=>True) (λp=>[(10,av p 0)]) (λp=>[cells p 183 iT.c]) (s:=[cells sy 50 (fH s.ax.p d x).1.c,cells gD 29 d.c]) ?_ ?_
   .intro fP U;clear J m t a u;refine ah.p' ?_ aC.j.j.j.j.j.j.j.j.j.j.j.j.j.j.d'.d'.j.d'.d';refine ae 13 0 ?_;refine ae 3 14 ?_;refine af.n' 17 rfl (V.WH ad) ?_;refine af.y' 13 rfl (aw.fn rfl (z8 _) ?_);refine au ?_;refine af.x' 18 rfl rfl (M) ?_;rintro _ _⟨Yo,rfl,rfl⟩;refine aa 2 ?_;refine ae 1 19 ?_;refine au ?_;all_goals exact Out.C' U _ trivial trivial
   rintro q-;refine bh ?_;refine ah.mt [0,10,6,4] (λ_:Unit=>True) (λ_=>[]) (λ_=>[bz b9 di K (bA s.leads x ⟨q,0,iT⟩),bz b9 hA g (bA s.cR x true)]) (s:=[bz b9 di K s.leads,bz b9 hA g s.cR]) ?_ ?_
   .intro fP U;clear J m t a u ie M;refine ah.ZE (JZ K s.leads) ?_;have Yk:=J0 s.leads x ⟨q,0,iT⟩;have Yh:=JZ K (bA s.leads x ⟨q,0,iT⟩);rw[<-Yk]at Yh;generalize(s.leads.map λy=>(y.1,di y.2))=lH at*;refine ah.p' ?_ aC.j.j.j.j.j.j.j.j.j.j.j.j.j.d'.j.d'.j.j;refine ae 11 0 ?_;refine af.y' 11 rfl (aw.Xb (l:=lH) (k:=x) (aU:=EI) (.pointer none) cw lg nc rfl rfl Vz (λYp=>?_));refine au ?_;refine ae 1 12 ?_;refine af.y' 13 rfl (aw.XG (l:=lH) (k:=x) (v:=av q 0) (aU:=EI) rfl rfl rfl VJ ?_);refine au ?_;refine af.y' 14 rfl (aw.Xb (l:=s.cR) (k:=x) (aU:=hA) false cw qM wT rfl rfl Vz (λYq=>?_));refine au ?_;refine ae 1 15 ?_;refine af.y' 16 rfl (aw.XG (l:=s.cR) (k:=x) (v:=true) (aU:=hA) rfl rfl rfl VJ ?_);refine aa 2 ?_;all_goals exact Out.C' U () trivial trivial (g:=by rw[Yh];(repeat(first|exact ak.nil|exact al.here|apply ak.cons|apply al.there)))
   rintro⟨⟩-;refine bh ?_;refine ah.iE (a7:=ch b ⟨ef,K,fS,ei,wp,cV,eU,eC,eg,g,bN,e9,dw,bY⟩ (s.WA d q)++[cM,cells ob 46 x.c,cells fO 46 ag.z.c]) (λw cE=>?_) ?_
   .have bf:=cE.Wy (bg:=jQ ⟨q,0,iT⟩++[fA jQ s.leads]) (by unfold jQ;(repeat(first|exact ak.nil|exact al.here|apply ak.cons|apply al.there)));rw[ck]at bf;have bW:=JY jQ s.leads x ⟨q,0,iT⟩ bf;exact bW.hv (v:=[]) (by unfold ch aA.WA;rw[b6,Ye];(repeat(first|exact ak.nil|exact al.here|apply ak.cons|apply al.there)))
   have o:=t q;have i:=λcK G=>m q cK G;have C:=λbD=>J q bD;have Yi:=λj=>a j q;clear t m J a u ie M;generalize s.WA d q=s2 at*;unfold ch e5 at C i⊢;dsimp only[List.cons_append,List.nil_append]at o i C⊢;refine Th λYr Yl=>?_;refine aa 6 ?_;refine ai.x' rfl (C _) ?_;rintro _ _⟨Ym,Yn,Yg,rfl,rfl⟩;refine aa 12 ?_;all_goals exact⟨_,_,⟨_,_,x,0,Yi _ VV,rfl,rfl⟩,VH⟩
  .have pm:decide ((s.ax.p.top s.self:Int)+1<=64)=false:=l5 jr;rw[pm]at u;have a:oX s d ag.z 6 s:=.inr (.inl ⟨P,ac,rfl,rfl,rfl⟩);clear h dO am N Y ca ej cB lF P ie;obtain⟨ef,K,fS,ei,wp,cV,eU,eC,eg,g,bN,e9,dw,bY⟩:=L;unfold ch e5;dsimp only[List.cons_append,List.nil_append]at*;refine aF func36 λW=>?_;generalize br _=D;refine P2 λgD fO=>?_;refine ai.v (V.cmp rfl rfl A0) ?_;refine aa 9 ?_;refine ah.p' ?_ aC.j.j.j.j.j.j.j.j.j.j.j.j.j.j.d'.j.j;refine ae 8 0 ?_;refine af.bx 8 12 rfl rfl ?_ ?_;refine aw.V0 rfl (u) VH ?_;refine Ni λob=>?_;refine aa 20 ?_;rotate_left;refine O.Q' ad (λob=>?_);refine au ?_;refine af.x' 8 rfl rfl (u) ?_;refine aa 2 ?_;refine ae 3 9 ?_;refine ae 2 13 ?_;refine aa 20 ?_;rotate_left;all_goals exact⟨_,_,⟨⟨ef,K,fS,ei,wp,cV,eU,eC,eg,g,bN,e9,dw,bY⟩,s,ag.z,6,a,rfl,rfl⟩,VH⟩
 .have a:oX s d ag.z 1 s:=.inl ⟨P,rfl,rfl,rfl⟩;clear h dO am N Y ca ej cB u;obtain⟨ef,K,fS,ei,wp,cV,eU,eC,eg,g,bN,e9,dw,bY⟩:=L;unfold ch e5;dsimp only[List.cons_append,List.nil_append]at*;refine aF func36 λW=>?_;generalize br _=D;cases Z:oL d
  .rw[Z]at dA;refine aq 2 λgD=>?_;refine aq 0 λfO=>?_;refine aa 38 ?_;all_goals exact⟨_,_,⟨⟨ef,K,fS,ei,wp,cV,eU,eC,eg,g,bN,e9,dw,bY⟩,s,ag.z,1,a,rfl,rfl⟩,VH⟩
  .rw[Z]at dA;have f:d.Kind=0:=Classical.byContradiction λq=>P ⟨Z,q⟩;have A0:bb .eql d.Kind 0=some true:=by simp[bb,f]
   refine P2 λgD fO=>?_;refine ai.v (V.cmp rfl rfl A0) ?_;refine aa 16 ?_;all_goals exact⟨_,_,⟨⟨ef,K,fS,ei,wp,cV,eU,eC,eg,g,bN,e9,dw,bY⟩,s,ag.z,1,a,rfl,rfl⟩,VH⟩
def nd(s:aA)(m:aD)(e:Int)(L:aA):Prop:=
 ((m.bI≠s.self\/m.bc=s.self)/\e=4/\L=s)\/(m.bI=s.self/\m.bc≠s.self/\e=0/\∃r,fs s m r/\jB r L)
def A1(y:n<=7)(h:hz m n):pD m:=λ_=>qJ h.bm y
def EJ{s:aA}(h:s.inbox=[]):gh s.inbox=0:=by rw[h];rfl
def A2{s r:aA}(h:ek k s)(t:dP s)(am:s.inbox=[])(K:fs s m r):r.R'<=12547:=by have Y:=h.XA t;have Z:=K.R' h.z.toRepW;have D:=EJ am;have n:=(vu m).2;omega
def aj1(b:Nat)(L:cT)(s:aA)(m:aD)(k:Nat)(h:ek k s)(P:dP s)(am:s.inbox=[])(K:hz m s.n)(T:k<=900000000000)(a:s.out.length<=100000)(f:s.told.length<=1000000):ar prog 66 [av b 0,S (gP m)] (ch b L s++[cM]) (λr J=>∃F t e,nd s m e t/\r=I e/\J=ch b F t++[cM]):=by
 have o:=aja m s.n h.gF.2 K;have n:=JJ b L s k m h.z ac (n5 K.item h.gF.2) (by rw[am];decide) ac;have U (r:aA) (E:fs s m r) (F:cT):=ED b F r (k+3) (E.cu h (n5 K.item h.gF.2)) (by have:=A2 h P am E;omega) (by have:=A2 h P am E;omega) (by have:=A2 h P am E;have:=E.out h;omega) (by rw[E.told];exact f);have b (r t:aA) (Y:m.bI=s.self) (Z:m.bc≠s.self) (E:fs s m r) (c:jB r t):nd s m 0 t:=.inr ⟨Y,Z,rfl,r,E,c⟩;have u (Y:m.bI≠s.self\/m.bc=s.self):nd s m 4 s:=.inl ⟨Y,rfl,rfl⟩;clear h P am K T a f;obtain⟨P,N,y,o,G,z,d,j,i,T,X,l,Q,bY⟩:=L;by_cases Y:m.bI=s.self
 .by_cases Z:m.bc=s.self
  .clear U n b;unfold ch e5;refine bh ?_;refine aF func66 λW=>?_;generalize br _=D;refine Uj λa=>?_;refine ae 12 0 ?_;refine bK 29 ?_;refine ae 8 12 ?_;refine aa 11 ?_;rotate_left;all_goals exact⟨_,_,⟨⟨P,N,y,o,G,z,d,j,i,T,X,l,Q,bY⟩,s,_,u (.inr Z),rfl,rfl⟩,VH⟩
  .have p:bb .neq m.bI s.self=some false:=by simp[bb,Y]
   have h:bb .eql m.bc s.self=some false:=by simp[bb,Z]
   unfold ch e5 at n⊢;dsimp only[List.cons_append,List.nil_append]at n⊢;refine aF func66 λW=>?_;generalize br _=D;refine Uj λa=>?_;refine ae 9 0 ?_;refine af.n' 9 rfl (V.cmp rfl rfl p) ?_;refine ae 8 10 ?_;refine af.n' 18 rfl (V.cmp rfl rfl h) ?_;refine ae 1 19 ?_;refine aa 10 ?_;refine SY λc E r=>?_;have J:fs s m E:=VV
   have m:=λF=>U _ J F;have p:=λt=>b _ t Y Z J;unfold ch e5 at m;dsimp only[List.cons_append,List.nil_append]at m;refine aa 3 ?_;refine ai.x' rfl (m _) ?_;rintro _ _⟨q,R,E,rfl,rfl⟩;refine aa 10 ?_;all_goals exact⟨_,_,⟨_,_,0,p _ VV,rfl,rfl⟩,VH⟩
 .clear U n b;unfold ch e5;refine bh ?_;refine aF func66 λW=>?_;generalize br _=D;refine Uj λa=>?_;refine ae 12 0 ?_;refine bK 29 ?_;refine ae 8 12 ?_;refine aa 11 ?_;rotate_left;all_goals exact⟨_,_,⟨⟨P,N,y,o,G,z,d,j,i,T,X,l,Q,bY⟩,s,_,u (.inl Y),rfl,rfl⟩,VH⟩
end Go.Proofs.YteogojgnkjegmaaGreatDoor
namespace Go.Proofs.YteogojgnkjegmaaGreatDoor
open Go.az Go.Proofs.Tryz
def vx(M:Int)(E:ab bw)(N:ab ag)(h:ab bw):Prop:=
 ∃k,N=(E.take k).map (·.key)/\h=E.drop k/\(∀y∈E.take k,y.due<=M)/\∀s,h.head?=some s->M<s.due
structure SC where
 v:aj
 l:ab ag
 b:lK
def aju(p a c:Nat)(F:Int)(v:aj)(t:Int)(pl:ab bw)(Q:pl.length<=100000):ar prog 93 [.slice none 0 0,.func (.func 133) #[] #[av a 0,av c 0]] ([cells a 192 [av p 0],cells c 3 [I F]]++fQ p v t pl) (λr J=>∃u N L Yf,vx F pl N Yf/\r=u/\J=rows ag.c u 46 2 N::fQ p L t Yf):=by
 unfold fQ;refine bh ?_;refine aF func93 λW=>?_;refine ah.V5 ag.c 46 2 ?_;refine aa 2 ?_;refine ai.o (O.Wz (λoO=>?_));refine aa 10 ?_;refine ah.acG (afR p a c F ⟨v,t,pl⟩) (λy:SC=>y.b) (λy=>[cells oO 98 [y.v],rows ag.c y.v 46 2 y.l]) (λj y=>j<=pl.length/\y.l=(pl.take j).map (·.key)/\y.b.l=pl.drop j/\y.b.t=t/\∀z∈pl.take j,z.due<=F) (λ_ _ _=>False) ⟨.slice none 0 0,[],⟨v,t,pl⟩⟩ pl.length (λj y h=>h.1) rfl ⟨cG _,rfl,rfl,rfl,VK⟩ ?_ ?_ ?_
 .rintro j i⟨u,l,b⟩ C cq rec⟨w,Y,Z,G,k⟩⟨s,M,g,D,n,U,X,P,k0⟩ d eK jV K x;dsimp only at Y Z G n P k0;subst X;have T:j<pl.length:=by
   have:(pl.drop j).length=(s::M).length:=by rw[<-Z,n]
   rw[jn,df]at this;omega
  have q:pl.drop j=s::M:=by rw[<-Z,n]
  have Yj:pl[j]?=some s:=by rw[<-List.head?_drop,q];rfl
  have Ye:pl.take (j+1)=pl.take j++[s]:=by rw[oC,Yj];rfl
  have Yh:l.length<=100000:=by rw[Y,dZ,e8];omega
  subst k0;unfold lK.E fQ;refine bh ?_;refine aq 1 λR=>?_;refine aa 7 ?_;refine ai.o (O.V' ad ag.c [s.key] rfl (bP.agg rfl bP.nil) rfl rfl (λYg=>?_));refine ai.o (O.W2 ad rfl rfl Vz (cz.rows (f:=ag.c) (l:=[s.key]) ad VF ag.J') (λYi Yk Yl=>?_));refine aa 3 ?_;all_goals exact Out.acx x ⟨_,l++[s.key],⟨.slice (some ⟨g,0,none⟩) M.length D,b.t,M⟩⟩ ⟨ac,by rw[Ye,hJ,<-Y];rfl,by rw[<-sa,q];rfl,G,by
   intro z m;rw[Ye]at m;rcases eh.1 m with m|m
   .exact k z m
   .rw[fF.1 m];exact U⟩
 .rintro j⟨u,l,b⟩ sB⟨w,Y,Z,G,k⟩ Yc;obtain⟨adN,hm,AS⟩:=b;dsimp only at Y Z G Yc;subst Y Z G;unfold lK.E fQ;refine bh ?_;refine aa 10 ?_;all_goals exact⟨_,_,⟨_,_,_,_,⟨j,rfl,rfl,k,Yc⟩,rfl,rfl⟩,VH⟩
 .rintro _ _ _ _ _ _ h;exact h.elim
def ad3(p a c:Nat)(M:Int)(v:aj)(t:Int)(Q:ab bw)(E:Q.length<=100000):ar prog 70 [.func (.func 133) #[] #[av a 0,av c 0]] ([cells a 192 [av p 0],cells c 3 [I M]]++fQ p v t Q) (λr J=>∃u N L k,vx M Q N k/\r=u/\J=rows ag.c u 46 2 N::fQ p L t k):=by have z:=aju p a c M v t Q E;unfold fQ at*;dsimp only[List.cons_append,List.nil_append]at*;refine aF func70 λW=>?_;refine aa 9 ?_;rintro _ _⟨w,a,p,y,E,rfl,rfl⟩;refine aa 6 ?_;all_goals exact⟨_,_,⟨_,_,_,_,VV,rfl,rfl⟩,VH⟩
end Go.Proofs.YteogojgnkjegmaaGreatDoor
namespace Go.Proofs.YteogojgnkjegmaaGreatDoor
open Go.az Go.Proofs.Tryz
variable[Go.az.b5]
def aA.again(s:aA)(x:ag):aA:={s with dS:=s.dS+1,pl:=jw ⟨x,s.now+oS s.n s.self x.a1 (bY s.fB x+1),s.dS⟩ (iN x s.pl),fB:=bA s.fB x (bY s.fB x+1)}
def aA.Xr(s:aA)(x:ag):bp:=so s.self [(bn s.ax.p x).bO,(bn s.ax.p x).bZ,(aZ s.high x).getD bp.z]
def aA.WU(s:aA)(x:ag)(e:eI a6):aA:={s.again x with leads:=bA s.leads x ⟨e.p,e.q,e.v.late.1⟩}
def aA.Wd(s:aA)(x:ag):bM:=bM.new s.n s.self x (s.Xr x)
def aA.WV(s:aA)(x:ag)(p q:Nat):aA:={s.again x with bq:=bA s.bq x ⟨p,q,s.Wd x⟩}
def nL(s:aA)(x:ag)(L:aA):Prop:=
 ((bn s.ax.p x).Status=3/\L=s)\/
 ((bn s.ax.p x).Status≠3/\
  ((∃e,aZ s.leads x=some e/\L=(s.WU x e).send e.v.late.1.H')\/
   (aZ s.leads x=none/\∃e,aZ s.bq x=some e/\e.v.x.bm=(bn s.ax.p x).bO/\L=(s.again x).send e.v.H')\/
   (aZ s.leads x=none/\(∀e,aZ s.bq x=some e->e.v.x.bm≠(bn s.ax.p x).bO)/\∃p q,L=(s.WV x p q).send (s.Wd x).H')))
def ahq{k:Nat}{s:aA}(h:lP k s)(x:ag)(G:bt x 7=true):lP (k+1) (s.again x):=by
 have Y:=h.w.set x (s.now+oS s.n s.self x.a1 (bY s.fB x+1));have f:=h.t;refine⟨Y,by show s.dS+1<=_;omega,λy C=>?_,rq h.td,λy=>?_⟩
 .rcases JB h.w C with rfl|C
  .exact G
  .exact h.aW y C
 .have Z:=h.bY x;have D:=h.bY y;show 0<=bY (bA s.fB x _) y/\bY (bA s.fB x _) y<=_
  rw[IH];split<;>omega
def RepI.again{k:Nat}{s:aA}(h:RepI k s)(x:ag)(G:bt x 7=true):RepI (k+1) (s.again x):=
 ⟨h.n,h.self,h.now,h.run,h.M,ahq h.gg x G⟩
def nL.cu{k:Nat}{s L:aA}{x:ag}(h:ek k s)(t:dP s)(U:bt x 7=true)(u:nL s x L):ek (k+1) L/\dP L/\gh L.inbox<=gh s.inbox+3/\L.out.length<=s.out.length+7/\L.told=s.told/\L.n=s.n:=by
 have w:bt x 7=true:=U;have c:=h.dv;have l:=h.toRepI.again x w;rcases u with⟨_,rfl⟩|⟨_,⟨e,P,rfl⟩|⟨_,e,P,_,rfl⟩|⟨_,_,p,q,rfl⟩⟩
 .exact⟨⟨h.toRepI.mono ac,h.toRepG,h.ax,h.en,h.sp,ac⟩,t,ks _ _,ks _ _,rfl,rfl⟩
 .have T:=yL (h.ce _ (li P)).1;have a:hU e.v.late.1 s.n s.self x e.v.late.1.bm:=⟨T.wf,T.n,T.self,T.item,rfl,T.phase⟩
  have E:RepG (s.WU x e):=by
   refine⟨λy C=>?_,h.rs,h.bu⟩;rcases qV C with rfl|C
   .exact⟨a,U⟩
   .exact h.ce y C
  refine⟨⟨l.of rfl,E.send λm K=>by rw[vw a m K];exact U,h.ax,h.en,h.sp,B7 c⟩,dP.send (s:=s.WU x e) ⟨rq t.en,t.e6,t.bG,t.i8⟩ (AZ _),?_,?_,rfl,rfl⟩
  .show gh (s.inbox++fa s.self e.v.late.1.H')<=_;rw[w7];have:=vv s.self e.v.late.1;omega
  .have Y:=(ud (s.WU x e) e.v.late.1.H').2;have Z:=a6.WT a h.gF.2;have D:(s.WU x e).out.length=s.out.length:=rfl;omega
 .obtain⟨d,J,j,Q,N⟩:=h.rs _ (li P);have E:RepG (s.again x):=⟨h.ce,h.rs,h.bu⟩
  refine⟨⟨l.of rfl,E.send λm K=>by rw[xa d m K,Q];exact U,h.ax,h.en,h.sp,B7 c⟩,dP.send (s:=s.again x) ⟨t.en,t.e6,t.bG,t.i8⟩ (EG _),?_,?_,rfl,rfl⟩
  .show gh (s.inbox++fa s.self e.v.H')<=_;rw[w7];have:=Ey s.self e.v;omega
  .have Y:=(ud (s.again x) e.v.H').2;have Z:=bM.WT d;exact iB Y (Nat.add_le_add_left Z _)
 .have r:(s.Wd x).ok:=bM.Wo h.gF ..;have E:RepG (s.WV x p q):=by
   refine⟨h.ce,λy C=>?_,h.bu⟩;rcases qV C with rfl|C
   .exact⟨r,rfl,rfl,rfl,U⟩
   .exact h.rs y C
  refine⟨⟨l.of rfl,E.send λm K=>by rw[xa r m K];exact U,h.ax,h.en,h.sp,B7 c⟩,dP.send (s:=s.WV x p q) ⟨t.en,rq t.e6,t.bG,t.i8⟩ (EG _),?_,?_,rfl,rfl⟩
  .show gh (s.inbox++fa s.self (s.Wd x).H')<=_;rw[w7];have:=Ey s.self (s.Wd x);omega
  .have Y:=(ud (s.WV x p q) (s.Wd x).H').2;have Z:=bM.WT r;have D:(s.WV x p q).out.length=s.out.length:=rfl;omega
def SG(L:cT)(s:aA)(k:Nat)(h:RepI k s)(T:k<=1000000000000)(x:ag)(G:bt x 7=true):ar prog 95 [av L.ei 0,I s.now,A x.c] [lf L s] (λr J=>∃z,r=.tuple #[]/\J=[lf {L with eU:=z} (s.again x)]):=by have a:=h.gF;have E:=h.self;have y:=h.now;have Y:=h.gg.len;have U:=h.gg.t;have Z:=h.gg.bY x;have q:=mV G;refine ar.eqv aP.aK (afn L.ei s.n s.self L.wp L.cV L.eU s.dS s.pl s.fB s.now x h.gg.w ac ac ac ac ac ac ac) ?_;rintro r J⟨g,Q,rfl,rfl⟩;exact⟨_,⟨.slice (some ⟨g,0,none⟩) (jw ⟨x,s.now+oS s.n s.self x.a1 (bY s.fB x+1),s.dS⟩ (iN x s.pl)).length Q,rfl,rfl⟩,aP.aK.symm⟩
def agN(b:Nat)(L:cT)(s:aA)(x:ag)(k:Nat)(h:ek k s)(dO:dP s)(b6:bt x 7=true)(ca:k<=900000000000)(am:s.inbox.length<=900000)(ej:s.out.length<=900000):ar prog 72 [av b 0,A x.c] (ch b L s++[cM]) (λr J=>∃bD cL,nL s x cL/\r=.tuple #[]/\J=ch b bD cL++[cM]):=by
 have lD:bt x 7=true:=b6;have Yg:=h.gF;have dd:=yU L.ef s.bU s.X s.ax x h.ax.p.towf;have gQ:=SG L s k h.toRepI ac x lD;by_cases R:(bn s.ax.p x).Status=3
 .have fL:bb .eql (bn s.ax.p x).Status 3=some true:=by simp[bb,R]
  have Yl:nL s x s:=.inl ⟨R,rfl⟩;obtain⟨C,N,U,ei,wp,F,eU,eC,eg,o,u,e9,dw,bY⟩:=L;clear gQ h dO;unfold ch e5;dsimp only[List.cons_append,List.nil_append]at dd⊢;generalize bn s.ax.p x=i at*;refine aF func72 λW=>?_;generalize br _=D;refine aq 2 λgD=>?_;refine aa 3 ?_;refine R1 (λfO=>?_) ?_;refine aa 7 ?_;refine ai.v (V.cmp rfl rfl fL) ?_;refine aa 6 ?_;rotate_left;refine O.Q' ad (λfO=>?_);refine au ?_;refine af.x' 5 rfl rfl (dd) ?_;refine aa 2 ?_;refine ae 1 7 ?_;refine aa 7 ?_;refine ai.v (V.cmp rfl rfl fL) ?_;refine aa 6 ?_;rotate_left;all_goals exact⟨_,_,⟨⟨C,N,U,ei,wp,F,eU,eC,eg,o,u,e9,dw,bY⟩,s,Yl,rfl,rfl⟩,VH⟩
 have fL:bb .eql (bn s.ax.p x).Status 3=some false:=by simp[bb,R]
 have Yn:=h.self;have Yp:=h.n;suffices Yc:∀i,i=bn s.ax.p x->ar prog 72 [av b 0,A x.c] (ch b L s++[cM]) (λr J=>∃bD cL,nL s x cL/\r=.tuple #[]/\J=ch b bD cL++[cM])from Yc _ rfl
 intro i M;rw[<-M]at dd fL;have Yo:ff i s.ax.n=true:=by rw[M];exact w2 h.ax x
 have Yw:cX i.bO 7=true:=qJ (nB Yo).1 (by have:=h.ax.size;omega);have YG:cX i.bZ 7=true:=qJ (nB Yo).2.1 (by have:=h.ax.size;omega);have Yr:cX ((aZ s.high x).getD bp.z) 7=true:=by
  cases bG:aZ s.high x with
  |none=>exact EF
  |some y=>exact dO.bG _ (li bG)
 have Yh:=λe j=>(h.ce _ (li (k:=x) (v:=e) j)).1;have Yj:=λe j=>(h.rs _ (li (k:=x) (v:=e) j))
 have Yy (e:eI a6) (j:aZ s.leads x=some e):nL s x ((s.WU x e).send e.v.late.1.H'):=.inr ⟨R,.inl ⟨e,j,rfl⟩⟩;have Yz (dz:aZ s.leads x=none) (e:eI bM) (j:aZ s.bq x=some e) (u:e.v.x.bm=i.bO):nL s x ((s.again x).send e.v.H'):=.inr ⟨R,.inr (.inl ⟨dz,e,j,by rw[u,M],rfl⟩)⟩;have YA (dz:aZ s.leads x=none) (u:∀e,aZ s.bq x=some e->e.v.x.bm≠i.bO) (p q:Nat):nL s x ((s.WV x p q).send (s.Wd x).H'):=.inr ⟨R,.inr (.inr ⟨dz,λe j=>by rw[<-M];exact u e j,p,q,rfl⟩)⟩;have YH:s.Xr x=so s.self [i.bO,i.bZ,(aZ s.high x).getD bp.z]:=by unfold aA.Xr;rw[<-M]
 clear h dO R;have Ys:∃J1,J1=L:=⟨L,rfl⟩
 obtain⟨J1,Yk⟩:=Ys;obtain⟨C,N,U,ei,wp,F,eU,eC,eg,o,u,e9,dw,bY⟩:=L;unfold ch e5;dsimp only[List.cons_append,List.nil_append]at dd gQ⊢;refine aF func72 λW=>?_;generalize br _=D;refine aq 2 λgD=>?_;refine aa 2 ?_;refine ah.mt [0,3] (λ_:Nat=>True) (λp=>[(4,av p 0)]) (λp=>[cells p 54 i.c]) (s:=[]) ?_ ?_
 .intro fP Y;refine R1 (λfO=>?_) ?_;refine au ?_;rotate_left;refine O.Q' ad (λfO=>?_);refine au ?_;refine af.x' 5 rfl rfl (dd) ?_;refine aa 2 ?_;refine ae 1 7 ?_;refine au ?_;rotate_left;all_goals exact Out.C' Y _ trivial trivial
 rintro fO-;refine bh ?_;refine aa 5 ?_;refine ai.v (V.cmp rfl rfl fL) ?_;refine aa 5 ?_;refine ah.mt [0,3,4] (λ_:aj=>True) (λ_=>[]) (λv=>[lf ⟨C,N,U,ei,wp,F,v,eC,eg,o,u,e9,dw,bY⟩ (s.again x)]) (s:=[lf ⟨C,N,U,ei,wp,F,eU,eC,eg,o,u,e9,dw,bY⟩ s]) ?_ ?_
 .intro fP Y;refine ah.p' ?_ aC.j.j.j.j.j.j.j.j.j.j.j.j.j.j.d'.d'.j;refine ae 9 0 ?_;refine af.x' 9 rfl rfl (gQ) ?_;rintro _ _⟨Yu,rfl,rfl⟩;refine aa 3 ?_;all_goals exact Out.C' Y _ trivial trivial
 rintro P-;refine bh ?_;clear gQ dd;cases K:aZ s.leads x with
 |some e=>
  obtain⟨oW,Yv⟩:∃oW:aj,oW=(match aZ s.bq x with|some y=>av y.p 0|none=>.pointer none):=⟨_,rfl⟩
  refine ah.mt [0,3,4] (λ_:Unit=>True) (λ_=>[(5,av e.p 0)]) (λ_=>[]) (s:=[]) ?_ ?_
  .intro fP Y;cases d:aZ s.bq x with
   |none=>
    refine Ns ?_ ?_;refine UW ?_;rotate_left;refine aw.z' (aN.WP (l:=s.bq) (k:=x) (aU:=di) d cw lh nI rfl rfl VF) ?_;refine Sc ?_;rotate_left;all_goals exact Out.C' Y () trivial trivial
   |some y=>
    refine Ns ?_ ?_;refine SB ?_;rotate_left;refine aw.z' (aN.iz (l:=s.bq) (k:=x) (aU:=di) d cw lh nI rfl rfl VF) ?_;refine Sc ?_;rotate_left;all_goals exact Out.C' Y () trivial trivial
  rintro⟨⟩-;refine bh ?_;have ca:=Yh e K;have a:=Yy e K;have Ym:e.v.late.1.H'.length<=7:=a6.WT (yL ca) Yg.2;have cr:=ar.Z8 (b3:=jQ) (Q:=λr (_:Unit)=>r=B e.v.late.2) (R:=λ_=>⟨e.p,e.q,e.v.late.1⟩) K (ar.post (afP e.p e.v ca.wf (by rw[ca.n];omega)) (by rintro v J⟨rfl,rfl⟩;exact⟨_,⟨(),rfl,rfl⟩,λ_ _ _ h=>h⟩));refine aa 13 ?_;rintro _ _⟨YJ,rfl,rfl⟩;refine aa 3 ?_;have Yt:=yW N (U:=(⟨e.p,e.q,e.v.late.1⟩:eI a6)) K rfl;refine ah.ZE Yt.symm ?_;refine ah.iE (a7:=ch b ⟨C,N,U,ei,wp,F,P,eC,eg,o,u,e9,dw,bY⟩ (s.WU x e)++[cM]) (λw cE=>cE.hv (by unfold ch e5 aA.WU;(repeat(first|exact ak.nil|exact al.here|apply ak.cons|apply al.there)))) ?_;have bG:aZ (s.WU x e).leads x=some ⟨e.p,e.q,e.v.late.1⟩:=Vp
  have Yi:=yL ca;have t:=ar.XL (b3:=jQ) (Q:=λr (z:aT Go.Addr×Nat)=>r=.slice z.1 e.v.late.1.H'.length z.2) (T:=λz=>rows aD.c (.slice z.1 e.v.late.1.H'.length z.2) 176 25 e.v.late.1.H') bG (ar.post (ar.qh aD.len (AM e.p e.v.late.1 (by rw[Yi.n];omega))) Sk);have m (Z:aT Go.Addr) (G:Nat):=vt b ⟨C,N,U,ei,wp,F,P,eC,eg,o,u,e9,dw,bY⟩ (s.WU x e) Z G e.v.late.1.H' NW ac PY R6;generalize s.WU x e=s2 at*;unfold ch e5 at m⊢;dsimp only[List.cons_append,List.nil_append]at t m⊢;refine ND λYK YI=>?_;all_goals exact⟨_,_,⟨_,_,a,rfl,rfl⟩,VH⟩
 |none=>
  by_cases Yq:∃e,aZ s.bq x=some e/\e.v.x.bm=i.bO
  .obtain⟨e,d,YB⟩:=Yq;obtain⟨md,jZ,lQ,nf,oe⟩:=Yj e d;have a:=Yz K e d YB;have Ym:e.v.H'.length<=7:=bM.WT md;refine ah.mt [0,3,4] (λ_:Unit=>True) (λ_=>[(5,.pointer none),(6,av e.p 0)]) (λ_=>[]) (s:=[]) ?_ ?_
   .intro fP Y;refine QZ ?_ ?_;refine SB ?_;rotate_left;refine aw.z' (aN.iz (l:=s.bq) (k:=x) (aU:=di) d cw lh nI rfl rfl VF) ?_;refine MB ?_;rotate_left;all_goals exact Out.C' Y () trivial trivial
   rintro⟨⟩-;refine bh ?_;have nE:=ar.hi (b3:=hi) d (Ef e.p e.q e.v);rw[YB]at nE;have t:=ar.XL (b3:=hi) (Q:=λr (z:aT Go.Addr×Nat)=>r=.slice z.1 e.v.H'.length z.2) (T:=λz=>rows aD.c (.slice z.1 e.v.H'.length z.2) 176 25 e.v.H') d (ar.post (Ee e.p e.q e.v md) Sk);have m (Z:aT Go.Addr) (G:Nat):=vt b ⟨C,N,U,ei,wp,F,P,eC,eg,o,u,e9,dw,bY⟩ (s.again x) Z G e.v.H' NW ac PY R6;refine aa 10 ?_;refine Vq ?_;refine aa 2 ?_;refine ah.c (λf=>?_) (λf=>?_);replace f:=g5 f;rotate_left;exact mq f;refine ah.iE (a7:=ch b ⟨C,N,U,ei,wp,F,P,eC,eg,o,u,e9,dw,bY⟩ (s.again x)++[cM]) (λw cE=>cE.hv Mc) ?_;change ar _ _ _ [fA hi (s.again x).bq] (λr J=>∃z,_/\J=[_,fA hi (s.again x).bq])at t;generalize s.again x=s2 at*;unfold ch e5 at m⊢;dsimp only[List.cons_append,List.nil_append]at t m⊢;refine ND λYL YD=>?_;all_goals exact⟨_,_,⟨_,_,a,rfl,rfl⟩,VH⟩
  .have a:=YA K (λe j u=>Yq ⟨e,j,u⟩);obtain⟨oW,Yv⟩:∃oW:aj,oW=(match aZ s.bq x with|some y=>av y.p 0|none=>.pointer none):=⟨_,rfl⟩
   refine ah.mt [0,3,4] (λ_:Unit=>True) (λ_=>[(5,.pointer none),(6,oW)]) (λ_=>[]) (s:=[]) ?_ ?_
   .intro fP Y;subst Yv;cases d:aZ s.bq x with
    |none=>
     rw[d]at Y;refine QZ ?_ ?_;refine UW ?_;rotate_left;refine aw.z' (aN.WP (l:=s.bq) (k:=x) (aU:=di) d cw lh nI rfl rfl VF) ?_;refine MB ?_;rotate_left;all_goals exact Out.C' Y () trivial trivial
    |some y=>
     rw[d]at Y;refine QZ ?_ ?_;refine SB ?_;rotate_left;refine aw.z' (aN.iz (l:=s.bq) (k:=x) (aU:=di) d cw lh nI rfl rfl VF) ?_;refine MB ?_;rotate_left;all_goals exact Out.C' Y () trivial trivial
   rintro⟨⟩-;refine bh ?_;refine aa 9 ?_;refine ah.mt [0,3,4] (λ_:Unit=>True) (λ_=>[(83,B false)]) (λ_=>[]) (s:=[]) ?_ ?_
   .intro fP Y;subst Yv;cases d:aZ s.bq x with
    |none=>
     dsimp only;refine ah.p' ?_ aC.j.j.j.j.j.j.j.j.j.j.j.j.j.j.j.d'.j;refine ae 10 0 ?_;refine au ?_;all_goals exact Out.C' Y () trivial trivial
    |some y=>
     have nE:=ar.hi (b3:=hi) d (Ef y.p y.q y.v);have Yf:y.v.x.bm≠i.bO:=λu=>Yq ⟨y,d,u⟩;dsimp only;have du:decide (y.v.x.bm=i.bO)=false:=l5 Yf;refine Vq ?_;refine au ?_;all_goals rw[du]
     all_goals exact Out.C' Y () trivial trivial
   rintro⟨⟩-;refine bh ?_;refine au ?_;refine ah.mt [0,3] (λ_:Nat=>True) (λp=>[(6,av p 0)]) (λp=>[cells p 243 (s.Wd x).x.c]) (s:=[cells fO 54 i.c]) ?_ ?_
   .intro fP Y;have YC (g:Nat):=ag4 _ _ 3 g 0 s.self [i.bO,i.bZ,(aZ s.high x).getD bp.z] (Rd.rows (E:=48) (cap:=3) (l:=[i.bO,i.bZ,(aZ s.high x).getD bp.z]) bp.len VK) (by
     have:=k4 (JV Yw (l:=[i.bZ,(aZ s.high x).getD bp.z]) (λb u=>by
      rcases cQ.1 u with rfl|u
      .exact YG
      .rw[fF.1 u];exact Yr))
     omega)
    rw[<-YH]at YC;have Yx:ar prog 99 [I s.n,I s.self,A x.c,A (s.Xr x).c] [] (λr J=>∃q,r=av q 0/\J=[cells q 243 (s.Wd x).x.c]):=aiH ..;refine ah.p' ?_ aC.j.j.j.j.j.j.j.j.j.j.j.j.j.d'.d'.d'.j;refine ae 22 0 ?_;refine af.y' 22 rfl (aw.z' (aN.Wj (l:=s.high) (k:=x) (aU:=mc) bp.z cw yY JG rfl rfl VF) ?_);refine au ?_;refine af.y' 23 rfl (O.V' ad bp.c [i.bO,i.bZ,(aZ s.high x).getD bp.z] rfl (bP.agg rfl (bP.agg rfl (bP.agg rfl bP.nil))) rfl rfl (λYE=>?_));refine au ?_;refine af.x' 24 rfl rfl (YC _) ?_;refine aa 2 ?_;refine af.x' 25 rfl rfl (Yx) ?_;rintro _ _⟨YM,rfl,rfl⟩;refine aa 2 ?_;refine ae 1 26 ?_;refine au ?_;all_goals exact Out.C' Y _ trivial trivial
   rintro q-;refine bh ?_;refine ah.mt [0,6] (λ_:Unit=>True) (λp=>[]) (λp=>[bz b9 di U (bA s.bq x ⟨q,0,s.Wd x⟩)]) (s:=[bz b9 di U s.bq,cells gD 46 x.c]) ?_ ?_
   .intro fP Y;refine ah.p' ?_ aC.j.j.j.j.j.j.j.j.j.j.j.j.j.d'.d'.j.j;refine ae 6 0 ?_;refine af.y' 6 rfl (aw.Wh (l:=s.bq) (k:=x) (v:=(⟨q,0,s.Wd x⟩:eI bM)) (b8:=b9) (aU:=di) cw lh rfl rfl rfl VS ?_);refine aa 2 ?_;all_goals exact Out.C' Y () trivial trivial
   rintro⟨⟩-;refine bh ?_;have YF:=a q 0;have Ye:(s.Wd x).ok:=bM.Wo Yg ..;have Ym:(s.Wd x).H'.length<=7:=bM.WT Ye;have bG:aZ (s.WV x q 0).bq x=some ⟨q,0,s.Wd x⟩:=Vp
   have t:=ar.XL (b3:=hi) (Q:=λr (z:aT Go.Addr×Nat)=>r=.slice z.1 (s.Wd x).H'.length z.2) (T:=λz=>rows aD.c (.slice z.1 (s.Wd x).H'.length z.2) 176 25 (s.Wd x).H') bG (ar.post (Ee q 0 (s.Wd x) Ye) Sk);have m (Z:aT Go.Addr) (G:Nat):=vt b ⟨C,N,U,ei,wp,F,P,eC,eg,o,u,e9,dw,bY⟩ (s.WV x q 0) Z G (s.Wd x).H' NW ac PY R6;refine ah.iE (a7:=ch b ⟨C,N,U,ei,wp,F,P,eC,eg,o,u,e9,dw,bY⟩ (s.WV x q 0)++[cM]) (λw cE=>?_) ?_
   .have bf:=cE.Wy (bg:=hi ⟨q,0,s.Wd x⟩++[fA hi s.bq]) (by show ak _ [cells q 243 (s.Wd x).x.c,fA hi s.bq] _;(repeat(first|exact ak.nil|exact al.here|apply ak.cons|apply al.there)));rw[ck]at bf;have bW:=JY hi s.bq x ⟨q,0,s.Wd x⟩ bf;exact bW.hv (v:=[]) (by unfold ch e5 aA.WV;(repeat(first|exact ak.nil|exact al.here|apply ak.cons|apply al.there)))
   clear YA Yy Yz a Yq;generalize s.WV x q 0=s2 at*;unfold ch e5 at m⊢;dsimp only[List.cons_append,List.nil_append]at t m⊢;refine ND λl W=>?_;all_goals exact⟨_,_,⟨_,_,YF,rfl,rfl⟩,VH⟩
end Go.Proofs.YteogojgnkjegmaaGreatDoor
