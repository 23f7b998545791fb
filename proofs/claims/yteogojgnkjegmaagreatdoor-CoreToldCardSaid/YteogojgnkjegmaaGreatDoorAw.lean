/-
 Part of the proof.
-/
import Derived.Test.YteogojgnkjegmaaGreatDoorAv
set_option linter.all false
set_option maxRecDepth 8000
set_option maxHeartbeats 8000000
namespace Go.Proofs.YteogojgnkjegmaaGreatDoor
open Go.az Go.Proofs.Tryz
variable[Go.az.b5]
inductive oY(s:aA):List ag->aA->Prop where
 |nil:oY s [] s
 |snoc {xs:List ag} {x:ag} {s1 s2:aA} (h:oY s xs s1) (dz:nL s1 x s2):oY s (xs++[x]) s2
def ng(s:aA)(M:Int)(e:Int)(L:aA):Prop:=
 ((M<s.now\/1099511627776<M)/\e=1/\L=s)\/
 (s.now<=M/\M<=1099511627776/\e=0/\∃N k r,vx M s.pl N k/\oY {s with now:=M,pl:=k} N r/\jB r L)
def vx.sub{M:Int}{E s:ab bw}{N:ab ag}(h:vx M E N s):s.Sublist E/\N.length<=E.length/\(∀x∈N,∃y∈E,y.key=x)/\((E.map (·.key)).Nodup->N.Nodup):=by
 obtain⟨k,rfl,rfl,_,_⟩:=h;refine⟨List.drop_sublist ..,by rw[dZ,e8];omega,λx U=>?_,λc=>?_⟩
 .obtain⟨y,C,rfl⟩:=dQ.1 U;exact⟨y,List.mem_of_mem_take C,rfl⟩
 .exact c.sublist ((List.take_sublist ..).map _)
def ek.due{k:Nat}{s:aA}(h:ek k s){N:Int}(W:s.now<=N)(Y:N<=1099511627776){x:ab bw}(E:x.Sublist s.pl):ek k {s with now:=N,pl:=x}:=by have y:=h.now;have s:=h.gg.w;exact⟨⟨h.n,h.self,⟨by show 0<=N;omega,Y⟩,h.run,h.M,⟨⟨s.t0,s.sorted.sublist E,s.m3.sublist (E.map _),λy C=>s.eO y (E.subset C)⟩,h.gg.t,λy C=>h.gg.aW y (E.subset C),h.gg.td,h.gg.bY⟩⟩,⟨h.ce,h.rs,h.bu⟩,h.ax,h.en,h.sp,h.dv⟩
def akG(L:cT)(s:aA)(N:Int):ar prog 71 [av L.ei 0,I N] [lf L s] (λr J=>∃a c,r=.func (.func 133) #[] #[av a 0,av c 0]/\J=[cells a 192 [av L.wp 0],cells c 3 [I N],lf L s]):=by refine ar.eqv aP.aK (Pt L.ei s.n s.self L.wp L.cV L.eU s.dS s.pl s.fB N) ?_;rintro r J⟨a,c,rfl,rfl⟩;exact⟨_,⟨a,c,rfl,rfl⟩,aP.cons _ (aP.cons _ aP.aK.symm)⟩
def SJ(L:cT)(s:aA)(M:Int)(a c:Nat)(E:s.pl.length<=100000):ar prog 70 [.func (.func 133) #[] #[av a 0,av c 0]] [cells a 192 [av L.wp 0],cells c 3 [I M],lf L s] (λr J=>∃l q N t k,vx M s.pl N k/\r=.slice l N.length q/\J=[rows ag.c (.slice l N.length q) 46 2 N,lf {L with eU:=t} {s with pl:=k}]):=by
 have K:=ar.frame (bg:=[cells L.ei 194 (nn.c ⟨s.n,s.self,av L.wp 0,.map (some L.cV)⟩),bz (λx:ag=>A x.c) (λn:Int=>I n) L.cV s.fB]) (ad3 L.wp a c M L.eU s.dS s.pl E);unfold fQ at K;have Q:ak (cells a 192 [av L.wp 0]::cells c 3 [I M]::jx L.ei s.n s.self L.wp L.cV L.eU s.dS s.pl s.fB) (([cells a 192 [av L.wp 0],cells c 3 [I M]]++[cells L.wp 254 (lz.c ⟨L.eU,s.dS⟩),rows bw.c L.eU 271 4 s.pl])++[cells L.ei 194 (nn.c ⟨s.n,s.self,av L.wp 0,.map (some L.cV)⟩),bz (λx:ag=>A x.c) (λn:Int=>I n) L.cV s.fB]) []:=by unfold jx;(repeat(first|exact ak.nil|exact al.here|apply ak.cons|apply al.there))
 have z:=Q.perm;rw[db]at z;have C:=(aP.cons (cells a 192 [av L.wp 0]) (aP.cons (cells c 3 [I M]) (aP.aK (bg:=jx L.ei s.n s.self L.wp L.cV L.eU s.dS s.pl s.fB)))).trans (aP.We z);refine ar.Wg (ar.eqv C K (R:=_) λr J h=>⟨J,h,aP.refl _⟩) ?_;rintro v J W D w⟨_,⟨u,N,t,k,m,rfl,rfl⟩,rfl⟩ i;obtain⟨l,q,b,rfl,_⟩:=jc (f:=ag.c) ag.len (aH _) w i;refine⟨_,⟨l,q,N,t,k,m,rfl,rfl⟩,?_⟩;refine H.eqv (aP.cons _ aP.aK).symm (ao:=_::jx L.ei s.n s.self L.wp L.cV t s.dS k s.fB) (i.hv (v:=[]) ?_);unfold jx;refine bh ?_;(repeat(first|exact ak.nil|exact al.here|apply ak.cons|apply al.there))
def af3(b:Nat)(L:cT)(s:aA)(N:Int)(k:Nat)(h:ek k s)(T:dP s)(am:s.inbox=[])(ca:k<=800000000000)(ej:s.out.length<=100000)(cB:s.told.length<=1000000):ar prog 43 [av b 0,I N] (ch b L s++[cM]) (λr Yc=>∃bD p e,ng s N e p/\r=I e/\Yc=ch b bD p++[cM]):=by
 by_cases q:s.now<=N/\N<=1099511627776
 .have c5:bb .lss N s.now=some false:=by simp[bb];omega
  have bx:bb .gtr N 1099511627776=some false:=VA
  have Yo:=h.gg.len;have o:=akG L {s with now:=N} N;have Y (a c:Nat):=SJ L {s with now:=N} N a c (by show s.pl.length<=_;omega);obtain⟨E,Q,fS,ei,wp,R,eU,eC,eg,dW,X,e9,dw,bY⟩:=L;unfold ch e5;dsimp only[List.cons_append,List.nil_append]at o Y⊢;refine aF func43 λW=>?_;generalize br _=D;refine aa 22 ?_;refine ai.v (V.cmp rfl rfl c5) ?_;refine aa 2 ?_;refine ai.v (V.cmp rfl rfl bx) ?_;refine aa 17 ?_;refine ah.iE (a7:=ch b ⟨E,Q,fS,ei,wp,R,eU,eC,eg,dW,X,e9,dw,bY⟩ {s with now:=N}++[cM]) (λw cE=>cE.hv Mc) ?_;unfold ch e5;refine bh ?_;refine aa 9 ?_;rintro _ _⟨YE,YF,rfl,rfl⟩;refine au ?_;refine ai.x' rfl (Y _ _) ?_;rintro _ _⟨P,t,F,C,g,Yi,rfl,rfl⟩;refine aa 6 ?_;have U:vx N s.pl F g:=VV
  obtain⟨J,Yg,n,-⟩:=U.sub;have Yp:ek k {s with now:=N,pl:=g}:=h.due q.1 q.2 J;have YA:dP {s with now:=N,pl:=g}:=⟨T.en,T.e6,T.bG,T.i8⟩
  have Yl:∀x∈F,bt x 7=true:=λx u=>by obtain⟨y,fX,rfl⟩:=n x u;exact h.gg.aW y fX
  have Yv (j p:aA) (bf:oY {s with now:=N,pl:=g} F j) (bW:jB j p):ng s N 0 p:=.inr ⟨q.1,q.2,rfl,F,g,j,U,bf,bW⟩;have Yq:gh ({s with now:=N,pl:=g}:aA).inbox=0:=EJ am;have YB:({s with now:=N,pl:=g}:aA).out.length=s.out.length:=rfl;have Yu:({s with now:=N,pl:=g}:aA).told=s.told:=rfl;refine ah.iE (a7:=rows ag.c (.slice P F.length t) 46 2 F::(ch b ⟨E,Q,fS,ei,wp,R,C,eC,eg,dW,X,e9,dw,bY⟩ {s with now:=N,pl:=g}++[cM])) (λw cE=>cE.hv Mc) ?_;clear o Y U J n h T am;generalize({s with now:=N,pl:=g}:aA)=d at*;generalize F=M at*;generalize P=cK at*;generalize t=Ye at*;clear q c5 bx;refine ah.fact (jc (f:=ag.c) (v:=.slice cK M.length Ye) (l:=M) ag.len VF) λdI=>?_;obtain⟨Yy,Yj,sB,dg,ep⟩:=dI;simp only[tS]at dg;obtain⟨rfl,-,rfl⟩:=dg;refine ah.cq [32,31,0] (λz:Nat×cT×aA=>z.1<=M.length/\oY d (M.take z.1) z.2.2/\ek (k+z.1) z.2.2/\dP z.2.2/\gh z.2.2.inbox<=3*z.1/\z.2.2.out.length<=s.out.length+7*z.1/\z.2.2.told=s.told) (λz=>[(33,I (z.1:Int))]) (λz=>ch b z.2.1 z.2.2++[cM]) (λz=>M.length-z.1) (0,⟨E,Q,fS,ei,wp,R,C,eC,eg,dW,X,e9,dw,bY⟩,d) ⟨cG _,.nil,Yp,YA,by show gh d.inbox<=0;omega,by show d.out.length<=_;omega,Yu⟩ ?_;rintro⟨i,fr,j⟩⟨Yr,iQ,jv,nG,Yt,Yw,Z⟩ K cJ;dsimp only at Yr iQ jv nG Yt Yw Z;by_cases Yf:i<M.length
  .obtain⟨x,u⟩:=cl Yf;have YC:=kk (f:=ag.c) u;have Yx:x∈M:=im u;have Ys:=Yl x Yx;have Yk:j.inbox.length<=3*i:=by
    have bf:∀l:ab aD,l.length<=gh l:=λl=>by
     unfold gh;induction l with
     |nil=>exact cx _
     |cons m l mj=>
      have:=(vu m).1;rw[eE,sG,df];omega
    have:=bf j.inbox;omega
   have YD:=agN b fr j x (k+i) jv nG Ys ac ac ac;have fE:bb .lss (i:Int) (M.length:Int)=some true:=VA
   unfold ch e5 at YD⊢;dsimp only[List.cons_append,List.nil_append]at YD⊢;refine aa 2 ?_;refine ai.v (V.cmp rfl rfl fE) ?_;refine aa 10 ?_;refine ai.v (V.W9 ad (k:=i) rfl rfl ep (z:=ac)) ?_;refine ai.v (V.Wb ad (k:=i) rfl ep YC) ?_;refine aq 0 λob=>?_;refine aa 7 ?_;rintro _ _⟨Yz,G,Yh,rfl,rfl⟩;refine aa 8 ?_;have Yn:nL j x G:=VV
   obtain⟨gY,hf,qk,ug,nM,j8⟩:=Yn.cu jv nG Ys;have Ym:M.take (i+1)=M.take i++[x]:=by rw[oC,u];rfl
   all_goals(refine Out.C' cJ (i+1,Yz,G) ?_ (by show M.length-(i+1)<M.length-i;omega);exact ⟨VU,by show oY d (M.take (i+1)) _;rw[Ym];exact .snoc iQ Yn,gY,hf,by show gh G.inbox<=3*(i+1);omega,by show G.out.length<=_+7*(i+1);omega,nM.trans Z⟩)
  .obtain rfl:i=M.length:=by omega
   clear cJ;rw[iI]at iQ;have fE:bb .lss (M.length:Int) (M.length:Int)=some false:=RD
   have C:=jv.XA nG;have Y:=ED b fr j (k+M.length) jv ac ac ac (by rw[Z];exact cB);have t:=λp=>Yv j p iQ;unfold ch e5 at Y⊢;dsimp only[List.cons_append,List.nil_append]at Y⊢;refine aa 2 ?_;refine ai.v (V.cmp rfl rfl fE) ?_;refine aa 13 ?_;rintro _ _⟨u,q,Yh,rfl,rfl⟩;refine aa 10 ?_;all_goals exact⟨_,_,⟨_,_,0,t _ VV,rfl,rfl⟩,VH⟩
 .have X:N<s.now\/1099511627776<N:=by omega
  have a:ng s N 1 s:=.inl ⟨X,rfl,rfl⟩;clear h T;obtain⟨E,Q,fS,ei,wp,R,eU,eC,eg,dW,X,e9,dw,bY⟩:=L;unfold ch e5;refine bh ?_;refine aF func43 λW=>?_;generalize br _=D;refine aa 24 ?_;refine ai.aX (λg=>?_) (λg=>?_);refine aa 16 ?_;rotate_left;refine aa 16 ?_;rotate_left;all_goals exact⟨_,_,⟨⟨E,Q,fS,ei,wp,R,eU,eC,eg,dW,X,e9,dw,bY⟩,s,1,a,rfl,rfl⟩,VH⟩
end Go.Proofs.YteogojgnkjegmaaGreatDoor
namespace Go.az
open Go
section
def A3(l:Array Bool):Nat:=l.toList.count false
def J2:∀(l:ab Bool) (i:Nat),l[i]?=some false->(l.set i true).count false+1=l.count false
 |[],i,h=>VT
 |b::l,0,h=>by simp only[ra,fj]at h;subst h;simp
 |b::l,i+1,h=>by simp only[pV]at h;have:=J2 l i h;simp only[List.set_cons_succ,List.count_cons];omega
def akY{l:Array Bool}{i:Nat}(h:l.getD i true=false):l.toList[i]?=some false:=by
 rw[vU]at h;rw[Array.getElem?_toList];cases e:l[i]? with
 |none=>rw[e]at h;cases h
 |some b=>rw[e]at h;exact c7 some h
def J3{l:Array Bool}{i:Nat}(h:l.getD i true=false):A3 (l.setIfInBounds i true)+1=A3 l:=by unfold A3;rw[Array.toList_setIfInBounds];exact J2 _ _ (akY h)
def J4{l:Array Bool}{i j:Nat}(h:l.getD i true=false):(l.setIfInBounds i true).getD j true=(decide (j=i)||l.getD j true):=by
 by_cases e:j=i
 .subst e;simp[vU,Array.getElem?_setIfInBounds];split<;>rfl
 .simp[vU,Array.getElem?_setIfInBounds,ox e,e]
variable{P:b1}{r:aT Nat}{W:a2}{D:ab Nat}{n:dF}{Y:Array cc}
def aw.W0{o:cc}{M:bJ}{F:ab ay}{C u:bJ->ab ay->Prop}(h:aw P r W D n o M F C)(T:∀N J,C N J->u N J):aw P r W D n o M F u:=
 h.aat λN J q=>⟨J,T _ _ q,λ_ h=>h⟩
def aw.adm{o:cc}{M:bJ}{F j:ab ay}{C:bJ->ab ay->Prop}(z:F.Perm j)(h:aw P r W D n o M j C):aw P r W D n o M F C:=
 aw.of λK Q i a w p b=>by unfold aw at h;exact h K Q i a w p (b.perm z)
def af.inv{Q:da}{e:dY}{X G:ab ay}{k:ab Nat}(I:Array Bool->bJ->ab ay->Prop) (p:∀l M F,I l M F->(∀w,H W D F w->fU X w)/\(∀w,H W D F w->fU G w)) (step:∀l M F i o,I l M F->Y[i]?=some o->l.getD i true=false->(∀e∈o.after,Region.binds .any e=true->l.getD e.on false=true)->hT M Y o.guard=some true/\aw P r W D n o M F (λN J=>I (l.setIfInBounds i true) N J)) (done:∀l M F,I l M F->Region.ready .any Y l=[]->Out W D n Q e M F):∀(s:Nat) (l:Array Bool) (M:bJ) (F:ab ay) (h:Bool),A3 l<=s->I l M F->af P r W D n Y (Q e) X G k h s l M F
 |0,l,M,F,h,q,k=>by
  have g:Region.ready .any Y l=[]:=by refine J5.2 λj v=>?_;have U:=(r8.1 v).1;have:=J3 U;omega
  exact af.out (by rw[g];rfl) (done _ _ _ k g)
 |s+1,l,M,F,h,q,k=>by
  by_cases g:Region.ready .any Y l=[]
  .exact af.out (by rw[g];rfl) (done _ _ _ k g)
  .refine af.each (Region.ready .any Y l) (by simp[g]) λi am=>?_;obtain⟨U,o,a,j⟩:=r8.1 am;obtain⟨G,Z⟩:=step l M F i o k a U j;refine⟨o,a,G,Z.W0 λN J h=>⟨(p _ _ _ h).1,(p _ _ _ h).2,?_⟩⟩;exact af.inv I p step done s _ _ _ _ (by have:=J3 U;omega) h
def akd(Y:Array cc):Bool:=(List.range Y.size).all λj=>match Y[j]? with|some o=>o.after.toList.all λe=>Nat.blt e.on j|none=>true
def J6{l:Array Bool}(g:Region.ready .any Y l=[])(E:l.size=Y.size)(a:akd Y=true):∀(k j:Nat),j<k->j<Y.size->l.getD j true=true
 |0,j,h,_=>ac
 |k+1,j,h,w=>by
  cases s:l.getD j true with
  |true=>rfl
  |false=>
   have y:=hk.1 a j (mi.2 w);have p:Y[j]?=some Y[j]:=CP w;rw[p]at y;have:j∈Region.ready .any Y l:=r8.2 ⟨s,_,p,λe v _=>by
    have U:e.on<j:=pQ (hk.1 y e (Array.mem_toList_iff.2 v));have Z:=J6 g E a k e.on ac ac;have G:e.on<l.size:=ac
    simpa[vU,CP G]using Z⟩
   rw[g]at this;cases this
def A4{l:Array Bool}{j:Nat}(h:l.getD j false=true):l.getD j true=true:=by
 rw[vU]at h⊢;cases e:l[j]? with
 |none=>rfl
 |some b=>rw[e]at h;exact h
def ag9{L T:Type}{a:ab L}(y:a.Nodup){i:L}(am:i∈a)(f g:L->ab T)(o:f i=[])(E:∀j∈a,j≠i->g j=f j):(a.flatMap g).Perm (g i++a.flatMap f):=by
 induction a with
 |nil=>cases am
 |cons j a X=>
  rw[ki]at y;rw[fW,fW];rcases cQ.1 am with rfl|am
  .rw[o,g4];refine AN _ ?_;rw[xR,xR,A5 (f:=g) (g:=f) λj v=>E j (e0 _ v) λe=>y.1 (e▸v)]
  .have v:g j=f j:=E j (er ..) λe=>y.1 (e▸am);rw[v];refine(AN (f j) (X y.2 am λk T=>E k (e0 _ T))).trans ?_;rw[<-ck,<-ck];exact D3 _ oG
end
end Go.az
namespace Go.Proofs.YteogojgnkjegmaaGreatDoor
open Go.az Go.Proofs.Tryz
variable[Go.az.b5]
inductive pE(n Y U:Int):List eH->dl->Int×List bw->Prop where
 |nil:pE n Y U [] (dl.new n) (0,[])
 |rQ {l:List eH} {r oz:dl} {st:Int×List bw} {x:ag} {i:aY} (h:pE n Y U l r st) (bV:i.Status=3) (dT:r.Xz x i.Call oz):pE n Y U (l++[(x,i)]) oz st
 |iE {l:List eH} {r:dl} {st:Int×List bw} {x:ag} {i:aY} (h:pE n Y U l r st) (bV:i.Status≠3):pE n Y U (l++[(x,i)]) r (ib n Y U [] [x] st)
def aA.WQ(n Y U:Int)(G:Nat)(X:eY)(z:bS)(M:oc)(r:dl)(st:Int×ab bw):aA:=
 ⟨n,Y,U,G,X,z,[],[],st.1,st.2,[],r,M,[],[],[],[],[]⟩
def me(n Y U:Int)(G:Nat)(P:bS)(t:aA):Prop:=
 ∃X M r st,iw (eY.L X) P.p/\X.L.dv<=1345/\(kN 0 M/\M.s=hq.z)/\pE n Y U P.p.all r st/\kP (aA.WQ n Y U G X P M r st) t
def EK{n Y U:Int}(c:n=3\/n=5\/n=7)(E:0<=Y/\Y<n)(W:0<=U/\U<=1099511627776){l:ab eH}(u:k5 n l){r:dl}{st:Int×ab bw}(h:pE n Y U l r st)(G:Nat)(X:eY)(z:bS){M:oc}(R:kN 0 M):RepI l.length (aA.WQ n Y U G X z M r st)/\r.done=[]:=by
 induction h with
 |nil=>
  have f:hp n (dl.new n):=hp.new ac ac;refine⟨⟨c,E,W,f,R,mz.zero,ge _,?_,mT,λx=>?_⟩,rfl⟩
  .intro y C;cases C
  .show 0<=bY [] x/\bY [] x<=_;unfold bY;rw[mu];exact⟨ge _,ge _⟩
 |@rQ l r j st x i h D q T=>
  obtain⟨k,b⟩:=T λy C=>u y (oR _ C);have v:j.done=[]:=by rw[q.2.1,b]
  refine⟨⟨c,E,W,k.run.Wf q,?_,?_⟩,v⟩
  .show kN j.done.length M;rw[v];exact R
  .have:=k.gg;rw[bQ];exact(⟨this.w,this.t,this.aW,this.td,this.bY⟩:lP l.length (aA.WQ n Y U G X z M j st)).mono (ks _ _)
 |@iE l r st x i h D T=>
  obtain⟨k,b⟩:=T λy C=>u y (oR _ C);refine⟨⟨c,E,W,k.run,by show kN r.done.length M;rw[b];exact R,?_⟩,b⟩;have G:bt x n=true:=(u (x,i) VK).1;rw[bQ];exact lP.iE k.gg [x] (by simpa using n5 G ac) rfl rfl rfl
def ah7(G:Nat)(v:aj)(n:Int)(l:ab eH)(cf:ab aS)(g:Int)(y:n=3\/n=5\/n=7)(u:k5 n l)(j:(g6 cf).2=0)(c:(cp l++cf).length<=65536):ar prog 73 [av G 0,I n] (gd G v (cp l++cf) g) (λr N=>∃J X,(iw (eY.L X) (hr n l cf g).p/\X.L.dv<=1345)/\r=.tuple #[av J 0,I 0]/\N=[fR J G X (hr n l cf g)]):=by refine ar.Wg (alx G v n l cf g y u j c) ?_;rintro r N W D w⟨J,X,Z,M,rfl,rfl⟩ b;exact⟨_,⟨J,X,⟨Z,M⟩,rfl,rfl⟩,b.eqv aP.aK.symm⟩
structure lk where
 a4:Nat
 a5:Nat
 a12:Nat
 rR:Nat
 hO:Nat
 uh:Nat
 m8:Nat
 eu:Nat
 eg:l7
 M:oc
 og:Nat
 rS:Nat
section
variable(n Y U:Int)(J:Nat)
def lk.rep(z:lk):ab aj:=gO.c ⟨n,Y,U,av J 0,.map (some z.a4),.map (some z.a5),av z.hO 0,av z.eu 0,av z.M.b 0,.map (some z.a12),.map (some z.rR),.slice none 0 0,.slice none 0 0,.slice none 0 0⟩
def lk.gq(z:lk)(f:Bool):Nat->ab ay
 |4=>[bz b9 (di (bB:=a6)) z.a4 []]
 |5=>[bz b9 (di (bB:=bM)) z.a5 []]
 |8=>jx z.hO n Y z.uh z.m8 (.slice none 0 0) 0 [] []
 |10=>[ky z.eu z.eg (dl.new n)]
 |11=>[na z.M]
 |12=>[bz b9 hA z.a12 []]
 |13=>[bz b9 mc z.rR []]
 |15=>[cells z.og 95 (z.rep n Y U J)]
 |16=>[cells z.rS 36 [if f then av z.og 0 else .pointer none]]
 |_=>[]
def y1:Nat->Nat
 |4=>43|5=>44|8=>47|10=>49|11=>50|12=>51|13=>52|14=>53|15=>54|_=>12
def lk.val(z:lk):Nat->aj
 |4=>.map (some z.a4)
 |5=>.map (some z.a5)
 |8=>av z.hO 0
 |10=>av z.eu 0
 |11=>av z.M.b 0
 |12=>.map (some z.a12)
 |13=>.map (some z.rR)
 |14=>A (z.rep n Y U J)
 |15=>av z.og 0
 |_=>av z.rS 0
def kQ:ab Nat:=[4,5,8,10,11,12,13,14,15,16]
def lk.flat(z:lk)(l:Array Bool):ab ay:=kQ.flatMap λj=>if l.getD j true=true then z.gq n Y U J (l.getD 17 true) j else[]
def ui(l:Array Bool):Prop:=l.getD 4 true=true/\l.getD 5 true=true/\l.getD 8 true=true/\l.getD 10 true=true/\l.getD 11 true=true/\l.getD 12 true=true/\l.getD 13 true=true
end
structure A6(n iR U:Int)(J:Nat)(fE:bJ)(alm:ab ay)(l:Array Bool)(an:bJ)(ao:ab ay)(z:lk):Prop where
 aM:l.size=18
 d0:∀j∈[0,1,2,3,6,7,9],l.getD j true=true
 A7:l.getD 14 true=true->ui l
 rT:l.getD 15 true=true->l.getD 14 true=true
 agr:l.getD 17 true=true->l.getD 15 true=true/\l.getD 16 true=true
 e:∀q∈fE,eN an q.1=some q.2
 v:∀j∈kQ,l.getD j true=true->eN an (y1 j)=some (z.val n iR U J j)
 M:l.getD 11 true=true->kN 0 z.M/\z.M.s=hq.z
 p:ao.Perm (z.flat n iR U J l++alm)
def ahH:∀i∈kQ,y1 i∈[43,44,47,49,50,51,52,53,54,12]:=VI
def aeE:∀i∈kQ,∀j∈kQ,y1 i=y1 j->j=i:=VI
def J7{a b:Nat}{v:aj}{M:bJ}(h:a≠b):eN ((a,v)::M) b=eN M b:=by simp only[eN];rw[show Nat.beq a b=false by rw[<-mh,zz];exact h];rfl
def afJ{a:Nat}{v:aj}{M:bJ}:eN ((a,v)::M) a=some v:=by simp only[eN];rw[show Nat.beq a a=true from xC a];rfl
def A6.up{n Y U:Int}{J:Nat}{L:bJ}{u:ab ay}{l:Array Bool}{C:bJ}{F:ab ay}{z:lk}(h:A6 n Y U J L u l C F z){i:Nat}(Z:l.getD i true=false)(am:i∈kQ)(d:lk) (P:∀q∈L,q.1∉[43,44,47,49,50,51,52,53,54,12]) (t:∀j∈kQ,j≠i->l.getD j true=true->d.val n Y U J j=z.val n Y U J j/\d.gq n Y U J false j=z.gq n Y U J false j) (r:i=14->ui l) (a:i=15->l.getD 14 true=true) (R:l.getD 11 true=true\/i=11->kN 0 d.M/\d.M.s=hq.z) (v:aj) (o:v=d.val n Y U J i):A6 n Y U J L u (l.setIfInBounds i true) ((y1 i,v)::C) (d.gq n Y U J false i++F) d:=by
 subst o;have g:i≠17:=λe=>by subst e;revert am;decide
 have K:l.getD 17 true=false:=by
  cases K:l.getD 17 true with
  |false=>rfl
  |true=>
   have:=h.agr K;have f:=h.rT this.1;have b:=h.A7 f;unfold ui at b;simp only[kQ,cQ,kq,gl]at am;rcases am with rfl|rfl|rfl|rfl|rfl|rfl|rfl|rfl|rfl|rfl<;>simp_all
 have E (j:Nat):=J4 (j:=j) Z;have X:(l.setIfInBounds i true).getD 17 true=false:=by rw[E,K];simp[ox g]
 refine⟨Qf,λj w=>by rw[E,h.d0 j w,rU],λW=>?_,λW=>?_,λW=>(by rw[X]at W;cases W),λq aV=>?_,λj w W=>?_,λW=>?_,?_⟩
 .have:ui l:=by
   rw[E,hc,cO]at W;rcases W with W|W
   .exact r W.symm
   .exact h.A7 W
  unfold ui at this⊢;simp only[E,this,rU,and_self]
 .have:l.getD 14 true=true:=by
   rw[E,hc,cO]at W;rcases W with W|W
   .exact a W.symm
   .exact h.rT W
  rw[E,this,rU]
 .rw[J7 (λe=>P q aV (by rw[<-e];exact ahH i am))];exact h.e q aV
 .by_cases e:j=i
  .subst e;exact afJ
  .rw[E,hc,cO]at W;have W:=W.resolve_left e;rw[J7 (λx=>e (aeE i am j w x))];rw[(t j w e W).1];exact h.v j w W
 .rw[E,hc,cO]at W;exact R (W.symm.imp id iL)
 .have P:=ag9 (a:=kQ) VI am (λj=>if l.getD j true=true then z.gq n Y U J (l.getD 17 true) j else[]) (λj=>if(l.setIfInBounds i true).getD j true=true then d.gq n Y U J ((l.setIfInBounds i true).getD 17 true) j else[]) (by rw[aG (by rw[Z];decide)]) (λj w N=>by
   rw[E,X,K];by_cases c:l.getD j true=true
   .rw[c,rU,aJ rfl,aJ rfl,(t j w N c).2]
   .rw[aG c,aG];rw[hc,cO];rintro(h|h)
    .exact N h
    .exact c h)
  have p:(if(l.setIfInBounds i true).getD i true=true then d.gq n Y U J ((l.setIfInBounds i true).getD 17 true) i else[])=d.gq n Y U J false i:=by rw[X,E,aJ VK]
  rw[p]at P;refine(AN _ h.p).trans ?_;rw[<-ck];exact D3 _ P.symm
def uj(J G:Nat)(X:eY)(s:bS):ab ay:=i9 J X.et X.L++[cells X.et 120 (mR.c ⟨av G 0,s.n,av X.eu 0⟩),cells G 156 (mr.c ⟨X.dJ,s.safe⟩),eB dL X.dJ 5 1 s.data]
def EL(J G:Nat)(X:eY)(s:bS):aP [fR J G X s] [lI X.eu X.R s.p,aK (uj J G X s)]:=by
 have E:ak (hM J G X s) (lI X.eu X.R s.p::uj J G X s) []:=by unfold hM uj g0 i9;refine bh ?_;(repeat(first|exact ak.nil|exact al.here|apply ak.cons|apply al.there))
 have z:=E.perm;rw[db]at z;exact(aP.aK.trans (aP.We z)).trans (aP.cons _ aP.aK.symm)
def J8(J G:Nat)(X:eY)(s:bS):ar prog 14 [av J 0] [fR J G X s] (λr Z=>∃q,r=.func (.func 80) #[] #[av q 0]/\Z=[cells q 117 [av X.eu 0],lI X.eu X.R s.p,aK (uj J G X s)]):=by refine ar.eqv aP.aK (OR J G X s) ?_;rintro r Z⟨q,rfl,rfl⟩;exact⟨_,⟨q,rfl,rfl⟩,aP.cons _ (aP.aK.symm.trans (EL J G X s))⟩
def lk.lay(z:lk)(J:Nat)(y:l7×aj):cT:=⟨J,z.a4,z.a5,z.hO,z.uh,z.m8,y.2,z.eu,y.1,z.a12,z.rR,.slice none 0 0,.slice none 0 0,.slice none 0 0⟩
def J9(bU:Nat)(v:aj)(n Y U:Int)(l:ab eH)(cf:ab aS)(d:Int)(cN:n=3\/n=5\/n=7)(bV:0<=Y/\Y<n)(Yo:0<=U/\U<=1099511627776)(dz:k5 n l)(a:(g6 cf).2=0)(k:(cp l++cf).length<=65536):ar prog 47 [av bU 0,I n,I Y,I U] (gd bU v (cp l++cf) d) (λr F=>∃b L cL,me n Y U bU (hr n l cf d) cL/\r=.tuple #[av b 0,I 0]/\F=ch b L cL):=by
 have mX:=ah7 bU v n l cf d cN dz a k;have Yg:=Ei (g:=d) cN dz k;have Ym:(hr n l cf d).n=n:=rfl;have YM:=Ps n Y;have YG:=ags n;generalize hr n l cf d=P at*;generalize cp l++cf=Yj at*;unfold gd;unfold gd at mX;refine aF func47 λW=>?_;generalize br _=D;refine aa 2 ?_;refine ai.o (O.Wz (λnv=>?_));refine aa 35 ?_;rintro oW En⟨Z,⟨T,⟨⟨Yr,Ys⟩,rfl,rfl⟩⟩⟩;refine aa 18 ?_;refine ah.mt [7,1,10] (λz:lk=>kN 0 z.M/\z.M.s=hq.z) (λz=>[(12,av z.rS 0)]) (λz=>[cells z.rS 36 [av z.og 0],cells z.og 95 (z.rep n Y U Z),bz b9 (di (bB:=a6)) z.a4 [],bz b9 (di (bB:=bM)) z.a5 [],aK (jx z.hO n Y z.uh z.m8 (.slice none 0 0) 0 [] []),ky z.eu z.eg (dl.new n),na z.M,bz b9 hA z.a12 [],bz b9 mc z.rR []]) (s:=[]) ?_ ?_
 .intro fP Ye;refine ah.p' ?_ aC.d'.j;refine ae 4 0 ?_;refine ae 2 6 ?_;refine ae 1 9 ?_;refine af.inv (λl K G=>∃z,A6 n Y U Z [(7,av nv 0),(1,I n),(10,av Z 0),(39,I n),(40,I Y),(41,I U),(42,av Z 0),(45,I n),(46,I Y),(48,I n)] [fR Z bU T P,cells nv 3 [I U]] l K G z) ?_ ?_ ?_ _ _ _ _ _ VI ⟨⟨0,0,0,0,0,0,0,0,⟨0,⟨0,0,.new,.new⟩,.slice none 0 0,.slice none 0 0⟩,⟨0,0,0,0,hq.z,[],[]⟩,0,0⟩,?_⟩
  .rintro l K G⟨z,h⟩;have dI:cells nv 3 [I U]∈G:=h.p.mem_iff.2 (Ka _ VK);exact⟨Gc dI Gb,Gc dI Gb⟩
  .rintro l K G i o⟨z,h⟩ ej hu dg;have Yf:i<18:=(pT.1 ej).1;have YN:i∉[0,1,2,3,6,7,9]:=λdT=>by rw[h.d0 i dT]at hu;cases hu
   have t:i=4\/i=5\/i=8\/i=10\/i=11\/i=12\/i=13->l.getD 14 true=true->False:=λdT k=>by have:=h.A7 k;unfold ui at this;rcases dT with rfl|rfl|rfl|rfl|rfl|rfl|rfl<;>simp_all
   have Yp:i=4\/i=5\/i=8\/i=10\/i=11\/i=12\/i=13\/i=14\/i=15\/i=16\/i=17:=by simp only[cQ,kq,gl,nt]at YN;omega
   have Q:∀q∈([(7,av nv 0),(1,I n),(10,av Z 0),(39,I n),(40,I Y),(41,I U),(42,av Z 0),(45,I n),(46,I Y),(48,I n)]:bJ),q.1∉[43,44,47,49,50,51,52,53,54,12]:=by intro q aV;simp only[cQ,kq,gl]at aV;rcases aV with rfl|rfl|rfl|rfl|rfl|rfl|rfl|rfl|rfl|rfl<;>(dsimp only;decide)
   rcases Yp with rfl|rfl|rfl|rfl|rfl|rfl|rfl|rfl|rfl|rfl|rfl
   .cases gs ej;refine⟨rfl,aw.W0 (C:=λN F=>∃b,N=(43,.map (some b))::K/\F=bz b9 (di (bB:=a6)) b []::G) (aw.mkMap b9 (di (bB:=a6)) rfl λb=>⟨b,rfl,rfl⟩) ?_⟩;rintro _ _⟨b,rfl,rfl⟩;exact⟨{z with a4:=b},h.up hu VI {z with a4:=b} Q M1 (λe=>absurd e VI) (λe=>absurd e VI) (λf=>h.M (f.resolve_right VI)) _ rfl⟩
   .cases gs ej;refine⟨rfl,aw.W0 (C:=λN F=>∃b,N=(44,.map (some b))::K/\F=bz b9 (di (bB:=bM)) b []::G) (aw.mkMap b9 (di (bB:=bM)) rfl λb=>⟨b,rfl,rfl⟩) ?_⟩;rintro _ _⟨b,rfl,rfl⟩;exact⟨{z with a5:=b},h.up hu VI {z with a5:=b} Q M1 (λe=>absurd e VI) (λe=>absurd e VI) (λf=>h.M (f.resolve_right VI)) _ rfl⟩
   .cases gs ej;have YO:eN K 45=some (I n):=h.e (45,I n) VK;have YP:eN K 46=some (I Y):=h.e (46,I Y) VK;refine⟨rfl,aw.W0 (C:=λN F=>∃b p m,N=(47,av b 0)::K/\F=jx b n Y p m (.slice none 0 0) 0 [] []++G) (aw.call (args:=[I n,I Y]) (lZ:=[]) (mM:=G) rfl Vw (by simp only[az.il,aR,YO,YP]) (hI _) YM ?_) ?_⟩
    .rintro v F⟨b,p,m,rfl,rfl⟩;exact⟨b,p,m,rfl,rfl⟩
    rintro _ _⟨b,p,m,rfl,rfl⟩;exact⟨{z with hO:=b,uh:=p,m8:=m},h.up hu VI {z with hO:=b,uh:=p,m8:=m} Q M1 (λe=>absurd e VI) (λe=>absurd e VI) (λf=>h.M (f.resolve_right VI)) _ rfl⟩
   .cases gs ej;have YQ:eN K 48=some (I n):=h.e (48,I n) VK;refine⟨rfl,aw.W0 (C:=λN F=>∃eu X,N=(49,av eu 0)::K/\F=[ky eu X (dl.new n)]++G) (aw.call (args:=[I n]) (lZ:=[]) (mM:=G) rfl Vw (by simp only[az.il,aR,YQ]) (hI _) YG ?_) ?_⟩
    .rintro v F⟨eu,X,rfl,rfl⟩;exact⟨eu,X,rfl,rfl⟩
    rintro _ _⟨eu,X,rfl,rfl⟩;exact⟨{z with eu:=eu,eg:=X},h.up hu VI {z with eu:=eu,eg:=X} Q M1 (λe=>absurd e VI) (λe=>absurd e VI) (λf=>h.M (f.resolve_right VI)) _ rfl⟩
   .cases gs ej;refine⟨rfl,aw.W0 (C:=λN F=>∃M,(kN 0 M/\M.s=hq.z)/\N=(50,av M.b 0)::K/\F=[na M]++G) (aw.call (args:=[]) (lZ:=[]) (mM:=G) rfl Vw rfl (hI _) Rr ?_) ?_⟩
    .rintro v F⟨M,qe,rfl,rfl⟩;exact⟨M,qe,rfl,rfl⟩
    rintro _ _⟨M,qe,rfl,rfl⟩;exact⟨{z with M:=M},h.up hu VI {z with M:=M} Q M1 (λe=>absurd e VI) (λe=>absurd e VI) (λ_=>qe) _ rfl⟩
   .cases gs ej;refine⟨rfl,aw.W0 (C:=λN F=>∃b,N=(51,.map (some b))::K/\F=bz b9 hA b []::G) (aw.mkMap b9 hA rfl λb=>⟨b,rfl,rfl⟩) ?_⟩;rintro _ _⟨b,rfl,rfl⟩;exact⟨{z with a12:=b},h.up hu VI {z with a12:=b} Q M1 (λe=>absurd e VI) (λe=>absurd e VI) (λf=>h.M (f.resolve_right VI)) _ rfl⟩
   .cases gs ej;refine⟨rfl,aw.W0 (C:=λN F=>∃b,N=(52,.map (some b))::K/\F=bz b9 mc b []::G) (aw.mkMap b9 mc rfl λb=>⟨b,rfl,rfl⟩) ?_⟩;rintro _ _⟨b,rfl,rfl⟩;exact⟨{z with rR:=b},h.up hu VI {z with rR:=b} Q M1 (λe=>absurd e VI) (λe=>absurd e VI) (λf=>h.M (f.resolve_right VI)) _ rfl⟩
   .cases gs ej;have k:∀j,j=4\/j=5\/j=8\/j=10\/j=11\/j=12\/j=13->l.getD j true=true:=by rintro j (rfl|rfl|rfl|rfl|rfl|rfl|rfl)<;>exact A4 (dg ⟨_,.data⟩ VK rfl)
    have YR:eN K 39=some (I n):=h.e (39,I n) VK;have YS:eN K 40=some (I Y):=h.e (40,I Y) VK;have YT:eN K 41=some (I U):=h.e (41,I U) VK;have YU:eN K 42=some (av Z 0):=h.e (42,av Z 0) VK;have v4:eN K 43=some (.map (some z.a4)):=h.v 4 VI (k 4 VI);have v5:eN K 44=some (.map (some z.a5)):=h.v 5 VI (k 5 VI);have w6:eN K 47=some (av z.hO 0):=h.v 8 VI (k 8 VI);have YC:eN K 49=some (av z.eu 0):=h.v 10 VI (k 10 VI);have Yu:eN K 50=some (av z.M.b 0):=h.v 11 VI (k 11 VI);have YD:eN K 51=some (.map (some z.a12)):=h.v 12 VI (k 12 VI);have YJ:eN K 52=some (.map (some z.rR)):=h.v 13 VI (k 13 VI);refine⟨rfl,aw.W0 (C:=λN F=>N=(53,A (z.rep n Y U Z))::K/\F=G) (aw.z' (V.WH ad (t:=[(0,I n),(1,I Y),(2,I U),(3,av Z 0),(4,.map (some z.a4)),(5,.map (some z.a5)),(6,av z.hO 0),(7,av z.eu 0),(8,av z.M.b 0),(9,.map (some z.a12)),(10,.map (some z.rR))]) (o:=z.rep n Y U Z) (g:=by simp only[az.nT,aR,YR,YS,YT,YU,v4,v5,w6,YC,Yu,YD,YJ])) ⟨rfl,rfl⟩) ?_⟩;rintro _ _⟨rfl,rfl⟩;exact⟨z,h.up hu VI z Q (λ_ _ _ _=>⟨rfl,rfl⟩) (λ_=>⟨k 4 VI,k 5 VI,k 8 VI,k 10 VI,k 11 VI,k 12 VI,k 13 VI⟩) (λe=>absurd e VI) (λf=>h.M (f.resolve_right VI)) _ rfl⟩
   .cases gs ej;have Yv:l.getD 14 true=true:=A4 (dg ⟨14,.data⟩ VK rfl);have YA:eN K 53=some (A (z.rep n Y U Z)):=h.v 14 VI Yv;refine⟨rfl,aw.W0 (C:=λN F=>∃b,N=(54,av b 0)::K/\F=cells b 95 (z.rep n Y U Z)::G) (O.X9 (λb=>⟨b,rfl,rfl⟩) (g:=YA)) ?_⟩;rintro _ _⟨b,rfl,rfl⟩;exact⟨{z with og:=b},h.up hu VI {z with og:=b} Q Sr (λe=>absurd e VI) (λ_=>Yv) (λf=>h.M (f.resolve_right VI)) _ rfl⟩
   .cases gs ej;refine⟨rfl,aw.W0 (C:=λN F=>∃b,N=(12,av b 0)::K/\F=cells b 36 [.pointer none]::G) (O.Q' ad (λb=>⟨b,rfl,rfl⟩)) ?_⟩;rintro _ _⟨b,rfl,rfl⟩;exact⟨{z with rS:=b},h.up hu VI {z with rS:=b} Q Sr (λe=>absurd e VI) (λe=>absurd e VI) (λf=>h.M (f.resolve_right VI)) _ rfl⟩
   .cases gs ej;have Yy:l.getD 15 true=true:=A4 (dg ⟨15,.data⟩ VK rfl);have YB:l.getD 16 true=true:=A4 (dg ⟨16,.data⟩ VK rfl);have Yv:=h.rT Yy;have Yz:=h.A7 Yv;have YK:eN K 54=some (av z.og 0):=h.v 15 VI Yy;have Yw:eN K 12=some (av z.rS 0):=h.v 16 VI YB;have cn:=h.p;unfold lk.flat kQ at cn;unfold ui at Yz;simp only[fW,nY,Yz,Yv,Yy,YB,hu,ik,db,lk.gq,iH,h8,ck,mQ,g4]at cn;refine⟨rfl,aw.adm cn (aw.W0 (C:=λN F=>N=K/\F=_) (O.O' ad ⟨rfl,rfl⟩ (d:=Yw) (t:=YK)) ?_)⟩;rintro _ _⟨rfl,rfl⟩;refine⟨z,?_⟩;have bV (j:Nat):=J4 (j:=j) hu;refine⟨Qf,λj a=>by rw[bV,h.d0 j a,rU],λ_=>?_,λ_=>by rw[bV,Yv,rU],λ_=>⟨by rw[bV,Yy,rU],by rw[bV,YB,rU]⟩,h.e,λj a f=>?_,λ_=>h.M Yz.2.2.2.2.1,?_⟩
    .unfold ui;simp only[bV,Yz,rU,and_self]
    .refine h.v j a ?_;rw[bV,hc,cO]at f;exact f.resolve_left λe=>by subst e;revert a;decide
    .unfold lk.flat kQ;simp only[fW,nY,bV,Yz,Yv,Yy,YB,rU,ik,db,lk.gq,AH,Bool.true_or,ck,mQ,g4];exact hI _
  .rintro l K G⟨z,h⟩ c2;have Yk (j:Nat) (a:j<18):l.getD j true=true:=J6 c2 h.aM Vw 18 j a a;have cn:=h.p;unfold lk.flat kQ at cn;simp only[fW,nY,Yk,Nat.reduceLT,ik,db,lk.gq,ck,mQ,g4]at cn;refine Out.eqv (bg:=bz b9 (di (bB:=a6)) z.a4 []::bz b9 (di (bB:=bM)) z.a5 []::aK (jx z.hO n Y z.uh z.m8 (.slice none 0 0) 0 [] [])::ky z.eu z.eg (dl.new n)::na z.M::bz b9 hA z.a12 []::bz b9 mc z.rR []::cells z.og 95 (z.rep n Y U Z)::cells z.rS 36 [av z.og 0]::fR Z bU T P::cells nv 3 [I U]::[]) ((aP.We cn).trans ?_) (Out.C' Ye z (h.M (Yk 11 VI)) trivial (j:=dy.cons (h.v 16 VI (Yk 16 VI)) rfl (dy.cons (h.e (7,av nv 0) VK) rfl (dy.cons (h.e (1,I n) VK) rfl (dy.cons (h.e (10,av Z 0) VK) rfl dy.nil)))) (v:=[]) (g:=?_))
   .exact aP.cons _ (aP.cons _ (aP.append (ao:=jx z.hO n Y z.uh z.m8 (.slice none 0 0) 0 [] []) (bg:=[aK (jx z.hO n Y z.uh z.m8 (.slice none 0 0) 0 [] [])]) aP.aK.symm (aP.refl _)))
   exact VH
  .refine⟨rfl,VI,λf=>(by cases f),λf=>(by cases f),λf=>(by cases f),?_,λj a f=>?_,λf=>(by cases f),hI _⟩
   .intro q aV;simp only[cQ,kq,gl]at aV;rcases aV with rfl|rfl|rfl|rfl|rfl|rfl|rfl|rfl|rfl|rfl<;>rfl
   .simp only[kQ,cQ,kq,gl]at a;rcases a with rfl|rfl|rfl|rfl|rfl|rfl|rfl|rfl|rfl|rfl<;>cases f
 rintro z YF;refine bh ?_;have YX:=J8 Z bU T P;refine aa 5 ?_;rintro _ _⟨YZ,rfl,rfl⟩;refine aa 4 ?_;refine ah.rg (sz _ T.eu T.R P.p Yg.p.towf) (λy:(l7×aj)×(dl×(Int×ab bw))=>[cells z.rS 36 [av z.og 0],cells z.og 95 (z.rep n Y U Z),ky z.eu y.1.1 y.2.1,lf (z.lay Z y.1) (aA.WQ n Y U bU T P z.M y.2.1 y.2.2),cells nv 3 [I U]])
  (λpre y=>pE n Y U pre y.2.1 y.2.2) (λ_ _ _=>False) ((z.eg,.slice none 0 0),(dl.new n,(0,[]))) .nil ?_ ?_ ?_
 .rintro pre⟨x,i⟩ Yc⟨⟨eg,eU⟩,⟨E,st⟩⟩ cq rec b6 gy c2 eK jV yu Yn;dsimp only at gy;have Yq:k5 n P.p.all:=by have:=Yg.hy;rwa[Ym]at this
  have YH:k5 n pre:=λy fX=>Yq y (by rw[b6];exact oR _ fX);obtain⟨iG,YI⟩:=EK cN bV Yo YH gy bU T P YF.1;have Yx:=(Yq (x,i) (by rw[b6];simp)).1;have Yl:pre.length<=448:=by
   have bf:=aL.Xc Yg.p.towf;have bW:pre.length<=P.p.all.length:=by rw[b6,bQ];omega
   omega
  have YL:E.dc.length<=448:=iG.run.XT;have ep:=I5 z.eu eg E iG.run.g ac x i.Call;have gQ (g:Nat):=Eu (z.lay Z (eg,eU)) (aA.WQ n Y U bU T P z.M E st) pre.length iG ac U Yo (some ⟨g,0,none⟩) 1 [x] VK (by simpa using n5 Yx ac);simp only[nX]at gQ;refine bh ?_;unfold lk.rep;by_cases cd:i.Status=3
  .have fL:bb .eql i.Status 3=some true:=by simp[bb,cd]
   refine aq 2 λYt=>?_;refine aq 4 λYE=>?_;refine aa 8 ?_;refine ai.v (V.cmp rfl rfl fL) ?_;refine aa 3 ?_;refine ah.p' ?_ aC.j.j.j.j.d'.j.d'.d';refine ae 3 0 ?_;refine ae 3 4 ?_;refine ae 1 3 ?_;refine af.x' 7 rfl rfl (ep) ?_;rintro hh s2⟨Y0,⟨⟨rfl,Yh⟩,rfl⟩⟩;refine aa 4 ?_;all_goals exact Out.rd Yn ((_,eU),(_,st)) (.rQ gy cd VV)
  .have fL:bb .eql i.Status 3=some false:=by simp[bb,cd]
   refine aq 2 λYt=>?_;refine aq 4 λYE=>?_;refine aa 8 ?_;refine ai.v (V.cmp rfl rfl fL) ?_;refine aa 3 ?_;refine ah.p' ?_ aC.d'.j.j.j.d'.j.d'.j;refine ae 3 0 ?_;refine ae 2 4 ?_;refine af.bx 3 6 rfl rfl ?_ ?_;refine aw.z' (V.F' ad) ?_;refine au ?_;refine af.y' 6 rfl (O.V' ad ag.c [x] rfl (bP.agg rfl bP.nil) rfl rfl (λYV=>?_));refine au ?_;refine af.x' 7 rfl rfl (gQ _) ?_;rintro _ _⟨YY,rfl,rfl⟩;refine aa 4 ?_;rotate_left;refine O.V' ad ag.c [x] rfl (bP.agg rfl bP.nil) rfl rfl (λYV=>?_);refine au ?_;refine ae 1 3 ?_;refine af.x' 7 rfl rfl (gQ _) ?_;rintro _ _⟨YW,rfl,rfl⟩;refine aa 4 ?_;rotate_left;all_goals exact Out.rd Yn ((eg,_),(E,ib n Y U [] [x] st)) (.iE gy cd)
 .rintro⟨⟨eg,eU⟩,⟨E,st⟩⟩ c gy;dsimp only at gy;have Yq:k5 n P.p.all:=by have:=Yg.hy;rwa[Ym]at this
  obtain⟨iG,YI⟩:=EK cN bV Yo Yq gy bU T P YF.1;have bf:=aL.Xc Yg.p.towf;have dd:=JD z.og (z.lay Z (eg,eU)) (aA.WQ n Y U bU T P z.M E st) P.p.all.length iG ac (by show 0<=_;omega);have Yi (cL:aA) (eJ:kP (aA.WQ n Y U bU T P z.M E st) cL):me n Y U bU P cL:=⟨T,z.M,E,st,VV,VV,YF,gy,eJ⟩
  refine bh ?_;refine aa 2 ?_;refine ah.V5 aD.c 176 25 ?_;refine ah.toX ?_;refine ah.V5 b2.c 143 3 ?_;refine ah.V5 gf.c 65 6 ?_;refine ah.iE (a7:=gK c::(ch z.og (z.lay Z (eg,eU)) (aA.WQ n Y U bU T P z.M E st)++[cells z.rS 36 [av z.og 0]])) (λw cE=>?_) ?_
  .have bW:=H.eqv ((EL Z bU T P).symm.append (aP.refl _)) (cE.Wy (bg:=[lI T.eu T.R P.p,aK (uj Z bU T P)]) VH);have cd:=H.eqv ((JC jQ).symm.append (aP.refl _)) bW;have gw:=H.eqv ((JC hi).symm.append (aP.refl _)) cd;dsimp only[List.cons_append,List.nil_append]at gw;exact gw.hv Mc
  generalize aA.WQ n Y U bU T P z.M E st=oF at*;unfold ch e5 at dd⊢;dsimp only[List.cons_append,List.nil_append]at dd⊢;refine aa 4 ?_;rintro _ _⟨z,Z,Yh,rfl,rfl⟩;refine aa 12 ?_;all_goals exact⟨_,_,⟨_,_,_,Yi _ VV,rfl,rfl⟩,VH⟩
 exact UO
end Go.Proofs.YteogojgnkjegmaaGreatDoor
namespace Go.Proofs.YteogojgnkjegmaaGreatDoor
open Go.az Go.Proofs.Tryz
variable{n:Int}
def ih(c:ab Bool):ab aj:=c.map λb=>B b
def ec(v:aj)(c:ab Bool)(n:Int):ab aj:=[v]++(ih c++[I n])
def ec.len{v:aj}{c:ab Bool}:(ec v c n).length=c.length+2:=by simp[ec,ih]
def fC(b:Nat)(v:aj)(l:ab b2)(c:ab Bool)(n:Int):ab ay:=[cells b 126 (ec v c n),rows b2.c v 143 3 l]
def iU(a:Int):Bool:=decide (0<=a)&&decide (a<7)
def A8(a:Int):dH prog 68 [I a] (B (iU a)):=by
 refine aF func68 λW=>?_;refine OK (λy=>?_) λy=>?_;refine aa 8 ?_
 .simp[iU, *]
 refine aa 8 ?_
 .simp[iU, *]
def aho:ar prog 45 [] [] (λv J=>∃b,v=av b 0/\J=fC b (.slice none 0 0) [] (List.replicate 49 false) 0):=by refine aF func45 λW=>?_;refine ah.V5 b2.c 143 3 ?_;refine aq 8 λx=>?_;exact aQ 5
def EM(g Q:Nat)(l:ab b2)(i:Nat)(am:i<l.length)(K:l.length<=Q)(q:Q<=9223372036854775807):ar prog 64 [.slice (some ⟨g,0,none⟩) l.length Q,I (i:Int),I ((i:Int)+1)] [rows b2.c (.slice (some ⟨g,0,none⟩) l.length Q) 143 3 l] (λv J=>v=.slice (some ⟨g,0,none⟩) (l.eraseIdx i).length Q/\J=[rows b2.c (.slice (some ⟨g,0,none⟩) (l.eraseIdx i).length Q) 143 3 (l.eraseIdx i)]):=by
 have p:l.eraseIdx i=l.take i++l.drop (i+1):=by rw[Ix]
 have h:(l.eraseIdx i).length=i+(l.length-(i+1)):=by rw[DE,aJ am];omega
 rw[h,p];refine aF func64 λW=>?_;refine S4 ?_;refine af.y' 6 rfl (O.aaU ad (i:=i) (j:=i+1) rfl rfl VJ rfl ac ac b2.len b2.J' ?_);exact S7
def agJ(g Q:Nat)(l:ab b2)(f:l≠[])(K:l.length<=1000):ar prog 67 [.slice (some ⟨g,0,none⟩) l.length Q] [rows b2.c (.slice (some ⟨g,0,none⟩) l.length Q) 143 3 l] (λv J=>∃k i,v=.slice (some ⟨k,0,none⟩) l.length i/\J=[rows b2.c (.slice (some ⟨k,0,none⟩) l.length i) 143 3 l,rows b2.c (.slice (some ⟨g,0,none⟩) l.length Q) 143 3 l]):=by
 refine aF func67 λW=>?_;refine aa 9 ?_;refine ai.v (V.Xw ad) ?_;refine aq 7 λa=>?_;refine au ?_;refine ai.o (O.ZO ad rfl rfl (cz.rows ad VF b2.J') f b2.len (λY u=>?_));refine aa 5 ?_
 exact Mx
def ain(g Q:Nat):ar prog 67 [.slice (some ⟨g,0,none⟩) 0 Q] [rows b2.c (.slice (some ⟨g,0,none⟩) 0 Q) 143 3 []] (λv J=>∃k,v=.slice (some ⟨k,0,none⟩) 0 0/\J=[rows b2.c (.slice (some ⟨k,0,none⟩) 0 0) 143 3 [],rows b2.c (.slice (some ⟨g,0,none⟩) 0 Q) 143 3 []]):=by refine aF func67 λW=>?_;refine aa 9 ?_;refine ai.v (V.Xw ad) ?_;refine aa 7 ?_;refine ai.o (O.V' ad b2.c [] rfl bP.nil rfl rfl (λa=>?_));refine au ?_;refine ai.v (V.ZP ad rfl rfl (cz.rows ad VF b2.J') ac) ?_;exact aQ 5
def akD:ar prog 67 [.slice none 0 0] [] (λv J=>v=.slice none 0 0/\J=[]):=by refine aF func67 λW=>?_;exact Ri
def jf(c:ab Bool)(a b:Int):Bool:=c.getD (a.toNat*7+b.toNat) false
def oh(c:ab Bool)(l:ab b2)(x:b2):Bool:=!iU x.bc||(!iU x.bI||(jf c x.bc x.bI||decide (256<=l.length)))
def kR(c:ab Bool)(s:ab b2×Int)(x:b2):ab b2×Int:=if oh c s.1 x then(s.1,s.2+1)else(s.1++[x],s.2)
def hs(c:ab Bool)(l:ab b2)(N:ab b2):ab b2×Int:=N.foldl (kR c) (l,0)
def Kb(c l N x):hs c l (N++[x])=kR c (hs c l N) x:=by simp[hs]
def xb{a:Int}(h:iU a=true):∃k:Nat,a=(k:Int)/\k<7:=by simp only[iU,c1,cO]at h;exact⟨a.toNat,ac,ac⟩
def ec.cut{v:aj}{c:ab Bool}{i j:Nat}(q:c.length=49)(am:i<7)(w:j<7):(ec v c n)[1+i*7+j*1]?=some (B (jf c (i:Int) (j:Int))):=by
 have T:i*7+j<c.length:=ac
 rw[ec,show 1+i*7+j*1=(i*7+j)+1 by omega];simp only[tH,pV];rw[pU L1];simp only[ih,h5,jf,hY];rw[getD_some T];rfl
def ec.lost{v:aj}{c:ab Bool}(q:c.length=49):(ec v c n)[50]?=some (I n):=by simp only[ec,tH,pV];rw[iC L1];simp[ih,q]
theorem ec.XX{v L:aj}{c:ab Bool}:bH 0 [L] (ec v c n) (ec L c n):=⟨by simp[ey,ec]⟩
theorem ec.W5{v:aj}{c:ab Bool}{N:Int}(q:c.length=49):bH 50 [I N] (ec v c n) (ec v c N):=⟨by
 have p:([v]++ih c).length=50:=by simp[ih,q]
 have e:∀m:Int,ec v c m=([v]++ih c)++[I m]:=λm=>by simp[ec]
 rw[e,e,ey,oA ac,lr ac,wk,sc ac,sc (by simp[ih,q])];simp⟩
def SZ(c:ab Bool)(l:ab b2)(u:l.length<=256)(N:ab b2):(hs c l N).1.length<=256/\0<=(hs c l N).2/\(hs c l N).2<=N.length:=by
 suffices h:∀G:ab b2,(hs c l G.reverse).1.length<=256/\0<=(hs c l G.reverse).2/\(hs c l G.reverse).2<=G.length by have:=h N.reverse;simpa using this
 intro G;induction G with
 |nil=>exact⟨u,by simp[hs],by simp[hs]⟩
 |cons y G X=>
  obtain⟨Y,Z,D⟩:=X;rw[List.reverse_cons,Kb,kR];cases X:oh c (hs c l G.reverse).1 y with
  |true=>simp only[ik,df];exact⟨Y,ac,RG⟩
  |false=>
   simp only[oh,yI,jW]at X;simp only[h8,iH,df,bQ,gv];exact⟨ac,Z,RG⟩
def ec.fx{v:aj}{c:ab Bool}:Nat.blt 0 (ec v c n).length=true:=LG
def ec.Xy{v:aj}{c:ab Bool}(q:c.length=49):Nat.blt 50 (ec v c n).length=true:=LG
def aj3(e:ay)(M:aT Go.Addr)(Q sB off b:Nat)(v:aj)(l N:ab b2)(c:ab Bool)(n:Int)(f:Rd e M N.length sB off 3 (N.map b2.c))(q:c.length=49)(u:l.length<=256)(k:0<=n/\n<=1000000000000000)(U:N.length<=1000000):ar prog 63 [av b 0,.slice M N.length Q] (e::fC b v l c n) (λr J=>∃L,r=I (hs c l N).2/\J=e::fC b L (hs c l N).1 c (n+(hs c l N).2)):=by
 unfold fC;refine aF func63 λW=>?_;refine aa 29 ?_;refine ah.cq [13,12,0] (λy:Nat×aj×ab b2×Int=>y.1<=N.length/\hs c l (N.take y.1)=y.2.2) (λy=>[(14,I (y.1:Int)),(5,I y.2.2.2)]) (λy=>[cells b 126 (ec y.2.1 c n),rows b2.c y.2.1 143 3 y.2.2.1])
  (λy=>N.length-y.1) (0,v,l,0) ⟨cG _,rfl⟩ ?_
 rintro⟨i,L,o,m⟩⟨am,E⟩ K C;dsimp only at am E;refine bh ?_;obtain⟨F,G,R⟩:=SZ c l u (N.take i);rw[E]at F G R;dsimp only at F G R;have g:m<=i:=by rw[e8]at R;omega
 by_cases T:i<N.length
 .obtain⟨x,U⟩:=cl T;have p:=mm U;have X:hs c l (N.take (i+1))=kR c (o,m) x:=by rw[p,Kb,E]
  have Yi:oh c o x=true->hs c l (N.take (i+1))=(o,m+1):=λh=>by rw[X,kR,aJ h]
  have w:=A8 x.bc;have a:=A8 x.bI;cases Y:iU x.bc with
  |false=>
   rw[Y]at w;have j:=Yi (by simp[oh,Y]);refine aq 15 λz=>?_;refine aa 5 ?_;refine ah.p' ?_ aC.d'.d'.d'.d';refine ae 30 0 ?_;refine aa 18 ?_;rotate_left;exact RM
  |true=>
   rw[Y]at w;cases Z:iU x.bI with
   |false=>
    rw[Z]at a;have j:=Yi (by simp[oh,Y,Z]);refine aq 15 λz=>?_;refine aa 5 ?_;refine ah.p' ?_ aC.d'.d'.d'.d';refine ae 30 0 ?_;refine aa 18 ?_;rotate_left;exact RM
   |true=>
    rw[Z]at a;obtain⟨d,Yf,Yg⟩:=xb Y;obtain⟨P,Yc,Yh⟩:=xb Z;have Ye:=λv n=>ec.cut (v:=v) (n:=n) q Yg Yh;rw[<-Yf,<-Yc]at Ye;cases D:jf c x.bc x.bI with
    |true=>
     rw[D]at Ye;have j:=Yi (by simp[oh,Y,Z,D]);refine LC λz=>?_;refine ae 9 21 ?_;refine aa 18 ?_;rotate_left;exact RM
    |false=>
     rw[D]at Ye;by_cases s:256<=o.length
     .have j:=Yi (by simp[oh,Y,Z,D,s]);have Yj:bb .geq (o.length:Int) 256=some true:=by simp[bb];omega
      refine PW λz=>?_;refine aa 18 ?_;rotate_left;exact RM
     .have Yj:bb .geq (o.length:Int) 256=some false:=by simp[bb];omega
      have j:hs c l (N.take (i+1))=(o++[x],m):=by rw[X,kR,aG (by simp[oh,Y,Z,D];omega)]
      refine PW λz=>?_;refine aa 5 ?_;refine ah.V9 [10] ?_ aC.j.j.d'.d' aC.j.j.j.d';refine Py ?_;refine dr 6 λYl=>?_;refine af.y' 7 rfl (O.Z' ad rfl rfl Vz (cz.one ad VF b2.J') (λYm Yk=>?_));refine au ?_;refine ae 2 8 ?_;refine af.l 10 rfl (O.O' ad ?_ (j:=ec.fx) (i:=ec.XX));refine aa 8 ?_;rotate_left;exact Out.C' C (i+1,_,o++[x],m) ⟨VU,j⟩ VB
 .obtain rfl:i=N.length:=by omega
  rw[iI]at E;clear C;rw[E];refine aa 17 ?_;refine ai.v (V.F' ad (z:=ec.lost q)) ?_;refine aa 4 ?_;refine ai.o (O.O' ad ?_ (j:=ec.Xy q) (i:=ec.W5 q));exact aQ 10
def akx(b:Nat)(v:aj)(l:ab b2)(c:ab Bool)(n:Int):ar prog 35 [av b 0] (fC b v l c n) (λr J=>r=I (l.length:Int)/\J=fC b v l c n):=by unfold fC;refine aF func35 λW=>?_;exact aQ 27
def iV(l:ab b2)(i:Int):aT b2:=if 0<=i then l[i.toNat]? else none
def xc{l:ab b2}{i:Int}{x:b2}(h:iV l i=some x):∃k:Nat,i=(k:Int)/\l[k]?=some x/\k<l.length:=by
 unfold iV at h;split at h
 .exact⟨i.toNat,ac,h,(cF.1 h).1⟩
 .cases h
def y2{l:ab b2}{i:Int}(h:iV l i=none):i<0\/(l.length:Int)<=i:=by
 unfold iV at h;split at h
 .have:=List.getElem?_eq_none_iff.1 h;right;omega
 .left;omega
def vy(x:b2):Bool:=iU x.bc&&iU x.bI
def ai8(b:Nat)(v:aj)(l:ab b2)(c:ab Bool)(n i:Int)(q:c.length=49)(y:0<=n/\n<=1000000000000000):ar prog 38 [av b 0,I i] (fC b v l c n) (λr J=>∃L,r=B (iV l i).isSome/\J=(match iV l i with|some _=>fC b L (l.eraseIdx i.toNat) c (n+1)|none=>fC b L l c n)):=by
 cases h:iV l i with
 |none=>
  have z:=y2 h;unfold fC;refine aF func38 λW=>?_;refine RW (λo=>?_) λo=>?_;exact aQ 19;exact aQ 19
 |some x=>
  obtain⟨k,rfl,T,s⟩:=xc h;unfold fC;refine aF func38 λW=>?_;refine ah.fact (h6 (f:=b2.c) (v:=v) (l:=l) (E:=143) (aM:=3) VF) λt=>?_;rcases t with⟨_,rfl⟩|⟨g,Q,rfl,P,d⟩
  .simp at s
  simp only[Go.maxLen]at d;have C:=EM g Q l k s P d;refine RW (λo=>?_) λo=>?_;(exfalso;omega);refine aa 10 ?_;refine ah.cs (λY=>?_) (λY=>?_);(exfalso;omega);refine aa 12 ?_;refine ai.x' rfl (C) ?_;refine aa 3 ?_;refine ai.o (O.O' ad ?_ (j:=ec.fx) (i:=ec.XX));refine aa 7 ?_;refine ai.v (V.F' ad (z:=ec.lost q)) ?_;refine aa 3 ?_;refine ai.o (O.O' ad ?_ (j:=ec.Xy q) (i:=ec.W5 q));exact aQ 9
def alg(b:Nat)(v:aj)(l:ab b2)(c:ab Bool)(n i:Int)(q:c.length=49)(y:0<=n/\n<=1000000000000000)(j:∀x∈l,vy x=true):ar prog 65 [av b 0,I i] (fC b v l c n) (λr J=>∃P,(match iV l i with
   |some x=>if jf c x.bc x.bI then r=.tuple #[A b2.z.c,B false]/\J=fC b P (l.eraseIdx i.toNat) c (n+1)else r=.tuple #[A x.c,B true]/\J=fC b P (l.eraseIdx i.toNat) c n
   |none=>r=.tuple #[A b2.z.c,B false]/\J=fC b P l c n)):=by
 cases h:iV l i with
 |none=>
  have w:=y2 h
  unfold fC
  refine aF func65 λW=>?_
  refine aq 2 λG=>?_
  refine aa 13 ?_
  refine ai.aX (λL=>?_) (λL=>?_)
  exact aQ 21
  exact aQ 21
 |some x=>
  obtain⟨k,rfl,T,s⟩:=xc h
  have U:=j x (im T)
  simp only[vy,c1]at U
  obtain⟨m,N,K⟩:=xb U.1
  obtain⟨a,Y,F⟩:=xb U.2
  have Z:=λv n=>ec.cut (v:=v) (n:=n) q K F
  rw[<-N,<-Y]at Z
  unfold fC
  dsimp only
  cases D:jf c x.bc x.bI with
  |true=>
   rw[D]at Z
   simp only[ik]
   refine aF func65 λW=>?_
   refine ah.fact (h6 (f:=b2.c) (v:=v) (l:=l) (E:=143) (aM:=3) VF) λt=>?_
   rcases t with⟨_,rfl⟩|⟨g,Q,rfl,M,d⟩
   .simp at s
   simp only[Go.maxLen]at d
   have C:=EM g Q l k s M d
   refine aq 2 λG=>?_
   refine aa 34 ?_
   refine ai.v (V.E' ad rfl rfl) ?_
   refine ai.v (V.K' ad rfl VF (λ_=>rfl) VV) ?_
   refine aq 0 λp=>?_
   refine aa 17 ?_
   refine ai.o (O.O' ad ?_ (j:=ec.fx) (i:=ec.XX))
   refine aa 4 ?_
   refine ah.p' ?_ aC.d'.j.d'.d'
   refine ae 7 0 ?_
   refine af.n' 7 rfl (V.V6 ad rfl rfl N) ?_
   refine af.n' 8 rfl (V.V6 ad rfl rfl Y) ?_
   refine af.n' 9 rfl (V.F' ad (z:=Z _ _)) ?_
   refine aa 8 ?_
   refine ai.v (V.F' ad (z:=ec.lost q)) ?_
   refine aa 3 ?_
   refine ai.o (O.O' ad ?_ (j:=ec.Xy q) (i:=ec.W5 q))
   exact aQ 12
  |false=>
   rw[D]at Z
   simp only[h8,iH]
   refine aF func65 λW=>?_
   refine ah.fact (h6 (f:=b2.c) (v:=v) (l:=l) (E:=143) (aM:=3) VF) λt=>?_
   rcases t with⟨_,rfl⟩|⟨g,Q,rfl,M,d⟩
   .simp at s
   simp only[Go.maxLen]at d
   have C:=EM g Q l k s M d
   refine aq 2 λG=>?_
   refine aa 34 ?_
   refine ai.v (V.E' ad rfl rfl) ?_
   refine ai.v (V.K' ad rfl VF (λ_=>rfl) VV) ?_
   refine aq 0 λp=>?_
   refine aa 17 ?_
   refine ai.o (O.O' ad ?_ (j:=ec.fx) (i:=ec.XX))
   refine aa 4 ?_
   refine ah.p' ?_ aC.d'.j.d'.d'
   refine ae 7 0 ?_
   refine af.n' 7 rfl (V.V6 ad rfl rfl N) ?_
   refine af.n' 8 rfl (V.V6 ad rfl rfl Y) ?_
   refine af.n' 9 rfl (V.F' ad (z:=Z _ _)) ?_
   exact aQ 14
end Go.Proofs.YteogojgnkjegmaaGreatDoor
