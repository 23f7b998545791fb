/-
 Part of the proof.
-/
import Derived.Test.YteogojgnkjegmaaGreatDoorAx
set_option linter.all false
set_option maxRecDepth 8000
set_option maxHeartbeats 8000000
namespace Go.Proofs.YteogojgnkjegmaaGreatDoor
open Go.az Go.Proofs.Tryz
variable[Go.az.b5]
variable{k:Nat}{e:Int}{m:aD}
def uk(s:aA)(m:aD)(t:bS):Prop:=t=s.ax\/∃r c,fs s m r/\ig r c/\t=c.ax
def nd.all{n N:Int}{i:Nat}{s L:aA}(h:mG k n N i s)(K:hz m n)(E:nd s m e L):UpF (k+42300) n N i L/\lS (uk s m) L.ax:=by
 obtain⟨W,z⟩:=h.o1;rcases E with⟨_,_,rfl⟩|⟨_,_,_,r,g,c⟩
 .exact⟨h.toUpF.mono ac,lS.of z (.inl rfl)⟩
 .have i:hz m s.n:=by rw[h.n];exact K
  have M:=A2 h.y h.v h.bu g;obtain⟨T,X⟩:=g.WB;have a:=g.out h.y;rw[h.on]at a;have G:lS (uk s m) r.ax:=(lS.of z (.inl rfl)).add h.y.ax (g.add h.y.ax) (.inl rfl) (.inr ⟨r,r,g,.refl r,rfl⟩);have w:=h.y.gF;have:=jB.all (C:=uk s m) (g.cu h.y (n5 i.item w.2)) (g.WF h.v h.y.ax (A1 w.2 i)) (nN.WB h.b3 X) G c ac (X.2.2.1.trans h.n) (X.2.2.2.trans h.self) (by rw[g.ax.2];exact h.now) (by have:([]:ab b2).length=0:=rfl;omega) (by rw[g.told,h.nu];exact cG _) (λt f=>.inr ⟨r,t,g,f,rfl⟩);exact⟨this.1.mono ac,this.2⟩
def nd.bU{s L:aA}(E:nd s m e L):L.bU=s.bU:=by
 rcases E with⟨_,_,rfl⟩|⟨_,_,_,r,g,c⟩
 .rfl
 .exact c.bU.trans g.bU
def bo.less(c:bo)(i:Int):bo:={c with bi:=c.bi.eraseIdx i.toNat}
variable{d:bo}
def vA(c:bo)(i:Int)(j:Nat)(k:Nat)(K:cT)(r:aA)(m:aD)(J:cT)(q:aA):Prop:=
 ∃x h,iV c.bi i=some x/\jf c.cut x.bc x.bI=false/\x.bI=(j:Int)/\c.aE[j]?=some (.up k K r)/\x.Bytes=gP m/\c4 m c.n=true/\m.bI=x.bI/\nd r m h q
def rV(c:bo)(i:Int)(e:Int)(d:bo):Prop:=
 (iV c.bi i=none/\e=5/\d=c)\/
 (∃x,iV c.bi i=some x/\jf c.cut x.bc x.bI=true/\e=7/\d={c.less i with lost:=c.lost+1})\/
 (∃x j G L l C y,iV c.bi i=some x/\jf c.cut x.bc x.bI=false/\x.bI=((j:Nat):Int)/\c.aE[j]?=some (.dn G L l C y)/\e=7/\d=c.less i)
def vB(c:bo)(i:Int)(M e:Int)(d:bo):Prop:=
 (M=0/\rV c i e d)\/(∃j k K r m J q,vA c i j k K r m J q/\M=((j:Nat):Int)/\e=0/\d={c.less i with aE:=c.aE.set j (.up k J q)})
def ES(L:fI)(l:ab b2)(c:ab Bool)(n:Int):ar prog 35 [av L.j9 0] [aK (fC L.j9 L.dJ l c n)] (λr J=>r=I (l.length:Int)/\J=[aK (fC L.j9 L.dJ l c n)]):=ar.Xq (akx ..)
def aiV(L:fI)(l:ab b2)(c:ab Bool)(n i:Int)(q:c.length=49)(y:0<=n/\n<=1000000000000000)(P:∀x∈l,vy x=true){x:b2}(U:iV l i=some x):ar prog 65 [av L.j9 0,I i] [aK (fC L.j9 L.dJ l c n)] (λr J=>∃t,r=(if jf c x.bc x.bI then .tuple #[A b2.z.c,B false]else .tuple #[A x.c,B true])/\J=[aK (fC L.j9 t (l.eraseIdx i.toNat) c (if jf c x.bc x.bI then n+1 else n))]):=by
 refine ar.eqv aP.aK (alg L.j9 L.dJ l c n i q y P) ?_;rintro r J⟨t,h⟩;rw[U]at h;dsimp only at h;cases j:jf c x.bc x.bI
 .rw[j,aG VI]at h;exact RX
 .rw[j,aJ rfl]at h;exact RX
def Bg{l:ab b2}{i:Int}{x:b2}(h:iV l i=some x):x∈l:=by obtain⟨k,_,T,_⟩:=xc h;exact im T
def Km(b:Nat)(L:fI)(c:bo)(i:Int)(k:Nat)(h:cC k c)(ca:k<=90000000000):ar prog 39 [av b 0,I i] (bE b L c) (λr F=>∃u bs T e,vB c i T e bs/\r=.tuple #[I T,I e]/\F=bE b u bs):=by
 have Yc:=h.len;have cN:=h.n;have Yl:=ES L c.bi c.cut c.lost;have Yg:=h.lost;cases q:iV c.bi i with
 |none=>
  have w:vB c i 0 5 c:=.inl ⟨rfl,.inl ⟨q,rfl,rfl⟩⟩;have am:=y2 q;clear h;unfold bE dN dX;refine aF func39 λW=>?_;generalize br _=D;refine aa 22 ?_;refine ai.aX (λo=>?_) (λo=>?_);refine aa 20 ?_;rotate_left;refine aa 21 ?_;rotate_left;all_goals exact⟨_,_,⟨L,c,0,5,w,rfl,rfl⟩,VH⟩
 |some x=>
  obtain⟨M,rfl,Yn,Yh⟩:=xc q;obtain⟨m,bG,Ye,Ym,Yj,E,d⟩:=h.gH x (Bg q);have dI:=gZ.1 bG;have Yf:=dI.t1;have R:=dI.t2;have K:=aiV L c.bi c.cut c.lost (M:Int) h.cut ⟨Yg.1,ac⟩ (λy C=>(h.gH y C).vy ac) q;obtain⟨kx,to,Yo⟩:=x;dsimp only at E d Ym Yj Ye;subst E d;obtain⟨j,y,t,Yi,C⟩:=h.at Yf R;have c5:bb .lss (M:Int) 0=some false:=RD
  have Y:bb .geq (M:Int) (c.bi.length:Int)=some false:=VA
  cases a:jf c.cut kx m.bI
  .have Yk:c.n=c.n:=rfl;cases y with
   |dn bU dJ l nh iR=>
    have w:vB c (M:Int) 0 7 (c.less (M:Int)):=.inl ⟨rfl,.inr (.inr ⟨_,j,bU,dJ,l,nh,iR,q,a,t,C,rfl,rfl⟩)⟩;unfold bo.less at w;simp only[a,h8,iH]at K;rw[t]at K R;have fL:bb .geq (j:Int) c.n=some false:=VA
    clear h;unfold bE dN dX;refine aF func39 λW=>?_;generalize br _=D;refine Sf λp ob=>?_;refine aa 12 ?_;all_goals exact⟨_,_,⟨{L with dJ:=p},_,0,7,w,rfl,rfl⟩,VH⟩
   |up Z fr U=>
    have s:=h.up _ _ _ _ C;have g:hz m U.n:=by rw[s.n];exact dI
    have w (J:cT) (G:aA) (Y:Int) (X:nd U m Y G):vB c (M:Int) (j:Int) 0 {c.less (M:Int)with aE:=c.aE.set j (.up Z J G)}:=.inr ⟨j,Z,fr,U,m,J,G,⟨_,Y,q,a,t,C,rfl,bG,rfl,X⟩,rfl,rfl,rfl⟩;have P:=ar.Z9 (Q:=λr (z:cT×aA×Int)=>nd U m z.2.2 z.2.1/\r=I z.2.2) (N:=λz=>.up Z z.1 z.2.1) C (ar.post (aj1 Z fr U m k s.y s.v s.bu g ac (by rw[s.on];exact cG _) (by rw[s.nu];exact cG _)) (by rintro v F⟨u,cL,e,bf,rfl,rfl⟩;exact⟨_,⟨(u,cL,e),⟨bf,rfl⟩,rfl⟩,λ_ _ _ h=>h⟩));have N (u:fI) (J:cT) (G:aA) (Y:Int) (X:nd U m Y G):=Bb b u (c.less (M:Int)) (y:=.up Z J G) C X.bU rfl;unfold bo.less at w N;simp only[a,h8,iH]at K;rw[t]at K R;have fL:bb .geq (j:Int) c.n=some false:=VA
    clear h s g;unfold bE dN dX;refine aF func39 λW=>?_;generalize br _=D;refine Sf λp ob=>?_;refine aa 5 ?_;refine ah.mt [0,6] (λz:cT×aA×Int=>nd U m z.2.2 z.2.1) (λz=>[]) (λz=>[fh (c.aE.set j (.up Z z.1 z.2.1)),cM]) (s:=[fh c.aE,cM]) ?_ ?_
    .intro o b;refine ah.p' ?_ aC.j.j.j.j.j.d'.j.d';refine ae 6 0 ?_;refine af.n' 6 rfl (V.E' ad (k:=j) rfl rfl rfl rfl ac) ?_;refine ae 2 8 ?_;refine af.y' 7 rfl (aw.z' (V.Wm ad (f:=g3) rfl VF oZ C) ?_);refine au ?_;refine af.x' 10 rfl rfl (P) ?_;rintro C G⟨r,⟨⟨E,rfl⟩,rfl⟩⟩;refine aa 3 ?_;all_goals exact Out.C' b (_,_,_) VV trivial
    rintro⟨J,G,Y⟩ X;dsimp only at X;have y:=w J G Y X;have t:=N {L with dJ:=p} J G Y X;clear P w N K Yl;refine bh ?_;refine aa 10 ?_;all_goals exact⟨_,_,⟨{L with dJ:=p},_,(j:Int),0,y,rfl,rfl⟩,(by unfold bE dN dX at t;dsimp only at t⊢;rw[t];(repeat(first|exact ak.nil|exact al.here|apply ak.cons|apply al.there)))⟩
  .have w:vB c (M:Int) 0 7 {c.less (M:Int)with lost:=c.lost+1}:=.inl ⟨rfl,.inr (.inl ⟨_,q,a,rfl,rfl⟩)⟩;unfold bo.less at w;simp only[a,ik]at K;clear h;unfold bE dN dX;refine aF func39 λW=>?_;generalize br _=D;refine aa 20 ?_;refine ai.v (V.cmp rfl rfl c5) ?_;refine aa 8 ?_;refine ai.v (V.cmp rfl rfl Y) ?_;refine aa 14 ?_;rintro _ _⟨p,rfl,rfl⟩;refine aq 4 λob=>?_;refine aa 6 ?_;refine ah.p' ?_ aC.j.j.j.j.j.d'.j.d';refine ae 22 0 ?_;refine aa 12 ?_;all_goals exact⟨_,_,⟨{L with dJ:=p},_,0,7,w,rfl,rfl⟩,VH⟩
def Tl(Z:ab aS)(g:Nat)(U:Int)(K:aS):(vb Z g U K).length<=Z.length:=by
 unfold vb;split
 .rw[e8];omega
 .rw[cy,e8];omega
def Kn(b:Nat)(L:cT)(s:aA)(E:s.ax.ok){P o:ab eH}(h:o0 s.ax P o)(U:Int)(K:aS):ar prog 48 [av s.bU 0,I U,.int .u8 (K.toNat:Int)] (ch b L s) (λr J=>∃z:aj×ab eH×ab aS×Int,((∃x,o=z.2.1++x)/\(g6 z.2.2.1).2=0/\(cp (P++z.2.1)++z.2.2.1).length<=65536/\z.2.2.2=((cp (P++z.2.1)++z.2.2.1).length:Int)/\r=I 0)/\J=[]++(cI.dn s.bU z.1 (P++z.2.1) z.2.2.1 z.2.2.2).es):=by
 obtain⟨f,x,cf,Y,Z,G⟩:=ah6 E h U K;have C:=h.safe;have F:(cp P).length<=s.ax.data.length:=by rw[h.data,rF,bQ];omega
 have g:=Ot s.bU s.X.dJ s.ax.data (cp P).length U K F E.pr;have q:=Tl s.ax.data (cp P).length U K;have T:=E.pr;rw[G]at g q;rw[<-C]at g;have j:∃a,ak (hM L.ef s.bU s.X s.ax) (gd s.bU s.X.dJ s.ax.data s.ax.safe) a:=⟨_,by unfold hM i9 g0 gd;dsimp only[List.cons_append,List.nil_append];(repeat(first|exact ak.nil|exact al.here|apply ak.cons|apply al.there))⟩
 obtain⟨a,u⟩:=j;have M:∃n,ak (ch b L s) [fR L.ef s.bU s.X s.ax] n:=⟨_,Un⟩
 obtain⟨n,Q⟩:=M;have N:aP (ch b L s) (gd s.bU s.X.dJ s.ax.data s.ax.safe++(a++n)):=by refine(aP.We Q.perm).trans ?_;rw[<-ck];exact aP.append (aP.aK.trans (aP.We u.perm)) (aP.refl n)
 refine ar.Wg (ar.eqv N (ar.frame (bg:=a++n) g) (R:=_) λr J h=>⟨J,h,aP.refl _⟩) ?_;rintro v J W D w⟨_,⟨t,rfl,rfl⟩,rfl⟩ m;refine⟨_,⟨(t,f,cf,((cp (P++f)++cf).length:Int)),⟨⟨x,Y⟩,Z,Mm,rfl,rfl⟩,rfl⟩,?_⟩;exact m.sub (Cu ..)
def lU(c:bo)(i:Int)(e:Int)(d:bo):Prop:=
 rV c i e d/\e≠0\/(∃j k K r m J q,vA c i j k K r m J q/\e=0/\kS {c.less i with aE:=c.aE.set j (.up k J q)} j d)
def rV.cu{c:bo}{i:Int}(h:cC k c)(y:rV c i e d):cC (k+1) d:=by
 have Y:=h.lost;have K:=h.mono (ks k 1);rcases y with⟨_,_,rfl⟩|⟨x,U,_,_,rfl⟩|⟨x,j,G,L,l,C,b,U,_,_,_,_,rfl⟩
 .exact K
 exact Pz
 .exact⟨⟨⟨h.n,h.len⟩,h.cut,iB (yF ..) h.bi,K.lost,K.told,K.now⟩,K.up,K.dn,λx U=>h.gH x ((wx ..).subset U)⟩
def cC.less{c:bo}(h:cC k c)(i:Int):cC k (c.less i):=
 ⟨⟨⟨h.n,h.len⟩,h.cut,iB (yF ..) h.bi,h.lost,h.told,h.now⟩,h.up,h.dn,λx U=>h.gH x ((wx ..).subset U)⟩
def vA.z{c:bo}{i:Int}{j s:Nat}{K:cT}{r:aA}{Z:cT}{q:aA}(h:cC k c)(J:vA c i j s K r m Z q):nO (k+42300) j {c.less i with aE:=c.aE.set j (.up s Z q)}/\UpF (k+42300) c.n c.now j q/\lS (uk r m) q.ax/\j<c.aE.length/\q.bU=r.bU:=by obtain⟨x,Y,_,_,_,U,_,G,_,X⟩:=J;have Y:=X.all (h.up _ _ _ _ U) (gZ.1 G);exact⟨((((h.less i).z j).mono (ks k 42300)).set (.up s Z q)),Y.1,Y.2,(cF.1 U).1,X.bU⟩
def lU.cu{c:bo}{i:Int}(h:cC k c)(f:lU c i e d):cC (k+1042300) d:=by
 rcases f with⟨f,_⟩|⟨j,x,K,r,m,Z,q,J,_,l⟩
 .exact(f.cu h).mono ac
 .obtain⟨w,Y,_,v,_⟩:=J.z h;refine(l.cu w λb L s a=>?_).mono ac;have a:(c.aE.set j (.up x Z q))[j]?=_:=a;rw[hD v]at a;cases a;exact Y
def rV.ne{c:bo}{i:Int}(y:rV c i e d):e≠0:=by rcases y with⟨_,rfl,_⟩|⟨x,U,_,rfl,_⟩|⟨x,j,G,L,l,C,b,U,_,_,_,rfl,_⟩<;>decide
def ET(b:Nat)(L:fI)(c:bo)(i:Int)(k:Nat)(h:cC k c)(T:k<=90000000000):ar prog 21 [av b 0,I i] (bE b L c) (λr J=>∃F d e,lU c i e d/\r=I e/\J=bE b F d):=by
 have v:=Km b L c i k h T;refine aF func21 λW=>?_;generalize br _=D;unfold bE dN dX;unfold bE dN dX at v;refine aa 10 ?_;rintro _ _⟨u,p,x,a,E,rfl,rfl⟩;refine aa 8 ?_;have f:vB c i x a p:=VV
 rcases f with⟨rfl,y⟩|⟨j,s,K,w,m,N,q,Z,rfl,rfl,rfl⟩
 .have r:lU c i a p:=.inl ⟨y,y.ne⟩;have L:bb .eql a 0=some false:=by simp[bb,y.ne]
  refine aa 4 ?_;refine ai.v (V.cmp rfl rfl L) ?_;refine aa 13 ?_;all_goals exact⟨_,_,⟨_,_,_,r,rfl,rfl⟩,VH⟩
 .obtain⟨a,Y,_,v,_⟩:=Z.z h;have p:=Bc b u {c.less i with aE:=c.aE.set j (.up s N q)} (k+42300) j s N q a.toClP ac (by show(c.aE.set j _)[j]?=_;rw[hD v]) (by have:=Y.ol;omega) (by have:=Y.eO;omega);have r (d:bo) (l:kS {c.less i with aE:=c.aE.set j (.up s N q)} j d):lU c i 0 d:=.inr ⟨j,s,K,w,m,N,q,Z,rfl,l⟩;unfold bE dN dX at p;dsimp only at p⊢;refine aa 12 ?_;rintro q U⟨j,⟨v,⟨⟨E,g,z⟩,rfl,rfl⟩⟩⟩;refine aa 11 ?_;all_goals exact⟨_,_,⟨_,_,0,r _ VV,rfl,rfl⟩,VH⟩
def EU(C:bS->Prop)(n:Int)(l:ab eH)(cf:ab aS)(y:Int):Prop:=xe n l cf y/\∃t,C t/\t.n=n/\∀x,t.p.at x=(hZ (aL.new n) l).at x
def sO(c:bo)(i:Int)(e:Int)(d:bo):Prop:=
 rV c i e d/\e≠0\/(∃j k K r m J q L l cf y,vA c i j k K r m J q/\e=0/\EU (uk r m) c.n l cf y/\d={c.less i with aE:=c.aE.set j (.dn r.bU L l cf y)})
def sO.cu{c:bo}{i:Int}(h:cC k c)(f:sO c i e d):cC (k+1) d:=by
 rcases f with⟨f,_⟩|⟨j,s,K,r,m,Z,q,L,l,cf,y,J,_,u,rfl⟩
 .exact f.cu h
 .obtain⟨_,_,_,v,_⟩:=J.z h;refine nO.abr (X:=j) (((h.less i).mono (ks k 1)).z j|>.set _) (G:=r.bU) (t:=L) (l:=l) (cf:=cf) (y:=y) ?_ u.1;show(c.aE.set j _)[j]?=_
  rw[hD v]
def Ko{C:bS->Prop}{s:bS}{n:Int}(h:lS C s)(y:s.n=n):∃W o,o0 s W o/\∀(f:ab eH) (cf:ab aS),(∃x,o=f++x)->(g6 cf).2=0->(cp (W++f)++cf).length<=65536->∀c:Int,c=((cp (W++f)++cf).length:Int)->EU C n (W++f) cf c:=by subst y;obtain⟨W,o,z,q⟩:=h;refine⟨W,o,z,λf cf ⟨x,g⟩ j u c N=>⟨⟨λy C=>z.ok y ?_,j,u,N⟩,q f x g⟩⟩;rw[g,<-ck];exact oR _ C
def Tm(b:Nat)(L:fI)(c:bo)(i U:Int)(K:aS)(k:Nat)(h:cC k c)(ca:k<=90000000000):ar prog 26 [av b 0,I i,I U,.int .u8 (K.toNat:Int)] (bE b L c) (λr d=>∃bD bs e,sO c i e bs/\r=I e/\d=bE b bD bs):=by
 have eo:=Km b L c i k h ca;have Yc:=h.len;have Yf:=h.n;refine aF func26 λW=>?_;generalize br _=D;unfold bE dN dX;unfold bE dN dX at eo;refine aa 10 ?_;rintro _ _⟨G,p,C,M,Ye,rfl,rfl⟩;refine aa 8 ?_;have cB:vB c i C M p:=VV
 rcases cB with⟨rfl,cN⟩|⟨j,s,fr,o,m,J,q,eJ,rfl,rfl,rfl⟩
 .have a:sO c i M p:=.inl ⟨cN,cN.ne⟩;have fE:bb .eql M 0=some false:=by simp[bb,cN.ne]
  refine aa 4 ?_;refine ai.v (V.cmp rfl rfl fE) ?_;refine aa 13 ?_;all_goals exact⟨_,_,⟨_,_,_,a,rfl,rfl⟩,VH⟩
 .obtain⟨gL,hu,gQ,dK,F⟩:=eJ.z h;have g:c.aE[j]?=some (.up s fr o):=by obtain⟨x,bx,_,_,_,g,_⟩:=eJ;exact g
  have P:(c.aE.set j (.up s J q))[j]?=some (.up s J q):=by rw[hD dK]
  obtain⟨t,jR,Yi,u⟩:=Ko gQ (hu.y.en.trans hu.n);have Z:=ar.XY (Q:=λr (z:aj×ab eH×ab aS×Int)=>(∃Y,jR=z.2.1++Y)/\(g6 z.2.2.1).2=0/\(cp (t++z.2.1)++z.2.2.1).length<=65536/\z.2.2.2=((cp (t++z.2.1)++z.2.2.1).length:Int)/\r=I 0) (T:=λ_=>[]) (N:=λz=>.dn q.bU z.1 (t++z.2.1) z.2.2.1 z.2.2.2) P (Kn s J q hu.y.ax Yi U K);have a (z:aj×ab eH×ab aS×Int) (c2:∃Y,jR=z.2.1++Y) (ej:(g6 z.2.2.1).2=0) (dz:(cp (t++z.2.1)++z.2.2.1).length<=65536) (Yh:z.2.2.2=((cp (t++z.2.1)++z.2.2.1).length:Int)):sO c i 0 {c.less i with aE:=c.aE.set j (.dn o.bU z.1 (t++z.2.1) z.2.2.1 z.2.2.2)}:=.inr ⟨j,s,fr,o,m,J,q,_,_,_,_,eJ,rfl,u _ _ c2 ej dz _ Yh,rfl⟩;rw[<-F]at a;have X:(c.aE.set j (cI.up s J q)).length=c.aE.length:=cy ..;have E (v:aj):rows gT v 112 1 (c.aE.set j (.up s J q))=rows gT v 112 1 c.aE:=xd (f:=gT) g (by unfold gT;rw[show(cI.up s J q).bU=q.bU from rfl,F];rfl);have R (v:aj) (w:aj) (l:ab eH) (nh:ab aS) (iR:Int):rows gT v 112 1 (c.aE.set j (.dn q.bU w l nh iR))=rows gT v 112 1 c.aE:=xd (f:=gT) g (by unfold gT;rw[show(cI.dn q.bU w l nh iR).bU=q.bU from rfl,F];rfl);have Yj:(gT (.up s J q)).length=1:=rfl;clear eo;simp only[vC]at Z;generalize Yg:c.aE.set j (cI.up s J q)=rs at*;have p (y:cI):rs.set j y=c.aE.set j y:=by rw[<-Yg,vC]
  have g:rs.length=c.aE.length:=X;dsimp only at Z⊢;refine aa 15 ?_;refine ai.v (V.E' ad (k:=j) rfl rfl rfl rfl ac) ?_;refine ai.v (V.Wm ad (f:=gT) rfl VF EN P) ?_;refine aa 3 ?_;rintro s n⟨N,⟨⟨⟨w,Ye⟩,d,P,K,rfl⟩,rfl⟩⟩;refine aa 3 ?_;obtain⟨w,b,Q,D⟩:=N;have y:=a (w,b,Q,D) ⟨_,VV⟩ VV VV VV;have F (v:aj):=R v w (t++b) Q D;have N:=p (.dn q.bU w (t++b) Q D);dsimp only at y⊢;clear a Z R p u;refine aa 6 ?_;refine ai.v (V.E' ad (k:=j) rfl rfl rfl rfl ac) ?_;refine ai.o (O.Xu ad (f:=g3) (a:=cI.dn q.bU w (t++b) Q D) rfl rfl rfl rfl VS rfl ac oZ ?_);refine aa 10 ?_;all_goals exact⟨_,_,⟨G,_,0,y,rfl,rfl⟩,(by dsimp only;simp only[cy,g,E,F,N];(repeat(first|exact ak.nil|exact al.here|apply ak.cons|apply al.there)))⟩
def sP(c:bo)(M:Int)(e:Int)(d:bo):Prop:=
 (hC c M≠0/\e=hC c M/\d=c)\/
 (hC c M=0/\∃i k K r L l cf y,M=((i:Nat):Int)/\c.aE[i]?=some (.up k K r)/\e=0/\EU (λt=>t=r.ax) c.n l cf y/\d={c with aE:=c.aE.set i (.dn r.bU L l cf y)})
def sP.cu{c:bo}{M:Int}(h:cC k c)(f:sP c M e d):cC k d:=by
 rcases f with⟨_,_,rfl⟩|⟨_,i,s,K,r,L,l,cf,y,_,U,_,u,rfl⟩
 .exact h
 .have am:=(cF.1 U).1;refine nO.abr (X:=i) ((h.z i).set _) (G:=r.bU) (t:=L) (l:=l) (cf:=cf) (y:=y) ?_ u.1;show(c.aE.set i _)[i]?=_
  rw[hD am]
def aiL(b:Nat)(L:fI)(c:bo)(M U:Int)(K:aS)(k:Nat)(h:cC k c):ar prog 28 [av b 0,I M,I U,.int .u8 (K.toNat:Int)] (bE b L c) (λr X=>∃bD bs e,sP c M e bs/\r=I e/\X=bE b bD bs):=by
 have s:=Ba b L c h.toClN M;by_cases u:hC c M=0
 .obtain⟨i,hN,fr,m,rfl,J⟩:=Kk h.toClP u;have j:=h.up _ _ _ _ J;have am:=(cF.1 J).1;have Yc:=h.len;have cN:=h.n;obtain⟨Ym,Yk⟩:=j.o1;obtain⟨P,jR,Yi,Z⟩:=Ko (lS.of (C:=λt=>t=m.ax) Yk rfl) (j.y.en.trans j.n);have Yj:=ar.XY (Q:=λr (z:aj×ab eH×ab aS×Int)=>(∃x,jR=z.2.1++x)/\(g6 z.2.2.1).2=0/\(cp (P++z.2.1)++z.2.2.1).length<=65536/\z.2.2.2=((cp (P++z.2.1)++z.2.2.1).length:Int)/\r=I 0) (T:=λ_=>[]) (N:=λz=>.dn m.bU z.1 (P++z.2.1) z.2.2.1 z.2.2.2) J (Kn hN fr m j.y.ax Yi U K);have p (z:aj×ab eH×ab aS×Int) (c2:∃x,jR=z.2.1++x) (ej:(g6 z.2.2.1).2=0) (g:(cp (P++z.2.1)++z.2.2.1).length<=65536) (q:z.2.2.2=((cp (P++z.2.1)++z.2.2.1).length:Int)):sP c (i:Int) 0 {c with aE:=c.aE.set i (.dn m.bU z.1 (P++z.2.1) z.2.2.1 z.2.2.2)}:=.inr ⟨u,i,hN,fr,m,_,_,_,_,rfl,J,rfl,Z _ _ c2 ej g _ q,rfl⟩;have R (v:aj) (w:aj) (l:ab eH) (nh:ab aS) (iR:Int):rows gT v 112 1 (c.aE.set i (.dn m.bU w l nh iR))=rows gT v 112 1 c.aE:=xd (f:=gT) J rfl;rw[u]at s;clear j h Z;unfold bE dN dX at s⊢;refine aF func28 λW=>?_;generalize br _=D;refine aa 31 ?_;refine ai.v (V.E' ad (k:=i) rfl rfl rfl rfl ac) ?_;refine ai.v (V.Wm ad (f:=gT) rfl VF EN J) ?_;refine aa 3 ?_;rintro oW En⟨Yl,⟨⟨⟨F,Ye⟩,Yf,Yg,Yh,rfl⟩,rfl⟩⟩;refine aa 3 ?_;obtain⟨G,EV,d,z4⟩:=Yl;have Y:=p (G,EV,d,z4) ⟨_,VV⟩ VV VV VV;have E (v:aj):=R v G (P++EV) d z4;dsimp only at Y⊢;clear p Yj R;refine aa 7 ?_;refine ai.v (V.E' ad (k:=i) rfl rfl rfl rfl ac) ?_;refine ai.o (O.Xu ad (f:=g3) (a:=cI.dn m.bU G (P++EV) d z4) rfl rfl rfl rfl VS rfl ac oZ ?_);refine aa 9 ?_;all_goals exact⟨_,_,⟨L,_,0,Y,rfl,rfl⟩,(by dsimp only;simp only[cy,E];(repeat(first|exact ak.nil|exact al.here|apply ak.cons|apply al.there)))⟩
 .have p:sP c M (hC c M) c:=.inl ⟨u,rfl,rfl⟩;have fE:bb .neq (hC c M) 0=some true:=by simp[bb,u]
  generalize hC c M=e at*;unfold bE dN dX at s⊢;refine aF func28 λW=>?_;generalize br _=D;refine aa 18 ?_;refine ai.v (V.cmp rfl rfl fE) ?_;refine aa 12 ?_;all_goals exact⟨_,_,⟨L,c,e,p,rfl,rfl⟩,VH⟩
def me.up{n N:Int}{i G:Nat}{l:ab eH}{cf:ab aS}{c:Int}{t:aA}(m:n=3\/n=5\/n=7)(am:(i:Int)<n)(W:0<=N/\N<=1099511627776)(s:xe n l cf c)(h:me n (i:Int) N G (hr n l cf c) t):UpF 2000 n N i t/\t.out=[]/\t.bU=G/\t.cR=[]/\t.told=[]/\t.leads=[]/\t.bq=[]/\t.ax=hr n l cf c/\t.now=N:=by
 obtain⟨X,M,r,st,k,a,qe,Q,J⟩:=h;obtain⟨U,bW,D,F⟩:=s;have P:=Ei (g:=c) m U D;have R:k5 n (hr n l cf c).p.all:=P.hy;obtain⟨z,_⟩:=EK m ⟨u7 i,am⟩ W R Q G X (hr n l cf c) qe.1;have Yc:=aL.Xc P.p.towf;have Y:ek 1400 (aA.WQ n (i:Int) N G X (hr n l cf c) M r st):=
  ⟨z.mono ac,⟨λy C=>VM,λy C=>VM,λy C=>VM⟩,P,rfl,k,by show X.L.dv<=1400;omega⟩
 have b:dP (aA.WQ n (i:Int) N G X (hr n l cf c) M r st):=⟨mT,mT,λy C=>VM,λy C=>VM⟩
 have jv:=J.abo Y;obtain⟨d,jZ,lQ,nf,oe,ul,aeP,T,ajC,Ye,o,j⟩:=J.same;have g:t.told=[]:=by
  obtain⟨K,w,yX,q,v,R,dI,f,Yf,rfl⟩:=J.go;have u:K.filter (aA.WQ n (i:Int) N G X (hr n l cf c) M r st).Wx=[]:=by refine Kp.2 λx _=>?_;unfold aA.Wx;rw[show(aA.WQ n (i:Int) N G X (hr n l cf c) M r st).cR=[]from rfl,mu];simp
  rw[u]at f;have:q=[]:=CR.1 f;subst this;rfl
 have E:o0 (hr n l cf c) l []:=by
  refine⟨by rw[db];exact U,by rw[db];rfl,?_,λx=>by rw[db];rfl⟩;show(if cf=[]then c else((cp l).length:Int))=_
  split
  .rename_i e;rw[F,e,db]
  .rfl
 refine⟨⟨jv.mono ac,J.WF b,aeP,λx Z=>?_,oe,ul,?_,⟨l,[],by rw[d];exact E⟩,?_,?_⟩,T,j,ajC,g,lQ,nf,d,o⟩
 .rw[T]at Z;cases Z
 .rw[o];exact ge _
 .rw[T];exact cG _
 .rw[g];exact cG _
def sQ(c:bo)(M:Int)(e:Int)(d:bo):Prop:=
 (hC c M≠7/\e=1/\d=c)\/
 (hC c M=7/\∃i G L l C y k K r,M=((i:Nat):Int)/\c.aE[i]?=some (.dn G L l C y)/\e=0/\me c.n (i:Int) c.now G (hr c.n l C y) r/\kS {c with aE:=c.aE.set i (.up k K r)} i d)
def amr{c:bo}(h:ClP k c){M:Int}(u:hC c M=7):∃i G t l C y,M=((i:Nat):Int)/\(i:Int)<c.n/\c.aE[i]?=some (.dn G t l C y):=by
 unfold hC at u;split at u
 .cases u
 .rename_i g;obtain⟨i,x,rfl,am,U⟩:=h.at (rep:=M) ac ac;rw[hY,U]at u;cases x with
  |up b L s=>rw[aJ (by exact rfl)]at u;cases u
  |dn G t l cf y=>exact⟨i,G,t,l,cf,y,rfl,ac,U⟩
def agt(c:bo)(M:Int):hC c M=0\/hC c M=1\/hC c M=7:=by
 unfold hC;split
 .exact .inr (.inl rfl)
 .split
  .exact .inl rfl
  .exact .inr (.inr rfl)
def sQ.cu{c:bo}{M:Int}(h:cC k c)(T:k<=1000000000000)(f:sQ c M e d):cC (k+1002000) d:=by
 rcases f with⟨_,_,rfl⟩|⟨_,i,G,t,l,C,y,Y,K,r,_,U,_,a,x⟩
 .exact h.mono ac
 .have am:=(cF.1 U).1;have P:=h.len;have W:=h.now;have J:=(a.up h.n ac ac (h.dn _ _ _ _ _ _ U)).1;refine(x.cu (k:=k+2000) (((h.z i).mono ac).set _) λb L s v=>?_).mono ac;have v:(c.aE.set i (.up Y K r))[i]?=_:=v;rw[hD am]at v;cases v;exact J.mono ac
def aix(b:Nat)(L:fI)(c:bo)(M:Int)(k:Nat)(h:cC k c)(E:k<=90000000000):ar prog 29 [av b 0,I M] (bE b L c) (λr Z=>∃F d e,sQ c M e d/\r=I e/\Z=bE b F d):=by
 have t:=Ba b L c h.toClN M;by_cases u:hC c M=7
 .obtain⟨i,G,w,l,C,y,rfl,Y,J⟩:=amr h.toClP u;have x:=h.dn _ _ _ _ _ _ J;have am:=(cF.1 J).1;have j:=h.len;have m:=h.n;have W:=h.now;have P:=ar.XY (Q:=λr (z:Nat×cT×aA)=>me c.n (i:Int) c.now G (hr c.n l C y) z.2.2/\r=.tuple #[av z.1 0,I 0]) (T:=λ_=>[]) (N:=λz=>.up z.1 z.2.1 z.2.2) J (ar.post (J9 G w c.n (i:Int) c.now l C y m ⟨u7 i,Y⟩ ac x.1 x.2.1 x.2.2.1) (by rintro v Z⟨K,F,a,U,rfl,rfl⟩;exact⟨_,⟨(K,F,a),⟨U,rfl⟩,rfl⟩,λ_ _ _ h=>h⟩));have Z (r:aA) (p:me c.n (i:Int) c.now G (hr c.n l C y) r):=(p.up m Y ac x)
  have U (s:Nat) (K:cT) (r:aA) (p:me c.n (i:Int) c.now G (hr c.n l C y) r):=Bc b L {c with aE:=c.aE.set i (.up s K r)} (k+2000) i s K r (((h.z i).mono ac).set _).toClP ac (by show(c.aE.set i _)[i]?=_;rw[hD am]) (by have:=(Z r p).1.ol;omega) (by have:=(Z r p).1.eO;omega);have j (s:Nat) (K:cT) (r:aA) (d:bo) (p:me c.n (i:Int) c.now G (hr c.n l C y) r) (Y:kS {c with aE:=c.aE.set i (.up s K r)} i d):sQ c (i:Int) 0 d:=.inr ⟨u,i,G,w,l,C,y,s,K,r,rfl,J,rfl,p,Y⟩;have R (v:aj) (s:Nat) (K:cT) (r:aA) (p:me c.n (i:Int) c.now G (hr c.n l C y) r):rows gT v 112 1 (c.aE.set i (.up s K r))=rows gT v 112 1 c.aE:=xd (f:=gT) J (by unfold gT;rw[show(cI.up s K r).bU=r.bU from rfl,(Z r p).2.2.1];rfl);rw[u]at t;clear h x;unfold bE dN dX at t⊢;refine aF func29 λW=>?_;generalize br _=D;refine aa 27 ?_;refine ah.mt [0,1] (λz:Nat×cT×aA=>me c.n (i:Int) c.now G (hr c.n l C y) z.2.2) (λz=>[]) (λz=>[fh (c.aE.set i (.up z.1 z.2.1 z.2.2)),rows g3 (.slice (some ⟨L.nC,0,none⟩) c.aE.length L.mx) 36 1 (c.aE.set i (.up z.1 z.2.1 z.2.2))]) (s:=[fh c.aE,rows g3 (.slice (some ⟨L.nC,0,none⟩) c.aE.length L.mx) 36 1 c.aE]) ?_ ?_
  .intro o b;clear U j R;refine ah.p' ?_ aC.j.j.j.j.j.d'.d';refine ae 10 0 ?_;refine af.n' 10 rfl (V.E' ad (k:=i) rfl rfl rfl rfl ac) ?_;refine af.n' 11 rfl (V.Wm ad (f:=gT) rfl VF EN J) ?_;refine ae 9 12 ?_;refine af.x' 21 rfl rfl (P) ?_;rintro C q⟨l,⟨⟨E,rfl⟩,rfl⟩⟩;refine aa 2 ?_;refine ae 3 22 ?_;refine af.n' 25 rfl (V.E' ad (k:=i) rfl rfl rfl rfl ac) ?_;refine af.y' 26 rfl (O.Xu ad (f:=g3) (a:=cI.up l.1 l.2.1 l.2.2) rfl rfl rfl rfl VS rfl ac oZ ?_);refine aa 2 ?_;all_goals exact Out.C' b _ VV trivial
  rintro⟨s,K,r⟩ p;dsimp only at p;have w:=U s K r p;have y:=λd=>j s K r d p;have F (v:aj):=R v s K r p;clear U j R P Z t;unfold bE dN dX at w;dsimp only[List.cons_append,List.nil_append]at w⊢;simp only[cy,F]at w;refine aa 5 ?_;rintro q U⟨b,⟨m,⟨⟨E,g,z⟩,rfl,rfl⟩⟩⟩;refine aa 11 ?_;all_goals exact⟨_,_,⟨_,_,0,y _ VV,rfl,rfl⟩,VH⟩
 .have j:sQ c M 1 c:=.inl ⟨u,rfl,rfl⟩;have K:=agt c M;have z:bb .eql (hC c M) 7=some false:=by simp[bb,u]
  clear h;unfold bE dN dX at t⊢;rcases K with K|K|K
  .rw[K]at t;refine aF func29 λW=>?_;generalize br _=D;refine aa 42 ?_;all_goals exact⟨_,_,⟨L,c,1,j,rfl,rfl⟩,VH⟩
  .rw[K]at t;refine aF func29 λW=>?_;generalize br _=D;refine aa 43 ?_;all_goals exact⟨_,_,⟨L,c,1,j,rfl,rfl⟩,VH⟩
  .exact absurd K u
def alO(e:ay)(n:aT Go.Addr)(Q F off:Nat)(l:ab eZ)(L:Rd e n l.length F off 8 (l.map eZ.c))(u:l.length<=200000000000):ar prog 33 [.slice n l.length Q] [e] (λr J=>∃v,r=v/\J=[rows eZ.c v 67 8 l,e]):=by
 cases n with
 |none=>
  have o:l=[]:=by
   cases l with
   |nil=>rfl
   |cons a l=>have:=L.addr VK;simp at this
  subst o;refine aF func33 λW=>?_;refine ah.V5 eZ.c 67 8 ?_;exact Ri
 |some a=>
  by_cases f:l=[]
  .subst f;refine aF func33 λW=>?_;refine T8 ?_;refine ai.o (O.V' ad eZ.c [] rfl bP.nil rfl rfl (λa=>?_));refine au ?_;refine ai.v (V.ZP ad rfl rfl (cz.aaJ ad L VF eZ.J' eZ.WO) ac) ?_;exact aQ 5
  .have w:0<l.length:=qA.2 f;refine aF func33 λW=>?_;refine T8 ?_;refine ai.o (O.V' ad eZ.c [] rfl bP.nil rfl rfl (λa=>?_));refine au ?_;refine ai.o (O.ZO ad rfl rfl (cz.rd ad L VF eZ.J' eZ.WO w) f eZ.WO (λY u=>?_));exact aQ 5
def Bh(b:Nat)(L:fI)(c:bo)(k:Nat)(h:ClP k c)(T:k<=100000000000):ar prog 15 [av b 0] (bE b L c) (λr J=>∃n Q,r=.slice n c.told.length Q/\J=rows eZ.c (.slice n c.told.length Q) 67 8 c.told::bE b L c):=by refine ar.qh eZ.WO ?_;have f:=h.told;unfold bE dN dX;refine aF func15 λW=>?_;refine ah.fact (jc (f:=eZ.c) (v:=L.bY) (l:=c.told) eZ.WO VF) λK=>?_;obtain⟨n,Q,x,Y,f⟩:=K;have K:=alO _ n Q x 0 c.told f ac;rw[Y];refine aa 22 ?_;rintro _ _⟨u,rfl,rfl⟩;exact aQ 6;all_goals exact⟨_,_,⟨_,rfl,rfl⟩,VH⟩
def qZ(c:bo)(i:Int)(e:Int)(d:bo):Prop:=(iV c.bi i=none/\e=5/\d=c)\/(∃x,iV c.bi i=some x/\e=0/\d={c.less i with lost:=c.lost+1})
def qZ.cu{c:bo}{i:Int}(h:cC k c)(E:qZ c i e d):cC (k+1) d:=by
 have Y:=h.lost;have K:=h.mono (ks k 1);rcases E with⟨_,_,rfl⟩|⟨x,U,_,rfl⟩
 .exact K
 exact Pz
def Kq(b:Nat)(L:fI)(c:bo)(i:Int)(k:Nat)(h:ClP k c)(T:k<=100000000000):ar prog 20 [av b 0,I i] (bE b L c) (λr J=>∃F d e,qZ c i e d/\r=I e/\J=bE b F d):=by
 have u:=h.lost;have G:=ai8 L.j9 L.dJ c.bi c.cut c.lost i h.cut ⟨u.1,ac⟩;cases q:iV c.bi i with
 |none=>
  have j:qZ c i 5 c:=.inl ⟨q,rfl,rfl⟩;rw[q]at G;have C:=ar.ZD (Q:=λr (_:aj)=>r=B false) (T:=λt=>fC L.j9 t c.bi c.cut c.lost) G;unfold bE dN dX;refine aF func20 λW=>?_;refine aa 23 ?_;rintro _ _⟨K,rfl,rfl⟩;refine aa 15 ?_;all_goals exact⟨_,_,⟨{L with dJ:=K},c,5,j,rfl,rfl⟩,VH⟩
 |some x=>
  have j:qZ c i 0 {c.less i with lost:=c.lost+1}:=.inr ⟨x,q,rfl,rfl⟩;rw[q]at G;have C:=ar.ZD (Q:=λr (_:aj)=>r=B true) (T:=λt=>fC L.j9 t (c.bi.eraseIdx i.toNat) c.cut (c.lost+1)) G;unfold bo.less at j;unfold bE dN dX;refine aF func20 λW=>?_;refine aa 23 ?_;rintro _ _⟨K,rfl,rfl⟩;refine aa 16 ?_;all_goals exact⟨_,_,⟨{L with dJ:=K},_,0,j,rfl,rfl⟩,VH⟩
def vD(c:bo)(i:Int)(e:Int)(d:bo):Prop:=(iV c.bi i=none/\e=5/\d=c)\/(∃x,iV c.bi i=some x/\((qW c.bi i=true/\e=0)\/(qW c.bi i=false/\e=6))/\d={c with bi:=oi c.bi i})
def EW{l:ab b2}{i:Int}{x:b2}(h:x∈oi l i):x∈l:=by
 unfold oi at h;split at h
 .rename_i y C;split at h
  .rcases eh.1 h with h|h
   .exact h
   .rw[fF.1 h];exact Bg C
  .exact h
 .exact h
def aiY{l:ab b2}{i:Int}(h:l.length<=256):(oi l i).length<=256:=by
 unfold oi;split
 .split
  .rw[bQ,nX];omega
  .exact h
 .exact h
def vD.cu{c:bo}{i:Int}(h:cC k c)(E:vD c i e d):cC k d:=by
 rcases E with⟨_,_,rfl⟩|⟨x,U,_,rfl⟩
 .exact h
 .exact⟨⟨⟨h.n,h.len⟩,h.cut,aiY h.bi,h.lost,h.told,h.now⟩,h.up,h.dn,λx U=>h.gH x (EW U)⟩
def aj5(b:Nat)(L:fI)(c:bo)(i:Int)(k:Nat)(h:ClP k c):ar prog 27 [av b 0,I i] (bE b L c) (λr J=>∃F d e,vD c i e d/\r=I e/\J=bE b F d):=by
 have G:=ar.ZD (Q:=λr (_:aj)=>r=B (qW c.bi i)) (T:=λt=>fC L.j9 t (oi c.bi i) c.cut c.lost) (ajU L.j9 L.dJ c.bi c.cut c.lost i h.bi);have Z:=ES L c.bi c.cut c.lost;cases q:iV c.bi i with
 |none=>
  have j:vD c i 5 c:=.inl ⟨q,rfl,rfl⟩;have am:=y2 q;unfold bE dN dX;refine aF func27 λW=>?_;refine aa 20 ?_;refine ai.aX (λK=>?_) (λK=>?_);refine aa 21 ?_;rotate_left;refine aa 22 ?_;rotate_left;all_goals exact⟨_,_,⟨L,c,5,j,rfl,rfl⟩,VH⟩
 |some x=>
  obtain⟨M,rfl,s,l⟩:=xc q;have p:bb .lss (M:Int) 0=some false:=RD
  have Y:bb .geq (M:Int) (c.bi.length:Int)=some false:=VA
  cases w:qW c.bi (M:Int)
  .have j:vD c (M:Int) 6 {c with bi:=oi c.bi (M:Int)}:=.inr ⟨x,q,.inr ⟨w,rfl⟩,rfl⟩;rw[w]at G;refine PG λW F=>?_;refine aa 15 ?_;all_goals exact⟨_,_,⟨{L with dJ:=F},_,6,j,rfl,rfl⟩,VH⟩
  .have j:vD c (M:Int) 0 {c with bi:=oi c.bi (M:Int)}:=.inr ⟨x,q,.inl ⟨w,rfl⟩,rfl⟩;rw[w]at G;refine PG λW F=>?_;refine aa 16 ?_;all_goals exact⟨_,_,⟨{L with dJ:=F},_,0,j,rfl,rfl⟩,VH⟩
def Kr(b:Nat)(L:fI)(c:bo)(x y:Int)(k:Nat)(h:ClP k c):ar prog 23 [av b 0,I x,I y] (bE b L c) (λr J=>r=.tuple #[]/\J=bE b L {c with cut:=lR c.cut x y}):=by have G:=ar.Xq (aku L.j9 L.dJ c.bi c.cut c.lost x y h.cut);unfold bE dN dX;refine aF func23 λW=>?_;exact aQ 18
def aeN(b:Nat)(L:fI)(c:bo)(k:Nat)(h:ClP k c):ar prog 30 [av b 0] (bE b L c) (λr J=>r=.tuple #[]/\J=bE b L {c with cut:=List.replicate 49 false}):=by have G:=ar.Xq (aiZ L.j9 L.dJ c.bi c.cut c.lost h.cut);unfold bE dN dX;refine aF func30 λW=>?_;exact aQ 16
def af9(c:ab Bool)(x y:Int):(lR c x y).length=c.length:=by
 unfold lR;split
 .rw[cy,cy]
 .rfl
def cC.abs{c:bo}(h:cC k c){l:ab Bool}(u:l.length=49):cC k {c with cut:=l}:=⟨⟨⟨h.n,h.len⟩,u,h.bi,h.lost,h.told,h.now⟩,h.up,h.dn,h.gH⟩
def Ty(b:Nat)(L:fI)(c:bo)(k:Nat)(h:ClP k c):ar prog 22 [av b 0] (bE b L c) (λr J=>∃n Q,r=.slice n c.bi.length Q/\J=bE b L c):=by
 have G:ar prog 40 [av L.j9 0] [aK (fC L.j9 L.dJ c.bi c.cut c.lost)] (λr J=>∃n Q,r=.slice n c.bi.length Q/\J=[aK (fC L.j9 L.dJ c.bi c.cut c.lost)]):=by refine ar.Wg (ar.eqv aP.aK (aeY L.j9 L.dJ c.bi c.cut c.lost h.bi) (R:=_) λr J h=>⟨J,h,aP.refl _⟩) ?_;rintro v J W D w⟨e,n,Q,x,_,rfl,rfl⟩ m;exact⟨_,⟨n,Q,rfl,rfl⟩,(m.sub (GZ ..)).eqv aP.aK.symm⟩
 unfold bE dN dX;refine aF func22 λW=>?_;refine aa 22 ?_;rintro _ _⟨m,n,rfl,rfl⟩;refine aa 6 ?_;all_goals exact⟨_,_,⟨_,_,rfl,rfl⟩,VH⟩
def vE(c:bo)(M:Int):aj:=if M<0\/c.n<=M then .pointer none else match c.aE[M.toNat]? with|some x=>x.ptr|none=>.pointer none
def Bi(b:Nat)(L:fI)(c:bo)(M:Int)(h:ClN c):ar prog 12 [av b 0,I M] (bE b L c) (λr J=>r=vE c M/\J=bE b L c):=by
 have w:=Ba b L c h M;have P:=h.len;have y:=h.n;by_cases g:M<0\/c.n<=M
 .have u:hC c M=1:=by unfold hC;rw[aJ g]
  have z:vE c M=.pointer none:=by unfold vE;rw[aJ g]
  rw[u]at w;rw[z];exact M0
 .obtain⟨i,x,rfl,am,U⟩:=h.at (rep:=M) ac ac;have z:vE c (i:Int)=x.ptr:=by unfold vE;rw[aG g,hY,U]
  have u:hC c (i:Int)=if x.on then 0 else 7:=by unfold hC;rw[aG g,hY,U];rfl
  rw[u]at w;rw[z];cases x with
  |up k K j=>
   change ar _ _ _ _ (λr J=>r=I 0/\J=bE b L c)at w;unfold bE dN dX at w⊢;refine aF func12 λW=>?_;refine aa 25 ?_;refine ai.v (V.E' ad (k:=i) rfl rfl rfl rfl ac) ?_;refine ai.v (V.Wm ad (f:=g3) rfl VF oZ U) ?_;exact aQ 5
  |dn G t l C y=>
   change ar _ _ _ _ (λr J=>r=I 7/\J=bE b L c)at w;exact M0
def nL.same{s L:aA}{x:ag}(h:nL s x L):L.ax=s.ax/\L.bU=s.bU/\L.now=s.now/\∃X,gU s X L:=by
 rcases h with⟨_,rfl⟩|⟨_,⟨e,P,rfl⟩|⟨_,e,P,_,rfl⟩|⟨_,_,p,q,rfl⟩⟩
 .exact⟨rfl,rfl,rfl,[],gU.nil rfl rfl rfl rfl⟩
 exact M3
 exact M3
 exact M3
def oY.cu{s r:aA}{N:ab ag}(h:ek k s)(t:dP s)(a:nN s)(G:∀x∈N,bt x 7=true)(u:oY s N r):ek (k+N.length) r/\dP r/\nN r/\gh r.inbox<=gh s.inbox+3*N.length/\r.out.length<=s.out.length+7*N.length/\r.told=s.told/\r.n=s.n/\r.self=s.self/\r.ax=s.ax/\r.bU=s.bU/\r.now=s.now:=by
 induction u with
 |nil=>exact⟨h,t,a,cx _,cx _,rfl,rfl,rfl,rfl,rfl,rfl⟩
 |@snoc N x a b u U X=>
  obtain⟨Y,Z,D,m,t,b,w,a,s,N,F⟩:=X λy C=>G y (oR _ C);obtain⟨d,h,P,u,J,z⟩:=U.cu Y Z (G x VK);obtain⟨L,t,R,X,j⟩:=U.same;rw[bQ,nX];exact⟨d,h,D.WB j,ac,ac,J.trans b,z.trans w,j.2.2.2.trans a,L.trans s,t.trans N,R.trans F⟩
def ng.up{n M G:Int}{i:Nat}{s L:aA}(h:mG k n M i s)(J:M<=G)(f:ng s G e L):UpF (k+43000) n G i L/\L.bU=s.bU:=by
 rcases f with⟨_,_,rfl⟩|⟨W,Y,_,N,K,r,c,u,g⟩
 .exact⟨(h.mono (ks k 43000) J).toUpF,rfl⟩
 .obtain⟨F,z,m,_⟩:=c.sub;have Q:=h.y.due W Y F;have b:dP {s with now:=G,pl:=K}:=⟨h.v.en,h.v.e6,h.v.bG,h.v.i8⟩
  have T:=h.y.gg.len;obtain⟨d,Z,P,E,X,t,q,D,l,R,o⟩:=u.cu Q b h.b3 λx U=>by obtain⟨y,C,rfl⟩:=m x U;exact h.y.gg.aW y C
  have N:gh s.inbox=0:=EJ h.bu;have M:=d.XA Z;obtain⟨W,z⟩:=h.o1;have F:=h.on;have G:lS (λ_=>True) r.ax:=by rw[l];exact lS.of z trivial
  dsimp only at E X t;rw[F]at X;have v:([]:ab b2).length=0:=rfl;have:=jB.all (C:=λ_=>True) d Z P G g ac (q.trans h.n) (D.trans h.self) (by rw[o];exact ge _) ac (by rw[t,h.nu];exact cG _) (λ_ _=>trivial);exact⟨this.1.mono ac,g.bU.trans R⟩
inductive nP(hv:Nat->Bool)(c:bo):Nat->bo->Prop where
 |nil:nP hv c 0 c
 |skip {i:Nat} {gj:bo} (h:nP hv c i gj) (cN:hv i=false\/∃bU dJ l nh iR,gj.aE[i]?=some (cI.dn bU dJ l nh iR)):nP hv c (i+1) gj
 |tick {i hN:Nat} {gj gN:bo} {fr gG:cT} {s1 s2:aA} {e:Int} (h:nP hv c i gj) (bV:hv i=true) (b6:gj.aE[i]?=some (cI.up hN fr s1)) (cB:ng s1 gj.now e s2) (dq:kS {gj with aE:=gj.aE.set i (cI.up hN gG s2)} i gN):nP hv c (i+1) gN
def sR(w:Nat->Bool)(c:bo)(e:Int)(d:bo):Prop:=
 (1099511627776<=c.now/\e=6/\d=c)\/(c.now<1099511627776/\e=0/\nP w {c with now:=c.now+1} c.aE.length d)
def kS.same{c bs:bo}{i:Nat}(h:kS c i bs):bs.n=c.n/\bs.now=c.now/\bs.aE.length=c.aE.length/\bs.cut=c.cut:=by obtain⟨k,K,r,J,_,rfl⟩:=h;exact⟨rfl,rfl,cy ..,rfl⟩
def ajV{i x:Nat}{p u:bo}{K J:cT}{r q:aA}(h:cC k p)(U:p.aE[i]?=some (cI.up x K r))(f:ng r p.now e q)(l:kS {p with aE:=p.aE.set i (cI.up x J q)} i u):cC (k+1043000) u:=by have am:=(cF.1 U).1;have Y:=(f.up (h.up _ _ _ _ U) (ge _)).1;refine(l.cu (k:=k+43000) (((h.z i).mono ac).set _) λb L s v=>?_).mono ac;have v:(p.aE.set i (.up x J q))[i]?=_:=v;rw[hD am]at v;cases v;exact Y
def nP.cu{m:Nat}{w:Nat->Bool}{c:bo}(h:cC k c)(f:nP w c m d):cC (k+1043000*m) d/\d.now=c.now/\d.n=c.n/\d.aE.length=c.aE.length:=by
 induction f with
 |nil=>exact⟨h,rfl,rfl,rfl⟩
 |skip _ _ X=>exact⟨X.1.mono ac,X.2⟩
 |tick _ _ U f l X=>
  have Y:=l.same;exact⟨(ajV X.1 U f l).mono ac,Y.2.1.trans X.2.1,Y.1.trans X.2.2.1,Y.2.2.1.trans ((cy ..).trans X.2.2.2)⟩
def cC.later{c:bo}(h:cC k c):cC (k+1) {c with now:=c.now+1}:=by have K:=h.mono (ks k 1);have y:=h.now;exact⟨⟨⟨h.n,h.len⟩,h.cut,h.bi,K.lost,K.told,by show 0<=c.now+1/\c.now+1<=_;omega⟩,λi b L s U=>(h.up i b L s U).mono ac (by show c.now<=c.now+1;omega),h.dn,h.gH⟩
def sR.cu{w:Nat->Bool}{c:bo}(h:cC k c)(f:sR w c e d):cC (k+7302000) d:=by
 have u:=h.len;have y:=h.n;rcases f with⟨_,_,rfl⟩|⟨_,_,f⟩
 .exact h.mono ac
 .exact(f.cu h.later).1.mono ac
def pF(n:Int):ab aj:=[I n]
def Ks(e:ay)(n:aT Go.Addr)(Q X off:Nat)(l:ab Int)(x:Int)(f:Rd e n l.length X off 1 (l.map pF))(u:l.length<=1000000):ar prog 69 [.slice n l.length Q,I x] [e] (λr J=>∃z:Int,((x∈l/\0<=z)\/(x∉l/\z=-1))/\r=I z/\J=[e]):=by
 refine aF func69 λW=>?_;refine aa 14 ?_;refine ah.cq [7,0,1] (λi:Nat=>i<=l.length/\∀(j:Nat) (y:Int),j<i->l[j]?=some y->y≠x) (λi=>[(8,I (i:Int))]) (λ_=>[]) (λi=>l.length-i) 0 ⟨cG _,λj y h=>absurd h (yo _)⟩ ?_;rintro i⟨am,t⟩ K k;refine bh ?_;by_cases s:i<l.length
 .obtain⟨y,C⟩:=cl s;have L:bb .lss (i:Int) (l.length:Int)=some true:=by simp[bb];omega
  have G:(l.map pF)[i]?=some [I y]:=by rw[h5,C];rfl
  by_cases T:x=y
  .have p:bb .eql x y=some true:=by simp[bb,T]
   have F:x∈l:=by rw[T];exact im C
   refine NR ?_;refine aa 16 ?_;all_goals exact⟨_,_,⟨(i:Int),.inl ⟨F,ac⟩,rfl,rfl⟩,VH⟩
  .have p:bb .eql x y=some false:=by simp[bb,T]
   refine NR ?_;refine aa 10 ?_;refine Out.C' k (i+1) ?_ UJ;exact ⟨ac,λj z w a=>by
    by_cases c:j=i
    .subst c;rw[C]at a;rw[<-gs a];exactλh=>T h.symm
    .exact t j z ac a⟩
 .obtain rfl:i=l.length:=by omega
  have L:bb .lss (l.length:Int) (l.length:Int)=some false:=RD
  have F:x∉l:=λF=>by obtain⟨j,w,e⟩:=List.getElem_of_mem F;exact t j x w (by rw[hl w,e]) rfl
  clear k;refine aa 2 ?_;refine ai.v (V.cmp rfl rfl L) ?_;refine aa 16 ?_;all_goals exact⟨_,_,⟨-1,.inr ⟨F,rfl⟩,rfl,rfl⟩,VH⟩
def TA(e:ay)(n:aT Go.Addr)(Q F off:Nat)(l:ab Int)(x:Int)(f:Rd e n l.length F off 1 (l.map pF))(u:l.length<=1000000):ar prog 42 [.slice n l.length Q,I x] [e] (λr J=>r=B (decide (x∈l))/\J=[e]):=by
 by_cases K:x∈l
 .have k:ar prog 69 [.slice n l.length Q,I x] [e] (λr J=>∃z:Int,0<=z/\r=I z/\J=[e]):=ar.post (Ks e n Q F off l x f u) (by rintro v J⟨z,Y,rfl,rfl⟩;exact⟨_,⟨z,(Y.resolve_right λh=>h.1 K).2,rfl,rfl⟩,λ_ _ _ h=>h⟩)
  rw[iq K];refine aF func42 λW=>?_;refine aa 10 ?_;rintro _ _⟨i,E,rfl,rfl⟩;refine aa 7 ?_;all_goals(congr 1;rw[cO];assumption)
 .have k:ar prog 69 [.slice n l.length Q,I x] [e] (λr J=>r=I (-1)/\J=[e]):=ar.post (Ks e n Q F off l x f u) (by rintro v J⟨z,Y,rfl,rfl⟩;obtain rfl:=(Y.resolve_left λh=>K h.1).2;exact⟨_,⟨rfl,rfl⟩,λ_ _ _ h=>h⟩)
  rw[l5 K];refine aF func42 λW=>?_;exact aQ 17
def EX(b:Nat)(L:fI)(c:bo)(e:ay)(cK:aT Go.Addr)(Ye dm off:Nat)(l:ab Int)(ep:Rd e cK l.length dm off 1 (l.map pF))(dz:l.length<=1000)(a:Nat->Bool)(Yx:∀i,a i=(decide (l.length=0)||decide ((i:Int)∈l)))(k:Nat)(h:cC k c)(ca:k<=80000000000):ar prog 24 [av b 0,.slice cK l.length Ye] (e::bE b L c) (λr Yc=>∃bD bs vF,sR a c vF bs/\r=I vF/\Yc=e::bE b bD bs):=by
 have Yh:=h.len;have cN:=h.n;have Yq:=h.now;by_cases Yp:1099511627776<=c.now
 .omega
 .have fE:bb .geq c.now 1099511627776=some false:=by simp[bb];omega
  have Yj (bs:bo) (c2:nP a {c with now:=c.now+1} c.aE.length bs):sR a c 0 bs:=.inr ⟨ac,rfl,c2⟩;have Yo:=h.later;unfold bE dN dX;refine aF func24 λW=>?_;generalize br _=D;refine aa 22 ?_;refine ai.v (V.cmp rfl rfl fE) ?_;refine aa 29 ?_;refine ah.iE (a7:=e::bE b L {c with now:=c.now+1}) (λw cE=>cE.hv SW) ?_;generalize Ym:({c with now:=c.now+1}:bo)=R at*;have T:R.aE.length=c.aE.length:=by rw[<-Ym]
  refine ah.cq [25,24,0,1] (λz:Nat×fI×bo=>z.1<=c.aE.length/\nP a R z.1 z.2.2/\z.2.1.nC=L.nC/\z.2.1.mx=L.mx) (λz=>[(26,I (z.1:Int))]) (λz=>e::bE b z.2.1 z.2.2) (λz=>c.aE.length-z.1) (0,L,R) ⟨cG _,.nil,rfl,rfl⟩ ?_;rintro⟨i,fr,u⟩⟨am,s,g,o⟩ K cJ;dsimp only at am s g o;obtain⟨jv,Yu,Ys,Yg⟩:=s.cu Yo;have Y:u.aE.length=c.aE.length:=by rw[Yg,T]
  by_cases Yf:i<c.aE.length
  .have c5:bb .lss (i:Int) (c.aE.length:Int)=some true:=by simp[bb];omega
   obtain⟨x,Z⟩:=cl (g:=u.aE) (k:=i) ac;cases x with
   |dn bU dJ ka nh iR=>
    have p:nP a R (i+1) u:=.skip s (.inr ⟨_,_,_,_,_,Z⟩);refine R2 ?_;refine aa 28 ?_;all_goals exact Out.C' cJ (i+1,fr,u) ⟨VU,p,g,o⟩ UQ (g:=Sm)
   |up E gG F=>
    have j:=jv.up _ _ _ _ Z;have Yr:=(cF.1 Z).1;have C:=ar.Z9 (Q:=λr (z:cT×aA×Int)=>ng F u.now z.2.2 z.2.1/\r=I z.2.2) (N:=λz=>.up E z.1 z.2.1) Z (ar.post (af3 E gG F u.now (k+1+1043000*i) j.y j.v j.bu ac (by rw[j.on];exact cG _) (by rw[j.nu];exact cG _)) (by rintro v Yc⟨bD,cL,lu,bf,rfl,rfl⟩;exact⟨_,⟨(bD,cL,lu),⟨bf,rfl⟩,rfl⟩,λ_ _ _ h=>h⟩));have J (M:cT) (q:aA) (U:Int) (P:ng F u.now U q):=Bc b fr {u with aE:=u.aE.set i (.up E M q)} (k+1+1043000*i+43000) i E M q (((jv.z i).mono ac).set _).toClP ac (by show(u.aE.set i _)[i]?=_;rw[hD Yr]) (by have:=(P.up j (ge _)).1.ol;omega) (by have:=(P.up j (ge _)).1.eO;omega);have lJ (M:cT) (q:aA) (U:Int) (P:ng F u.now U q):=Bb b fr u (y:=.up E M q) Z (P.up j (ge _)).2 rfl;have d (bV:a i=false):nP a R (i+1) u:=.skip s (.inl bV);have p (bV:a i=true) (M:cT) (q:aA) (U:Int) (rW:bo) (P:ng F u.now U q) (dq:kS {u with aE:=u.aE.set i (.up E M q)} i rW):nP a R (i+1) rW:=.tick s bV Z P dq;have Yt:=TA e cK Ye dm off l (i:Int) ep ac;have Yv:=Yx i;clear j jv s Yj h Yo;refine R2 ?_;refine aa 4 ?_;refine ah.mt [0,1,5,6,24,25,26] (λ_:Unit=>True) (λ_=>[(42,B (a i))]) (λ_=>[]) (s:=[]) ?_ ?_
    .intro fP m;clear C J lJ d p cJ;by_cases Yn:l.length=0
     .have U:bb .eql (l.length:Int) 0=some true:=by simp only[bb];congr 1;rw[cO];omega
      rw[Yv,iq Yn,Bool.true_or]at m;refine aa 6 ?_;refine ai.v (V.cmp rfl rfl U) ?_;refine aa 7 ?_;all_goals exact Out.C' m () trivial trivial
     .have U:bb .eql (l.length:Int) 0=some false:=by simp only[bb];congr 1;rw[jW];omega
      rw[Yv,l5 Yn,xK]at m;refine aa 6 ?_;refine ai.v (V.cmp rfl rfl U) ?_;refine aa 8 ?_;all_goals exact Out.C' m () trivial trivial
    rintro⟨⟩-;refine bh ?_;cases Yw:a i
    .have t:=d Yw;clear C J lJ d p;refine aa 8 ?_;all_goals exact Out.C' cJ (i+1,fr,u) ⟨VU,t,g,o⟩ UQ (g:=Sm)
    .have t:=p Yw;clear d p Yt;refine aa 9 ?_;rintro hh q⟨G,⟨⟨Yi,rfl⟩,rfl⟩⟩;refine aa 3 ?_;have X:ng F u.now G.2.2 G.2.1:=by assumption
     have c0:=J G.1 G.2.1 G.2.2 X;have Yy:=λrW=>t G.1 G.2.1 G.2.2 rW X;rw[lJ G.1 G.2.1 G.2.2 X]at c0;unfold dN dX at c0;rw[g,o,Y]at c0;clear C J lJ t;obtain⟨M,q,U⟩:=G;dsimp only[List.cons_append,List.nil_append]at c0 Yy⊢;refine aa 4 ?_;rintro v3 tU⟨Yz,⟨YA,⟨⟨Yi,Yk,Yl⟩,rfl,rfl⟩⟩⟩;refine aa 8 ?_;all_goals exact Out.C' cJ (i+1,Yz,YA) ⟨VU,Yy _ VV,VV,VV⟩ UQ (g:=SW)
  .obtain rfl:i=c.aE.length:=by omega
   have c5:bb .lss (c.aE.length:Int) (c.aE.length:Int)=some false:=RD
   clear cJ;have p:=Yj u s;unfold bE dN dX;refine bh ?_;refine aa 2 ?_;refine ai.v (V.cmp rfl rfl c5) ?_;refine aa 16 ?_;all_goals exact⟨_,_,⟨fr,u,0,p,rfl,rfl⟩,VH⟩
inductive pG(c:bo):Nat->bo->Prop where
 |nil:pG c 0 c
 |step {j:Nat} {gj gN:bo} {e:Int} (h:pG c j gj) (cn:gj.bi≠[]) (cB:lU gj 0 e gN):pG c (j+1) gN
def pH(c:bo)(W:Int)(d:bo):Prop:=∃j:Nat,pG c j d/\(j:Int)<=Max.max W 0/\(W<=(j:Int)\/d.bi=[])
def pG.cu{j:Nat}{c:bo}(h:cC k c)(E:pG c j d):cC (k+1042300*j) d:=by
 induction E with
 |nil=>exact h
 |step _ _ f X=>exact(f.cu X).mono ac
def Kt(b:Nat)(L:fI)(c:bo)(o:Int)(k:Nat)(h:cC k c)(T:k<=80000000000)(K:o<=5000):ar prog 17 [av b 0,I o] (bE b L c) (λr J=>∃F d n,pH c o d/\r=I n/\J=bE b F d):=by
 refine aF func17 λW=>?_;generalize br _=D;refine aa 12 ?_;refine ah.cq [0,1] (λz:Nat×fI×bo=>(z.1:Int)<=Max.max o 0/\pG c z.1 z.2.2) (λz=>[(5,I (z.1:Int))]) (λz=>bE b z.2.1 z.2.2) (λz=>5001-z.1) (0,L,c) ⟨by show((0:Nat):Int)<=_;omega,.nil⟩ ?_;rintro⟨j,F,y⟩⟨w,m⟩ K i;dsimp only at w m;have W:=m.cu h;have Z:=ES F y.bi y.cut y.lost;refine bh ?_;by_cases n:(j:Int)<o
 .have p:bb .lss (j:Int) o=some true:=by simp[bb];omega
  by_cases z:y.bi=[]
  .have h:bb .gtr (y.bi.length:Int) 0=some false:=by rw[z];rfl
   have a:pH c o y:=⟨j,m,w,.inr z⟩
   clear i;unfold bE dN dX;refine aa 8 ?_;refine ai.v (V.cmp rfl rfl p) ?_;refine aa 8 ?_;refine ai.v (V.cmp rfl rfl h) ?_;refine aa 17 ?_;all_goals exact⟨_,_,⟨F,y,_,a,rfl,rfl⟩,VH⟩
  .have x:0<y.bi.length:=qA.2 z;have h:bb .gtr (y.bi.length:Int) 0=some true:=by simp only[bb];congr 1;rw[cO];omega
   have r:=ET b F y 0 (k+1042300*j) W ac;have a (e:Int) (u:bo) (f:lU y 0 e u):pG c (j+1) u:=.step m z f;unfold bE dN dX at r⊢;refine aa 8 ?_;refine ai.v (V.cmp rfl rfl p) ?_;refine aa 8 ?_;refine ai.v (V.cmp rfl rfl h) ?_;refine aa 11 ?_;rintro _ _⟨E,Q,l,z,rfl,rfl⟩;refine aa 9 ?_;all_goals(refine Out.C' i (j+1,E,Q) ?_ (by show 5001-(j+1)<5001-j;omega) (g:=SW);exact ⟨by show((j+1:Nat):Int)<=_;omega,a _ _ VV⟩)
 .have p:bb .lss (j:Int) o=some false:=by simp[bb];omega
  have a:pH c o y:=⟨j,m,w,.inl ac⟩
  clear i;unfold bE dN dX;refine aa 8 ?_;refine ai.v (V.cmp rfl rfl p) ?_;refine aa 25 ?_;all_goals exact⟨_,_,⟨F,y,_,a,rfl,rfl⟩,VH⟩
end Go.Proofs.YteogojgnkjegmaaGreatDoor
