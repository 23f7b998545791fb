/-
 Part of the proof.
-/
import Derived.Test.YteogojgnkjegmaaGreatDoorAx
set_option linter.all false
set_option maxRecDepth 8000
set_option maxHeartbeats 8000000
namespace Go.Proofs.YteogojgnkjegmaaGreatDoor
open Go.ay Go.Proofs.Tryz
variable[Go.ay.b4]
variable{k:Nat}{e:Int}{D:Nat->Bool}{n:Int}
def uy(c:bw)(U:Int)(e:Int)(g:bw):Prop:=
 (g7 c U≠0/\e=g7 c U/\g=c)\/
 (g7 c U=0/\∃i h L s1 o l b9 b,U=((i:Nat):Int)/\c.aH[i]?=some (.up h L s1)/\e=0/\Dh (λt=>t=s1.aA) c.n l b9 b/\g={c with aH:=c.aH.set i (.dn s1.bQ o l b9 b)})
def uy.cQ{c g:bw}{J:Int}(h:dc k c)(j:uy c J e g):dc k g:=by
 rcases j with⟨_,_,rfl⟩|⟨_,i,x,L,s1,o,l,b9,b,_,U,_,T,rfl⟩
 .exact h
 .have ao:=(cT.1 U).1;refine mV.ZH (m:=i) ((h.z i).set _) (g:=s1.bQ) (o:=o) (l:=l) (b9:=b9) (b:=b) ?_ T.1;grind
def ad2(b:Nat)(L:hj)(c:bw)(U p:Int)(d:aS)(k:Nat)(h:dc k c):ar prog 28 [aw b 0,I U,I p,.int .u8 (d.toNat:Int)] (b5 b L c) (λr Z=>∃bD cx e,uy c U e cx/\r=I e/\Z=b5 b bD cx):=by
 have m:=zT b L c h.toClN U;by_cases u:g7 c U=0
 .obtain⟨i,hB,gA,s1,rfl,J⟩:=IK h.toClP u;have g:=h.up _ _ _ _ J;have ao:=(cT.1 J).1;have Yc:=h.len;have cM:=h.n;obtain⟨Ym,Yk⟩:=g.nV;obtain⟨q,jf,Yi,x⟩:=IQ (k5.of (C:=λt=>t=s1.aA) Yk rfl) (g.y.en.trans g.n);have Yj:=ar.Wg (Q:=λr (z:aj×ab eK×ab aS×Int)=>(∃s,jf=z.2.1++s)/\(gE z.2.2.1).2=0/\(cj (q++z.2.1)++z.2.2.1).length<=65536/\z.2.2.2=((cj (q++z.2.1)++z.2.2.1).length:Int)/\r=I 0) (T:=λ_=>[]) (N:=λz=>.dn s1.bQ z.1 (q++z.2.1) z.2.2.1 z.2.2.2) J (IN hB gA s1 g.y.aA Yi p d);have G (z:aj×ab eK×ab aS×Int) (c1:∃s,jf=z.2.1++s) (dy:(gE z.2.2.1).2=0) (M:(cj (q++z.2.1)++z.2.2.1).length<=65536) (E:z.2.2.2=((cj (q++z.2.1)++z.2.2.1).length:Int)):uy c (i:Int) 0 {c with aH:=c.aH.set i (.dn s1.bQ z.1 (q++z.2.1) z.2.2.1 z.2.2.2)}:=.inr ⟨u,i,hB,gA,s1,_,_,_,_,rfl,J,rfl,x _ _ c1 dy M _ E,rfl⟩;have F (v:aj) (w:aj) (l:ab eK) (oU:ab aS) (ja:Int):rows gs v 112 1 (c.aH.set i (.dn s1.bQ w l oU ja))=rows gs v 112 1 c.aH:=v7 (f:=gs) J rfl;rw[u]at m;clear g h x;unfold b5 dw dL at m⊢;refine aE func28 λW=>?_;generalize bn _=D;refine aa 31 ?_;refine ai.v (V.B' ad (k:=i) rfl rfl rfl rfl ac) ?_;refine ai.v (V.UH ad (f:=gs) rfl T1 C9 J) ?_;refine aa 3 ?_;rintro nO CK⟨Yl,⟨⟨⟨P,Ye⟩,Yf,Yg,Yh,rfl⟩,rfl⟩⟩;refine aa 3 ?_;obtain⟨Y,Di,K,X⟩:=Yl;have R:=G (Y,Di,K,X) ⟨_,TX⟩ TX TX TX;have j (v:aj):=F v Y (q++Di) K X;dsimp only at R⊢;clear G Yj F;refine aa 7 ?_;refine ai.v (V.B' ad (k:=i) rfl rfl rfl rfl ac) ?_;refine ai.o (O.VO ad (f:=gB) (a:=cC.dn s1.bQ Y (q++Di) K X) rfl rfl rfl rfl T2 rfl ac nS ?_);refine aa 9 ?_;all_goals exact⟨_,_,⟨L,_,0,R,rfl,rfl⟩,(by dsimp only;simp only[co,j];(repeat(first|exact ak.nil|exact al.here|apply ak.cons|apply al.there)))⟩
 .have G:uy c U (g7 c U) c:=.inl ⟨u,rfl,rfl⟩;have gC:bd .neq (g7 c U) 0=some true:=by simp[bd,u]
  generalize g7 c U=e at*;unfold b5 dw dL at m⊢;refine aE func28 λW=>?_;generalize bn _=D;refine aa 18 ?_;refine ai.v (V.cmp rfl rfl gC) ?_;refine aa 12 ?_;all_goals exact⟨_,_,⟨L,c,e,G,rfl,rfl⟩,Uc⟩
def nm.up{N:Int}{i g:Nat}{l:ab eK}{b9:ab aS}{c:Int}{d:aC}(a:n=3\/n=5\/n=7)(ao:(i:Int)<n)(T:0<=N/\N<=1099511627776)(w:v8 n l b9 c)(h:nm n (i:Int) N g (hQ n l b9 c) d):UpF 2000 n N i d/\d.out=[]/\d.bQ=g/\d.dX=[]/\d.told=[]/\d.leads=[]/\d.bp=[]/\d.aA=hQ n l b9 c/\d.now=N:=by
 obtain⟨X,M,r,st,W,C,pn,f,K⟩:=h;obtain⟨Y,bY,R,gX⟩:=w;have v:=CF (X:=c) a Y R;have G:ko n (hQ n l b9 c).p.all:=v.g1;obtain⟨t,_⟩:=C6 a ⟨tO i,ao⟩ T G f g X (hQ n l b9 c) pn.1;have Yc:=aJ.Vp v.p.towf;have E:eO 1400 (aC.Vb n (i:Int) N g X (hQ n l b9 c) M r st):=
  ⟨t.mono ac,⟨λy F=>K6,λy F=>K6,λy F=>K6⟩,v,rfl,W,by show X.L.da<=1400;omega⟩
 have k:dV (aC.Vb n (i:Int) N g X (hQ n l b9 c) M r st):=⟨pK,pK,λy F=>K6,λy F=>K6⟩
 have z:=K.ZE E;obtain⟨Z,jI,qW,nR,v1,x1,af1,b,RV,Ye,U,s⟩:=K.same;have u:d.told=[]:=by
  obtain⟨q,o,xR,P,Q,G,dO,j,Yf,rfl⟩:=K.go;have D:q.filter (aC.Vb n (i:Int) N g X (hQ n l b9 c) M r st).UV=[]:=by refine List.filter_eq_nil_iff.2 λx _=>?_;grind [aC.UV,aC.Vb,hQ,b9,m4]
  rw[D]at j;have:P=[]:=Ff.1 j;subst this;rfl
 have m:nU (hQ n l b9 c) l []:=by
  refine⟨by rw[dT];exact Y,by rw[dT];rfl,?_,λx=>by rw[dT];rfl⟩;show(if b9=[]then c else((cj l).length:Int))=_
  grind
 refine⟨⟨z.mono ac,K.U7 k,af1,λx J=>?_,v1,x1,?_,⟨l,[],by rw[Z];exact m⟩,?_,?_⟩,b,s,RV,u,qW,nR,Z,U⟩
 .rw[b]at J;cases J
 .rw[U];exact gg _
 .rw[b];exact cO _
 .grind
def uz(c:bw)(U:Int)(e:Int)(g:bw):Prop:=
 (g7 c U≠7/\e=1/\g=c)\/
 (g7 c U=7/\∃i d o l s b h L s1,U=((i:Nat):Int)/\c.aH[i]?=some (.dn d o l s b)/\e=0/\nm c.n (i:Int) c.now d (hQ c.n l s b) s1/\lp {c with aH:=c.aH.set i (.up h L s1)} i g)
def afP{c:bw}(h:ClP k c){J:Int}(T:g7 c J=7):∃i g o l Y m,J=((i:Nat):Int)/\(i:Int)<c.n/\c.aH[i]?=some (.dn g o l Y m):=by
 unfold g7 at T;split at T
 .cases T
 .rename_i f;obtain⟨i,x,rfl,ao,U⟩:=h.at (rep:=J) ac ac;rw[i3,U]at T;cases x with
  |up b L s=>rw[aQ (by exact rfl)]at T;cases T
  |dn g o l b9 m=>exact⟨i,g,o,l,b9,m,rfl,ac,U⟩
def RX(c:bw)(U:Int):g7 c U=0\/g7 c U=1\/g7 c U=7:=by grind [g7]
def uz.cQ{c g:bw}{J:Int}(h:dc k c)(u:k<=1000000000000)(j:uz c J e g):dc (k+1002000) g:=by
 rcases j with⟨_,_,rfl⟩|⟨_,i,d,o,l,Z,m,x,P,s1,_,U,_,p,Y⟩
 .exact h.mono ac
 .have ao:=(cT.1 U).1;have w:=h.len;have F:=h.now;have R:=(p.up h.n ac ac (h.dn _ _ _ _ _ _ U)).1;refine(Y.cQ (k:=k+2000) (((h.z i).mono ac).set _) λb L s y=>?_).mono ac;have y:(c.aH.set i (.up x P s1))[i]?=_:=y;rw[oT ao]at y;cases y;exact R.mono ac
def RY(b:Nat)(L:hj)(c:bw)(Z:Int)(k:Nat)(h:dc k c)(E:k<=90000000000):ar prog 29 [aw b 0,I Z] (b5 b L c) (λr J=>∃q g e,uz c Z e g/\r=I e/\J=b5 b q g):=by
 have y:=zT b L c h.toClN Z;by_cases u:g7 c Z=7
 .obtain⟨i,o,W,l,M,m,rfl,x,U⟩:=afP h.toClP u;have K:=h.dn _ _ _ _ _ _ U;have ao:=(cT.1 U).1;have w:=h.len;have a:=h.n;have F:=h.now;have C:=ar.Wg (Q:=λr (z:Nat×cW×aC)=>nm c.n (i:Int) c.now o (hQ c.n l M m) z.2.2/\r=.tuple #[aw z.1 0,I 0]) (T:=λ_=>[]) (N:=λz=>.up z.1 z.2.1 z.2.2) U (ar.post (IA o W c.n (i:Int) c.now l M m a ⟨tO i,x⟩ ac K.1 K.2.1 K.2.2.1) (by rintro v J⟨s,q,d,Y,rfl,rfl⟩;exact⟨_,⟨(s,q,d),⟨Y,rfl⟩,rfl⟩,λ_ _ _ h=>h⟩));have R (s1:aC) (p:nm c.n (i:Int) c.now o (hQ c.n l M m) s1):=(p.up a x ac K)
  have J (x:Nat) (j:cW) (s1:aC) (p:nm c.n (i:Int) c.now o (hQ c.n l M m) s1):=zV b L {c with aH:=c.aH.set i (.up x j s1)} (k+2000) i x j s1 (((h.z i).mono ac).set _).toClP ac (by show(c.aH.set i _)[i]?=_;rw[oT ao]) (by have:=(R s1 p).1.ol;omega) (by have:=(R s1 p).1.fJ;omega);have G (x:Nat) (j:cW) (s1:aC) (g:bw) (p:nm c.n (i:Int) c.now o (hQ c.n l M m) s1) (Y:lp {c with aH:=c.aH.set i (.up x j s1)} i g):uz c (i:Int) 0 g:=.inr ⟨u,i,o,W,l,M,m,x,j,s1,rfl,U,rfl,p,Y⟩;have F (v:aj) (x:Nat) (j:cW) (s1:aC) (p:nm c.n (i:Int) c.now o (hQ c.n l M m) s1):rows gs v 112 1 (c.aH.set i (.up x j s1))=rows gs v 112 1 c.aH:=v7 (f:=gs) U (by unfold gs;rw[show(cC.up x j s1).bQ=s1.bQ from rfl,(R s1 p).2.2.1];rfl);rw[u]at y;clear h K;unfold b5 dw dL at y⊢;refine aE func29 λW=>?_;generalize bn _=D;refine aa 27 ?_;refine ah.mt [0,1] (λz:Nat×cW×aC=>nm c.n (i:Int) c.now o (hQ c.n l M m) z.2.2) (λz=>[]) (λz=>[fq (c.aH.set i (.up z.1 z.2.1 z.2.2)),rows gB (.slice (some ⟨L.mL,0,none⟩) c.aH.length L.lF) 36 1 (c.aH.set i (.up z.1 z.2.1 z.2.2))]) (i:=[fq c.aH,rows gB (.slice (some ⟨L.mL,0,none⟩) c.aH.length L.lF) 36 1 c.aH]) ?_ ?_
  .intro K r;clear J G F;refine ah.n' ?_ aB.j.j.j.j.j.d'.d';refine ae 10 0 ?_;refine af.i' 10 rfl (V.B' ad (k:=i) rfl rfl rfl rfl ac) ?_;refine af.i' 11 rfl (V.UH ad (f:=gs) rfl T1 C9 U) ?_;refine ae 9 12 ?_;refine af.p' 21 rfl rfl (C) ?_;rintro t s2⟨l,⟨⟨E,rfl⟩,rfl⟩⟩;refine aa 2 ?_;refine ae 3 22 ?_;refine af.i' 25 rfl (V.B' ad (k:=i) rfl rfl rfl rfl ac) ?_;refine af.q' 26 rfl (O.VO ad (f:=gB) (a:=cC.up l.1 l.2.1 l.2.2) rfl rfl rfl rfl T2 rfl ac nS ?_);refine aa 2 ?_;all_goals exact Out.z' r _ TX trivial
  rintro⟨x,j,s1⟩ p;dsimp only at p;have P:=J x j s1 p;have q:=λg=>G x j s1 g p;have d (v:aj):=F v x j s1 p;clear J G F C R y;unfold b5 dw dL at P;dsimp only[List.cons_append,List.nil_append]at P⊢;simp only[co,d]at P;refine aa 5 ?_;rintro w oF⟨j,⟨v,⟨⟨E,r,l⟩,rfl,rfl⟩⟩⟩;refine aa 11 ?_;all_goals exact⟨_,_,⟨_,_,0,q _ TX,rfl,rfl⟩,Uc⟩
 .have G:uz c Z 1 c:=.inl ⟨u,rfl,rfl⟩;have P:=RX c Z;have l:bd .eql (g7 c Z) 7=some false:=by simp[bd,u]
  clear h;unfold b5 dw dL at y⊢;rcases P with P|P|P
  .rw[P]at y;refine aE func29 λW=>?_;generalize bn _=D;refine aa 42 ?_;all_goals exact⟨_,_,⟨L,c,1,G,rfl,rfl⟩,Uc⟩
  .rw[P]at y;refine aE func29 λW=>?_;generalize bn _=D;refine aa 43 ?_;all_goals exact⟨_,_,⟨L,c,1,G,rfl,rfl⟩,Uc⟩
  .exact absurd P u
def afG(e:ax)(m:aT Go.Addr)(E K off:Nat)(l:ab gi)(f:Rd e m l.length K off 8 (l.map gi.c))(T:l.length<=200000000000):ar prog 33 [.slice m l.length E] [e] (λr J=>∃v,r=v/\J=[rows gi.c v 67 8 l,e]):=by
 cases m with
 |none=>
  have t:l=[]:=by
   cases l with
   |nil=>rfl
   |cons a l=>have:=f.addr T3;simp at this
  subst t;refine aE func33 λW=>?_;refine ah.Ur gi.c 67 8 ?_;refine aa 9 ?_;refine ai.v (V.WM ad) ?_;exact aP 11
 |some a=>
  by_cases L:l=[]
  .subst L;refine aE func33 λW=>?_;refine N1 ?_;refine ai.o (O.Q' ad gi.c [] rfl bI.nil rfl rfl (λg=>?_));refine au ?_;refine ai.v (V.XT ad rfl rfl (cq.XG ad f T1 gi.F' gi.Vt) ac) ?_;exact aP 5
  .have E:0<l.length:=pH.2 L;refine aE func33 λW=>?_;refine N1 ?_;refine ai.o (O.Q' ad gi.c [] rfl bI.nil rfl rfl (λg=>?_));refine au ?_;refine ai.o (O.XS ad rfl rfl (cq.rd ad f T1 gi.F' gi.Vt E) L gi.Vt (λr T=>?_));exact aP 5
def aiy(b:Nat)(L:hj)(c:bw)(k:Nat)(h:ClP k c)(u:k<=100000000000):ar prog 15 [aw b 0] (b5 b L c) (λr J=>∃m E,r=.slice m c.told.length E/\J=rows gi.c (.slice m c.told.length E) 67 8 c.told::b5 b L c):=by refine ar.pr gi.Vt ?_;have j:=h.told;unfold b5 dw dL;refine aE func15 λW=>?_;refine ah.fact (iD (f:=gi.c) (v:=L.bS) (l:=c.told) gi.Vt T1) λK=>?_;obtain⟨m,E,h,Z,f⟩:=K;have J:=afG _ m E h 0 c.told f ac;rw[Z];refine aa 22 ?_;rintro _ _⟨N,rfl,rfl⟩;exact aP 6;all_goals exact⟨_,_,⟨_,rfl,rfl⟩,Uc⟩
def wb(c:bw)(i:Int)(e:Int)(g:bw):Prop:=(iH c.bo i=none/\e=5/\g=c)\/(∃x,iH c.bo i=some x/\e=0/\g={c.less i with lost:=c.lost+1})
def wb.cQ{c g:bw}{i:Int}(h:dc k c)(Q:wb c i e g):dc (k+1) g:=by
 have Y:=h.lost;have K:=h.mono (jL k 1);rcases Q with⟨_,_,rfl⟩|⟨x,U,_,rfl⟩
 .exact K
 exact PO
def ahV(b:Nat)(L:hj)(c:bw)(i:Int)(k:Nat)(h:ClP k c)(u:k<=100000000000):ar prog 20 [aw b 0,I i] (b5 b L c) (λr J=>∃T g e,wb c i e g/\r=I e/\J=b5 b T g):=by
 have T:=h.lost;have u:=acE L.k4 L.dH c.bo c.cut c.lost i h.cut ⟨T.1,ac⟩;cases g:iH c.bo i with
 |none=>
  have D:wb c i 5 c:=.inl ⟨g,rfl,rfl⟩;rw[g]at u;have q:=ar.WC (Q:=λr (_:aj)=>r=B false) (T:=λt=>fO L.k4 t c.bo c.cut c.lost) u;unfold b5 dw dL;refine aE func20 λW=>?_;refine aa 23 ?_;rintro _ _⟨E,rfl,rfl⟩;refine aa 15 ?_;all_goals exact⟨_,_,⟨{L with dH:=E},c,5,D,rfl,rfl⟩,Uc⟩
 |some x=>
  have D:wb c i 0 {c.less i with lost:=c.lost+1}:=.inr ⟨x,g,rfl,rfl⟩;rw[g]at u;have q:=ar.WC (Q:=λr (_:aj)=>r=B true) (T:=λt=>fO L.k4 t (c.bo.eraseIdx i.toNat) c.cut (c.lost+1)) u;unfold bw.less at D;unfold b5 dw dL;refine aE func20 λW=>?_;refine aa 23 ?_;rintro _ _⟨E,rfl,rfl⟩;refine aa 16 ?_;all_goals exact⟨_,_,⟨{L with dH:=E},_,0,D,rfl,rfl⟩,Uc⟩
def uA(c:bw)(i:Int)(e:Int)(g:bw):Prop:=(iH c.bo i=none/\e=5/\g=c)\/(∃x,iH c.bo i=some x/\((p6 c.bo i=true/\e=0)\/(p6 c.bo i=false/\e=6))/\g={c with bo:=np c.bo i})
def IS{l:ab b8}{i:Int}{x:b8}(h:x∈np l i):x∈l:=by
 unfold np at h;split at h
 .rename_i y F;split at h
  .rcases fd.1 h with h|h
   .exact h
   .rw[i2.1 h];exact Dg F
  .exact h
 .exact h
def ajD{l:ab b8}{i:Int}(h:l.length<=256):(np l i).length<=256:=by
 unfold np;split
 .split
  .rw[b2,ox];omega
  .exact h
 .exact h
def uA.cQ{c g:bw}{i:Int}(h:dc k c)(Q:uA c i e g):dc k g:=by
 rcases Q with⟨_,_,rfl⟩|⟨x,U,_,rfl⟩
 .exact h
 .exact⟨⟨⟨h.n,h.len⟩,h.cut,ajD h.bo,h.lost,h.told,h.now⟩,h.up,h.dn,λx U=>h.g9 x (IS U)⟩
def aiL(b:Nat)(L:hj)(c:bw)(i:Int)(k:Nat)(h:ClP k c):ar prog 27 [aw b 0,I i] (b5 b L c) (λr J=>∃u g e,uA c i e g/\r=I e/\J=b5 b u g):=by
 have E:=ar.WC (Q:=λr (_:aj)=>r=B (p6 c.bo i)) (T:=λt=>fO L.k4 t (np c.bo i) c.cut c.lost) (ajf L.k4 L.dH c.bo c.cut c.lost i h.bo);have K:=Df L c.bo c.cut c.lost;cases d:iH c.bo i with
 |none=>
  have D:uA c i 5 c:=.inl ⟨d,rfl,rfl⟩;have ao:=xY d;unfold b5 dw dL;refine aE func27 λW=>?_;refine aa 20 ?_;refine ai.aY (λG=>?_) (λG=>?_);refine aa 21 ?_;rotate_left;refine aa 22 ?_;rotate_left;all_goals exact⟨_,_,⟨L,c,5,D,rfl,rfl⟩,Uc⟩
 |some x=>
  obtain⟨q,rfl,N,Z⟩:=v6 d;have m:bd .lss (q:Int) 0=some false:=Sl
  have Y:bd .geq (q:Int) (c.bo.length:Int)=some false:=TZ
  cases j:p6 c.bo (q:Int)
  .have D:uA c (q:Int) 6 {c with bo:=np c.bo (q:Int)}:=.inr ⟨x,d,.inr ⟨j,rfl⟩,rfl⟩;rw[j]at E;refine PZ λW Q=>?_;refine aa 15 ?_;all_goals exact⟨_,_,⟨{L with dH:=Q},_,6,D,rfl,rfl⟩,Uc⟩
  .have D:uA c (q:Int) 0 {c with bo:=np c.bo (q:Int)}:=.inr ⟨x,d,.inl ⟨j,rfl⟩,rfl⟩;rw[j]at E;refine PZ λW Q=>?_;refine aa 16 ?_;all_goals exact⟨_,_,⟨{L with dH:=Q},_,0,D,rfl,rfl⟩,Uc⟩
def adI(b:Nat)(L:hj)(c:bw)(x y:Int)(k:Nat)(h:ClP k c):ar prog 23 [aw b 0,I x,I y] (b5 b L c) (λr J=>r=.tuple #[]/\J=b5 b L {c with cut:=p7 c.cut x y}):=by have T:=ar.VJ (aeJ L.k4 L.dH c.bo c.cut c.lost x y h.cut);unfold b5 dw dL;refine aE func23 λW=>?_;exact aP 18
def ahs(b:Nat)(L:hj)(c:bw)(k:Nat)(h:ClP k c):ar prog 30 [aw b 0] (b5 b L c) (λr J=>r=.tuple #[]/\J=b5 b L {c with cut:=List.replicate 49 false}):=by have T:=ar.VJ (ai5 L.k4 L.dH c.bo c.cut c.lost h.cut);unfold b5 dw dL;refine aE func30 λW=>?_;exact aP 16
def ajR(c:ab Bool)(x y:Int):(p7 c x y).length=c.length:=by
 unfold p7;split
 .rw[co,co]
 .rfl
def dc.ZI{c:bw}(h:dc k c){l:ab Bool}(T:l.length=49):dc k {c with cut:=l}:=⟨⟨⟨h.n,h.len⟩,T,h.bo,h.lost,h.told,h.now⟩,h.up,h.dn,h.g9⟩
def uB(c:bw)(U:Int):aj:=if U<0\/c.n<=U then .pointer none else match c.aH[U.toNat]? with|some x=>x.ptr|none=>.pointer none
def IT(b:Nat)(L:hj)(c:bw)(Z:Int)(h:ClN c):ar prog 12 [aw b 0,I Z] (b5 b L c) (λr J=>r=uB c Z/\J=b5 b L c):=by
 have p:=zT b L c h Z;have w:=h.len;have a:=h.n;by_cases f:Z<0\/c.n<=Z
 .have T:g7 c Z=1:=by unfold g7;rw[aQ f]
  have z:uB c Z=.pointer none:=by unfold uB;rw[aQ f]
  rw[T]at p;rw[z];exact LK
 .obtain⟨i,x,rfl,ao,U⟩:=h.at (rep:=Z) ac ac;have z:uB c (i:Int)=x.ptr:=by unfold uB;rw[aM f,i3,U]
  have T:g7 c (i:Int)=if x.on then 0 else 7:=by unfold g7;rw[aM f,i3,U];rfl
  rw[T]at p;rw[z];cases x with
  |up h z s1=>
   change ar _ _ _ _ (λr J=>r=I 0/\J=b5 b L c)at p;unfold b5 dw dL at p⊢;refine aE func12 λW=>?_;refine aa 25 ?_;refine ai.v (V.B' ad (k:=i) rfl rfl rfl rfl ac) ?_;refine ai.v (V.UH ad (f:=gB) rfl T1 nS U) ?_;exact aP 5
  |dn g o l n m=>
   change ar _ _ _ _ (λr J=>r=I 7/\J=b5 b L c)at p;exact LK
def oP.same{s d:aC}{x:ag}(h:oP s x d):d.aA=s.aA/\d.bQ=s.bQ/\d.now=s.now/\∃X,g8 s X d:=by
 rcases h with⟨_,rfl⟩|⟨_,⟨e,L,rfl⟩|⟨_,e,L,_,rfl⟩|⟨_,_,p,q,rfl⟩⟩
 .exact⟨rfl,rfl,rfl,[],g8.nil rfl rfl rfl rfl⟩
 exact KE
 exact KE
 exact KE
def qX.cQ{s s1:aC}{Z:ab ag}(h:eO k s)(W:dV s)(p:nq s)(G:∀x∈Z,bq x 7=true)(T:qX s Z s1):eO (k+Z.length) s1/\dV s1/\nq s1/\fH s1.inbox<=fH s.inbox+3*Z.length/\s1.out.length<=s.out.length+7*Z.length/\s1.told=s.told/\s1.n=s.n/\s1.self=s.self/\s1.aA=s.aA/\s1.bQ=s.bQ/\s1.now=s.now:=by
 induction T with
 |nil=>exact⟨h,W,p,cD _,cD _,rfl,rfl,rfl,rfl,rfl,rfl⟩
 |@snoc Z x a b T U d=>
  obtain⟨Y,N,R,Z,a,M,c,J,K,T,E⟩:=d λy F=>G y (sT _ F);obtain⟨i,C,j,W,F,u⟩:=U.cQ Y N (G x T3);obtain⟨D,P,Q,X,q⟩:=U.same;rw[b2,ox];exact⟨i,C,R.Vu q,ac,ac,F.trans M,u.trans c,q.2.2.2.trans J,D.trans K,P.trans T,Q.trans E⟩
def oQ.up{N c:Int}{i:Nat}{s d:aC}(h:oS k n N i s)(l:N<=c)(j:oQ s c e d):UpF (k+43000) n c i d/\d.bQ=s.bQ:=by
 rcases j with⟨_,_,rfl⟩|⟨o,Y,_,Z,X,s1,w,T,f⟩
 .exact⟨(h.mono (jL k 43000) l).toUpF,rfl⟩
 .obtain⟨M,a,Q,_⟩:=w.sub;have E:=h.y.due o Y M;have D:dV {s with now:=c,pl:=X}:=⟨h.v.en,h.v.e4,h.v.bF,h.v.i8⟩
  have b:=h.y.fX.len;obtain⟨J,K,r,W,C,u,p,m,G,R,q⟩:=T.cQ E D h.bW λx U=>by obtain⟨y,F,rfl⟩:=Q x U;exact h.y.fX.aV y F
  have D:fH s.inbox=0:=C3 h.bt;have l:=J.VT K;obtain⟨Q,z⟩:=h.nV;have D:=h.on;have T:k5 (λ_=>True) s1.aA:=by rw[G];exact k5.of z trivial
  dsimp only at W C u;rw[D]at C;have v:([]:ab b8).length=0:=rfl;have:=jT.all (C:=λ_=>True) J K r T f ac (p.trans h.n) (m.trans h.self) (by rw[q];exact gg _) ac (by rw[u,h.pL];exact cO _) (λ_ _=>trivial);exact⟨this.1.mono ac,f.bQ.trans R⟩
inductive nX(gW:Nat->Bool)(c:bw):Nat->bw->Prop where
 |nil:nX gW c 0 c
 |skip {i:Nat} {hV:bw} (h:nX gW c i hV) (cM:gW i=false\/∃bQ dH l oU ja,hV.aH[i]?=some (cC.dn bQ dH l oU ja)):nX gW c (i+1) hV
 |tick {i hB:Nat} {hV jm:bw} {gA g4:cW} {s1 s2:aC} {e:Int} (h:nX gW c i hV) (b7:gW i=true) (b3:hV.aH[i]?=some (cC.up hB gA s1)) (cN:oQ s1 hV.now e s2) (eh:lp {hV with aH:=hV.aH.set i (cC.up hB g4 s2)} i jm):nX gW c (i+1) jm
def wc(D:Nat->Bool)(c:bw)(e:Int)(g:bw):Prop:=
 (1099511627776<=c.now/\e=6/\g=c)\/(c.now<1099511627776/\e=0/\nX D {c with now:=c.now+1} c.aH.length g)
def lp.same{c g:bw}{i:Nat}(h:lp c i g):g.n=c.n/\g.now=c.now/\g.aH.length=c.aH.length/\g.cut=c.cut:=by obtain⟨x,L,s1,q,_,rfl⟩:=h;exact⟨rfl,rfl,co ..,rfl⟩
def acn{i x:Nat}{J n:bw}{P q:cW}{s1 s2:aC}(h:dc k J)(U:J.aH[i]?=some (cC.up x P s1))(j:oQ s1 J.now e s2)(Y:lp {J with aH:=J.aH.set i (cC.up x q s2)} i n):dc (k+1043000) n:=by have ao:=(cT.1 U).1;have R:=(j.up (h.up _ _ _ _ U) (gg _)).1;refine(Y.cQ (k:=k+43000) (((h.z i).mono ac).set _) λb L s p=>?_).mono ac;have p:(J.aH.set i (.up x q s2))[i]?=_:=p;rw[oT ao]at p;cases p;exact R
def nX.cQ{m:Nat}{c g:bw}(h:dc k c)(j:nX D c m g):dc (k+1043000*m) g/\g.now=c.now/\g.n=c.n/\g.aH.length=c.aH.length:=by
 induction j with
 |nil=>exact⟨h,rfl,rfl,rfl⟩
 |skip _ _ d=>exact⟨d.1.mono ac,d.2⟩
 |tick _ _ U j k d=>
  have Y:=k.same;exact⟨(acn d.1 U j k).mono ac,Y.2.1.trans d.2.1,Y.1.trans d.2.2.1,Y.2.2.1.trans ((co ..).trans d.2.2.2)⟩
def dc.later{c:bw}(h:dc k c):dc (k+1) {c with now:=c.now+1}:=by have K:=h.mono (jL k 1);have a:=h.now;exact⟨⟨⟨h.n,h.len⟩,h.cut,h.bo,K.lost,K.told,by show 0<=c.now+1/\c.now+1<=_;omega⟩,λi b L s U=>(h.up i b L s U).mono ac (by show c.now<=c.now+1;omega),h.dn,h.g9⟩
def wc.cQ{c g:bw}(h:dc k c)(j:wc D c e g):dc (k+7302000) g:=by
 have T:=h.len;have a:=h.n;rcases j with⟨_,_,rfl⟩|⟨_,_,j⟩
 .exact h.mono ac
 .exact(j.cQ h.later).1.mono ac
def rS(n:Int):ab aj:=[I n]
def IU(e:ax)(n:aT Go.Addr)(E Q off:Nat)(l:ab Int)(x:Int)(f:Rd e n l.length Q off 1 (l.map rS))(T:l.length<=1000000):ar prog 69 [.slice n l.length E,I x] [e] (λr J=>∃z:Int,((x∈l/\0<=z)\/(x∉l/\z=-1))/\r=I z/\J=[e]):=by
 refine aE func69 λW=>?_;refine aa 14 ?_;refine ah.cp [7,0,1] (λi:Nat=>i<=l.length/\∀(j:Nat) (y:Int),j<i->l[j]?=some y->y≠x) (λi=>[(8,I (i:Int))]) (λ_=>[]) (λi=>l.length-i) 0 ⟨cO _,λj y h=>absurd h (xn _)⟩ ?_;rintro i⟨ao,a⟩ K m;refine bl ?_;by_cases s:i<l.length
 .obtain⟨y,X⟩:=cl s;have k:bd .lss (i:Int) (l.length:Int)=some true:=by simp[bd];omega
  have G:(l.map rS)[i]?=some [I y]:=by rw[h9,X];rfl
  by_cases u:x=y
  .have b:bd .eql x y=some true:=by simp[bd,u]
   have F:x∈l:=by rw[u];exact jX X
   refine CL ?_;refine aa 16 ?_;all_goals exact⟨_,_,⟨(i:Int),.inl ⟨F,ac⟩,rfl,rfl⟩,Uc⟩
  .have b:bd .eql x y=some false:=by simp[bd,u]
   refine CL ?_;refine aa 10 ?_;refine Out.z' m (i+1) ?_ FM;exact ⟨ac,λj z c w=>by
    by_cases Y:j=i
    .subst Y;rw[X]at w;rw[<-hc w];exactλh=>u h.symm
    .exact a j z ac w⟩
 .obtain rfl:i=l.length:=by omega
  have k:bd .lss (l.length:Int) (l.length:Int)=some false:=Sl
  have F:x∉l:=λF=>by obtain⟨j,c,e⟩:=List.getElem_of_mem F;exact a j x c (by rw[hs c,e]) rfl
  clear m;refine aa 2 ?_;refine ai.v (V.cmp rfl rfl k) ?_;refine aa 16 ?_;all_goals exact⟨_,_,⟨-1,.inr ⟨F,rfl⟩,rfl,rfl⟩,Uc⟩
def R8(e:ax)(m:aT Go.Addr)(E F off:Nat)(l:ab Int)(x:Int)(f:Rd e m l.length F off 1 (l.map rS))(T:l.length<=1000000):ar prog 42 [.slice m l.length E,I x] [e] (λr J=>r=B (decide (x∈l))/\J=[e]):=by
 by_cases K:x∈l
 .have b:ar prog 69 [.slice m l.length E,I x] [e] (λr J=>∃z:Int,0<=z/\r=I z/\J=[e]):=ar.post (IU e m E F off l x f T) (by rintro v J⟨z,Y,rfl,rfl⟩;exact⟨_,⟨z,(Y.resolve_right λh=>h.1 K).2,rfl,rfl⟩,λ_ _ _ h=>h⟩)
  rw[ic K];refine aE func42 λW=>?_;refine aa 10 ?_;rintro _ _⟨w,Q,rfl,rfl⟩;refine aa 7 ?_;all_goals(congr 1;rw[dl];assumption)
 .have b:ar prog 69 [.slice m l.length E,I x] [e] (λr J=>r=I (-1)/\J=[e]):=ar.post (IU e m E F off l x f T) (by rintro v J⟨z,Y,rfl,rfl⟩;obtain rfl:=(Y.resolve_left λh=>K h.1).2;exact⟨_,⟨rfl,rfl⟩,λ_ _ _ h=>h⟩)
  rw[lg K];refine aE func42 λW=>?_;exact aP 17
def IV(b:Nat)(L:hj)(c:bw)(e:ax)(cV:aT Go.Addr)(E e5 off:Nat)(l:ab Int)(ew:Rd e cV l.length e5 off 1 (l.map rS))(dz:l.length<=1000)(G:Nat->Bool)(Yv:∀i,G i=(decide (l.length=0)||decide ((i:Int)∈l)))(k:Nat)(h:dc k c)(cc:k<=80000000000):ar prog 24 [aw b 0,.slice cV l.length E] (e::b5 b L c) (λr T=>∃bD cx zZ,wc G c zZ cx/\r=I zZ/\T=e::b5 b bD cx):=by
 have Yf:=h.len;have cM:=h.n;have Yn:=h.now;by_cases Ym:1099511627776<=c.now
 .omega
 .have gC:bd .geq c.now 1099511627776=some false:=by simp[bd];omega
  have Yh (cx:bw) (c1:nX G {c with now:=c.now+1} c.aH.length cx):wc G c 0 cx:=.inr ⟨ac,rfl,c1⟩;have Yr:=h.later;unfold b5 dw dL;refine aE func24 λW=>?_;generalize bn _=D;refine aa 22 ?_;refine ai.v (V.cmp rfl rfl gC) ?_;refine aa 29 ?_;refine ah.iN (a2:=e::b5 b L {c with now:=c.now+1}) (λw cG=>cG.gW QV) ?_;generalize Yk:({c with now:=c.now+1}:bw)=C at*;have o:C.aH.length=c.aH.length:=by rw[<-Yk]
  refine ah.cp [25,24,0,1] (λz:Nat×hj×bw=>z.1<=c.aH.length/\nX G C z.1 z.2.2/\z.2.1.mL=L.mL/\z.2.1.lF=L.lF) (λz=>[(26,I (z.1:Int))]) (λz=>e::b5 b z.2.1 z.2.2) (λz=>c.aH.length-z.1) (0,L,C) ⟨cO _,.nil,rfl,rfl⟩ ?_;rintro⟨i,gA,s⟩⟨ao,g,a,R⟩ K cA;dsimp only at ao g a R;obtain⟨mK,Ys,Yp,Ye⟩:=g.cQ Yr;have m:s.aH.length=c.aH.length:=by rw[Ye,o]
  by_cases Yc:i<c.aH.length
  .have dx:bd .lss (i:Int) (c.aH.length:Int)=some true:=by simp[bd];omega
   obtain⟨x,J⟩:=cl (t:=s.aH) (k:=i) ac;cases x with
   |dn bQ dH ju oU ja=>
    have u:nX G C (i+1) s:=.skip g (.inr ⟨_,_,_,_,_,J⟩);refine PX ?_;refine aa 28 ?_;all_goals exact Out.z' cA (i+1,gA,s) ⟨Uk,u,a,R⟩ MU (t:=NM)
   |up M g4 s1=>
    have t:=mK.up _ _ _ _ J;have Yo:=(cT.1 J).1;have q:=ar.W7 (Q:=λr (z:cW×aC×Int)=>oQ s1 s.now z.2.2 z.2.1/\r=I z.2.2) (N:=λz=>.up M z.1 z.2.1) J (ar.post (afg M g4 s1 s.now (k+1+1043000*i) t.y t.v t.bt ac (by rw[t.on];exact cO _) (by rw[t.pL];exact cO _)) (by rintro v T⟨bD,cE,kG,bg,rfl,rfl⟩;exact⟨_,⟨(bD,cE,kG),⟨bg,rfl⟩,rfl⟩,λ_ _ _ h=>h⟩));have U (F:cW) (s2:aC) (Y:Int) (Z:oQ s1 s.now Y s2):=zV b gA {s with aH:=s.aH.set i (.up M F s2)} (k+1+1043000*i+43000) i M F s2 (((mK.z i).mono ac).set _).toClP ac (by show(s.aH.set i _)[i]?=_;rw[oT Yo]) (by have:=(Z.up t (gg _)).1.ol;omega) (by have:=(Z.up t (gg _)).1.fJ;omega);have lE (F:cW) (s2:aC) (Y:Int) (Z:oQ s1 s.now Y s2):=zU b gA s (y:=.up M F s2) J (Z.up t (gg _)).2 rfl;have P (b7:G i=false):nX G C (i+1) s:=.skip g (.inl b7);have u (b7:G i=true) (F:cW) (s2:aC) (Y:Int) (x2:bw) (Z:oQ s1 s.now Y s2) (eh:lp {s with aH:=s.aH.set i (.up M F s2)} i x2):nX G C (i+1) x2:=.tick g b7 J Z eh;have Yq:=R8 e cV E e5 off l (i:Int) ew ac;have Yt:=Yv i;clear t mK g Yh h Yr;refine PX ?_;refine aa 4 ?_;refine ah.mt [0,1,5,6,24,25,26] (λ_:Unit=>True) (λ_=>[(42,B (G i))]) (λ_=>[]) (i:=[]) ?_ ?_
    .intro fM p;clear q U lE P u cA;by_cases Yl:l.length=0
     .have Y:bd .eql (l.length:Int) 0=some true:=by simp only[bd];congr 1;rw[dl];omega
      rw[Yt,ic Yl,Bool.true_or]at p;refine aa 6 ?_;refine ai.v (V.cmp rfl rfl Y) ?_;refine aa 7 ?_;all_goals exact Out.z' p () trivial trivial
     .have Y:bd .eql (l.length:Int) 0=some false:=by simp only[bd];congr 1;rw[jZ];omega
      rw[Yt,lg Yl,wI]at p;refine aa 6 ?_;refine ai.v (V.cmp rfl rfl Y) ?_;refine aa 8 ?_;all_goals exact Out.z' p () trivial trivial
    rintro⟨⟩-;refine bl ?_;cases Yu:G i
    .have j:=P Yu;clear q U lE P u;refine aa 8 ?_;all_goals exact Out.z' cA (i+1,gA,s) ⟨Uk,j,a,R⟩ MU (t:=NM)
    .have j:=u Yu;clear P u Yq;refine aa 9 ?_;rintro j7 s2⟨X,⟨⟨Yg,rfl⟩,rfl⟩⟩;refine aa 3 ?_;have d:oQ s1 s.now X.2.2 X.2.1:=by assumption
     have c2:=U X.1 X.2.1 X.2.2 d;have Yw:=λx2=>j X.1 X.2.1 X.2.2 x2 d;rw[lE X.1 X.2.1 X.2.2 d]at c2;unfold dw dL at c2;rw[a,R,m]at c2;clear q U lE j;obtain⟨F,s2,Y⟩:=X;dsimp only[List.cons_append,List.nil_append]at c2 Yw⊢;refine aa 4 ?_;rintro v3 oF⟨Yx,⟨Yy,⟨⟨Yg,Yi,Yj⟩,rfl,rfl⟩⟩⟩;refine aa 8 ?_;all_goals exact Out.z' cA (i+1,Yx,Yy) ⟨Uk,Yw _ TX,TX,TX⟩ MU (t:=QV)
  .obtain rfl:i=c.aH.length:=by omega
   have dx:bd .lss (c.aH.length:Int) (c.aH.length:Int)=some false:=Sl
   clear cA;have q:=Yh s g;unfold b5 dw dL;refine bl ?_;refine aa 2 ?_;refine ai.v (V.cmp rfl rfl dx) ?_;refine aa 16 ?_;all_goals exact⟨_,_,⟨gA,s,0,q,rfl,rfl⟩,Uc⟩
inductive qa(c:bw):Nat->bw->Prop where
 |nil:qa c 0 c
 |step {j:Nat} {hV jm:bw} {e:Int} (h:qa c j hV) (cu:hV.bo≠[]) (cN:nW hV 0 e jm):qa c (j+1) jm
def rT(c:bw)(G:Int)(g:bw):Prop:=∃j:Nat,qa c j g/\(j:Int)<=Max.max G 0/\(G<=(j:Int)\/g.bo=[])
def qa.cQ{j:Nat}{c g:bw}(h:dc k c)(Q:qa c j g):dc (k+1042300*j) g:=by
 induction Q with
 |nil=>exact h
 |step _ _ j d=>exact(j.cQ d).mono ac
def IW(b:Nat)(L:hj)(c:bw)(G:Int)(k:Nat)(h:dc k c)(u:k<=80000000000)(K:G<=5000):ar prog 17 [aw b 0,I G] (b5 b L c) (λr J=>∃T g n,rT c G g/\r=I n/\J=b5 b T g):=by
 refine aE func17 λW=>?_;generalize bn _=D;refine aa 12 ?_;refine ah.cp [0,1] (λz:Nat×hj×bw=>(z.1:Int)<=Max.max G 0/\qa c z.1 z.2.2) (λz=>[(5,I (z.1:Int))]) (λz=>b5 b z.2.1 z.2.2) (λz=>5001-z.1) (0,L,c) ⟨by show((0:Nat):Int)<=_;omega,.nil⟩ ?_;rintro⟨j,L,U⟩⟨y,w⟩ K n;dsimp only at y w;have P:=w.cQ h;have K:=Df L U.bo U.cut U.lost;refine bl ?_;by_cases m:(j:Int)<G
 .have m:bd .lss (j:Int) G=some true:=by simp[bd];omega
  by_cases z:U.bo=[]
  .have Y:bd .gtr (U.bo.length:Int) 0=some false:=by rw[z];rfl
   have D:rT c G U:=⟨j,w,y,.inr z⟩
   clear n;unfold b5 dw dL;refine aa 8 ?_;refine ai.v (V.cmp rfl rfl m) ?_;refine OX ?_;refine aa 17 ?_;all_goals exact⟨_,_,⟨L,U,_,D,rfl,rfl⟩,Uc⟩
  .have i:0<U.bo.length:=pH.2 z;have Y:bd .gtr (U.bo.length:Int) 0=some true:=by simp only[bd];congr 1;rw[dl];omega
   have f:=IP b L U 0 (k+1042300*j) P ac;have D (e:Int) (i:bw) (r:nW U 0 e i):qa c (j+1) i:=.step w z r;unfold b5 dw dL at f⊢;refine aa 8 ?_;refine ai.v (V.cmp rfl rfl m) ?_;refine OX ?_;refine aa 11 ?_;rintro _ _⟨f,t,a,l,rfl,rfl⟩;refine aa 9 ?_;all_goals(refine Out.z' n (j+1,f,t) ?_ (by show 5001-(j+1)<5001-j;omega) (t:=QV);exact ⟨by show((j+1:Nat):Int)<=_;omega,D _ _ TX⟩)
 .have m:bd .lss (j:Int) G=some false:=by simp[bd];omega
  have D:rT c G U:=⟨j,w,y,.inl ac⟩
  clear n;unfold b5 dw dL;refine aa 8 ?_;refine ai.v (V.cmp rfl rfl m) ?_;refine aa 25 ?_;all_goals exact⟨_,_,⟨L,U,_,D,rfl,rfl⟩,Uc⟩
def wd(n:Int)(i:Nat)(x:cC):Prop:=∃b L s,x=.up b L s/\nm n (i:Int) 0 s.bQ (hQ n [] [] 0) s
structure ns(n:Int)(c:bw):Prop where
 aI:c.n=n
 len:(c.aH.length:Int)=n
 up:∀i x,c.aH[i]?=some x->wd n i x
 bo:c.bo=[]
 cut:c.cut=List.replicate 49 false
 lost:c.lost=0
 now:c.now=0
 told:c.told=[]
def IX(n:Int):v8 n [] [] 0:=⟨λy F=>K6,rfl,cO _,rfl⟩
def wd.up(a:n=3\/n=5\/n=7){i:Nat}(ao:(i:Int)<n){x:cC}(h:wd n i x):∃b L s,x=.up b L s/\oS 2000 n 0 i s/\s.out=[]/\s.dX=[]/\s.leads=[]/\s.bp=[]/\s.aA=hQ n [] [] 0/\s.told=[]:=by
 obtain⟨b,L,s,rfl,p⟩:=h;obtain⟨Y,N,R,Z,c,M,m,U,K⟩:=p.up a ao ⟨gg _,T6⟩ (IX n);have l:nU s.aA [] []:=by rw[U];exact⟨λy F=>K6,rfl,rfl,λx=>rfl⟩
 exact⟨b,L,s,rfl,⟨Y,N,c,[],l⟩,N,Z,M,m,U,c⟩
def ns.y(a:n=3\/n=5\/n=7){c:bw}(h:ns n c):dc 2000 c:=by
 refine⟨⟨⟨by rw[h.aI];exact a,by rw[h.aI];exact h.len⟩,by rw[h.cut];rfl,by rw[h.bo];exact cO _,by rw[h.lost];decide,by rw[h.told];exact cO _,by rw[h.now];decide⟩,λi b L s U=>?_,λi g o l Y m U=>?_,λx U=>?_⟩
 .have ao:=(cT.1 U).1;have T:=h.len;obtain⟨k,u,d,e,R,_⟩:=(h.up i _ U).up a ac;cases e;rw[h.aI,h.now];exact R
 .obtain⟨k,u,d,e,_⟩:=h.up i _ U;cases e
 .rw[h.bo]at U;cases U
def ae9(l:ab cC)(x:cC):aO [fq (l++[x])] (x.es++[fq l]):=by unfold fq;refine aO.aL.trans ((aO.UA (be:=x.es++l.flatMap cC.es) ?_).trans ((aO.refl _).append aO.aL.symm));rw[m1,gn,ov,dT];exact oq
def agM:jj gB:=λx=>by cases x<;>rfl
def aji(a:n=3\/n=5\/n=7):dr prog 44 [I n] (B true):=by have:=Gt n;rwa[ic a]at this
def IY(n:Int)(cM:n=3\/n=5\/n=7):ar prog 25 [I n] [cJ] (λr J=>∃b L c,ns n c/\r=.tuple #[aw b 0,I 0]/\J=b5 b L c):=by
 have hJ:=aji cM;have Yo:ar prog 45 [] [] (λv J=>∃b,v=aw b 0/\J=[aL (fO b (.slice none 0 0) [] (List.replicate 49 false) 0)]):=by refine ar.UB ahl ?_;rintro v J W D w⟨b,rfl,rfl⟩ cy;exact⟨_,⟨b,rfl,rfl⟩,cy.eqv aO.aL.symm⟩
 refine aE func25 λW=>?_;generalize bn _=D;refine ah.Ur gs 112 1 ?_;refine ah.Ur gB 36 1 ?_;refine ah.Ur gi.c 67 8 ?_;refine aa 21 ?_;rintro _ _⟨p,rfl,rfl⟩;refine aq 2 λT=>?_;refine aa 11 ?_;refine ah.eqv (aO.append (an:=[]) (be:=[fq []]) aO.aL.symm (aO.refl _)) ?_;obtain⟨M,Yk⟩:∃k:Nat,n=(k:Int):=⟨n.toNat,ac⟩
 refine ah.cp [16,4,0] (λz:ab cC×aj×aj=>z.1.length<=M/\(∀i x,z.1[i]?=some x->wd n i x)/\(z.1.length=0\/∃p9 ow mL lF,z.2.1=.slice (some ⟨p9,0,none⟩) z.1.length ow/\z.2.2=.slice (some ⟨mL,0,none⟩) z.1.length lF)) (λz=>[(17,I (z.1.length:Int))]) (λz=>[cells T 85 (kK.c ⟨n,z.2.1,z.2.2,aw p 0,0,.slice none 0 0⟩),rows gs z.2.1 112 1 z.1,rows gB z.2.2 36 1 z.1,fq z.1]) (λz=>M-z.1.length) ([],.slice none 0 0,.slice none 0 0) ⟨cO _,λi x h=>Uj,.inl rfl⟩ ?_;rintro⟨l,dH,qQ⟩⟨dz,ew,dU⟩ K cA;dsimp only at dz ew dU;refine bl ?_;by_cases Yc:l.length<M
 .have dx:bd .lss (l.length:Int) n=some true:=by simp only[bd];congr 1;rw[dl];omega
  have s (bQ:Nat) (v:aj):ar prog 47 [aw bQ 0,I n,I (l.length:Int),I 0] (fC bQ v [] 0) (λr J=>∃b L q,nm n (l.length:Int) 0 bQ (hQ n [] [] 0) q/\r=.tuple #[aw b 0,I 0]/\J=[aL (cb b L q)]):=by refine ar.UB (IA bQ v n (l.length:Int) 0 [] [] 0 cM ⟨tO _,ac⟩ ⟨gg _,T6⟩ (λy F=>K6) rfl T6) ?_;rintro v J W D w⟨b,L,q,bg,rfl,rfl⟩ cy;exact⟨_,⟨b,L,q,bg,rfl,rfl⟩,cy.eqv aO.aL.symm⟩
  have u:=MP;unfold fC at s u;refine aa 2 ?_;refine ai.v (V.cmp rfl rfl dx) ?_;refine aa 17 ?_;rintro _ _⟨Z,Yn,rfl,rfl⟩;refine aa 9 ?_;refine ai.p' rfl (s _ _) ?_;rintro _ _⟨a,N,P,Yf,rfl,rfl⟩;refine aa 8 ?_;have dy:nm n (l.length:Int) 0 Z (hQ n [] [] 0) P:=TX
  have C:P.bQ=Z:=(dy.up cM ac ⟨gg _,T6⟩ (IX n)).2.2.1;have Yi:wd n l.length (.up a N P):=⟨_,_,_,rfl,by rw[C];exact dy⟩
  generalize F:cC.up a N P=y at*;have Yl:y.ptr=aw a 0:=by rw[<-F];rfl
  have Ym:y.bQ=Z:=by rw[<-F];exact C
  have j:y.es=cb a N P:=by rw[<-F];rfl
  refine ah.iN (a2:=[fq (l++[y]),cells T 85 (kK.c ⟨n,dH,qQ,aw p 0,0,.slice none 0 0⟩),rows gs dH 112 1 l,rows gB qQ 36 1 l,aL (fO p (.slice none 0 0) [] (List.replicate 49 false) 0),rows gi.c (.slice none 0 0) 67 8 [],cJ]) (λw cG=>?_) ?_
  .have lE:=(aO.append (aO.aL (be:=cb a N P)) (aO.refl [fq l])).trans (by rw[<-j];exact(ae9 l y).symm);have bY:=H.eqv (lE.append (aO.refl _)) (cG.UP (be:=[aL (cb a N P),fq l]) Uc);exact bY.gW Uc
  have E:gs y=[aw Z 0]:=by unfold gs;rw[Ym]
  have Q:gB y=[aw a 0]:=by unfold gB;rw[Yl]
  have X:[y].flatMap gs=[aw Z 0]:=by rw[gn,E];rfl
  have Y:[y].flatMap gB=[aw a 0]:=by rw[gn,Q];rfl
  clear u s;have Yg:(l++[y]).length=l.length+1:=by rw[b2];rfl
  have Yh:∀i x,(l++[y])[i]?=some x->wd n i x:=λi x U=>by
   by_cases ao:i<l.length
   .rw[rh ao]at U;exact ew i x U
   .rw[ji ac]at U;have eE:i-l.length=0:=by have:=(cT.1 U).1;rw[ox]at this;omega
    rw[eE,qk]at U;cases U;rw[show i=l.length by omega];exact Yi
  have Ye:I ((l.length:Int)+1)=I (((l++[y]).length:Nat):Int):=by rw[Yg];rfl
  refine ah.Uv [18,21] ?_ aB.j.j.j.j.j.d'.j aB.j.j.j.j.j.j.j;refine ae 5 0 ?_;refine ae 1 6 ?_;refine ae 3 9 ?_;refine ae 1 13 ?_;refine af.t 5 rfl (V.C' ad) ?_;refine af.t 12 rfl (V.C' ad) ?_;refine af.bv 7 14 rfl rfl ?_ ?_;refine O.Q' ad gs [y] rfl (bI.one rfl bI.nil) X rfl (λYj=>?_);refine au ?_;refine af.bv 8 14 rfl rfl ?_ ?_;refine O.U' (f:=gs) (m:=[y]) ad rfl rfl T8 (cq.rows (f:=gs) (l:=[y]) ad T1 (λ_=>rfl)) (λo d=>?_);refine au ?_;refine af.q' 14 rfl (O.Q' ad gB [y] rfl (bI.one rfl bI.nil) Y rfl (λG=>?_));refine KQ λR g=>?_;rotate_left;refine O.Q' ad gB [y] rfl (bI.one rfl bI.nil) Y rfl (λG=>?_);refine Nn λo d R g=>?_;rotate_left;refine O.Q' ad gB [y] rfl (bI.one rfl bI.nil) Y rfl (λG=>?_);refine au ?_;refine af.q' 7 rfl (O.Q' ad gs [y] rfl (bI.one rfl bI.nil) X rfl (λYj=>?_));refine Nn λo d R g=>?_;rotate_left;all_goals(refine Out.z' cA (l++[y],.slice (some ⟨o,0,none⟩) (l++[y]).length d,.slice (some ⟨R,0,none⟩) (l++[y]).length g) ?_ (by show M-(l++[y]).length<M-l.length;omega) (z:=de.cons rfl Ye (de.cons rfl rfl (de.cons rfl rfl (de.cons rfl rfl de.nil))));exact ⟨by show(l++[y]).length<=M;omega,Yh,.inr ⟨_,_,_,_,rfl,rfl⟩⟩)
 .clear cA;have dx:bd .lss (l.length:Int) n=some false:=by simp only[bd];congr 1;rw[jZ];omega
  obtain⟨p9,ow,mL,lF,rfl,rfl⟩:=dU.resolve_left ac;have D:ns n ⟨n,l,[],List.replicate 49 false,0,0,[]⟩:=⟨rfl,by show(l.length:Int)=n;omega,ew,rfl,rfl,rfl,rfl,rfl⟩
  refine aa 2 ?_;refine ai.v (V.cmp rfl rfl dx) ?_;refine aa 18 ?_;all_goals exact⟨_,_,⟨T,⟨p9,ow,mL,lF,p,.slice none 0 0,.slice none 0 0⟩,_,D,rfl,rfl⟩,Uc⟩
abbrev uC:bN->aj:=λd=>A d.c
structure nY where
 n:Int
 c:bw
 my:ab (ag×bN)
 w:ab (ag×Int)
 dZ:Int
structure we where
 na:Nat
 qF:Nat
 pW:Nat
 L:hj
def lq(p:Nat)(T:we)(u:nY):ab ax:=[cells p 41 (lf.c ⟨aw T.na 0,u.n,.map (some T.qF),.map (some T.pW),u.dZ⟩),bz cg uC T.qF u.my,bz cg fl T.pW u.w]++b5 T.na T.L u.c
def uD:hv prog 38 46 29=true:=rfl
def af7:hv prog 39 46 3=true:=rfl
def ahu(n:Int)(p:n=3\/n=5\/n=7):ar prog 10 [I n] [cJ] (λr J=>∃y T u,(ns n u.c/\u.n=n/\u.my=[]/\u.dZ=0)/\r=aw y 0/\J=lq y T u):=by
 have E:ar prog 25 [I n] [cJ] (λr J=>∃b L c,ns n c/\r=.tuple #[aw b 0,I 0]/\J=[aL (b5 b L c)]):=by refine ar.UB (IY n p) ?_;rintro v J W D w⟨b,L,c,Y,rfl,rfl⟩ a;exact⟨_,⟨b,L,c,Y,rfl,rfl⟩,a.eqv aO.aL.symm⟩
 suffices h:ar prog 10 [I n] [cJ] (λr J=>∃y b L c t P,ns n c/\r=aw y 0/\J=[cells y 41 (lf.c ⟨aw b 0,n,.map (some t),.map (some P),0⟩),bz cg uC t [],bz cg fl P [],aL (b5 b L c)]) by refine ar.UB h ?_;rintro v J W D w⟨y,b,L,c,t,P,Y,rfl,rfl⟩ a;refine⟨_,⟨y,⟨b,t,P,L⟩,⟨n,c,[],[],0⟩,⟨Y,rfl,rfl,rfl⟩,rfl,rfl⟩,?_⟩;have N:=a.eqv (aO.append (aO.refl [cells y 41 (lf.c ⟨aw b 0,n,.map (some t),.map (some P),0⟩),bz cg uC t [],bz cg fl P []]) (aO.aL (be:=b5 b L c)));unfold lq;exact N
 refine aE func10 λW=>?_;refine aa 9 ?_;rintro _ _⟨L,p,y,E,rfl,rfl⟩;refine aa 12 ?_;refine ai.o (av.mkMap cg uC rfl (λv=>?_));refine ai.o (av.mkMap cg uC rfl (λn=>?_));refine aq 1 λT=>?_;refine aa 5 ?_;all_goals exact⟨_,_,⟨_,_,_,_,_,_,TX,rfl,rfl⟩,Uc⟩
inductive hF(c:bw)(a:fS):bw->Option ag->Prop where
 |sub {cx:bw} {x:ag} {e:Int} (cc:a.Kind=0) (h:nr c a.a1 a.cv x e cx):hF c a cx (if e=0 then some x else none)
 |take {cx:bw} {e:Int} (cc:a.Kind=1) (h:nW c a.N e cx):hF c a cx none
 |half {cx:bw} {e:Int} (cc:a.Kind=2) (h:ux c a.N e cx):hF c a cx none
 |Dk {cx:bw} {e:Int} (cc:a.Kind=3) (h:wb c a.N e cx):hF c a cx none
 |Dl {cx:bw} {e:Int} (cc:a.Kind=4) (h:uA c a.N e cx):hF c a cx none
 |tick {cx:bw} {e:Int} (cc:a.Kind=5) (gW:Nat->Bool) (h:wc gW c e cx):hF c a cx none
 |x3 {cx:bw} {e:Int} (cc:a.Kind=6) (h:uy c a.a1 e cx):hF c a cx none
 |start {cx:bw} {e:Int} (cc:a.Kind=7) (h:uz c a.a1 e cx):hF c a cx none
 |cut (cc:a.Kind=8):hF c a {c with cut:=p7 c.cut a.a1 a.N} none
 |Dm (cc:a.Kind=9):hF c a {c with cut:=List.replicate 49 false} none
 |settle {cx:bw} (cc:a.Kind=10) (h:rT c (Min.min a.N 60) cx):hF c a cx none
 |none (cc:a.Kind<0\/10<a.Kind):hF c a c none
def q1(m:ab (ag×bN))(d:bN):aT ag->ab (ag×bN)
 |some x=>bx m x d
 |.none=>m
def x4(u:nY)(a:fS)(y:nY):Prop:=∃o,hF u.c a y.c o/\y.my=q1 u.my a.cv o/\y.dZ=u.dZ+1/\y.n=u.n
def hF.cQ{c g:bw}{a:fS}{o:aT ag}(h:dc k c)(u:k<=1000000000000)(K:hF c a g o):dc (k+70000000) g:=by
 cases K with
 |sub _ Y=>exact(Y.cQ h).mono ac
 |take _ Y=>exact(Y.cQ h).mono ac
 |half _ Y=>exact(Y.cQ h).mono ac
 |Dk _ Y=>exact(Y.cQ h).mono ac
 |Dl _ Y=>exact(Y.cQ h).mono ac
 |tick _ D Y=>exact(Y.cQ h).mono ac
 |x3 _ Y=>exact(Y.cQ h).mono ac
 |start _ Y=>exact(Y.cQ h u).mono ac
 |cut _=>exact(h.ZI ((ajR ..).trans h.cut)).mono ac
 |Dm _=>exact(h.ZI rfl).mono ac
 |settle _ Y=>
  obtain⟨j,y,N,_⟩:=Y;have:j<=60:=ac
  exact(y.cQ h).mono ac
 |none _=>exact h.mono ac
end Go.Proofs.YteogojgnkjegmaaGreatDoor
