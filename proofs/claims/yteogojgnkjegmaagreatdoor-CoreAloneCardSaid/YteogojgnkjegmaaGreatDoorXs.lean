/-
 Part of the proof.
-/
import Derived.Test.YteogojgnkjegmaaGreatDoorXr
set_option linter.all false
set_option maxRecDepth 8000
set_option maxHeartbeats 8000000
namespace Go.Proofs.YteogojgnkjegmaaGreatDoor
open Go.ay Go.Proofs.Tryz
variable[Go.ay.bR]
variable{n:Int}
theorem Fy{s:bE}(h:s.ok)(x:ag):(b7 s.p x).Call.cz.Key.length<=16/\0<=(b7 s.p x).Call.Seq/\(b7 s.p x).Call.Seq<=1099511627776:=by
 unfold b7;cases Q:s.p.at x with
 |none=>exact⟨XG,XG,XG⟩
 |some i=>
  have:=((tJ h.p).1 h.gE x i Q).2;have u:=nQ (nS this).2.2.2.2.1;exact⟨(re u.1).2.2.1,u.2.2.1,u.2.2.2⟩
def ach(E Q:Nat)(X:dZ)(s:bE)(d:bP)(q:ag)(h:s.ok)(j:hg X.L s.p)(b:d.Key.length<=16)(R:X.L.cU<=1000000000000):ar prog 56 [au E 0,A d.c,A q.c] (gF E Q X s) (λr Y=>r=.tuple #[A (eV s.p d q).1.c,I (eV s.p d q).2]/\Y=gF E Q X s):=by
 obtain⟨T,u,t,C,P⟩:=X;dsimp only at j R;have v (a o:Nat):=KN a o E T t d (λk D=>by have:=j.2 k D;omega) ac (by unfold fQ.cU at R;omega);have f (x:ag):=zS T u Q C P s x h.p.towf;have w:=KK (au E 0) rfl d;unfold gF hJ fP at*;unfold zT at v;refine bh ?_;refine aB func56 λW=>?_;refine aa 2 ?_;refine ai.o (O.R9 (λa=>?_));refine aq 0 λU=>?_;refine aq 0 λK=>?_;refine aq 0 λR=>?_;refine aq 5 λg=>?_;refine aq 4 λJ=>?_;refine aa 19 ?_;rintro _ _⟨Y,F,rfl,rfl⟩;refine aa 4 ?_;refine ah.WY (v _ _) (λy:bI×Int=>[cells T 120 (kK.c ⟨au Q 0,s.n,au u 0⟩),jP u C s.p,cells Q 156 (kp.c ⟨P,s.safe⟩),dF c0 P 5 1 s.data,cells a 35 [au E 0],cells U 29 d.c,cells K 46 q.c,cells g 50 y.1.c,cells J 3 [I y.2]])
  (λpre y=>y=nZ s.p d q pre) (λ_ _ _=>False) (bI.z,0) rfl ?_ ?_ ?_
 .rintro pre x z⟨Y,N⟩ r rec U G o W k J g;have F:=Fy h x;have K:=aaZ (b7 s.p x).Call.cz d ac ac;have a:=KC Y x;have F:=f x;have z:=Nq s.p d q pre x;rw[<-G]at z;refine bh ?_;by_cases f:ow (b7 s.p x).Call.cz d=true
  .rw[f]at K;refine MV (λm w=>?_) (λm=>?_) λm=>?_;refine L1 (λU=>?_) λU=>?_;refine ae 5 4 ?_;refine af.t 3 rfl (V.y' ad) ?_;refine ae 1 9 ?_;refine I6 ?_;refine RC ?_;rotate_left;refine aa 11 ?_;rotate_left;refine O.K' ad (λw=>?_);refine av ?_;refine af.o' 5 rfl rfl (F) ?_;refine aa 2 ?_;refine L1 (λU=>?_) λU=>?_;refine ae 2 4 ?_;refine af.t 3 rfl (V.y' ad) ?_;refine af.bu 0 6 rfl rfl ?_ ?_;refine Lf ?_ ?_ ?_;refine RC ?_;rotate_left;refine O.Tc ad ?_;refine av ?_;refine ae 4 6 ?_;refine RC ?_;rotate_left;refine OA ?_;refine ae 1 2 ?_;refine ae 1 10 ?_;refine RC ?_;rotate_left;refine OA ?_;refine I6 ?_;refine RC ?_;rotate_left;refine aa 11 ?_;rotate_left;refine Mx λw=>?_;refine af.o' 5 rfl rfl (F) ?_;refine aa 2 ?_;refine L1 (λU=>?_) λU=>?_;refine ae 2 4 ?_;refine af.t 3 rfl (V.y' ad) ?_;refine af.bu 0 6 rfl rfl ?_ ?_;refine Lf ?_ ?_ ?_;refine RC ?_;rotate_left;refine O.Tc ad ?_;refine av ?_;refine ae 4 6 ?_;refine RC ?_;rotate_left;refine OA ?_;refine ae 1 2 ?_;refine ae 1 10 ?_;refine RC ?_;rotate_left;refine OA ?_;refine I6 ?_;refine RC ?_;rotate_left;refine aa 11 ?_;rotate_left;all_goals first
    |exact Out.rd g (js Y x,Max.max N (Min.min ((b7 s.p x).Call.Seq+1) 1099511627776)) (by show _=nZ s.p d q (pre++[x]);rw[z];unfold ip;rw[aT ⟨XF,f⟩])
    |exact Out.rd g (Y,N) (by show _=nZ s.p d q (pre++[x]);rw[z];unfold ip;rw[aN (λy=>y.1 XF)])
  .rw[show ow (b7 s.p x).Call.cz d=false by simpa using f]at K;refine MV (λm w=>?_) (λm=>?_) λm=>?_;refine ae 1 7 ?_;refine aa 8 ?_;refine RA (λU=>?_) λU=>?_;rotate_left;refine aa 11 ?_;rotate_left;refine O.K' ad (λw=>?_);refine av ?_;refine af.o' 5 rfl rfl (F) ?_;refine aa 2 ?_;refine ae 1 7 ?_;refine aa 8 ?_;refine RA (λJ=>?_) λJ=>?_;rotate_left;refine aa 11 ?_;rotate_left;refine Mx λw=>?_;refine af.o' 5 rfl rfl (F) ?_;refine aa 2 ?_;refine ae 1 7 ?_;refine aa 8 ?_;refine RA (λZ=>?_) λZ=>?_;rotate_left;refine aa 11 ?_;rotate_left;all_goals exact Out.rd g (Y,N) (by show _=nZ s.p d q (pre++[x]);rw[z];unfold ip;rw[aN (λy=>f y.2)])
 .rintro Z⟨Y,N⟩ c L G;rw[Nw h.p j L]at G;refine bh ?_;rw[<-G];refine aa 3 ?_;refine ah.n' ?_ aA.j.j.j.j.j.j.j.d'.d'.j.j.j.j.j.j.j.j;refine ae 4 0 ?_;exact aM 4
 exact X6
def gG(n:Int)(l:ab dY)(bT:ab aP)(i:Int):bE:=⟨n,iG (aJ.new n) l,b5 l,if bT=[]then i else((b5 l).length:Int)⟩
def ad4{p:aJ ba}(r:p.ok)(h:jr n p.all){l:ab dY}(E:jr n l):jr n (iG p l).all:=by
 induction l generalizing p with
 |nil=>exact h
 |cons y l T=>
  refine T (aJ.SL r y.1 y.2) ?_ λx U=>E x (by simp[U]);rw[tJ (aJ.SL r y.1 y.2)];intro x i ao;rw[aJ.Sn r]at ao;split at ao
  .rename_i u;cases ao;rw[u.2];exact E y XE
  .exact(tJ r).1 h x i ao
def adJ(n:Int):(aJ.new n:aJ ba).all=[]:=by
 cases h:(aJ.new n:aJ ba).all with
 |nil=>rfl
 |cons y l=>
  have:y∈(aJ.new n:aJ ba).all:=by rw[h];simp
  have:=(aJ.Sp (aJ.R8 n)).1 this;rw[aJ.SM]at this;cases this
def Ax{l:ab dY}{bT:ab aP}{i:Int}(v:n=3\/n=5\/n=7)(E:jr n l)(b:(b5 l++bT).length<=65536):(gG n l bT i).ok:=by
 have r:=xt (aJ.R8 n:(aJ.new n:aJ ba).ok) l;refine⟨v,r,?_,?_,?_⟩
 .show(iG (aJ.new n) l).aS=n;rw[zQ];show Min.min (Max.max n 0) 7=n
  omega
 .exact ad4 (aJ.R8 n) (by rw[adJ];intro y G;cases G) E
 .show(b5 l).length<=65536;rw[bM]at b;omega
def fQ.new(g f:Nat):fQ:=⟨g,f,.slice none 0 0,[],[],[],[co.z],gA _⟩
def ah.Xj{P:bF}{r:aQ Nat}{W:aY}{D:ab Nat}{n:c7}{Q:cE}{J:bv}{N:ab ax}{c:Go.Code}(h:ah P r W D n Q c J (cR [co.z]::N)):ah P r W D n Q c J N:=by refine ah.RK ag.c 46 2 ?_;refine ah.eqv (bc:=cR [co.z]::N) ?_ h;exact((cR.cons co.z []).trans ((aL.refl [vH co.z]).append aL.aI)).symm.append (aL.refl N)
def age(Q:Nat)(v:aj)(n:Int)(l:ab dY)(bT:ab aP)(Y:Int)(D:n=3\/n=5\/n=7)(q:jr n l)(eB:(fV bT).2=0)(ef:(b5 l++bT).length<=65536):ar prog 73 [au Q 0,I n] (fc Q v (b5 l++bT) Y) (λr F=>∃dC X,hg (dZ.L X) (gG n l bT Y).p/\X.L.cU<=1345/\r=.tuple #[au dC 0,I 0]/\F=gF dC Q X (gG n l bT Y)):=by
 have kP:=abA Q v n l bT Y D q eB ef;have f:=Ax (i:=Y) D q ef;generalize cf:gG n l bT Y=s at*;have K:ar prog 101 [au Q 0,I n] (fc Q v (b5 l++bT) Y) (λr F=>∃U j u L,r=.tuple #[au U 0,I 0]/\F=fP U j Q L u s):=by refine ar.post kP ?_;rintro r F⟨U,j,u,L,rfl,rfl⟩;exact⟨_,⟨U,j,u,L,rfl,by rw[<-cf];rfl⟩,λ_ _ _ h=>h⟩
 unfold fc at*;unfold fP at K;have dO (U j:Nat) (L:jO) (du:aj):=Ea U j Q L du s;unfold fP at dO;refine aB func73 λW=>?_;refine aa 11 ?_;rintro _ _⟨w,m,P,Z,rfl,rfl⟩;refine aa 21 ?_;refine ai.o (aw.mkMap kU eR rfl (λC=>?_));refine ai.o (aw.mkMap kU eR rfl (λG=>?_));refine aq 1 λt=>?_;refine aq 0 λsh=>?_;refine aa 7 ?_;refine ai.o' rfl (dO _ _ _ _) ?_;rintro _ _⟨R,rfl,rfl⟩;refine aa 4 ?_;refine ah.Xj ?_;refine ah.rg (vE R m Z s.p f.p.towf) (λy:fQ=>[cells sh 35 [au t 0],cells t 101 (iS.c ⟨au w 0,.map (some y.hf),y.fO,.map (some y.dA)⟩),bn kU eR y.hf y.keys,bn pp eR y.dA y.eb,cR y.g])
  (λpre y=>(∀z∈pre,Loc y z.1 z.2.Call.cz)/\(∀k∈y.keys.map (·.1),k.length<=16)/\y.cU<=1+3*pre.length) (λ_ _ _=>False) (fQ.new C G) ⟨XE,by simp[fQ.new],by simp[fQ.new,fQ.cU,jt,co.z]⟩ ?_ ?_ ?_
 .rintro pre⟨x,i⟩ d y cb rec T⟨N,M,cp⟩ e6 eh iP zC a;have E:=aJ.SJ f.p.towf;have Yg:pre.length+(d.length+1)=s.p.all.length:=by rw[T];simp
  have cT:=Eh t w y x i.Call.cz ac;have bU:=f.gE (x,i) (by rw[T];simp);have cc:=(re (nQ (nS bU.2).2.2.2.2.1).1).2.2.1;unfold hJ at cT;refine bh ?_;refine aq 2 λFa=>?_;refine aq 4 λYf=>?_;refine aa 11 ?_;refine Rf λYi Yc Ye=>?_;have b:=(by assumption:Found y _ x i.Call.cz)
  have Yh:=(by assumption:fQ.cU _<=y.cU+3)
  refine Out.rd a _ ⟨?_,b.Ef 16 M cc,?_⟩
  .intro z J;rcases eN.1 J with J|J
   .exact b.cx (N z J)
   .obtain rfl:z=(x,i):=by simpa using J
    exact b.here
  exact HV
 .rintro y c⟨N,M,cp⟩;have E:=aJ.SJ f.p.towf;refine bh ?_;refine aa 11 ?_;exact⟨_,_,⟨t,⟨w,m,y,Z,P⟩,⟨λx i ao=>N (x,i) ((aJ.Sp f.p).2 ao),M⟩,by show y.cU<=1345;omega,rfl,rfl⟩,XC⟩
 exact X6
def nn(m:aD)(F:Int):aD:={aD.z with Kind:=F,bm:=m.b3,b3:=m.bm,Item:=m.Item,ch:=m.ch}
def kg(m:aD)(i:ba):aD×Bool:=if i7 m.ch i.cJ then({nn m 8 with ch:=i.cJ},true)else(aD.z,false)
def k2(s:bE)(x:ag)(C k:ba):bE:=if C=k then s else s.add x k
def py(s:bE)(m:aD):aV:=lW m.Call [⟨bP.z,(eV s.p m.Call.cz m.Item).1,(eV s.p m.Call.cz m.Item).2⟩]
def pz(s:bE)(m:aD):Bool:=decide (py s m=m.Call)&&decide (m.ch=⟨0,m.Item.be⟩)
def k3(s:bE)(m:aD)(i:ba):bE×aD×Bool:=
 let r:=ik i m.ch 1 (py s m) (pz s m)
 if r.2 then(k2 s m.Item i r.1,{nn m 2 with dB:=r.1.dB,Call:=r.1.Call},true)else(s,kg m i)
def lC(s:bE)(m:aD)(i:ba):bE×aD×Bool:=
 let r:=ik i m.ch 2 m.Call false
 if r.2 then(k2 s m.Item i r.1,nn m 4,true)else(s,kg m i)
def lD(s:bE)(m:aD)(i:ba):bE×aD×Bool:=
 let r:=lm i m.ch
 if r.2 then(k2 s m.Item i r.1,{nn m 7 with cY:=r.1.cY,Status:=r.1.Status,dB:=r.1.dB,Call:=r.1.Call},true)else(s,kg m i)
def kz(s:bE)(m:aD):bE×aD×Bool:=
 let i:=b7 s.p m.Item
 if(m.Kind=1\/m.Kind=3\/m.Kind=6)/\i.Status=3 then(s,{nn m 5 with Call:=i.Call},true)
 else if m.Kind=1 then k3 s m i
 else if m.Kind=3 then lC s m i
 else if m.Kind=6 then lD s m i
 else if m.Kind=5 then(k2 s m.Item i (oo i m.Call).1,aD.z,false)
 else(s,aD.z,false)
def Ay:e9 bI.z n=true:=by rw[p8];intro k m K;rw[Jk M0]at K;cases K;simp[iW]
def abX:eQ aV.z n=true:=by simp only[eQ,cZ,da];exact⟨XG,Ay,XG,XG⟩
def NC(v:1<=n):fb ba.z n=true:=by
 simp only[fb,cZ,ib,da];have R:eD ba.z.cJ n=true:=by simp only[eD,da];exact⟨XG,XG,XG,by show(0:Int)<n;omega⟩
 exact⟨R,R,XG,XG,abX,.inr trivial⟩
def tZ{s:bE}(h:s.ok)(x:ag):fb (b7 s.p x) s.n=true:=by
 unfold b7;cases Q:s.p.at x with
 |none=>exact NC ZD
 |some i=>exact((tJ h.p).1 h.gE x i Q).2
theorem Fz{i:ba}(F:eD i.cJ n=true)(M:eD i.cY n=true)(g:1<=i.Status)(z:i.Status<=3)(N:eQ i.Call n=true):fb i n=true:=by simp only[fb,cZ,ib,da];grind
def xO{i:ba}{b:bk}(ao:fb i n=true)(R:eD b n=true):fb (lm i b).1 n=true:=by
 unfold lm;split
 .exact ao
 .obtain⟨F,M,g,z,N,E⟩:=nS ao;simp only[fb,cZ,ib,da];grind
def vv{i:ba}{c:aV}(ao:fb i n=true)(u:eQ c n=true):fb (oo i c).1 n=true:=by
 unfold oo;split
 .exact ao
 .obtain⟨F,M,g,z,N,E⟩:=nS ao;grind [Fz]
def ua{i:ba}{b:bk}{st:Int}{c:aV}{f:Bool}(ao:fb i n=true)(R:eD b n=true)(Q:st=1\/st=2)(u:eQ c n=true):fb (ik i b st c f).1 n=true:=by
 have r:=xO (b:=b) ao R;unfold ik;split
 .exact ao
 .grind [lm,Fz]
def aco{k:Nat}{a b:Int}(o:iW n k a=true)(R:iW n k b=true):iW n k (Max.max a b)=true:=XK
def FA{a b:bI}(o:e9 a n=true)(R:e9 b n=true):e9 (jK a b) n=true:=by
 rw[p8]at*;intro k m K;have T:k<7:=M0
 obtain⟨x,y,F,M,g⟩:=Dw a b T;grind
theorem FB{a b:bI}(o:e9 a n=true)(R:e9 b n=true):e9 (mn [a,b]) n=true:=FA (FA Ay o) R
def ND{c d:aV}(u:eQ c n=true)(b:e9 d.dX n=true)(f:d.Seq<=1099511627776):eQ (tA c d) n=true:=by
 simp only[eQ,cZ,da]at u⊢;refine⟨u.1,FB u.2.1 b,?_,?_⟩
 .show 0<=Max.max c.Seq d.Seq;omega
 .show Max.max c.Seq d.Seq<=_;omega
def aeg{c d:aV}(u:eQ c n=true)(b:e9 d.dX n=true)(f:d.Seq<=1099511627776):eQ (lW c [d]) n=true:=by refine ND ?_ b f;simp only[eQ,cZ,da]at u⊢;grind [FB]
theorem abE{d:bI}{x:ag}(b:e9 d n=true)(U:bB x n=true)(v:n<=7):e9 (js d x) n=true:=by obtain⟨F,M,g,z⟩:=tF U;simp only[e9,cZ,iW,ib,da]at b⊢;simp only[js];refine⟨⟨⟨⟨⟨⟨?_,?_⟩,?_⟩,?_⟩,?_⟩,?_⟩,?_⟩<;>(split<;>omega)
def FC{s:bE}(h:s.ok)(d:bP)(q:ag):e9 (eV s.p d q).1 s.n=true/\0<=(eV s.p d q).2/\(eV s.p d q).2<=1099511627776:=by
 have Q:s.n<=7:=ZD
 unfold eV nZ;have i:∀(Z:ab ag) (o:bI×Int),(∀x∈Z,bB x s.n=true)->e9 o.1 s.n=true/\0<=o.2/\o.2<=1099511627776->
   e9 (Z.foldl (ip s.p d q) o).1 s.n=true/\0<=(Z.foldl (ip s.p d q) o).2/\(Z.foldl (ip s.p d q) o).2<=1099511627776:=by
  intro Z
  induction Z with
  |nil=>exactλo _ N=>N
  |cons x Z u=>
   intro o U N;refine u _ (λy G=>U y (by simp[G])) ?_;grind [ip,Fy,abE]
 refine i _ _ ?_ ⟨Ay,XG,XG⟩;intro x U;obtain⟨y,G,rfl⟩:=fh.1 U;exact(h.gE y G).1
def xP{s:bE}(h:s.ok){m:aD}(u:eQ m.Call s.n=true):eQ (py s m) s.n=true:=by obtain⟨F,M,g⟩:=FC h m.Call.cz m.Item;exact aeg u F g
def fe(E Q:Nat)(X:dZ)(s:bE):ax:=aI (gF E Q X s)
section
variable{P:bF}{f:eg}{args:ab aj}{Y:ab ax}
def ar.TQ{J:Type}{Q:aj->J->Prop}{T:J->ab ax}(h:ar P f args Y (λr F=>∃z,Q r z/\F=T z)):ar P f args [aI Y] (λr F=>∃z,Q r z/\F=[aI (T z)]):=
 ar.eqv aL.aI h Kr
def ar.S1{Q:aj->Prop}{T:ab ax}(h:ar P f args Y (λr F=>Q r/\F=T)):ar P f args [aI Y] (λr F=>Q r/\F=[aI T]):=
 ar.eqv aL.aI h (by rintro r F⟨U,rfl⟩;exact⟨_,⟨U,rfl⟩,aL.aI.symm⟩)
end
def FD(E Q:Nat)(X:dZ)(s:bE)(d:bP)(q:ag)(h:s.ok)(o:hg X.L s.p)(b:d.Key.length<=16)(R:X.L.cU<=1000000000000):ar prog 56 [au E 0,A d.c,A q.c] [fe E Q X s] (λr F=>r=.tuple #[A (eV s.p d q).1.c,I (eV s.p d q).2]/\F=[fe E Q X s]):=ar.S1 (ach E Q X s d q h o b R)
def xQ(E Q:Nat)(X:dZ)(s:bE)(x:ag)(h:s.p.wf):ar prog 16 [au E 0,A x.c] [fe E Q X s] (λr F=>r=A (b7 s.p x).c/\F=[fe E Q X s]):=ar.S1 (aa5 E Q X s x h)
def FE(E Q:Nat)(X:dZ)(s:bE):ar prog 84 [au E 0] [fe E Q X s] (λr F=>r=I s.n/\F=[fe E Q X s]):=ar.S1 (Ei E Q X s)
def NG(E Q:Nat)(X:dZ)(s:bE)(x:Int)(h:s.p.wf)(j:0<=x)(U:x<s.n):ar prog 55 [au E 0,I x] [fe E Q X s] (λr F=>r=.tuple #[A (h2 s x).c,B (decide ((s.p.top x:Int)+1<=64))]/\F=[fe E Q X s]):=ar.S1 (acg E Q X s x h j U)
def ab0(E Q:Nat)(X:dZ)(s:bE):ar prog 91 [au E 0] [fe E Q X s] (λr F=>r=I 0/\F=[fe E Q X {s with safe:=(s.data.length:Int)}]):=ar.S1 (aey E Q X s)
def aas(E u:Nat)(X:dZ)(s:bE)(x:ag)(i:ba)(h:s.ok)(J:bB x s.n=true)(ao:fb i s.n=true)(o:hg X.L s.p)(R:X.L.cU<=1000000000000):ar prog 236 [au E 0,A x.c,A i.c] [fe E u X s] (λr F=>∃G:dZ,((G.L.cU<=X.L.cU+3/\hg G.L (s.add x i).p)/\r=I 0)/\F=[fe E u G (s.add x i)]):=by refine ar.TQ (Q:=λr G=>(G.L.cU<=X.L.cU+3/\hg G.L (s.add x i).p)/\r=I 0) (T:=λG=>gF E u G (s.add x i)) ?_;refine ar.post (acU E u X s x i h J ao o R) ?_;rintro r F⟨G,U,M,rfl,rfl⟩;exact⟨_,⟨G,⟨⟨U,M⟩,rfl⟩,rfl⟩,λ_ _ _ h=>h⟩
def xR(E Q:Nat)(X:dZ)(s:bE)(x:ag)(C k:ba)(h:s.ok)(U:bB x s.n=true)(ao:fb k s.n=true)(o:hg X.L s.p)(R:X.L.cU<=1000000000000):ar prog 183 [au E 0,A x.c,A C.c,A k.c] [fe E Q X s] (λr F=>∃G:dZ,(G.L.cU<=X.L.cU+3/\hg G.L (k2 s x C k).p)/\r=B true/\F=[fe E Q G (k2 s x C k)]):=by
 have a:=aas E Q X s x k h U ao o R;unfold k2;by_cases d:C=k
 .subst d;simp only[hA];refine aB func183 λW=>?_;refine Ro λC K F=>?_;refine aa 7 ?_;refine ai.v (V.eq (ba.P' _ _ _)) ?_;refine av ?_;refine ai.de (λU=>?_) (λU=>?_);replace U:=fT U;refine aa 11 ?_;rotate_left;exact ko U;exact⟨_,_,⟨X,⟨iZ _ _,o⟩,rfl,rfl⟩,XC⟩
 .simp only[aN d];refine aB func183 λW=>?_;refine Ro λC K F=>?_;refine aa 7 ?_;refine ai.v (V.eq (ba.P' _ _ _)) ?_;refine aa 6 ?_;rintro x nc⟨U,⟨⟨⟨p,s⟩,rfl⟩,rfl⟩⟩;refine aa 8 ?_;exact⟨_,_,⟨_,⟨XF,XF⟩,rfl,rfl⟩,XC⟩
def oI(m:aD)(F:Int):cX prog 178 [A m.c,I F] (A (nn m F).c):=by refine aB func178 λW=>?_;refine aq 2 λo=>?_;refine aq 0 λh=>?_;exact aM 19
def Az(m:aD)(i:ba):cX prog 233 [A m.c,A i.c] (.tuple #[A (kg m i).1.c,B (kg m i).2]):=by
 have E:=zh m.ch i.cJ;unfold kg;cases o:i7 m.ch i.cJ<;>rw[o]at E
 .simp only[hr,ii];refine aB func233 λW=>?_;refine Ro λo a h=>?_;exact aM 25
 .simp only[hA];refine aB func233 λW=>?_;refine Ro λo a h=>?_;refine aa 20 ?_;refine N6 λC=>?_;exact aM 20
end Go.Proofs.YteogojgnkjegmaaGreatDoor
namespace Go.Proofs.YteogojgnkjegmaaGreatDoor
open Go.ay Go.Proofs.Tryz
variable[Go.ay.bR]
def NJ(c d:aV)(g:Nat):ar prog 202 [A c.c,.slice (some ⟨g,0,none⟩) 1 1] [rows aV.c (.slice (some ⟨g,0,none⟩) 1 1) 52 14 [d]] (λr Y=>r=A (lW c [d]).c/\Y=[rows aV.c (.slice (some ⟨g,0,none⟩) 1 1) 52 14 [d]]):=
 tB _ _ 1 _ _ c [d] (Rd.rows (l:=[d]) aV.len XE)
def oJ{m:aD}{n:Int}(h:gQ m n)(T:iX m.Kind.toNat=true):eQ m.Call n=true:=by have:=h.call;rwa[aT T]at this
def NK(E u:Nat)(X:dZ)(s:bE)(m:aD)(i:ba)(h:s.ok)(R:gQ m s.n)(cc:m.Kind=1)(ao:fb i s.n=true)(d:hg X.L s.p)(bY:X.L.cU<=1000000000000):ar prog 179 [au E 0,A m.c,A i.c] [fe E u X s] (λr U=>∃G:dZ,(G.L.cU<=X.L.cU+3/\hg G.L (k3 s m i).1.p)/\r=.tuple #[A (k3 s m i).2.1.c,B (k3 s m i).2.2]/\U=[fe E u G (k3 s m i).1]):=by
 have eJ:=oJ R (by rw[cc];rfl);have Yf:=nQ eJ;have my:=FD E u X s m.Call.cz m.Item h d (re Yf.1).2.2.1 bY;have N (g:Nat):=NJ m.Call ⟨bP.z,(eV s.p m.Call.cz m.Item).1,(eV s.p m.Call.cz m.Item).2⟩ g;have Yg:=xP (m:=m) h eJ;have a:=ae3 i m.ch (py s m) (pz s m);have bU:=ua (st:=1) (f:=pz s m) ao R.b2 (.inl rfl) Yg;have l:=xR E u X s m.Item i (ik i m.ch 1 (py s m) (pz s m)).1 h R.item bU d bY;have eU:=Az m i;have cT:=w4 m.Item.be;unfold k3;have j:lW m.Call [⟨bP.z,(eV s.p m.Call.cz m.Item).1,(eV s.p m.Call.cz m.Item).2⟩]=py s m:=rfl;rw[j]at N;have Z:pz s m=(decide (py s m=m.Call)&&decide (m.ch=⟨0,m.Item.be⟩)):=rfl;generalize py s m=c at*;generalize eV s.p m.Call.cz m.Item=w at*;generalize pz s m=sm at*;generalize ik i m.ch 1 c sm=v at*;obtain⟨l1,ni⟩:=v;unfold b4 at a;dsimp only at*;generalize Yh:decide (m.ch=⟨0,m.Item.be⟩)=vS at*;generalize D:decide (c=m.Call)=nk at*;have Y (k:Nat):=aV.P' c m.Call k;have P (k:Nat):=bk.P' m.ch ⟨0,m.Item.be⟩ k;simp only[D]at Y;simp only[Yh]at P;subst Z;cases nk
 .rw[sb]at a;cases ni<;>simp only[hA,hr,ii]
  .refine JW λW J C T f x b=>?_;refine ae 9 8 ?_;refine IF (λy=>?_) ?_;refine ae 2 22 ?_;refine aa 24 ?_;rotate_left;refine Kv λy=>?_;refine ae 2 22 ?_;refine aa 24 ?_;rotate_left;all_goals exact⟨_,_,⟨X,⟨iZ _ _,d⟩,rfl,rfl⟩,XC⟩
  .refine JW λW J C T f x b=>?_;refine ae 9 8 ?_;refine IF (λy=>?_) ?_;refine MF λt=>?_;rintro mz AA⟨K,⟨⟨M,q⟩,rfl,rfl⟩⟩;refine PK ?_;rotate_left;refine Kv λy=>?_;refine MF λt=>?_;rintro Yc Yi⟨Q,⟨⟨Ye,F⟩,rfl,rfl⟩⟩;refine PK ?_;rotate_left;all_goals exact⟨_,_,⟨_,⟨XF,XF⟩,rfl,rfl⟩,XC⟩
 .rw[pa]at a;cases ni<;>simp only[hA,hr,ii]
  .refine JW λW J C T f x b=>?_;refine ae 6 8 ?_;refine af.bu 14 21 rfl rfl ?_ ?_;refine aw.fn rfl (cT) ?_;refine av ?_;refine af.i' 15 rfl (V.eq (P _)) ?_;refine ae 1 16 ?_;refine IF (λy=>?_) ?_;refine ae 2 22 ?_;refine aa 24 ?_;rotate_left;refine Kv λy=>?_;refine ae 2 22 ?_;refine aa 24 ?_;rotate_left;refine O.K' ad (λy=>?_);refine av ?_;refine ae 1 14 ?_;refine af.i' 15 rfl (V.eq (P _)) ?_;refine ae 5 16 ?_;refine ae 2 22 ?_;refine aa 24 ?_;rotate_left;all_goals exact⟨_,_,⟨X,⟨iZ _ _,d⟩,rfl,rfl⟩,XC⟩
  .refine JW λW J C T f x b=>?_;refine ae 6 8 ?_;refine af.bu 14 21 rfl rfl ?_ ?_;refine aw.fn rfl (cT) ?_;refine av ?_;refine af.i' 15 rfl (V.eq (P _)) ?_;refine ae 1 16 ?_;refine IF (λy=>?_) ?_;refine MF λt=>?_;rintro mz AA⟨K,⟨⟨M,q⟩,rfl,rfl⟩⟩;refine PK ?_;rotate_left;refine Kv λy=>?_;refine MF λt=>?_;rintro Yc Yi⟨Q,⟨⟨Ye,F⟩,rfl,rfl⟩⟩;refine PK ?_;rotate_left;refine O.K' ad (λy=>?_);refine av ?_;refine ae 1 14 ?_;refine af.i' 15 rfl (V.eq (P _)) ?_;refine ae 5 16 ?_;refine MF λt=>?_;rintro l w⟨J,⟨⟨j,P⟩,rfl,rfl⟩⟩;refine PK ?_;rotate_left;all_goals exact⟨_,_,⟨_,⟨XF,XF⟩,rfl,rfl⟩,XC⟩
def aff(D Q:Nat)(X:dZ)(s:bE)(m:aD)(i:ba)(h:s.ok)(K:gQ m s.n)(T:m.Kind=3)(ao:fb i s.n=true)(o:hg X.L s.p)(R:X.L.cU<=1000000000000):ar prog 180 [au D 0,A m.c,A i.c] [fe D Q X s] (λr Y=>∃G:dZ,(G.L.cU<=X.L.cU+3/\hg G.L (lC s m i).1.p)/\r=.tuple #[A (lC s m i).2.1.c,B (lC s m i).2.2]/\Y=[fe D Q G (lC s m i).1]):=by
 have u:=oJ K ZE;have w:=adn i m.ch m.Call;have q:=ua (st:=2) (f:=false) ao K.b2 (.inr rfl) u;have a:=xR D Q X s m.Item i (ik i m.ch 2 m.Call false).1 h K.item q o R;have E:=Az m i;unfold lC;generalize ik i m.ch 2 m.Call false=v at*;obtain⟨g,l⟩:=v;unfold b4 at w;dsimp only at*;cases l<;>simp only[hA,hr,ii]
 .refine aB func180 λW=>?_;refine Ro λh C K=>?_;refine aq 14 λd=>?_;refine aa 26 ?_;all_goals exact⟨_,_,⟨X,⟨iZ _ _,o⟩,rfl,rfl⟩,XC⟩
 .refine aB func180 λW=>?_;refine Ro λh C K=>?_;refine aq 14 λd=>?_;refine aa 15 ?_;refine ah.n' ?_ aA.j.d'.d'.j.d';refine ae 1 0 ?_;refine ae 5 2 ?_;refine af.p' 1 rfl (aw.fn rfl (oI _ _) ?_);refine av ?_;refine af.o' 7 rfl rfl (a) ?_;rintro l i9⟨Z,⟨⟨R,p⟩,rfl,rfl⟩⟩;refine aa 2 ?_;refine ae 2 8 ?_;refine aa 4 ?_;all_goals exact⟨_,_,⟨_,⟨XF,XF⟩,rfl,rfl⟩,XC⟩
def ac0(E Q:Nat)(X:dZ)(s:bE)(m:aD)(i:ba)(h:s.ok)(K:gQ m s.n)(ao:fb i s.n=true)(o:hg X.L s.p)(R:X.L.cU<=1000000000000):ar prog 181 [au E 0,A m.c,A i.c] [fe E Q X s] (λr Y=>∃G:dZ,(G.L.cU<=X.L.cU+3/\hg G.L (lD s m i).1.p)/\r=.tuple #[A (lD s m i).2.1.c,B (lD s m i).2.2]/\Y=[fe E Q G (lD s m i).1]):=by
 have w:=Db i m.ch;have q:=xO (b:=m.ch) ao K.b2;have a:=xR E Q X s m.Item i (lm i m.ch).1 h K.item q o R;have T:=Az m i;unfold lD;generalize lm i m.ch=v at*;obtain⟨g,l⟩:=v;unfold b4 at w;dsimp only at*;cases l<;>simp only[hA,hr,ii]
 .refine aB func181 λW=>?_;refine Ro λh C K=>?_;refine aq 12 λd=>?_;refine aa 26 ?_;all_goals exact⟨_,_,⟨X,⟨iZ _ _,o⟩,rfl,rfl⟩,XC⟩
 .refine aB func181 λW=>?_;refine Ro λh C K=>?_;refine aq 12 λd=>?_;refine aa 17 ?_;refine N6 λp=>?_;refine aa 4 ?_;refine ah.n' ?_ aA.j.j.j.j.d'.j;refine ae 16 0 ?_;refine aa 3 ?_;refine ah.n' ?_ aA.j.d'.d'.j.d'.d';refine ae 6 0 ?_;refine af.o' 6 rfl rfl (a) ?_;rintro l i9⟨N,⟨⟨R,p⟩,rfl,rfl⟩⟩;refine PK ?_;all_goals exact⟨_,_,⟨_,⟨XF,XF⟩,rfl,rfl⟩,XC⟩
def afu(m:aD)(i:ba)(h:(kg m i).2=false):(kg m i).1=aD.z:=by
 unfold kg at*;split at h
 .cases h
 .rename_i y;rw[aN y]
def NN(s:bE)(m:aD)(i:ba)(h:(k3 s m i).2.2=false):(k3 s m i).2.1=aD.z:=by
 unfold k3 at*;dsimp only at*;split at h
 .cases h
 exact KT
def NO(s:bE)(m:aD)(i:ba)(h:(lC s m i).2.2=false):(lC s m i).2.1=aD.z:=by
 unfold lC at*;dsimp only at*;split at h
 .cases h
 exact KT
def NP(s:bE)(m:aD)(i:ba)(h:(lD s m i).2.2=false):(lD s m i).2.1=aD.z:=by
 unfold lD at*;dsimp only at*;split at h
 .cases h
 exact KT
def acR(E Q:Nat)(X:dZ)(s:bE)(U:Int)(m:aD)(h:s.ok)(R:gQ m s.n)(c8:m.b3=U)(t:hg X.L s.p)(N:X.L.cU<=1000000000000):ar prog 125 [au E 0,I U,A m.c] [fe E Q X s,cv] (λr G=>∃M:dZ,(M.L.cU<=X.L.cU+3/\hg M.L (kz s m).1.p)/\r=.tuple #[A (kz s m).2.1.c,B (kz s m).2.2]/\G=[fe E Q M (kz s m).1,cv]):=by
 have ao:=tZ h m.Item;have dO:=xQ E Q X s m.Item h.p.towf;have q:=FE E Q X s;have J:=xm m s.n;rw[iY.2 R]at J;have jb:=R.jb;have kd:=R.kd;unfold kz;generalize b7 s.p m.Item=i at*;dsimp only;have Yc:m.Kind=1\/m.Kind=3\/m.Kind=6\/m.Kind=5\/(m.Kind≠1/\m.Kind≠3/\m.Kind≠6/\m.Kind≠5):=ac
 rcases Yc with F|F|F|F|⟨acB,NS,NT,adE⟩
 .have jv:=NK E Q X s m i h R F ao t N;have y:=NN s m i;by_cases g:i.Status=3
  .rw[aT ⟨.inl F,g⟩];refine RI λW C K d=>?_;refine aa 37 ?_;refine N6 λl=>?_;refine aa 21 ?_;rotate_left;all_goals exact⟨_,_,⟨X,⟨iZ _ _,t⟩,rfl,rfl⟩,XC⟩
  .rw[aN (λb=>g b.2),aT F];generalize k3 s m i=v at*;obtain⟨s1,vM,f⟩:=v;dsimp only at*;cases f
   .obtain rfl:=y rfl;refine RI λW C K d=>?_;refine aq 38 λw=>?_;refine aa 27 ?_;rintro Yg Yh⟨u,⟨⟨x,Y⟩,rfl,rfl⟩⟩;refine aa 27 ?_;rotate_left;all_goals exact⟨_,_,⟨_,⟨XF,XF⟩,rfl,rfl⟩,XC⟩
   .refine RI λW C K d=>?_;refine aq 38 λw=>?_;refine aa 27 ?_;rintro Yg Yh⟨u,⟨⟨x,Y⟩,rfl,rfl⟩⟩;refine aa 28 ?_;rotate_left;all_goals exact⟨_,_,⟨_,⟨XF,XF⟩,rfl,rfl⟩,XC⟩
 .have jv:=aff E Q X s m i h R F ao t N;have y:=NO s m i;by_cases g:i.Status=3
  .rw[aT ⟨.inr (.inl F),g⟩];refine RI λW C K d=>?_;refine aa 38 ?_;refine N6 λl=>?_;refine aa 21 ?_;rotate_left;all_goals exact⟨_,_,⟨X,⟨iZ _ _,t⟩,rfl,rfl⟩,XC⟩
  .rw[aN (λb=>g b.2),aN ac,aT F];generalize lC s m i=v at*;obtain⟨s1,vM,f⟩:=v;dsimp only at*;cases f
   .obtain rfl:=y rfl;refine RI λW C K d=>?_;refine aq 39 λw=>?_;refine aa 34 ?_;rintro Ye Yf⟨T,⟨⟨a,D⟩,rfl,rfl⟩⟩;refine aa 27 ?_;rotate_left;all_goals exact⟨_,_,⟨_,⟨XF,XF⟩,rfl,rfl⟩,XC⟩
   .refine RI λW C K d=>?_;refine aq 39 λw=>?_;refine aa 34 ?_;rintro Ye Yf⟨T,⟨⟨a,D⟩,rfl,rfl⟩⟩;refine aa 28 ?_;rotate_left;all_goals exact⟨_,_,⟨_,⟨XF,XF⟩,rfl,rfl⟩,XC⟩
 .have jv:=ac0 E Q X s m i h R ao t N;have y:=NP s m i;by_cases g:i.Status=3
  .rw[aT ⟨.inr (.inr F),g⟩];refine RI λW C K d=>?_;refine aa 39 ?_;refine N6 λl=>?_;refine aa 21 ?_;rotate_left;all_goals exact⟨_,_,⟨X,⟨iZ _ _,t⟩,rfl,rfl⟩,XC⟩
  .rw[aN (λb=>g b.2),aN ac,aN ac,aT F];generalize lD s m i=v at*;obtain⟨s1,vM,f⟩:=v;dsimp only at*;cases f
   .obtain rfl:=y rfl;refine RI λW C K d=>?_;refine aq 40 λw=>?_;refine aa 41 ?_;rintro Z k⟨z,⟨⟨j,P⟩,rfl,rfl⟩⟩;refine aa 27 ?_;rotate_left;all_goals exact⟨_,_,⟨_,⟨XF,XF⟩,rfl,rfl⟩,XC⟩
   .refine RI λW C K d=>?_;refine aq 40 λw=>?_;refine aa 41 ?_;rintro Z k⟨z,⟨⟨j,P⟩,rfl,rfl⟩⟩;refine aa 28 ?_;rotate_left;all_goals exact⟨_,_,⟨_,⟨XF,XF⟩,rfl,rfl⟩,XC⟩
 .rw[aN ac,aN ac,aN ac,aN ac,aT F];have eJ:=oJ R (by rw[F];rfl);have cu:=xR E Q X s m.Item i (oo i m.Call).1 h R.item (vv ao eJ) t N;have ru:=Iy i m.Call;unfold b4 at ru;generalize oo i m.Call=v at*;obtain⟨l1,ni⟩:=v;dsimp only at*;refine RI λW C K d=>?_;refine aq 40 λw=>?_;refine aq 52 λo=>?_;refine aa 11 ?_;rintro Z k⟨G,⟨⟨j,P⟩,rfl,rfl⟩⟩;refine aa 22 ?_;rotate_left;all_goals exact⟨_,_,⟨_,⟨XF,XF⟩,rfl,rfl⟩,XC⟩
 .rw[aN ac,aN acB,aN NS,aN NT,aN adE];refine RI λW C K d=>?_;refine aq 40 λw=>?_;refine aa 64 ?_;all_goals exact⟨_,_,⟨X,⟨iZ _ _,t⟩,rfl,rfl⟩,XC⟩
end Go.Proofs.YteogojgnkjegmaaGreatDoor
namespace Go.Proofs.YteogojgnkjegmaaGreatDoor
open Go.ay Go.Proofs.Tryz
def afs(b:Nat)(n J:Int)(p m:Nat)(v:aj)(t:Int)(l:ab bi)(Z:lY)(k:Int)(x:ag) (d:ku t l) (E:l.length<=900) (j:t<=100000000000000) (U:-1048576<=x.be/\x.be<=1048576) (a:n<=1048576) (Q:-1048576<=J/\J<=1048576) (L:-1152921504606846976<=k/\k<=1152921504606846976) (N:0<=bC Z x/\bC Z x<=100000000000000):ar prog 95 [au b 0,I k,A x.c] (h4 b n J p m v t l Z) (λr Y=>∃g C,r=.tuple #[]/\Y=h4 b n J p m (.slice (some ⟨g,0,none⟩) (h3 ⟨x,k+mv n J x.be (bC Z x+1),t⟩ (hv x l)).length C) (t+1) (h3 ⟨x,k+mv n J x.be (bC Z x+1),t⟩ (hv x l)) (bw Z x (bC Z x+1))):=by
 have u:=d.t0;have M:0<=(br Z x).getD 0/\(br Z x).getD 0<=100000000000000:=N;have y:cX prog 112 [I n,I J,A x.c,I (bC (bw Z x (bC Z x+1)) x)] (I (mv n J x.be (bC Z x+1))):=by have h:=Ep n J x (bC (bw Z x (bC Z x+1)) x) a Q U;rw[EH,aT rfl]at h⊢;exact h
 have W:=Eo n J x.be (bC Z x+1) a;generalize mv n J x.be (bC Z x+1)=w at*;have r:=EC p v t l x (k+w) (d.del x).sorted ac ac;unfold e2 at r;unfold h4;refine aB func95 λW=>?_;refine aq 2 λC=>?_;refine aa 13 ?_;refine ah.n' ?_ aA.j.j.j.d'.d';refine ae 5 0 ?_;refine af.bu 5 7 rfl rfl ?_ ?_;refine aw.q' (aK.RW (l:=Z) (k:=x) (aR:=λn:Int=>I n) 0 cq fW hL rfl rfl XB) ?_;refine av ?_;refine ae 1 6 ?_;refine af.p' 7 rfl (aw.SI (l:=Z) (k:=x) (aR:=λn:Int=>I n) 0 cq fW hL rfl rfl XJ (λc=>?_));refine av ?_;refine ae 1 8 ?_;refine PR λY h=>?_
 exact XZ
 refine aw.SI (l:=Z) (k:=x) (aR:=λn:Int=>I n) 0 cq fW hL rfl rfl XJ (λc=>?_);refine av ?_;refine ae 1 8 ?_;refine af.p' 5 rfl (aw.q' (aK.WB (l:=Z) (k:=x) (aR:=λn:Int=>I n) cq fW rfl rfl XB) ?_);refine av ?_;refine ae 1 6 ?_;refine PR λC K=>?_
 exact XZ
structure aaK where
 i:Nat
 v:aj
 l:ab bi
 c4:lY
def NX(b:Nat)(n U:Int)(p m:Nat)(v:aj)(t:Int)(l:ab bi)(J:lY)(x:ag)(s:aQ Go.Addr)(C D off:Nat)(e:ax)(T:Rd e s 1 D off 2 ([x].map ag.c))(R:l.length<=1000):ar prog 184 [au b 0,.slice s 1 C] (h4 b n U p m v t l J++[e]) (λr Y=>∃X,r=.tuple #[]/\Y=h4 b n U p m X t (hv x l) (eC J x)++[e]):=by
 have F:=iM (f:=ag.c) (q:=[x]) (k:=0) rfl;unfold h4;refine bh ?_;refine aB func184 λW=>?_;refine aa 18 ?_;refine ah.cb [9,8,0] (λy:aaK=>(y.i=0/\y.l=l/\y.c4=J)\/(y.i=1/\y.l=hv x l/\y.c4=eC J x)) (λy=>[(10,I (y.i:Int))]) (λy=>[cells p 254 (jJ.c ⟨y.v,t⟩),rows bi.c y.v 271 4 y.l,bn (λx:ag=>A x.c) (λn:Int=>I n) m y.c4]) (λy=>1-y.i) ⟨0,v,l,J⟩ (.inl ⟨rfl,rfl,rfl⟩) ?_;rintro⟨i,v,L,M⟩ q K a;dsimp only at q;refine bh ?_;rcases q with⟨rfl,rfl,rfl⟩|⟨rfl,rfl,rfl⟩
 .have U (g:Nat):=EA p v t L (rows ag.c (.slice (some ⟨g,0,none⟩) 1 1) 46 2 [x]) (some ⟨g,0,none⟩) 1 g 0 [x] (Rd.rows (l:=[x]) ag.len XE) ac XE;change∀g,ar _ _ _ _ (λr Y=>∃X,r=_/\Y=e2 p X t (hv x L)++_)at U;unfold e2 at U;dsimp only[List.cons_append,List.nil_append]at U;refine aa 14 ?_;refine ai.v (V.RP ad (k:=0) rfl T F) ?_;refine aq 0 λC=>?_;refine aa 4 ?_;refine ah.n' ?_ aA.j.d'.j.j.j.d';refine ae 5 0 ?_;refine af.p' 5 rfl (aw.St (l:=M) (k:=x) (aR:=λn:Int=>I n) cq fW rfl rfl XQ ?_);refine aa 3 ?_;refine ah.n' ?_ aA.j.d'.j.j.j.d';refine ae 5 0 ?_;refine af.p' 5 rfl (O.N' ad ag.c [x] rfl (bx.agg rfl bx.nil) rfl rfl (λo=>?_));refine av ?_;refine af.o' 6 rfl rfl (U _) ?_;rintro _ _⟨G,rfl,rfl⟩;refine aa 9 ?_;all_goals exact Out.t' a ⟨1,_,hv x L,eC M x⟩ (.inr ⟨rfl,rfl,rfl⟩) (by show 1-1<1-0;omega)
 .exact aM 12
def FF{a s:bi}{x:ag}{t:Int}{l:ab bi}(w:ku t l)(h:s∈h3 a (hv x l)):s=a\/s∈l:=by
 rcases dq.1 ((vJ _ _).mem_iff.1 h)with h|h
 .exact .inl h
 .rw[xB w.kV]at h;exact .inr (EG.1 h).1
end Go.Proofs.YteogojgnkjegmaaGreatDoor
namespace Go.Proofs.YteogojgnkjegmaaGreatDoor
open Go.ay Go.Proofs.Tryz
variable[Go.ay.bR]
structure dQ(bl:Type) where
 p:Nat
 q:Nat
 v:bl
section
variable{bl:Type}
abbrev cL:dQ bl->aj:=λe=>au e.p 0
def eS(bG:dQ bl->ab ax)(l:ab (ag×dQ bl)):ax:=aI (l.flatMap λy=>bG y.2)
theorem AC{D:Type}:∀(l:ab (ag×D)) (k:ag) (v:D),(bw l k v).Perm ((k,v)::eC l k)
 |[],k,v=>gA _
 |y::l,k,v=>by
  rw[ka,r4];split
  .exact gA _
  .exact((AC l k v).cons _).trans (gZ ..)
def AD{D:Type}:∀{l:ab (ag×D)} {k:ag} {v:D},br l k=some v->bw l k v=l
 |[],k,v,h=>by rw[mi]at h;cases h
 |y::l,k,v,h=>by
  rw[jp]at h;rw[ka];split
  .rename_i e;rw[aT e]at h;obtain⟨a,b⟩:=y;simp only at e h;rw[e,gW h]
  .rename_i e;rw[aN e]at h;rw[AD h]
def AE(bG:dQ bl->ab ax)(l:ab (ag×dQ bl))(k:ag)(e:dQ bl):aL [eS bG (bw l k e)] (bG e++[eS bG (eC l k)]):=by unfold eS;refine aL.aI.trans ((aL.RS ((AC l k e).flatMap_right _)).trans ?_);rw[fG];exact(aL.refl (bG e)).append aL.aI.symm
def vY(bG:dQ bl->ab ax){l:ab (ag×dQ bl)}{k:ag}{e:dQ bl}(h:br l k=some e):aL [eS bG l] (bG e++[eS bG (eC l k)]):=by have:=AE bG l k e;rwa[AD h]at this
def FG(bG:dQ bl->ab ax):aL [eS bG []] []:=aL.aI
def ab1{D n:Type}(f:D->ab n){l m:ab D}(h:l.Sublist m):(l.flatMap f).Sublist (m.flatMap f):=by
 induction h with
 |slnil=>exact uE _
 |cons a _ u=>rw[fG];exact u.trans (List.sublist_append_right _ _)
 |cons_cons a _ u=>rw[fG,fG];exact(uE _).append u
def sz(bG:dQ bl->ab ax)(l:ab (ag×dQ bl))(k:ag){W:aY}{D:ab Nat}{N:ab ax}{w:aY}(h:H W D (eS bG l::N) w):H W D (eS bG (eC l k)::N) w:=by have F:=H.R7 (bc:=l.flatMap λy=>bG y.2) h;refine H.toBag (bc:=(eC l k).flatMap λy=>bG y.2) (F.sub ?_);refine List.Sublist.append ?_ (uE _);exact ab1 _ (m6 l k)
def vZ(b:Nat){l:ab (ag×dQ bl)}{k:ag}{e c:dQ bl}(h:br l k=some e)(r:c.p=e.p):bn bW cL b (bw l k c)=bn bW cL b l:=by
 unfold bn;congr 1;induction l with
 |nil=>rw[mi]at h;cases h
 |cons y l u=>
  rw[jp]at h;rw[ka];split
  .rename_i n;rw[aT n]at h;have:=gW h;obtain⟨a,b⟩:=y;simp only at n this;subst n this;simp only[eK];congr 2;show au c.p 0=au b.p 0
   rw[r]
  .rename_i n;rw[aN n]at h;rw[eK,eK,u h]
end
structure ff where
 Item:ag
 err:Int
 val:ab aP
 ge:Int
 cG:aQ Go.Addr
 len:Nat
 cap:Nat
def ff.full(x:ff):nF:=⟨x.Item,⟨x.err,x.val,x.ge,.slice x.cG x.len x.cap⟩⟩
def ff.c(x:ff):ab aj:=x.full.c
def ff.SN(x:ff):x.c.length=6:=rfl
def ff.B':iv ff.c:=λ_=>rfl
structure cO where
 dC:Nat
 eE:Nat
 gH:Nat
 dt:Nat
 wp:Nat
 c4:Nat
 dI:aj
 dJ:Nat
 dr:ke
 dA:Nat
 bY:Nat
 ey:aj
 dH:aj
 bC:aj
structure aC where
 n:Int
 self:Int
 now:Int
 bD:Nat
 X:dZ
 aH:bE
 leads:ab (ag×dQ a2)
 bp:ab (ag×dQ bO)
 de:Int
 pl:ab bi
 eT:lY
 run:cQ
 M:l4
 dw:ab (ag×Bool)
 high:ab (ag×bk)
 inbox:ab aD
 out:ab b0
 told:ab ff
def iq(e:dQ a2):ab ax:=[cells e.p 183 e.v.c]
def gg(e:dQ bO):ab ax:=e.v.cs e.p e.q
abbrev kh:bk->aj:=λb=>A b.c
def ec(L:cO)(s:aC):ab aj:=fH.c ⟨s.n,s.self,s.now,au L.dC 0,.map (some L.eE),.map (some L.gH),au L.dt 0,au L.dJ 0,au s.M.b 0,.map (some L.dA),.map (some L.bY),L.ey,L.dH,L.bC⟩
def jy(L:cO)(s:aC):ax:=aI (h4 L.dt s.n s.self L.wp L.c4 L.dI s.de s.pl s.eT)
def bX(b:Nat)(L:cO)(s:aC):ab ax:=
 [cells b 95 (ec L s),fe L.dC s.bD s.X s.aH,bn bW cL L.eE s.leads,eS iq s.leads,bn bW cL L.gH s.bp,eS gg s.bp,jy L s,i0 L.dJ L.dr s.run,k1 s.M,bn bW h6 L.dA s.dw,bn bW kh L.bY s.high,
  dF aD.c L.ey 176 25 s.inbox,rows b0.c L.dH 143 3 s.out,rows ff.c L.bC 65 6 s.told]
structure jX(k:Nat)(s:aC):Prop where
 w:ku s.de s.pl
 t:s.de<=k
 aW:∀y∈s.pl,bB y.key 7=true
 td:(s.eT.map (·.1)).Nodup
 bC:∀x,0<=bC s.eT x/\bC s.eT x<=k
def jX.len{k:Nat}{s:aC}(h:jX k s):s.pl.length<=448:=by
 have:=qh h.w.kV λx U=>by obtain⟨y,G,rfl⟩:=fh.1 U;exact h.aW y G
 rwa[ev]at this
end Go.Proofs.YteogojgnkjegmaaGreatDoor
namespace Go.Proofs.YteogojgnkjegmaaGreatDoor
open Go.ay Go.Proofs.Tryz
variable[Go.ay.bR]
def jg.up{n:Nat}{M:l4}(h:jg n M):jg (n+1) M:=⟨h.ci.up,h.ao⟩
def jg.mono{n m:Nat}{M:l4}(h:jg n M)(K:n<=m):jg m M:=by
 induction K with
 |refl=>exact h
 |step _ u=>exact u.up
def afh(v:aj)(t:v.oneCell'=true):ar prog 113 [v] [] (λr Y=>∃q,r=.func (.func 157) #[] #[au q 0]/\Y=[cells q 89 [v]]):=by refine aB func113 λW=>?_;refine aa 2 ?_;refine ai.o (O.R9 (λt=>?_));exact aM 11;all_goals exact⟨_,_,⟨_,rfl,rfl⟩,XC⟩
def aC.Sg(s:aC)(x:ag):Bool:=decide ((s.run.g.call x).cz.Kind≠0)&&(br s.dw x).getD false
def ql(s:aC)(pre:ab ag)(M:l4)(t:ab ff):Prop:=(pre=[]->M=s.M)/\∀x,pre=[x]->∀y∈t,y.ge=(hw s.M.s (s.run.g.call x).cz).1.ge
def ql.none{s:aC}{pre:ab ag}{t:ab ff}{f:ag->Bool}(P:t.map (·.Item)=pre.filter f)(x:ag)(X:l4):ql s (pre++[x]) X t:=by
 refine⟨λh=>XU,λy G z w=>?_⟩;have r:pre=[]:=Ov
 subst r;have j:=db List.length P;rw[ev]at j;rw[kk j]at w;cases w
def ql.one{s:aC}{pre:ab ag}{M:l4}{t:ab ff}{f:ag->Bool}(h:ql s pre M t)(j:t.map (·.Item)=pre.filter f)(x:ag)(X:l4)(b:ff)(L:b.ge=(hw M.s (s.run.g.call x).cz).1.ge):ql s (pre++[x]) X (t++[b]):=by
 refine⟨λh=>XU,λy G z w=>?_⟩;have r:pre=[]:=Ov
 have N:=h.1 r;subst r;have f:=db List.length j;rw[ev]at f;rw[kk f,gi,iz]at w;rw[gi,pP]at G;rw[w,L,N,G.1]
structure ki(s cn:aC):Prop where
 go:∃xs ub v1 AF pt,vV s.n s.run xs ub/\oB ub pt/\AF.map (·.Item)=xs.filter s.Sg/\(jg (s.run.done.length+xs.length) v1/\v1.b=s.M.b/\ql s xs v1 AF)/\
  cn={s with run:=ub,M:=v1,told:=s.told++AF,de:=(g5 s.n s.self s.now s.eT pt (s.de,s.pl)).1,pl:=(g5 s.n s.self s.now s.eT pt (s.de,s.pl)).2}
structure RepI(k:Nat)(s:aC):Prop where
 n:s.n=3\/s.n=5\/s.n=7
 self:0<=s.self/\s.self<s.n
 now:0<=s.now/\s.now<=1099511627776
 run:gS s.n s.run
 M:jg s.run.done.length s.M
 fs:jX k s
def RepI.hN{k:Nat}{s:aC}(h:RepI k s):3<=s.n/\s.n<=7:=by have:=h.n;omega
def AG(L:cO)(s:aC)(k:Nat)(h:RepI k s)(T:k<=1000000000000)(F:Int)(z:0<=F/\F<=1099511627776)(m:aQ Go.Addr)(C:Nat)(l:ab ag)(E:l.length<=448)(q:∀x∈l,bB x 7=true):ar prog 78 [au L.dt 0,I F,.slice m l.length C] [jy L s,rows ag.c (.slice m l.length C) 46 2 l] (λr Y=>∃X,r=.tuple #[]/\Y=[jy {L with dI:=X} {s with de:=(g5 s.n s.self F s.eT l (s.de,s.pl)).1,pl:=(g5 s.n s.self F s.eT l (s.de,s.pl)).2},rows ag.c (.slice m l.length C) 46 2 l]):=by
 have J:=h.hN;have Q:=h.self;have g:=h.fs.len;have o:=h.fs.t;refine ar.known (p:=∃b,Rd (rows ag.c (.slice m l.length C) 46 2 l) m l.length b 0 2 (l.map ag.c)) (λw y=>?_) ?_
 .obtain⟨Z,u,b,d,D⟩:=hM (f:=ag.c) (v:=.slice m l.length C) (l:=l) ag.len (aF _ (aE _)) w y;simp only[rk]at d;obtain⟨rfl,-,rfl⟩:=d;exact⟨b,D⟩
 .rintro⟨b,D⟩;have a:=Lk L.dt s.n s.self L.wp L.c4 L.dI s.de s.pl s.eT F _ m C b 0 l D h.fs.w ac ac (λx U=>by have:=kN (q x U);omega) ac ac ac;exact Ln
def ab6(n:Int)(P:Nat)(X:ke)(s:cQ)(h:gS n s):ar prog 115 [au P 0] [i0 P X s] (λr Y=>∃m C l,oB s l/\r=.slice m l.length C/\Y=[rows ag.c (.slice m l.length C) 46 2 l,i0 P X s]):=by refine ar.RR (Mw n P X s h) ?_;rintro v Y W D w⟨_,l,K,rfl,rfl⟩ j;obtain⟨m,C,b,rfl,_⟩:=hM (f:=ag.c) ag.len (aE _) w j;exact⟨_,⟨m,C,l,K,rfl,rfl⟩,j⟩
def FH(b:Nat)(L:cO)(s:aC)(k:Nat)(h:RepI k s)(cc:k<=1000000000000)(c8:s.told.length<=1000000):ar prog 79 [au b 0] (bX b L s) (λr Yc=>∃gm cn,ki s cn/\r=.tuple #[]/\Yc=bX b gm cn):=by
 have dT:=afh (au L.dJ 0) rfl;have Yt:=h.run.Vw;obtain⟨dC,eE,gH,dt,wp,c4,dI,dJ,dr,dA,bY,ey,dH,bC⟩:=L;unfold bX ec;dsimp only;refine aB func79 λW=>?_;refine aa 2 ?_;refine ai.o (O.R9 (λFI=>?_));refine aa 10 ?_;rintro _ _⟨N1,rfl,rfl⟩;refine aa 4 ?_;refine ah.l0 (acy s.n N1 dJ dr s.run h.run) (λz:l4×aj×ab ff=>[cells FI 36 [au b 0],cells b 95 (ec ⟨dC,eE,gH,dt,wp,c4,dI,dJ,dr,dA,bY,ey,dH,z.2.1⟩ {s with M:=z.1}),k1 z.1,bn bW h6 dA s.dw,rows ff.c z.2.1 65 6 z.2.2])
  (λpre z=>jg (s.run.done.length+pre.length) z.1/\z.1.b=s.M.b/\∃t,z.2.2=s.told++t/\t.map (·.Item)=pre.filter s.Sg/\ql s pre z.1 t) (λ_ _ _=>False) (s.M,bC,s.told) ⟨h.M,rfl,[],XE,rfl,λ_=>rfl,λ_ h=>XT⟩ ?_ ?_ ?_
 .rintro z pre x Yf⟨AH,Q,F⟩ cb rec dO⟨J,m,t1,T,R,Z⟩ e6 eh iP K cu;dsimp only at J m T R Z;obtain⟨YD,E,q,D,N,d,xS⟩:=AH;dsimp only at m;subst m;unfold ec;refine bh ?_;have Yh:=dO.toGoR.len;rw[bM,dp]at Yh;have nR:=No _ _ J ac (s.run.g.call x).cz;dsimp only at nR;have dK:(pre++[x]).filter s.Sg=pre.filter s.Sg++(if s.Sg x then[x]else[]):=by rw[mq];congr 1;cases h:s.Sg x<;>simp[h]
  have Ym:=db List.length R;rw[ev]at Ym;have YR:=ri s.Sg pre;have Yl:F.length<=1000448:=by rw[T,bM];omega
  by_cases X:(s.run.g.call x).cz.Kind=0
  .have eu:a8 .eql (s.run.g.call x).cz.Kind 0=some true:=by simp[a8,X]
   have G:s.Sg x=false:=by unfold aC.Sg;rw[kc (by simp[X])];rfl
   rw[G]at dK;refine aq 2 λvy=>?_;refine aq 4 λfI=>?_;refine aa 10 ?_;refine ai.v (V.cmp rfl rfl eu) ?_;refine aa 6 ?_;exact Out.rd cu (⟨s.M.b,E,q,D,N,d,xS⟩,Q,F) ⟨by rw[bM];exact J.mono (by rw[<-oX];exact iZ _ _),rfl,t1,T,by rw[dK,R];simp,ql.none R x _⟩
  .have eu:a8 .eql (s.run.g.call x).cz.Kind 0=some false:=by simp[a8,X]
   refine aq 2 λvy=>?_;refine aq 4 λfI=>?_;refine aa 10 ?_;refine ai.v (V.cmp rfl rfl eu) ?_;refine aa 5 ?_;refine ah.mt [3,2,1] (λz:Nat×l4×g0=>(jg (s.run.done.length+pre.length+1) z.2.1/\z.2.1.b=s.M.b)/\z.2.2.Version=(hw N (s.run.g.call x).cz).1.ge/\∃cG Ye y,z.2.2.Keys=.slice cG Ye y) (λz=>[(4,au z.1 0)]) (λz=>[cells z.1 63 z.2.2.c,k1 z.2.1]) (b:=[k1 ⟨s.M.b,E,q,D,N,d,xS⟩]) ?_ ?_
   .intro fa Yg;refine ah.n' ?_ aA.j.j.j.j.d'.j.j.d';refine ae 3 0 ?_;refine ae 2 4 ?_;refine af.bu 3 7 rfl rfl ?_ ?_;refine aw.q' (V.y' ad) ?_;refine av ?_;refine af.bu 6 7 rfl rfl ?_ ?_;refine aw.R' rfl (nR) XC ?_;rintro v3 nc⟨YS,⟨YT,⟨YP,⟨YQ,⟨⟨Yi,Yj,Yk⟩,rfl,rfl⟩⟩⟩⟩⟩;refine aa 2 ?_;refine c1 7 λfp=>?_;refine ae 1 8 ?_;refine av ?_;rotate_left;refine O.K' ad (λfp=>?_);refine av ?_;refine af.o' 6 rfl rfl (nR) ?_;rintro Ys YA⟨YN,⟨YO,⟨YJ,⟨YK,⟨⟨Yq,Yo,Yp⟩,rfl,rfl⟩⟩⟩⟩⟩;refine aa 2 ?_;refine ae 1 8 ?_;refine av ?_;rotate_left;refine Mx λfp=>?_;refine af.o' 6 rfl rfl (nR) ?_;rintro YU YV⟨YL,⟨YM,⟨YH,⟨YI,⟨⟨Yy,YG,Yz⟩,rfl,rfl⟩⟩⟩⟩⟩;refine aa 2 ?_;refine ae 1 8 ?_;refine av ?_;rotate_left;all_goals refine Out.t' Yg (_,_,_) ?_ trivial
    all_goals exact⟨⟨XF,XF⟩,rfl,_,_,_,rfl⟩
   rintro⟨fp,⟨YW,P,a,p,Yu,w,Yv⟩,⟨kj,ky,gw,adt⟩⟩⟨⟨Yn,Yw⟩,j,U,i,Y,Yr⟩;dsimp only at Yn Yw Yr j;subst Yw Yr;refine bh ?_;cases u:(br s.dw x).getD false
   .have G:s.Sg x=false:=by unfold aC.Sg;rw[u,tC]
    rw[G]at dK;refine KE ?_;refine aa 6 ?_;exact Out.rd cu (⟨s.M.b,P,a,p,Yu,w,Yv⟩,Q,F) ⟨by rw[bM];exact Yn,rfl,t1,T,by rw[dK,R];simp,ql.none R x _⟩
   .have G:s.Sg x=true:=by unfold aC.Sg;rw[u,Bool.and_true,iE X]
    rw[G]at dK;refine KE ?_;refine aa 4 ?_;refine ah.n' ?_ aA.j.j.j.d'.j.d'.j.j.d';refine ae 4 0 ?_;refine ae 2 5 ?_;refine af.i' 7 rfl (V.Sj ad (v:=(⟨x,kj,ky,gw,U,i,Y⟩:ff).c)) ?_;refine af.bu 4 8 rfl rfl ?_ ?_;refine aw.q' (V.y' ad) ?_;refine av ?_;refine af.p' 8 rfl (O.N' ad ff.c [⟨x,kj,ky,gw,U,i,Y⟩] rfl (bx.agg rfl bx.nil) rfl rfl (λYE=>?_));refine av ?_;refine IG λYF YB YC=>?_;rotate_left;refine O.N' ad ff.c [⟨x,kj,ky,gw,U,i,Y⟩] rfl (bx.agg rfl bx.nil) rfl rfl (λYE=>?_);refine av ?_;refine ae 1 4 ?_;refine IG λYF YB YC=>?_;rotate_left;all_goals exact Out.rd cu (⟨s.M.b,P,a,p,Yu,w,Yv⟩,_,F++[⟨x,kj,ky,gw,U,i,Y⟩]) ⟨by rw[bM];exact Yn,rfl,t1++[⟨x,kj,ky,gw,U,i,Y⟩],by rw[T,cd],by rw[dK,iA,R];rfl,Z.one R x _ _ j⟩
 .rintro⟨Yx,C⟩ xs⟨AH,Q,F⟩ c dO⟨J,m,t1,T,R,Z⟩;dsimp only at J m T R Z;obtain⟨YD,E,q,D,N,d,xS⟩:=AH;dsimp only at m;subst m;subst T;unfold ec;refine bh ?_;have Y:=ab6 s.n dJ Yx C dO.ok;have u (cG:aQ Go.Addr) (y:Nat) (l:ab ag) (K:oB C l):=AG ⟨dC,eE,gH,dt,wp,c4,dI,dJ,dr,dA,bY,ey,dH,bC⟩ s k h cc s.now h.now cG y l K.len (λx U=>(K.aW x U).2);dsimp only at u;refine aa 2 ?_;refine ah.n' ?_ aA.j.j.j.j.j.j.j.j.j.j.j.j.j.j.j.d'.j;refine ae 3 0 ?_;refine ae 3 4 ?_;refine ae 3 8 ?_;refine af.hb 3 7 11 rfl rfl rfl ?_ ?_ ?_;refine aw.q' (V.y' ad) ?_;refine av ?_;refine af.bu 7 11 rfl rfl ?_ ?_;refine aw.q' (V.y' ad) ?_;refine av ?_;refine ae 1 11 ?_;refine af.o' 12 rfl rfl (Y) ?_;refine Rr λj o P Yi=>?_;refine Rk λr=>?_;rotate_left;refine aw.q' (V.y' ad) ?_;refine av ?_;refine af.bu 7 12 rfl rfl ?_ ?_;refine O6 ?_;refine Rr λv a p W=>?_;refine Rk λw=>?_;rotate_left;refine aw.R' rfl (Y) XC ?_;refine Rr λc m y n=>?_;refine ae 1 7 ?_;refine Rk λn=>?_;rotate_left;refine aw.q' (V.y' ad) ?_;refine av ?_;refine af.bu 3 11 rfl rfl ?_ ?_;refine aw.q' (V.y' ad) ?_;refine av ?_;refine ae 1 11 ?_;refine af.o' 12 rfl rfl (Y) ?_;refine Rr λn i l k=>?_;refine Rk λk=>?_;rotate_left;refine aw.q' (V.y' ad) ?_;refine av ?_;refine af.bu 3 12 rfl rfl ?_ ?_;refine O6 ?_;refine Rr λF x U G=>?_;refine Rk λU=>?_;rotate_left;refine aw.R' rfl (Y) XC ?_;refine Rr λK G X T=>?_;refine ae 1 3 ?_;refine Rk λK=>?_;rotate_left;refine aw.q' (V.y' ad) ?_;refine av ?_;refine af.hb 3 7 12 rfl rfl rfl ?_ ?_ ?_;refine aw.q' (V.y' ad) ?_;refine av ?_;refine af.bu 7 12 rfl rfl ?_ ?_;refine O6 ?_;refine Rr λX K T o=>?_;refine Rk λT=>?_;rotate_left;refine aw.R' rfl (Y) XC ?_;refine Rr λo T t L=>?_;refine ae 1 7 ?_;refine Rk λo=>?_;rotate_left;refine aw.q' (V.y' ad) ?_;refine av ?_;refine af.bu 3 12 rfl rfl ?_ ?_;refine O6 ?_;refine Rr λo t L g=>?_;refine Rk λg=>?_;rotate_left;refine aw.R' rfl (Y) XC ?_;refine Rr λz W f j=>?_;refine ae 1 3 ?_;refine Rk λP=>?_;rotate_left;refine aw.R' rfl (Y) XC ?_;refine Rr λr v a p=>?_;refine af.bu 3 7 rfl rfl ?_ ?_;refine aw.q' (V.y' ad) ?_;refine av ?_;refine ae 1 7 ?_;refine Rk λw=>?_;rotate_left;refine aw.q' (V.y' ad) ?_;refine av ?_;refine ae 1 3 ?_;refine Rk λc=>?_;rotate_left;all_goals exact⟨_,_,⟨⟨dC,eE,gH,dt,wp,c4,_,dJ,Yx,dA,bY,ey,dH,Q⟩,_,⟨⟨xs,C,⟨s.M.b,E,q,D,N,d,xS⟩,t1,_,dO,XF,R,⟨J,rfl,Z⟩,rfl⟩⟩,rfl,rfl⟩,XC⟩
 .rintro _ _ _ _ _ _ _ _ h;exact h.elim
end Go.Proofs.YteogojgnkjegmaaGreatDoor
