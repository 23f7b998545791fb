/-
 Part of the proof.
-/
import Derived.Test.YteogojgnkjegmaaGreatDoorAr
set_option linter.all false
set_option maxRecDepth 8000
set_option maxHeartbeats 8000000
namespace Go.Proofs.YteogojgnkjegmaaGreatDoor
open Go.ay Go.Proofs.Tryz
variable[Go.ay.b4]
variable{n:Int}
theorem HS{s:bR}(h:s.ok)(x:ag):(bP s.p x).Call.cv.Key.length<=16/\0<=(bP s.p x).Call.Seq/\(bP s.p x).Call.Seq<=1099511627776:=by
 unfold bP;cases t:s.p.at x with
 |none=>exact⟨T6,T6,T6⟩
 |some i=>
  have:=((vA h.p).1 h.g1 x i t).2;have q:=oD (mJ this).2.2.2.2.1;exact⟨(sL q.1).2.2.1,q.2.2.1,q.2.2.2⟩
def Qc(z g:Nat)(X:eH)(s:bR)(d:bN)(b:ag)(h:s.ok)(i:h1 X.L s.p)(w:d.Key.length<=16)(T:X.L.da<=1000000000000):ar prog 56 [aw z 0,A d.c,A b.c] (hh z g X s) (λr J=>r=.tuple #[A (fm s.p d b).1.c,I (fm s.p d b).2]/\J=hh z g X s):=by
 obtain⟨m,Y,y,U,f⟩:=X;dsimp only at i T;have n (o q:Nat):=agB o q z m y d (λk u=>by have:=i.2 k u;omega) ac (by unfold gz.da at T;omega);have l (x:ag):=B2 m Y g U f s x h.p.towf;have E:=aex (aw z 0) rfl d;unfold hh iz gy at*;unfold B3 at n;refine bl ?_;refine aE func56 λW=>?_;refine aa 2 ?_;refine ai.o (O.UQ (λk=>?_));refine aq 0 λN=>?_;refine aq 0 λo=>?_;refine aq 0 λW=>?_;refine aq 5 λM=>?_;refine aq 4 λt=>?_;refine aa 19 ?_;rintro _ _⟨J,Z,rfl,rfl⟩;refine aa 4 ?_;refine ah.abd (n _ _) (λy:bX×Int=>[cells m 120 (lY.c ⟨aw g 0,s.n,aw Y 0⟩),kT Y U s.p,cells g 156 (lA.c ⟨f,s.safe⟩),ej dt f 5 1 s.data,cells k 35 [aw z 0],cells N 29 d.c,cells o 46 b.c,cells M 50 y.1.c,cells t 3 [I y.2]])
  (λpre y=>y=ps s.p d b pre) (λ_ _ _=>False) (bX.z,0) rfl ?_ ?_ ?_
 .rintro pre x L⟨v,Y⟩ a rec U F f w o q g;have U:=HS h x;have J:=agr (bP s.p x).Call.cv d ac ac;have n:=Ng v x;have y:=l x;have m:=ahE s.p d b pre x;rw[<-F]at m;refine bl ?_;by_cases R:pU (bP s.p x).Call.cv d=true
  .rw[R]at J;refine Tl (λk u=>?_) (λk=>?_) λk=>?_;refine Tu (λw=>?_) λw=>?_;refine ae 5 4 ?_;refine af.t 3 rfl (V.C' ad) ?_;refine ae 1 9 ?_;refine R0 ?_;refine SO ?_;rotate_left;refine aa 11 ?_;rotate_left;refine O.N' ad (λu=>?_);refine au ?_;refine af.p' 5 rfl rfl (y) ?_;refine aa 2 ?_;refine Tu (λw=>?_) λw=>?_;refine ae 2 4 ?_;refine af.t 3 rfl (V.C' ad) ?_;refine af.bv 0 6 rfl rfl ?_ ?_;refine Lj ?_ ?_ ?_;refine SO ?_;rotate_left;refine O.VX ad ?_;refine au ?_;refine ae 4 6 ?_;refine SO ?_;rotate_left;refine Oh ?_;refine ae 1 2 ?_;refine ae 1 10 ?_;refine SO ?_;rotate_left;refine Oh ?_;refine R0 ?_;refine SO ?_;rotate_left;refine aa 11 ?_;rotate_left;refine LA λu=>?_;refine af.p' 5 rfl rfl (y) ?_;refine aa 2 ?_;refine Tu (λa=>?_) λa=>?_;refine ae 2 4 ?_;refine af.t 3 rfl (V.C' ad) ?_;refine af.bv 0 6 rfl rfl ?_ ?_;refine Lj ?_ ?_ ?_;refine SO ?_;rotate_left;refine O.VX ad ?_;refine au ?_;refine ae 4 6 ?_;refine SO ?_;rotate_left;refine Oh ?_;refine ae 1 2 ?_;refine ae 1 10 ?_;refine SO ?_;rotate_left;refine Oh ?_;refine R0 ?_;refine SO ?_;rotate_left;refine aa 11 ?_;rotate_left;all_goals first
    |exact Out.rd g (kp v x,Max.max Y (Min.min ((bP s.p x).Call.Seq+1) 1099511627776)) (by show _=ps s.p d b (pre++[x]);rw[m];unfold jc;rw[aQ ⟨TX,R⟩])
    |exact Out.rd g (v,Y) (by show _=ps s.p d b (pre++[x]);rw[m];unfold jc;rw[aM (λj=>j.1 TX)])
  .rw[show pU (bP s.p x).Call.cv d=false by simpa using R]at J;refine Tl (λk u=>?_) (λk=>?_) λk=>?_;refine ae 1 7 ?_;refine aa 8 ?_;refine Qx (λn=>?_) λn=>?_;rotate_left;refine aa 11 ?_;rotate_left;refine O.N' ad (λu=>?_);refine au ?_;refine af.p' 5 rfl rfl (y) ?_;refine aa 2 ?_;refine ae 1 7 ?_;refine aa 8 ?_;refine Qx (λn=>?_) λn=>?_;rotate_left;refine aa 11 ?_;rotate_left;refine LA λu=>?_;refine af.p' 5 rfl rfl (y) ?_;refine aa 2 ?_;refine ae 1 7 ?_;refine aa 8 ?_;refine Qx (λn=>?_) λn=>?_;rotate_left;refine aa 11 ?_;rotate_left;all_goals exact Out.rd g (v,Y) (by show _=ps s.p d b (pre++[x]);rw[m];unfold jc;rw[aM (λj=>R j.2)])
 .rintro Z⟨v,Y⟩ c x F;rw[adG h.p i x]at F;refine bl ?_;rw[<-F];refine aa 3 ?_;refine ah.n' ?_ aB.j.j.j.j.j.j.j.d'.d'.j.j.j.j.j.j.j.j;refine ae 4 0 ?_;exact aP 4
 exact Sw
def hQ(n:Int)(l:ab eK)(b9:ab aS)(X:Int):bR:=⟨n,jq (aJ.new n) l,cj l,if b9=[]then X else((cj l).length:Int)⟩
def aiq{p:aJ aX}(z:p.ok)(h:ko n p.all){l:ab eK}(T:ko n l):ko n (jq p l).all:=by
 induction l generalizing p with
 |nil=>exact h
 |cons y l d=>
  refine d (aJ.Vr z y.1 y.2) ?_ λx U=>T x Lw;rw[vA (aJ.Vr z y.1 y.2)];intro x i ao;rw[aJ.U5 z]at ao;split at ao
  .rename_i q;cases ao;rw[q.2];exact T y T3
  .exact(vA z).1 h x i ao
def Qe(n:Int):(aJ.new n:aJ aX).all=[]:=by
 cases h:(aJ.new n:aJ aX).all with
 |nil=>rfl
 |cons y l=>
  have:y∈(aJ.new n:aJ aX).all:=by rw[h];simp
  have:=(aJ.Ve (aJ.UL n)).1 this;rw[aJ.Vw]at this;cases this
def CF{l:ab eK}{b9:ab aS}{X:Int}(a:n=3\/n=5\/n=7)(T:ko n l)(w:(cj l++b9).length<=65536):(hQ n l b9 X).ok:=by
 have z:=zm (aJ.UL n:(aJ.new n:aJ aX).ok) l;refine⟨a,z,?_,?_,?_⟩
 .show(jq (aJ.new n) l).aH=n;rw[BZ];show Min.min (Max.max n 0) 7=n
  omega
 .exact aiq (aJ.UL n) (by rw[Qe];intro y F;cases F) T
 .show(cj l).length<=65536;rw[b2]at w;omega
def gz.new(n s:Nat):gz:=⟨n,s,.slice none 0 0,[],[],[],[cI.z],he _⟩
def ah.aby{P:bU}{r:aT Nat}{W:aZ}{D:ab Nat}{n:dq}{Q:cU}{M:bC}{C:ab ax}{c:Go.Code}(h:ah P r W D n Q c M (c8 [cI.z]::C)):ah P r W D n Q c M C:=by refine ah.Ur ag.c 46 2 ?_;refine ah.eqv (be:=c8 [cI.z]::C) ?_ h;exact((c8.cons cI.z []).trans ((aO.refl [xB cI.z]).append aO.aL)).symm.append (aO.refl C)
def ahP(d:Nat)(v:aj)(n:Int)(l:ab eK)(b9:ab aS)(T:Int)(cM:n=3\/n=5\/n=7)(R:ko n l)(dR:(gE b9).2=0)(f:(cj l++b9).length<=65536):ar prog 73 [aw d 0,I n] (fC d v (cj l++b9) T) (λr J=>∃ec X,h1 (eH.L X) (hQ n l b9 T).p/\X.L.da<=1345/\r=.tuple #[aw ec 0,I 0]/\J=hh ec d X (hQ n l b9 T)):=by
 have l4:=agj d v n l b9 T cM R dR f;have w:=CF (X:=T) cM R f;generalize b7:hQ n l b9 T=s at*;have Q:ar prog 101 [aw d 0,I n] (fC d v (cj l++b9) T) (λr J=>∃U m t L,r=.tuple #[aw U 0,I 0]/\J=gy U m d L t s):=by refine ar.post l4 ?_;rintro r J⟨U,m,t,L,rfl,rfl⟩;exact⟨_,⟨U,m,t,L,rfl,by rw[<-b7];rfl⟩,λ_ _ _ h=>h⟩
 unfold fC at*;unfold gy at Q;have dJ (U m:Nat) (L:kS) (dH:aj):=Gy U m d L dH s;unfold gy at dJ;refine aE func73 λW=>?_;refine aa 11 ?_;rintro _ _⟨j,u,Z,E,rfl,rfl⟩;refine aa 21 ?_;refine ai.o (av.mkMap ma e2 rfl (λF=>?_));refine ai.o (av.mkMap ma e2 rfl (λK=>?_));refine aq 1 λb=>?_;refine aq 0 λsR=>?_;refine aa 7 ?_;refine ai.p' rfl (dJ _ _ _ _) ?_;rintro _ _⟨D,rfl,rfl⟩;refine aa 4 ?_;refine ah.aby ?_;refine ah.rg (tU D u E s.p w.p.towf) (λy:gz=>[cells sR 35 [aw b 0],cells b 101 (jG.c ⟨aw j 0,.map (some y.h0),y.gw,.map (some y.eb)⟩),bz ma e2 y.h0 y.keys,bz qM e2 y.eb y.eL,c8 y.g])
  (λpre y=>(∀z∈pre,Loc y z.1 z.2.Call.cv)/\(∀k∈y.keys.map (·.1),k.length<=16)/\y.da<=1+3*pre.length) (λ_ _ _=>False) (gz.new F K) ⟨T3,by simp[gz.new],by simp[gz.new,gz.da,kq,cI.z]⟩ ?_ ?_ ?_
 .rintro pre⟨x,i⟩ P y cp rec G⟨N,M,cd⟩ c1 eI jk zf C;have q:=aJ.Vp w.p.towf;have Yg:pre.length+(P.length+1)=s.p.all.length:=by rw[G];simp
  have c2:=GG b j y x i.Call.cv ac;have bF:=w.g1 (x,i) Kq;have cc:=(sL (oD (mJ bF.2).2.2.2.2.1).1).2.2.1;unfold iz at c2;refine bl ?_;refine aq 2 λHx=>?_;refine aq 4 λYf=>?_;refine aa 11 ?_;refine Tq λYi Yc Ye=>?_;have Y:=(by assumption:Found y _ x i.Call.cv)
  have Yh:=(by assumption:gz.da _<=y.da+3)
  refine Out.rd C _ ⟨?_,Y.GD 16 M cc,?_⟩
  .intro z a;rcases fd.1 a with a|a
   .exact Y.cQ (N z a)
   .obtain rfl:z=(x,i):=by simpa using a
    exact Y.here
  exact Ri
 .rintro y c⟨N,M,cd⟩;have q:=aJ.Vp w.p.towf;refine bl ?_;refine aa 11 ?_;exact⟨_,_,⟨b,⟨j,u,y,E,Z⟩,⟨λx i ao=>N (x,i) ((aJ.Ve w.p).2 ao),M⟩,by show y.da<=1345;omega,rfl,rfl⟩,Uc⟩
 exact Sw
def oN(m:aD)(h:Int):aD:={aD.z with Kind:=h,bh:=m.bK,bK:=m.bh,Item:=m.Item,bB:=m.bB}
def lm(m:aD)(i:aX):aD×Bool:=if hY m.bB i.bO then({oN m 8 with bB:=i.bO},true)else(aD.z,false)
def mh(s:bR)(x:ag)(G N:aX):bR:=if G=N then s else s.add x N
def qT(s:bR)(m:aD):aN:=m9 m.Call [⟨bN.z,(fm s.p m.Call.cv m.Item).1,(fm s.p m.Call.cv m.Item).2⟩]
def ka(s:bR)(m:aD):Bool:=decide (qT s m=m.Call)&&decide (m.bB=⟨0,m.Item.a1⟩)
def jR(s:bR)(m:aD)(i:aX):bR×aD×Bool:=
 let r:=i4 i m.bB 1 (qT s m) (ka s m)
 if r.2 then(mh s m.Item i r.1,{oN m 2 with cL:=r.1.cL,Call:=r.1.Call},true)else(s,lm m i)
def jS(s:bR)(m:aD)(i:aX):bR×aD×Bool:=
 let r:=i4 i m.bB 2 m.Call false
 if r.2 then(mh s m.Item i r.1,oN m 4,true)else(s,lm m i)
def mQ(s:bR)(m:aD)(i:aX):bR×aD×Bool:=
 let r:=promise i m.bB
 if r.2 then(mh s m.Item i r.1,{oN m 7 with b0:=r.1.b0,Status:=r.1.Status,cL:=r.1.cL,Call:=r.1.Call},true)else(s,lm m i)
def lM(s:bR)(m:aD):bR×aD×Bool:=
 let i:=bP s.p m.Item
 if(m.Kind=1\/m.Kind=3\/m.Kind=6)/\i.Status=3 then(s,{oN m 5 with Call:=i.Call},true)
 else if m.Kind=1 then jR s m i
 else if m.Kind=3 then jS s m i
 else if m.Kind=6 then mQ s m i
 else if m.Kind=5 then(mh s m.Item i (pP i m.Call).1,aD.z,false)
 else(s,aD.z,false)
def CG:fB bX.z n=true:=by rw[rA];intro k m K;rw[acU Th]at K;cases K;simp[jK]
def CH:eJ aN.z n=true:=by simp only[eJ,c5,dl];exact⟨T6,CG,T6,T6⟩
def HT(a:1<=n):eW aX.z n=true:=by
 simp only[eW,c5,iL,dl];have X:cH aX.z.bO n=true:=by simp only[cH,dl];exact⟨T6,T6,T6,by show(0:Int)<n;omega⟩
 exact⟨X,X,T6,T6,CH,.inr trivial⟩
def vQ{s:bR}(h:s.ok)(x:ag):eW (bP s.p x) s.n=true:=by
 unfold bP;cases t:s.p.at x with
 |none=>exact HT Qq
 |some i=>exact((vA h.p).1 h.g1 x i t).2
theorem ui{i:aX}(Y:cH i.bO n=true)(N:cH i.b0 n=true)(R:1<=i.Status)(Z:i.Status<=3)(a:eJ i.Call n=true):eW i n=true:=by simp only[eW,c5,iL,dl];grind
def zF{i:aX}{b:bm}(ao:eW i n=true)(X:cH b n=true):eW (promise i b).1 n=true:=by
 unfold promise;split
 .exact ao
 .obtain⟨Y,N,R,Z,a,M⟩:=mJ ao;simp only[eW,c5,iL,dl];grind
def xr{i:aX}{c:aN}(ao:eW i n=true)(q:eJ c n=true):eW (pP i c).1 n=true:=by
 unfold pP;split
 .exact ao
 .obtain⟨Y,N,R,Z,a,M⟩:=mJ ao;grind [ui]
def vR{i:aX}{b:bm}{st:Int}{c:aN}{same:Bool}(ao:eW i n=true)(X:cH b n=true)(Q:st=1\/st=2)(q:eJ c n=true):eW (i4 i b st c same).1 n=true:=by
 have z:=zF (b:=b) ao X;unfold i4;split
 .exact ao
 .grind [promise,ui]
def ab1{k:Nat}{a b:Int}(K:jK n k a=true)(X:jK n k b=true):jK n k (Max.max a b)=true:=Uh
def HU{a b:bX}(K:fB a n=true)(X:fB b n=true):fB (kM a b) n=true:=by
 rw[rA]at*;intro k m K;have u:k<7:=Th
 obtain⟨x,y,Y,N,R⟩:=FR a b u;grind
theorem HV{a b:bX}(K:fB a n=true)(X:fB b n=true):fB (nF [a,b]) n=true:=HU (HU CG K) X
def ae5{c d:aN}(q:eJ c n=true)(w:fB d.eG n=true)(o:d.Seq<=1099511627776):eJ (vs c d) n=true:=by
 simp only[eJ,c5,dl]at q⊢;refine⟨q.1,HV q.2.1 w,?_,?_⟩
 .show 0<=Max.max c.Seq d.Seq;omega
 .show Max.max c.Seq d.Seq<=_;omega
def HW{c d:aN}(q:eJ c n=true)(w:fB d.eG n=true)(o:d.Seq<=1099511627776):eJ (m9 c [d]) n=true:=by refine ae5 ?_ w o;simp only[eJ,c5,dl]at q⊢;grind [HV]
theorem Qh{d:bX}{x:ag}(w:fB d n=true)(U:bq x n=true)(a:n<=7):fB (kp d x) n=true:=by obtain⟨Y,N,R,Z⟩:=tQ U;simp only[fB,c5,jK,iL,dl]at w⊢;simp only[kp];refine⟨⟨⟨⟨⟨⟨?_,?_⟩,?_⟩,?_⟩,?_⟩,?_⟩,?_⟩<;>(split<;>omega)
def CI{s:bR}(h:s.ok)(d:bN)(b:ag):fB (fm s.p d b).1 s.n=true/\0<=(fm s.p d b).2/\(fm s.p d b).2<=1099511627776:=by
 have r:s.n<=7:=Qq
 unfold fm ps;have Y:∀(Z:ab ag) (o:bX×Int),(∀x∈Z,bq x s.n=true)->fB o.1 s.n=true/\0<=o.2/\o.2<=1099511627776->
   fB (Z.foldl (jc s.p d b) o).1 s.n=true/\0<=(Z.foldl (jc s.p d b) o).2/\(Z.foldl (jc s.p d b) o).2<=1099511627776:=by
  intro Z
  induction Z with
  |nil=>exactλo _ c=>c
  |cons x Z W=>
   intro o U c;refine W _ (λy F=>U y (by simp[F])) ?_;grind [jc,HS,Qh]
 refine Y _ _ ?_ ⟨CG,T6,T6⟩;intro x U;obtain⟨y,F,rfl⟩:=eS.1 U;exact(h.g1 y F).1
def zG{s:bR}(h:s.ok){m:aD}(q:eJ m.Call s.n=true):eJ (qT s m) s.n=true:=by obtain⟨Y,N,R⟩:=CI h m.Call.cv m.Item;exact HW q Y R
def fE(o g:Nat)(X:eH)(s:bR):ax:=aL (hh o g X s)
section
variable{P:bU}{f:eR}{args:ab aj}{Y:ab ax}
def ar.WC{F:Type}{Q:aj->F->Prop}{T:F->ab ax}(h:ar P f args Y (λr J=>∃z,Q r z/\J=T z)):ar P f args [aL Y] (λr J=>∃z,Q r z/\J=[aL (T z)]):=
 ar.eqv aO.aL h Qs
def ar.VJ{Q:aj->Prop}{T:ab ax}(h:ar P f args Y (λr J=>Q r/\J=T)):ar P f args [aL Y] (λr J=>Q r/\J=[aL T]):=
 ar.eqv aO.aL h (by rintro r J⟨U,rfl⟩;exact⟨_,⟨U,rfl⟩,aO.aL.symm⟩)
end
def HX(o g:Nat)(X:eH)(s:bR)(d:bN)(b:ag)(h:s.ok)(v:h1 X.L s.p)(w:d.Key.length<=16)(T:X.L.da<=1000000000000):ar prog 56 [aw o 0,A d.c,A b.c] [fE o g X s] (λr J=>r=.tuple #[A (fm s.p d b).1.c,I (fm s.p d b).2]/\J=[fE o g X s]):=ar.VJ (Qc o g X s d b h v w T)
def zH(o g:Nat)(X:eH)(s:bR)(x:ag)(h:s.p.wf):ar prog 16 [aw o 0,A x.c] [fE o g X s] (λr J=>r=A (bP s.p x).c/\J=[fE o g X s]):=ar.VJ (aee o g X s x h)
def HY(o g:Nat)(X:eH)(s:bR):ar prog 84 [aw o 0] [fE o g X s] (λr J=>r=I s.n/\J=[fE o g X s]):=ar.VJ (GI o g X s)
def aei(W g:Nat)(X:eH)(s:bR)(Z:Int)(h:s.p.wf)(o:0<=Z)(U:Z<s.n):ar prog 55 [aw W 0,I Z] [fE W g X s] (λr J=>r=.tuple #[A (fW s Z).c,B (decide ((s.p.top Z:Int)+1<=64))]/\J=[fE W g X s]):=ar.VJ (ajz W g X s Z h o U)
def aec(o g:Nat)(X:eH)(s:bR):ar prog 91 [aw o 0] [fE o g X s] (λr J=>r=I 0/\J=[fE o g X {s with safe:=(s.data.length:Int)}]):=ar.VJ (Ni o g X s)
def acR(o g:Nat)(X:eH)(s:bR)(x:ag)(i:aX)(h:s.ok)(J:bq x s.n=true)(ao:eW i s.n=true)(v:h1 X.L s.p)(u:X.L.da<=1000000000000):ar prog 236 [aw o 0,A x.c,A i.c] [fE o g X s] (λr Z=>∃d:eH,((d.L.da<=X.L.da+3/\h1 d.L (s.add x i).p)/\r=I 0)/\Z=[fE o g d (s.add x i)]):=by refine ar.WC (Q:=λr d=>(d.L.da<=X.L.da+3/\h1 d.L (s.add x i).p)/\r=I 0) (T:=λd=>hh o g d (s.add x i)) ?_;refine ar.post (ahF o g X s x i h J ao v u) ?_;rintro r Z⟨d,U,N,rfl,rfl⟩;exact⟨_,⟨d,⟨⟨U,N⟩,rfl⟩,rfl⟩,λ_ _ _ h=>h⟩
def zI(o g:Nat)(X:eH)(s:bR)(x:ag)(G N:aX)(h:s.ok)(U:bq x s.n=true)(ao:eW N s.n=true)(w:h1 X.L s.p)(T:X.L.da<=1000000000000):ar prog 183 [aw o 0,A x.c,A G.c,A N.c] [fE o g X s] (λr J=>∃d:eH,(d.L.da<=X.L.da+3/\h1 d.L (mh s x G N).p)/\r=B true/\J=[fE o g d (mh s x G N)]):=by
 have b:=acR o g X s x N h U ao w T;unfold mh;by_cases z:G=N
 .subst z;simp only[h7];refine aE func183 λW=>?_;refine Ug λg d u=>?_;refine aa 7 ?_;refine ai.v (V.eq (aX.R' _ _ _)) ?_;refine au ?_;refine ai.dA (λU=>?_) (λU=>?_);replace U:=gD U;refine aa 11 ?_;rotate_left;exact lz U;exact⟨_,_,⟨X,⟨jL _ _,w⟩,rfl,rfl⟩,Uc⟩
 .simp only[aM z];refine aE func183 λW=>?_;refine Ug λg d u=>?_;refine aa 7 ?_;refine ai.v (V.eq (aX.R' _ _ _)) ?_;refine aa 6 ?_;rintro w oF⟨J,⟨⟨⟨r,l⟩,rfl⟩,rfl⟩⟩;refine aa 8 ?_;exact⟨_,_,⟨_,⟨TX,TX⟩,rfl,rfl⟩,Uc⟩
def p3(m:aD)(h:Int):dr prog 178 [A m.c,I h] (A (oN m h).c):=by refine aE func178 λW=>?_;refine aq 2 λp=>?_;refine aq 0 λZ=>?_;exact aP 19
def CJ(m:aD)(i:aX):dr prog 233 [A m.c,A i.c] (.tuple #[A (lm m i).1.c,B (lm m i).2]):=by
 have T:=Bs m.bB i.bO;unfold lm;cases t:hY m.bB i.bO<;>rw[t]at T
 .simp only[hM,iq];refine aE func233 λW=>?_;refine Ug λp m Z=>?_;exact aP 25
 .simp only[h7];refine aE func233 λW=>?_;refine Ug λp m Z=>?_;refine aa 20 ?_;refine Oy λg=>?_;exact aP 20
end Go.Proofs.YteogojgnkjegmaaGreatDoor
namespace Go.Proofs.YteogojgnkjegmaaGreatDoor
open Go.ay Go.Proofs.Tryz
variable[Go.ay.b4]
def aff(c d:aN)(g:Nat):ar prog 202 [A c.c,.slice (some ⟨g,0,none⟩) 1 1] [rows aN.c (.slice (some ⟨g,0,none⟩) 1 1) 52 14 [d]] (λr J=>r=A (m9 c [d]).c/\J=[rows aN.c (.slice (some ⟨g,0,none⟩) 1 1) 52 14 [d]]):=
 vt _ _ 1 _ _ c [d] (Rd.rows (l:=[d]) aN.len T3)
def p4{m:aD}{n:Int}(h:hx m n)(u:i6 m.Kind.toNat=true):eJ m.Call n=true:=by have:=h.call;rwa[aQ u]at this
def Qm(U d:Nat)(X:eH)(s:bR)(m:aD)(i:aX)(h:s.ok)(K:hx m s.n)(cc:m.Kind=1)(ao:eW i s.n=true)(M:h1 X.L s.p)(bH:X.L.da<=1000000000000):ar prog 179 [aw U 0,A m.c,A i.c] [fE U d X s] (λr C=>∃T:eH,(T.L.da<=X.L.da+3/\h1 T.L (jR s m i).1.p)/\r=.tuple #[A (jR s m i).2.1.c,B (jR s m i).2.2]/\C=[fE U d T (jR s m i).1]):=by
 have dE:=p4 K (by rw[cc];rfl);have Yf:=oD dE;have k1:=HX U d X s m.Call.cv m.Item h M (sL Yf.1).2.2.1 bH;have J (g:Nat):=aff m.Call ⟨bN.z,(fm s.p m.Call.cv m.Item).1,(fm s.p m.Call.cv m.Item).2⟩ g;have Yg:=zG (m:=m) h dE;have j:=K9 i m.bB (qT s m) (ka s m);have bF:=vR (st:=1) (same:=ka s m) ao K.bj (.inl rfl) Yg;have b:=zI U d X s m.Item i (i4 i m.bB 1 (qT s m) (ka s m)).1 h K.item bF M bH;have ew:=CJ m i;have c2:=yY m.Item.a1;unfold jR;have f:m9 m.Call [⟨bN.z,(fm s.p m.Call.cv m.Item).1,(fm s.p m.Call.cv m.Item).2⟩]=qT s m:=rfl;rw[f]at J;have D:ka s m=(decide (qT s m=m.Call)&&decide (m.bB=⟨0,m.Item.a1⟩)):=rfl;generalize qT s m=c at*;generalize fm s.p m.Call.cv m.Item=w at*;generalize ka s m=sm at*;generalize i4 i m.bB 1 c sm=v at*;obtain⟨j7,oK⟩:=v;unfold ch at j;dsimp only at*;generalize Yh:decide (m.bB=⟨0,m.Item.a1⟩)=kr at*;generalize t:decide (c=m.Call)=hB at*;have a (k:Nat):=aN.R' c m.Call k;have P (k:Nat):=bm.R' m.bB ⟨0,m.Item.a1⟩ k;simp only[t]at a;simp only[Yh]at P;subst D;cases hB
 .rw[sM]at j;cases oK<;>simp only[h7,hM,iq]
  .refine Ky λW F E Q q y Y=>?_;refine ae 9 8 ?_;refine MM (λu=>?_) ?_;refine ae 2 22 ?_;refine aa 24 ?_;rotate_left;refine Oj λu=>?_;refine ae 2 22 ?_;refine aa 24 ?_;rotate_left;all_goals exact⟨_,_,⟨X,⟨jL _ _,M⟩,rfl,rfl⟩,Uc⟩
  .refine Ky λW F E Q q y Y=>?_;refine ae 9 8 ?_;refine MM (λu=>?_) ?_;refine Tw λl=>?_;rintro nO CK⟨N,⟨⟨G,R⟩,rfl,rfl⟩⟩;refine Qf ?_;rotate_left;refine Oj λu=>?_;refine Tw λl=>?_;rintro Yc Yi⟨x,⟨⟨Ye,Z⟩,rfl,rfl⟩⟩;refine Qf ?_;rotate_left;all_goals exact⟨_,_,⟨_,⟨TX,TX⟩,rfl,rfl⟩,Uc⟩
 .rw[qu]at j;cases oK<;>simp only[h7,hM,iq]
  .refine Ky λW F E Q q y Y=>?_;refine ae 6 8 ?_;refine af.bv 14 21 rfl rfl ?_ ?_;refine av.fn rfl (c2) ?_;refine au ?_;refine af.i' 15 rfl (V.eq (P _)) ?_;refine ae 1 16 ?_;refine MM (λu=>?_) ?_;refine ae 2 22 ?_;refine aa 24 ?_;rotate_left;refine Oj λu=>?_;refine ae 2 22 ?_;refine aa 24 ?_;rotate_left;refine O.N' ad (λu=>?_);refine au ?_;refine ae 1 14 ?_;refine af.i' 15 rfl (V.eq (P _)) ?_;refine ae 5 16 ?_;refine ae 2 22 ?_;refine aa 24 ?_;rotate_left;all_goals exact⟨_,_,⟨X,⟨jL _ _,M⟩,rfl,rfl⟩,Uc⟩
  .refine Ky λW F E Q q y Y=>?_;refine ae 6 8 ?_;refine af.bv 14 21 rfl rfl ?_ ?_;refine av.fn rfl (c2) ?_;refine au ?_;refine af.i' 15 rfl (V.eq (P _)) ?_;refine ae 1 16 ?_;refine MM (λu=>?_) ?_;refine Tw λl=>?_;rintro nO CK⟨N,⟨⟨G,R⟩,rfl,rfl⟩⟩;refine Qf ?_;rotate_left;refine Oj λu=>?_;refine Tw λl=>?_;rintro Yc Yi⟨x,⟨⟨Ye,Z⟩,rfl,rfl⟩⟩;refine Qf ?_;rotate_left;refine O.N' ad (λu=>?_);refine au ?_;refine ae 1 14 ?_;refine af.i' 15 rfl (V.eq (P _)) ?_;refine ae 5 16 ?_;refine Tw λl=>?_;rintro r f⟨Z,⟨⟨P,j⟩,rfl,rfl⟩⟩;refine Qf ?_;rotate_left;all_goals exact⟨_,_,⟨_,⟨TX,TX⟩,rfl,rfl⟩,Uc⟩
def adH(o g:Nat)(X:eH)(s:bR)(m:aD)(i:aX)(h:s.ok)(K:hx m s.n)(u:m.Kind=3)(ao:eW i s.n=true)(w:h1 X.L s.p)(T:X.L.da<=1000000000000):ar prog 180 [aw o 0,A m.c,A i.c] [fE o g X s] (λr J=>∃d:eH,(d.L.da<=X.L.da+3/\h1 d.L (jS s m i).1.p)/\r=.tuple #[A (jS s m i).2.1.c,B (jS s m i).2.2]/\J=[fE o g d (jS s m i).1]):=by
 have q:=p4 K LU;have W:=La i m.bB m.Call;have G:=vR (st:=2) (same:=false) ao K.bj (.inr rfl) q;have b:=zI o g X s m.Item i (i4 i m.bB 2 m.Call false).1 h K.item G w T;have f:=CJ m i;unfold jS;generalize i4 i m.bB 2 m.Call false=v at*;obtain⟨t,N⟩:=v;unfold ch at W;dsimp only at*;cases N<;>simp only[h7,hM,iq]
 .refine aE func180 λW=>?_;refine Ug λZ g d=>?_;refine aq 14 λn=>?_;refine aa 26 ?_;all_goals exact⟨_,_,⟨X,⟨jL _ _,w⟩,rfl,rfl⟩,Uc⟩
 .refine aE func180 λW=>?_;refine Ug λZ g d=>?_;refine aq 14 λn=>?_;refine aa 15 ?_;refine ah.n' ?_ aB.j.d'.d'.j.d';refine ae 1 0 ?_;refine ae 5 2 ?_;refine af.q' 1 rfl (av.fn rfl (p3 _ _) ?_);refine au ?_;refine af.p' 7 rfl rfl (b) ?_;rintro N g0⟨M,⟨⟨E,r⟩,rfl,rfl⟩⟩;refine aa 2 ?_;refine ae 2 8 ?_;refine aa 4 ?_;all_goals exact⟨_,_,⟨_,⟨TX,TX⟩,rfl,rfl⟩,Uc⟩
def af2(o g:Nat)(X:eH)(s:bR)(m:aD)(i:aX)(h:s.ok)(K:hx m s.n)(ao:eW i s.n=true)(w:h1 X.L s.p)(T:X.L.da<=1000000000000):ar prog 181 [aw o 0,A m.c,A i.c] [fE o g X s] (λr J=>∃d:eH,(d.L.da<=X.L.da+3/\h1 d.L (mQ s m i).1.p)/\r=.tuple #[A (mQ s m i).2.1.c,B (mQ s m i).2.2]/\J=[fE o g d (mQ s m i).1]):=by
 have W:=Fw i m.bB;have G:=zF (b:=m.bB) ao K.bj;have l:=zI o g X s m.Item i (promise i m.bB).1 h K.item G w T;have f:=CJ m i;unfold mQ;generalize promise i m.bB=v at*;obtain⟨t,N⟩:=v;unfold ch at W;dsimp only at*;cases N<;>simp only[h7,hM,iq]
 .refine aE func181 λW=>?_;refine Ug λZ g d=>?_;refine aq 12 λn=>?_;refine aa 26 ?_;all_goals exact⟨_,_,⟨X,⟨jL _ _,w⟩,rfl,rfl⟩,Uc⟩
 .refine aE func181 λW=>?_;refine Ug λZ g d=>?_;refine aq 12 λn=>?_;refine aa 17 ?_;refine Oy λs=>?_;refine aa 4 ?_;refine ah.n' ?_ aB.j.j.j.j.d'.j;refine ae 16 0 ?_;refine aa 3 ?_;refine ah.n' ?_ aB.j.d'.d'.j.d'.d';refine ae 6 0 ?_;refine af.p' 6 rfl rfl (l) ?_;rintro N g0⟨M,⟨⟨E,r⟩,rfl,rfl⟩⟩;refine Qf ?_;all_goals exact⟨_,_,⟨_,⟨TX,TX⟩,rfl,rfl⟩,Uc⟩
def ai8(m:aD)(i:aX)(h:(lm m i).2=false):(lm m i).1=aD.z:=by
 unfold lm at*;split at h
 .cases h
 .rename_i j;rw[aM j]
def afv(s:bR)(m:aD)(i:aX)(h:(jR s m i).2.2=false):(jR s m i).2.1=aD.z:=by
 unfold jR at*;dsimp only at*;split at h
 .cases h
 exact PG
def acT(s:bR)(m:aD)(i:aX)(h:(jS s m i).2.2=false):(jS s m i).2.1=aD.z:=by
 unfold jS at*;dsimp only at*;split at h
 .cases h
 exact PG
def aiZ(s:bR)(m:aD)(i:aX)(h:(mQ s m i).2.2=false):(mQ s m i).2.1=aD.z:=by
 unfold mQ at*;dsimp only at*;split at h
 .cases h
 exact PG
def ae4(P j:Nat)(X:eH)(s:bR)(T:Int)(m:aD)(h:s.ok)(K:hx m s.n)(cN:m.bK=T)(w:h1 X.L s.p)(D:X.L.da<=1000000000000):ar prog 125 [aw P 0,I T,A m.c] [fE P j X s,cJ] (λr G=>∃t:eH,(t.L.da<=X.L.da+3/\h1 t.L (lM s m).1.p)/\r=.tuple #[A (lM s m).2.1.c,B (lM s m).2.2]/\G=[fE P j t (lM s m).1,cJ]):=by
 have ao:=vQ h m.Item;have dJ:=zH P j X s m.Item h.p.towf;have d:=HY P j X s;have x:=zg m s.n;rw[hy.2 K]at x;have gF:=K.gF;have g2:=K.g2;unfold lM;generalize bP s.p m.Item=i at*;dsimp only;have Yc:m.Kind=1\/m.Kind=3\/m.Kind=6\/m.Kind=5\/(m.Kind≠1/\m.Kind≠3/\m.Kind≠6/\m.Kind≠5):=ac
 rcases Yc with Y|Y|Y|Y|⟨vS,jr,Qt,Qu⟩
 .have hz:=Qm P j X s m i h K Y ao w D;have b:=afv s m i;by_cases R:i.Status=3
  .rw[aQ ⟨.inl Y,R⟩];refine QS λW g z l=>?_;refine aa 37 ?_;refine Oy λJ=>?_;refine aa 21 ?_;rotate_left;all_goals exact⟨_,_,⟨X,⟨jL _ _,w⟩,rfl,rfl⟩,Uc⟩
  .rw[aM (λk=>R k.2),aQ Y];generalize jR s m i=v at*;obtain⟨s1,lh,U⟩:=v;dsimp only at*;cases U
   .obtain rfl:=b rfl;refine QS λW g z l=>?_;refine aq 38 λu=>?_;refine aa 27 ?_;rintro Yg Yh⟨E,⟨⟨Z,N⟩,rfl,rfl⟩⟩;refine aa 27 ?_;rotate_left;all_goals exact⟨_,_,⟨_,⟨TX,TX⟩,rfl,rfl⟩,Uc⟩
   .refine QS λW g z l=>?_;refine aq 38 λu=>?_;refine aa 27 ?_;rintro Yg Yh⟨E,⟨⟨Z,N⟩,rfl,rfl⟩⟩;refine aa 28 ?_;rotate_left;all_goals exact⟨_,_,⟨_,⟨TX,TX⟩,rfl,rfl⟩,Uc⟩
 .have hz:=adH P j X s m i h K Y ao w D;have b:=acT s m i;by_cases R:i.Status=3
  .rw[aQ ⟨.inr (.inl Y),R⟩];refine QS λW g z l=>?_;refine aa 38 ?_;refine Oy λJ=>?_;refine aa 21 ?_;rotate_left;all_goals exact⟨_,_,⟨X,⟨jL _ _,w⟩,rfl,rfl⟩,Uc⟩
  .rw[aM (λk=>R k.2),aM ac,aQ Y];generalize jS s m i=v at*;obtain⟨s1,lh,U⟩:=v;dsimp only at*;cases U
   .obtain rfl:=b rfl;refine QS λW g z l=>?_;refine aq 39 λu=>?_;refine aa 34 ?_;rintro Ye Yf⟨Q,⟨⟨F,C⟩,rfl,rfl⟩⟩;refine aa 27 ?_;rotate_left;all_goals exact⟨_,_,⟨_,⟨TX,TX⟩,rfl,rfl⟩,Uc⟩
   .refine QS λW g z l=>?_;refine aq 39 λu=>?_;refine aa 34 ?_;rintro Ye Yf⟨Q,⟨⟨F,C⟩,rfl,rfl⟩⟩;refine aa 28 ?_;rotate_left;all_goals exact⟨_,_,⟨_,⟨TX,TX⟩,rfl,rfl⟩,Uc⟩
 .have hz:=af2 P j X s m i h K ao w D;have b:=aiZ s m i;by_cases R:i.Status=3
  .rw[aQ ⟨.inr (.inr Y),R⟩];refine QS λW g z l=>?_;refine aa 39 ?_;refine Oy λJ=>?_;refine aa 21 ?_;rotate_left;all_goals exact⟨_,_,⟨X,⟨jL _ _,w⟩,rfl,rfl⟩,Uc⟩
  .rw[aM (λk=>R k.2),aM ac,aM ac,aQ Y];generalize mQ s m i=v at*;obtain⟨s1,lh,U⟩:=v;dsimp only at*;cases U
   .obtain rfl:=b rfl;refine QS λW g z l=>?_;refine aq 40 λu=>?_;refine aa 41 ?_;rintro M f⟨q,⟨⟨a,y⟩,rfl,rfl⟩⟩;refine aa 27 ?_;rotate_left;all_goals exact⟨_,_,⟨_,⟨TX,TX⟩,rfl,rfl⟩,Uc⟩
   .refine QS λW g z l=>?_;refine aq 40 λu=>?_;refine aa 41 ?_;rintro M f⟨q,⟨⟨a,y⟩,rfl,rfl⟩⟩;refine aa 28 ?_;rotate_left;all_goals exact⟨_,_,⟨_,⟨TX,TX⟩,rfl,rfl⟩,Uc⟩
 .rw[aM ac,aM ac,aM ac,aM ac,aQ Y];have dE:=p4 K (by rw[Y];rfl);have cA:=zI P j X s m.Item i (pP i m.Call).1 h K.item (xr ao dE) w D;have qU:=ajK i m.Call;unfold ch at qU;generalize pP i m.Call=v at*;obtain⟨j7,oK⟩:=v;dsimp only at*;refine QS λW g z l=>?_;refine aq 40 λu=>?_;refine aq 52 λn=>?_;refine aa 11 ?_;rintro M f⟨C,⟨⟨a,y⟩,rfl,rfl⟩⟩;refine aa 22 ?_;rotate_left;all_goals exact⟨_,_,⟨_,⟨TX,TX⟩,rfl,rfl⟩,Uc⟩
 .rw[aM ac,aM vS,aM jr,aM Qt,aM Qu];refine QS λW g z l=>?_;refine aq 40 λu=>?_;refine aa 64 ?_;all_goals exact⟨_,_,⟨X,⟨jL _ _,w⟩,rfl,rfl⟩,Uc⟩
end Go.Proofs.YteogojgnkjegmaaGreatDoor
namespace Go.Proofs.YteogojgnkjegmaaGreatDoor
open Go.ay Go.Proofs.Tryz
def ahy(b:Nat)(n X:Int)(p m:Nat)(v:aj)(t:Int)(l:ab br)(u:nd)(N:Int)(x:ag) (s:lH t l) (T:l.length<=900) (j:t<=100000000000000) (U:-1048576<=x.a1/\x.a1<=1048576) (a:n<=1048576) (Q:-1048576<=X/\X<=1048576) (F:-1152921504606846976<=N/\N<=1152921504606846976) (Z:0<=bS u x/\bS u x<=100000000000000):ar prog 95 [aw b 0,I N,A x.c] (iV b n X p m v t l u) (λr J=>∃g E,r=.tuple #[]/\J=iV b n X p m (.slice (some ⟨g,0,none⟩) (iU ⟨x,N+nK n X x.a1 (bS u x+1),t⟩ (ii x l)).length E) (t+1) (iU ⟨x,N+nK n X x.a1 (bS u x+1),t⟩ (ii x l)) (bx u x (bS u x+1))):=by
 have Y:=s.t0;have K:0<=(a8 u x).getD 0/\(a8 u x).getD 0<=100000000000000:=Z;have i:dr prog 112 [I n,I X,A x.c,I (bS (bx u x (bS u x+1)) x)] (I (nK n X x.a1 (bS u x+1))):=by have h:=GP n X x (bS (bx u x (bS u x+1)) x) a Q U;rw[G7,aQ rfl]at h⊢;exact h
 have q:=GO n X x.a1 (bS u x+1) a;generalize nK n X x.a1 (bS u x+1)=w at*;have a:=G2 p v t l x (N+w) (s.del x).sorted ac ac;unfold fu at a;unfold iV;refine aE func95 λW=>?_;refine aq 2 λg=>?_;refine aa 13 ?_;refine ah.n' ?_ aB.j.j.j.d'.d';refine ae 5 0 ?_;refine af.bv 5 7 rfl rfl ?_ ?_;refine av.x' (aK.UD (l:=u) (k:=x) (aU:=λn:Int=>I n) 0 ct gG iB rfl rfl T1) ?_;refine au ?_;refine ae 1 6 ?_;refine af.q' 7 rfl (av.Vo (l:=u) (k:=x) (aU:=λn:Int=>I n) 0 ct gG iB rfl rfl T8 (λt=>?_));refine au ?_;refine ae 1 8 ?_;refine KL λh Y=>?_
 exact R7
 refine av.Vo (l:=u) (k:=x) (aU:=λn:Int=>I n) 0 ct gG iB rfl rfl T8 (λt=>?_);refine au ?_;refine ae 1 8 ?_;refine af.q' 5 rfl (av.x' (aK.aaR (l:=u) (k:=x) (aU:=λn:Int=>I n) ct gG rfl rfl T1) ?_);refine au ?_;refine ae 1 6 ?_;refine KL λF X=>?_
 exact R7
structure ade where
 i:Nat
 v:aj
 l:ab br
 dZ:nd
def ahT(b:Nat)(n X:Int)(p m:Nat)(v:aj)(t:Int)(l:ab br)(u:nd)(x:ag)(h:aT Go.Addr)(E U off:Nat)(e:ax)(d:Rd e h 1 U off 2 ([x].map ag.c))(F:l.length<=1000):ar prog 184 [aw b 0,.slice h 1 E] (iV b n X p m v t l u++[e]) (λr J=>∃o,r=.tuple #[]/\J=iV b n X p m o t (ii x l) (e9 u x)++[e]):=by
 have Y:=jB (f:=ag.c) (t:=[x]) (k:=0) rfl;unfold iV;refine bl ?_;refine aE func184 λW=>?_;refine aa 18 ?_;refine ah.cp [9,8,0] (λy:ade=>(y.i=0/\y.l=l/\y.dZ=u)\/(y.i=1/\y.l=ii x l/\y.dZ=e9 u x)) (λy=>[(10,I (y.i:Int))]) (λy=>[cells p 254 (kL.c ⟨y.v,t⟩),rows br.c y.v 271 4 y.l,bz (λx:ag=>A x.c) (λn:Int=>I n) m y.dZ]) (λy=>1-y.i) ⟨0,v,l,u⟩ (.inl ⟨rfl,rfl,rfl⟩) ?_;rintro⟨i,v,L,M⟩ Z K s;dsimp only at Z;refine bl ?_;rcases Z with⟨rfl,rfl,rfl⟩|⟨rfl,rfl,rfl⟩
 .have N (g:Nat):=G0 p v t L (rows ag.c (.slice (some ⟨g,0,none⟩) 1 1) 46 2 [x]) (some ⟨g,0,none⟩) 1 g 0 [x] (Rd.rows (l:=[x]) ag.len T3) ac T3;change∀g,ar _ _ _ _ (λr J=>∃o,r=_/\J=fu p o t (ii x L)++_)at N;unfold fu at N;dsimp only[List.cons_append,List.nil_append]at N;refine aa 14 ?_;refine ai.v (V.Ux ad (k:=0) rfl d Y) ?_;refine aq 0 λg=>?_;refine aa 4 ?_;refine ah.n' ?_ aB.j.d'.j.j.j.d';refine ae 5 0 ?_;refine af.q' 5 rfl (av.U9 (l:=M) (k:=x) (aU:=λn:Int=>I n) ct gG rfl rfl T4 ?_);refine aa 3 ?_;refine ah.n' ?_ aB.j.d'.j.j.j.d';refine ae 5 0 ?_;refine af.q' 5 rfl (O.Q' ad ag.c [x] rfl (bI.agg rfl bI.nil) rfl rfl (λb=>?_));refine au ?_;refine af.p' 6 rfl rfl (N _) ?_;rintro _ _⟨C,rfl,rfl⟩;refine aa 9 ?_;all_goals exact Out.z' s ⟨1,_,ii x L,e9 M x⟩ (.inr ⟨rfl,rfl,rfl⟩) (by show 1-1<1-0;omega)
 .exact aP 12
def HZ{a s:br}{x:ag}{t:Int}{l:ab br}(w:lH t l)(h:s∈iU a (ii x l)):s=a\/s∈l:=by
 rcases dk.1 ((xE _ _).mem_iff.1 h)with h|h
 .exact .inl h
 .rw[zs w.mb]at h;exact .inr (G6.1 h).1
end Go.Proofs.YteogojgnkjegmaaGreatDoor
namespace Go.Proofs.YteogojgnkjegmaaGreatDoor
open Go.ay Go.Proofs.Tryz
variable[Go.ay.b4]
structure er(bu:Type) where
 p:Nat
 q:Nat
 v:bu
section
variable{bu:Type}
abbrev c0:er bu->aj:=λe=>aw e.p 0
def fh(bW:er bu->ab ax)(l:ab (ag×er bu)):ax:=aL (l.flatMap λy=>bW y.2)
theorem CM{M:Type}:∀(l:ab (ag×M)) (k:ag) (v:M),(bx l k v).Perm ((k,v)::e9 l k)
 |[],k,v=>he _
 |y::l,k,v=>by
  rw[lB,yV];split
  .exact he _
  .exact((CM l k v).cons _).trans (hK ..)
def CN{M:Type}:∀{l:ab (ag×M)} {k:ag} {v:M},a8 l k=some v->bx l k v=l
 |[],k,v,h=>by rw[m4]at h;cases h
 |y::l,k,v,h=>by
  rw[kk]at h;rw[lB];split
  .rename_i e;rw[aQ e]at h;obtain⟨a,b⟩:=y;simp only at e h;rw[e,hc h]
  .rename_i e;rw[aM e]at h;rw[CN h]
def CO(bW:er bu->ab ax)(l:ab (ag×er bu))(k:ag)(e:er bu):aO [fh bW (bx l k e)] (bW e++[fh bW (e9 l k)]):=by unfold fh;refine aO.aL.trans ((aO.UA ((CM l k e).flatMap_right _)).trans ?_);rw[gn];exact(aO.refl (bW e)).append aO.aL.symm
def xP(bW:er bu->ab ax){l:ab (ag×er bu)}{k:ag}{e:er bu}(h:a8 l k=some e):aO [fh bW l] (bW e++[fh bW (e9 l k)]):=by have:=CO bW l k e;rwa[CN h]at this
def H0(bW:er bu->ab ax):aO [fh bW []] []:=aO.aL
def Qy{M C:Type}(f:M->ab C){l m:ab M}(h:l.Sublist m):(l.flatMap f).Sublist (m.flatMap f):=by
 induction h with
 |slnil=>exact wy _
 |cons a _ d=>rw[gn];exact d.trans (List.sublist_append_right _ _)
 |cons_cons a _ d=>rw[gn,gn];exact(wy _).append d
def uj(bW:er bu->ab ax)(l:ab (ag×er bu))(k:ag){W:aZ}{D:ab Nat}{C:ab ax}{w:aZ}(h:H W D (fh bW l::C) w):H W D (fh bW (e9 l k)::C) w:=by have Y:=H.UO (be:=l.flatMap λy=>bW y.2) h;refine H.toBag (be:=(e9 l k).flatMap λy=>bW y.2) (Y.sub ?_);refine List.Sublist.append ?_ (wy _);exact Qy _ (pM l k)
def xQ(b:Nat){l:ab (ag×er bu)}{k:ag}{e i:er bu}(h:a8 l k=some e)(z:i.p=e.p):bz cg c0 b (bx l k i)=bz cg c0 b l:=by
 unfold bz;congr 1;induction l with
 |nil=>rw[m4]at h;cases h
 |cons y l d=>
  rw[kk]at h;rw[lB];split
  .rename_i c;rw[aQ c]at h;have:=hc h;obtain⟨a,b⟩:=y;simp only at c this;subst c this;simp only[e7];congr 2;show aw i.p 0=aw b.p 0
   rw[z]
  .rename_i c;rw[aM c]at h;rw[e7,e7,d h]
end
structure fF where
 Item:ag
 err:Int
 val:ab aS
 gP:Int
 cV:aT Go.Addr
 len:Nat
 cap:Nat
def fF.full(x:fF):o9:=⟨x.Item,⟨x.err,x.val,x.gP,.slice x.cV x.len x.cap⟩⟩
def fF.c(x:fF):ab aj:=x.full.c
def fF.Vt(x:fF):x.c.length=6:=rfl
def fF.F':jj fF.c:=λ_=>rfl
structure cW where
 ec:Nat
 e3:Nat
 hi:Nat
 dS:Nat
 wp:Nat
 dZ:Nat
 ek:aj
 el:Nat
 dP:lk
 eb:Nat
 bH:Nat
 e0:aj
 dN:aj
 bS:aj
structure aC where
 n:Int
 self:Int
 now:Int
 bQ:Nat
 X:eH
 aA:bR
 leads:ab (ag×er a6)
 bp:ab (ag×er bL)
 dA:Int
 pl:ab br
 fi:nd
 run:db
 M:nk
 dX:ab (ag×Bool)
 high:ab (ag×bm)
 inbox:ab aD
 out:ab b8
 told:ab fF
def jd(e:er a6):ab ax:=[cells e.p 183 e.v.c]
def gQ(e:er bL):ab ax:=e.v.cs e.p e.q
abbrev ln:bm->aj:=λb=>A b.c
def eN(L:cW)(s:aC):ab aj:=gp.c ⟨s.n,s.self,s.now,aw L.ec 0,.map (some L.e3),.map (some L.hi),aw L.dS 0,aw L.el 0,aw s.M.b 0,.map (some L.eb),.map (some L.bH),L.e0,L.dN,L.bS⟩
def kv(L:cW)(s:aC):ax:=aL (iV L.dS s.n s.self L.wp L.dZ L.ek s.dA s.pl s.fi)
def cb(b:Nat)(L:cW)(s:aC):ab ax:=
 [cells b 95 (eN L s),fE L.ec s.bQ s.X s.aA,bz cg c0 L.e3 s.leads,fh jd s.leads,bz cg c0 L.hi s.bp,fh gQ s.bp,kv L s,jP L.el L.dP s.run,mg s.M,bz cg iX L.eb s.dX,bz cg ln L.bH s.high,
  ej aD.c L.e0 176 25 s.inbox,rows b8.c L.dN 143 3 s.out,rows fF.c L.bS 65 6 s.told]
structure k2(k:Nat)(s:aC):Prop where
 w:lH s.dA s.pl
 t:s.dA<=k
 aV:∀y∈s.pl,bq y.key 7=true
 td:(s.fi.map (·.1)).Nodup
 bS:∀x,0<=bS s.fi x/\bS s.fi x<=k
def k2.len{k:Nat}{s:aC}(h:k2 k s):s.pl.length<=448:=by
 have:=rJ h.w.mb λx U=>by obtain⟨y,F,rfl⟩:=eS.1 U;exact h.aV y F
 rwa[eT]at this
end Go.Proofs.YteogojgnkjegmaaGreatDoor
namespace Go.Proofs.YteogojgnkjegmaaGreatDoor
open Go.ay Go.Proofs.Tryz
variable[Go.ay.b4]
def j9.up{n:Nat}{M:nk}(h:j9 n M):j9 (n+1) M:=⟨h.ci.up,h.ao⟩
def j9.mono{n m:Nat}{M:nk}(h:j9 n M)(K:n<=m):j9 m M:=by
 induction K with
 |refl=>exact h
 |step _ d=>exact d.up
def acp(v:aj)(W:v.oneCell'=true):ar prog 113 [v] [] (λr J=>∃q,r=.func (.func 157) #[] #[aw q 0]/\J=[cells q 89 [v]]):=by refine aE func113 λW=>?_;refine aa 2 ?_;refine ai.o (O.UQ (λl=>?_));exact aP 11;all_goals exact⟨_,_,⟨_,rfl,rfl⟩,Uc⟩
def aC.UV(s:aC)(x:ag):Bool:=decide ((s.run.g.call x).cv.Kind≠0)&&(a8 s.dX x).getD false
def rO(s:aC)(pre:ab ag)(M:nk)(t:ab fF):Prop:=(pre=[]->M=s.M)/\∀x,pre=[x]->∀y∈t,y.gP=(il s.M.s (s.run.g.call x).cv).1.gP
def rO.none{s:aC}{pre:ab ag}{t:ab fF}{f:ag->Bool}(j:t.map (·.Item)=pre.filter f)(x:ag)(d:nk):rO s (pre++[x]) d t:=by
 refine⟨λh=>Uj,λy F z v=>?_⟩;have P:pre=[]:=Og
 subst P;have o:=dp List.length j;rw[eT]at o;rw[lW o]at v;cases v
def rO.one{s:aC}{pre:ab ag}{M:nk}{t:ab fF}{f:ag->Bool}(h:rO s pre M t)(j:t.map (·.Item)=pre.filter f)(x:ag)(d:nk)(w:fF)(W:w.gP=(il M.s (s.run.g.call x).cv).1.gP):rO s (pre++[x]) d (t++[w]):=by
 refine⟨λh=>Uj,λy F z v=>?_⟩;have P:pre=[]:=Og
 have r:=h.1 P;subst P;have o:=dp List.length j;rw[eT]at o;rw[lW o,gJ,i2]at v;rw[gJ,re]at F;rw[v,W,r,F.1]
structure k3(s cE:aC):Prop where
 go:∃xs vT xR CP qO,xM s.n s.run xs vT/\pY vT qO/\CP.map (·.Item)=xs.filter s.UV/\(j9 (s.run.done.length+xs.length) xR/\xR.b=s.M.b/\rO s xs xR CP)/\
  cE={s with run:=vT,M:=xR,told:=s.told++CP,dA:=(hP s.n s.self s.now s.fi qO (s.dA,s.pl)).1,pl:=(hP s.n s.self s.now s.fi qO (s.dA,s.pl)).2}
structure RepI(k:Nat)(s:aC):Prop where
 n:s.n=3\/s.n=5\/s.n=7
 self:0<=s.self/\s.self<s.n
 now:0<=s.now/\s.now<=1099511627776
 run:hC s.n s.run
 M:j9 s.run.done.length s.M
 fX:k2 k s
def RepI.gO{k:Nat}{s:aC}(h:RepI k s):3<=s.n/\s.n<=7:=by have:=h.n;omega
def CQ(L:cW)(s:aC)(k:Nat)(h:RepI k s)(u:k<=1000000000000)(N:Int)(F:0<=N/\N<=1099511627776)(m:aT Go.Addr)(E:Nat)(l:ab ag)(T:l.length<=448)(G:∀x∈l,bq x 7=true):ar prog 78 [aw L.dS 0,I N,.slice m l.length E] [kv L s,rows ag.c (.slice m l.length E) 46 2 l] (λr J=>∃d,r=.tuple #[]/\J=[kv {L with ek:=d} {s with dA:=(hP s.n s.self N s.fi l (s.dA,s.pl)).1,pl:=(hP s.n s.self N s.fi l (s.dA,s.pl)).2},rows ag.c (.slice m l.length E) 46 2 l]):=by
 have y:=h.gO;have Q:=h.self;have Z:=h.fX.len;have C:=h.fX.t;refine ar.known (p:=∃b,Rd (rows ag.c (.slice m l.length E) 46 2 l) m l.length b 0 2 (l.map ag.c)) (λw i=>?_) ?_
 .obtain⟨M,Y,b,z,g⟩:=iD (f:=ag.c) (v:=.slice m l.length E) (l:=l) ag.len (aG _ (aF _)) w i;simp only[sQ]at z;obtain⟨rfl,-,rfl⟩:=z;exact⟨b,g⟩
 .rintro⟨b,g⟩;have a:=afZ L.dS s.n s.self L.wp L.dZ L.ek s.dA s.pl s.fi N _ m E b 0 l g h.fX.w ac ac (λx U=>by have:=l2 (G x U);omega) ac ac ac;exact O7
def agh(n:Int)(p:Nat)(X:lk)(s:db)(h:hC n s):ar prog 115 [aw p 0] [jP p X s] (λr J=>∃m E l,pY s l/\r=.slice m l.length E/\J=[rows ag.c (.slice m l.length E) 46 2 l,jP p X s]):=by refine ar.UB (Pc n p X s h) ?_;rintro v J W D w⟨_,l,K,rfl,rfl⟩ a;obtain⟨m,E,b,rfl,_⟩:=iD (f:=ag.c) ag.len (aF _) w a;exact⟨_,⟨m,E,l,K,rfl,rfl⟩,a⟩
def H1(b:Nat)(L:cW)(s:aC)(k:Nat)(h:RepI k s)(cc:k<=1000000000000)(cN:s.told.length<=1000000):ar prog 79 [aw b 0] (cb b L s) (λr Yc=>∃bD cE,k3 s cE/\r=.tuple #[]/\Yc=cb b bD cE):=by
 have dv:=acp (aw L.el 0) rfl;have Yv:=h.run.ZC;obtain⟨ec,e3,hi,dS,wp,dZ,ek,el,dP,eb,bH,e0,dN,bS⟩:=L;unfold cb eN;dsimp only;refine aE func79 λW=>?_;refine aa 2 ?_;refine ai.o (O.UQ (λoO=>?_));refine aa 10 ?_;rintro _ _⟨aiF,rfl,rfl⟩;refine aa 4 ?_;refine ah.nh (ajE s.n aiF el dP s.run h.run) (λz:nk×aj×ab fF=>[cells oO 36 [aw b 0],cells b 95 (eN ⟨ec,e3,hi,dS,wp,dZ,ek,el,dP,eb,bH,e0,dN,z.2.1⟩ {s with M:=z.1}),mg z.1,bz cg iX eb s.dX,rows fF.c z.2.1 65 6 z.2.2])
  (λpre z=>j9 (s.run.done.length+pre.length) z.1/\z.1.b=s.M.b/\∃t,z.2.2=s.told++t/\t.map (·.Item)=pre.filter s.UV/\rO s pre z.1 t) (λ_ _ _=>False) (s.M,bS,s.told) ⟨h.M,rfl,[],T3,rfl,λ_=>rfl,λ_ h=>Ua⟩ ?_ ?_ ?_
 .rintro z pre x Yg⟨CR,F,p⟩ cp rec dJ⟨C,d,t1,a,R,y⟩ c1 eI jk K cA;dsimp only at C d a R y;obtain⟨YE,T,u,E,m,Q,zJ⟩:=CR;dsimp only at d;subst d;unfold eN;refine bl ?_;have Yi:=dJ.toGoR.len;rw[b2,dD]at Yi;have nb:=ajh _ _ C ac (s.run.g.call x).cv;dsimp only at nb;have eh:(pre++[x]).filter s.UV=pre.filter s.UV++(if s.UV x then[x]else[]):=by rw[nH];congr 1;cases h:s.UV x<;>simp[h]
  have Yn:=dp List.length R;rw[eT]at Yn;have YS:=sP s.UV pre;have Ym:p.length<=1000448:=by rw[a,b2];omega
  by_cases U:(s.run.g.call x).cv.Kind=0
  .have dx:bd .eql (s.run.g.call x).cv.Kind 0=some true:=by simp[bd,U]
   have Y:s.UV x=false:=by unfold aC.UV;rw[lg Lw];rfl
   rw[Y]at eh;refine aq 2 λoG=>?_;refine aq 4 λgq=>?_;refine aa 10 ?_;refine ai.v (V.cmp rfl rfl dx) ?_;refine aa 6 ?_;exact Out.rd cA (⟨s.M.b,T,u,E,m,Q,zJ⟩,F,p) ⟨by rw[b2];exact C.mono (by rw[<-qi];exact jL _ _),rfl,t1,a,by rw[eh,R];simp,rO.none R x _⟩
  .have dx:bd .eql (s.run.g.call x).cv.Kind 0=some false:=by simp[bd,U]
   refine aq 2 λoG=>?_;refine aq 4 λgq=>?_;refine aa 10 ?_;refine ai.v (V.cmp rfl rfl dx) ?_;refine aa 5 ?_;refine ah.mt [3,2,1] (λz:Nat×nk×hL=>(j9 (s.run.done.length+pre.length+1) z.2.1/\z.2.1.b=s.M.b)/\z.2.2.Version=(il m (s.run.g.call x).cv).1.gP/\∃cV Yf Ye,z.2.2.Keys=.slice cV Yf Ye) (λz=>[(4,aw z.1 0)]) (λz=>[cells z.1 63 z.2.2.c,mg z.2.1]) (i:=[mg ⟨s.M.b,T,u,E,m,Q,zJ⟩]) ?_ ?_
   .intro fM Yh;refine ah.n' ?_ aB.j.j.j.j.d'.j.j.d';refine ae 3 0 ?_;refine ae 2 4 ?_;refine af.bv 3 7 rfl rfl ?_ ?_;refine av.x' (V.C' ad) ?_;refine au ?_;refine af.bv 6 7 rfl rfl ?_ ?_;refine av.Z' rfl (nb) Uc ?_;rintro v3 oF⟨YT,⟨YU,⟨YQ,⟨YR,⟨⟨Yj,Yk,Yl⟩,rfl,rfl⟩⟩⟩⟩⟩;refine aa 2 ?_;refine df 7 λfT=>?_;refine ae 1 8 ?_;refine au ?_;rotate_left;refine O.N' ad (λfT=>?_);refine au ?_;refine af.p' 6 rfl rfl (nb) ?_;rintro Ys YB⟨YO,⟨YP,⟨YK,⟨YL,⟨⟨Yt,Yp,Yq⟩,rfl,rfl⟩⟩⟩⟩⟩;refine aa 2 ?_;refine ae 1 8 ?_;refine au ?_;rotate_left;refine LA λfT=>?_;refine af.p' 6 rfl rfl (nb) ?_;rintro YV YW⟨YM,⟨YN,⟨YI,⟨YJ,⟨⟨Yz,YH,YA⟩,rfl,rfl⟩⟩⟩⟩⟩;refine aa 2 ?_;refine ae 1 8 ?_;refine au ?_;rotate_left;all_goals refine Out.z' Yh (_,_,_) ?_ trivial
    all_goals exact⟨⟨TX,TX⟩,rfl,_,_,_,rfl⟩
   rintro⟨fT,⟨YX,D,G,J,Yu,Z,Yw⟩,⟨pt,X,e4,afY⟩⟩⟨⟨Yo,Yx⟩,q,w,P,j,Yr⟩;dsimp only at Yo Yx Yr q;subst Yx Yr;refine bl ?_;cases N:(a8 s.dX x).getD false
   .have Y:s.UV x=false:=by unfold aC.UV;rw[N,vu]
    rw[Y]at eh;refine Mz ?_;refine aa 6 ?_;exact Out.rd cA (⟨s.M.b,D,G,J,Yu,Z,Yw⟩,F,p) ⟨by rw[b2];exact Yo,rfl,t1,a,by rw[eh,R];simp,rO.none R x _⟩
   .have Y:s.UV x=true:=by unfold aC.UV;rw[N,Bool.and_true,ic U]
    rw[Y]at eh;refine Mz ?_;refine aa 4 ?_;refine ah.n' ?_ aB.j.j.j.d'.j.d'.j.j.d';refine ae 4 0 ?_;refine ae 2 5 ?_;refine af.i' 7 rfl (V.UZ ad (d:=(⟨x,pt,X,e4,w,P,j⟩:fF).c)) ?_;refine af.bv 4 8 rfl rfl ?_ ?_;refine av.x' (V.C' ad) ?_;refine au ?_;refine af.q' 8 rfl (O.Q' ad fF.c [⟨x,pt,X,e4,w,P,j⟩] rfl (bI.agg rfl bI.nil) rfl rfl (λYF=>?_));refine au ?_;refine Q4 λYG YC YD=>?_;rotate_left;refine O.Q' ad fF.c [⟨x,pt,X,e4,w,P,j⟩] rfl (bI.agg rfl bI.nil) rfl rfl (λYF=>?_);refine au ?_;refine ae 1 4 ?_;refine Q4 λYG YC YD=>?_;rotate_left;all_goals exact Out.rd cA (⟨s.M.b,D,G,J,Yu,Z,Yw⟩,_,p++[⟨x,pt,X,e4,w,P,j⟩]) ⟨by rw[b2];exact Yo,rfl,t1++[⟨x,pt,X,e4,w,P,j⟩],by rw[a,cn],by rw[eh,jo,R];rfl,y.one R x _ _ q⟩
 .rintro⟨Yy,i⟩ xs⟨CR,F,p⟩ c dJ⟨C,d,t1,a,R,y⟩;dsimp only at C d a R y;obtain⟨YE,T,u,E,m,Q,zJ⟩:=CR;dsimp only at d;subst d;subst a;unfold eN;refine bl ?_;have X:=agh s.n el Yy i dJ.ok;have L (cV:aT Go.Addr) (Ye:Nat) (l:ab ag) (K:pY i l):=CQ ⟨ec,e3,hi,dS,wp,dZ,ek,el,dP,eb,bH,e0,dN,bS⟩ s k h cc s.now h.now cV Ye l K.len (λx U=>(K.aV x U).2);dsimp only at L;refine aa 2 ?_;refine ah.n' ?_ aB.j.j.j.j.j.j.j.j.j.j.j.j.j.j.j.d'.j;refine ae 3 0 ?_;refine ae 3 4 ?_;refine ae 3 8 ?_;refine af.gm 3 7 11 rfl rfl rfl ?_ ?_ ?_;refine av.x' (V.C' ad) ?_;refine au ?_;refine af.bv 7 11 rfl rfl ?_ ?_;refine av.x' (V.C' ad) ?_;refine au ?_;refine ae 1 11 ?_;refine af.p' 12 rfl rfl (X) ?_;refine R5 λP Y j Yj=>?_;refine RK λr=>?_;rotate_left;refine av.x' (V.C' ad) ?_;refine au ?_;refine af.bv 7 12 rfl rfl ?_ ?_;refine J2 ?_;refine R5 λv w a W=>?_;refine RK λp=>?_;rotate_left;refine N6 λn c l p=>?_;refine ae 1 7 ?_;refine RK λn=>?_;rotate_left;refine av.x' (V.C' ad) ?_;refine au ?_;refine af.bv 3 11 rfl rfl ?_ ?_;refine av.x' (V.C' ad) ?_;refine au ?_;refine ae 1 11 ?_;refine af.p' 12 rfl rfl (X) ?_;refine R5 λn l k x=>?_;refine RK λk=>?_;rotate_left;refine av.x' (V.C' ad) ?_;refine au ?_;refine af.bv 3 12 rfl rfl ?_ ?_;refine J2 ?_;refine R5 λY x U J=>?_;refine RK λJ=>?_;rotate_left;refine N6 λZ N K q=>?_;refine ae 1 3 ?_;refine RK λK=>?_;rotate_left;refine av.x' (V.C' ad) ?_;refine au ?_;refine af.gm 3 7 12 rfl rfl rfl ?_ ?_ ?_;refine av.x' (V.C' ad) ?_;refine au ?_;refine af.bv 7 12 rfl rfl ?_ ?_;refine J2 ?_;refine R5 λD q G f=>?_;refine RK λq=>?_;rotate_left;refine N6 λD q G f=>?_;refine ae 1 7 ?_;refine RK λf=>?_;rotate_left;refine av.x' (V.C' ad) ?_;refine au ?_;refine af.bv 3 12 rfl rfl ?_ ?_;refine J2 ?_;refine R5 λf t g d=>?_;refine RK λo=>?_;rotate_left;refine N6 λW z P j=>?_;refine ae 1 3 ?_;refine RK λj=>?_;rotate_left;refine N6 λr v w a=>?_;refine af.bv 3 7 rfl rfl ?_ ?_;refine av.x' (V.C' ad) ?_;refine au ?_;refine ae 1 7 ?_;refine RK λp=>?_;rotate_left;refine av.x' (V.C' ad) ?_;refine au ?_;refine ae 1 3 ?_;refine RK λc=>?_;rotate_left;all_goals exact⟨_,_,⟨⟨ec,e3,hi,dS,wp,dZ,_,el,Yy,eb,bH,e0,dN,F⟩,_,⟨⟨xs,i,⟨s.M.b,T,u,E,m,Q,zJ⟩,t1,_,dJ,TX,R,⟨C,rfl,y⟩,rfl⟩⟩,rfl,rfl⟩,Uc⟩
 .rintro _ _ _ _ _ _ _ _ h;exact h.elim
end Go.Proofs.YteogojgnkjegmaaGreatDoor
