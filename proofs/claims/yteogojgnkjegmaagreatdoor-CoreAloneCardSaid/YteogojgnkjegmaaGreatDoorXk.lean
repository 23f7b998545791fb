/-
 Part of the proof.
-/
import Derived.Test.YteogojgnkjegmaaGreatDoorXj
set_option linter.all false
set_option maxRecDepth 8000
set_option maxHeartbeats 8000000
namespace Go.Proofs.YteogojgnkjegmaaGreatDoor
open Go.ay Go.Proofs.Tryz
variable[Go.ay.bR]
structure bE where
 n:Int
 p:aJ ba
 data:ab aP
 safe:Int
structure bE.ok(s:bE):Prop where
 size:s.n=3\/s.n=5\/s.n=7
 p:s.p.ok
 aS:s.p.aS=s.n
 gE:jr s.n s.p.all
 m9:s.data.length<=65536
def fP(m f Q:Nat)(L:jO)(u:aj)(s:bE):ab ax:=[cells m 120 (kK.c ⟨au Q 0,s.n,au f 0⟩),jP f L s.p,cells Q 156 (kp.c ⟨u,s.safe⟩),dF c0 u 5 1 s.data]
def vE(q f:Nat)(L:jO)(p:aJ ba)(m:p.wf):pW prog 80 [au q 0] [cells q 117 [au f 0],jP f L p] encI p.all [cells q 117 [au f 0],jP f L p]:=abx q f L.hq L.us p m L.ej L.hu
def bE.Tn(s:bE):bE:={s with data:=b5 s.p.all,safe:=((b5 s.p.all).length:Int)}
def bE.SJ{s:bE}(h:s.ok):(b5 s.p.all).length<=47040:=by have F:=Ko ZD h.gE;have M:=aJ.SJ h.p.towf;omega
def abn(m f Q:Nat)(L:jO)(u:aj)(s:bE)(h:s.ok):ar prog 280 [au m 0] (fP m f Q L u s) (λr Y=>∃N,r=I 0/\Y=fP m f Q L N s.Tn):=by
 have g:=bE.SJ h;have q:s.n<=7:=ZD
 have D:=D2 Q u s.data s.safe (b5 s.p.all);have M:=ar.post (K:=λr Y=>∃X,r=I 0/\Y=[cells Q 156 (kp.c ⟨X,((b5 s.p.all).length:Int)⟩),dF c0 X 5 1 (b5 s.p.all)]) D (by
  rintro r Y (⟨F,_⟩|⟨_,X,rfl,rfl⟩)
  .omega
  .exact⟨_,⟨X,rfl,rfl⟩,λ_ _ _ h=>h⟩)
 unfold fc at M;unfold fP bE.Tn;refine aB func280 λW=>?_;refine aq 7 λa=>?_;refine aa 9 ?_;refine ai.o' rfl (zN _ rfl) ?_;rintro _ _⟨R,rfl,rfl⟩;refine aa 4 ?_;refine ah.RK c0 5 1 ?_;refine ah.rg (vE _ f L s.p h.p.towf) (λy:aj×ab aP=>[cells a 154 [y.1],rows c0 y.1 5 1 y.2]) (λpre y=>y.2=b5 pre/\y.1.oneCell'=true) (λ_ _ _=>False) (.slice none 0 0,[]) ⟨rfl,rfl⟩ ?_ ?_ ?_
 .rintro pre x d⟨j,Z⟩ w rec U⟨b,E⟩ o z k G v;dsimp only at b E;subst b;have i:=h.gE x (by rw[U];simp);have T:=D1 x.1 x.2 s.n q i.1 i.2;have K:=vC q i.1 i.2;have P:(b5 pre).length<=47040:=by
   have:b5 s.p.all=b5 pre++b5 (x::d):=by rw[U,pn]
   rw[this,bM]at g;omega
  refine bh ?_;refine aq 2 λJ=>?_;refine aq 4 λC=>?_;refine aa 4 ?_;refine ah.RN [5] ?_ aA.j.d'.j.d'.d' aA.j.j.j.d'.d';refine ae 2 1 ?_;refine af.t 0 rfl (V.y' ad) ?_;refine ae 1 3 ?_;refine af.p' 4 rfl (O.SC ad rfl rfl XJ (ce.str ad) (λYf Yc Ye=>?_));refine av ?_;refine af.l 5 rfl (O.G' ad ?_);refine aa 3 ?_;exact Out.rd v (_,b5 pre++fr x.1 x.2) ⟨by rw[pn];simp[b5],XF⟩
 .rintro⟨j,Z⟩ c⟨b,E⟩;dsimp only at b E;subst b;refine bh ?_;refine aa 3 ?_;refine ah.n' ?_ aA.j.j.d'.j.j.d'.d'.j;refine ae 5 0 ?_;refine af.i' 5 rfl (V.UM ad) ?_;refine af.o' 6 rfl rfl (M) ?_;rintro _ _⟨N,rfl,rfl⟩;refine aa 2 ?_;refine ae 1 7 ?_;exact aM 4
 exact X6
def adX(c f Q:Nat)(L:jO)(u:aj)(s:bE):ar prog 128 [au c 0] (fP c f Q L u s) (λr Y=>r=I 0/\Y=fP c f Q L u {s with safe:=(s.data.length:Int)}):=by have r:=Kf Q u s.data s.safe;unfold fc at r;unfold fP;refine aB func128 λW=>?_;exact aM 28
def b7(p:aJ ba)(x:ag):ba:=(p.at x).getD ba.z
def zS(m f Q:Nat)(L:jO)(u:aj)(s:bE)(x:ag)(h:s.p.wf):ar prog 34 [au m 0,A x.c] (fP m f Q L u s) (λr Y=>r=A (b7 s.p x).c/\Y=fP m f Q L u s):=by
 have d:=D4 f L.hq L.us s.p x h L.ej L.hu;unfold fP b7;cases Q:s.p.at x with
 |none=>
  rw[Q]at d;exact JV
 |some t=>
  rw[Q]at d;exact JV
def afd(c f Q:Nat)(L:jO)(u:aj)(s:bE)(x:Int)(h:s.p.wf):ar prog 116 [au c 0,I x] (fP c f Q L u s) (λr Y=>r=I (s.p.top x:Int)/\Y=fP c f Q L u s):=by have d:=D3 f L.hq L.us s.p x h L.ej L.hu;unfold fP;refine aB func116 λW=>?_;exact aM 29
def afy(c f Q:Nat)(L:jO)(u:aj)(s:bE):ar prog 117 [au c 0] (fP c f Q L u s) (λr Y=>r=I s.n/\Y=fP c f Q L u s):=by unfold fP;refine aB func117 λW=>?_;exact aM 26
def Ea(c f Q:Nat)(L:jO)(u:aj)(s:bE):ar prog 32 [au c 0] (fP c f Q L u s) (λr Y=>∃q,r=.func (.func 80) #[] #[au q 0]/\Y=cells q 117 [au f 0]::fP c f Q L u s):=by unfold fP;refine aB func32 λW=>?_;refine aa 21 ?_;refine ai.o' rfl (zN _ rfl) ?_;rintro _ _⟨w,rfl,rfl⟩;exact aM 6
def ab3:ar prog 32 [.pointer none] [] (λr Y=>∃q f L,r=.func (.func 80) #[] #[au q 0]/\Y=[cells q 117 [au f 0],jP f L (aJ.new 0)]):=by
 refine aB func32 λW=>?_;refine aa 15 ?_;refine ai.o' rfl (zR _) ?_;rintro _ _⟨c,m,rfl,rfl⟩;refine av ?_;refine ai.o' rfl (zN _ rfl) ?_;rintro _ _⟨y,rfl,rfl⟩;refine aa 7 ?_
 exact Nb
def bE.add(s:bE)(x:ag)(i:ba):bE:=
 let t:=if 32768<s.data.length+(fr x i).length then s.Tn else s
 {t with data:=t.data++fr x i,p:=t.p.set x i}
def Kx(m f Q:Nat)(L:jO)(u:aj)(s:bE)(x:ag)(i:ba)(h:s.ok)(U:bB x s.n=true)(ao:fb i s.n=true):ar prog 264 [au m 0,A x.c,A i.c] (fP m f Q L u s) (λr Y=>∃l N,r=I 0/\Y=fP m f Q l N (s.add x i)):=by
 have o:s.n<=7:=ZD
 have j:=lU x s.n;rw[U]at j;have J:=D0 i s.n;rw[ao]at J;have T:=D1 x i s.n o U ao;have d:=vC o U ao;have q:=bE.SJ h;have t (u:aj) (D:ab aP) (k:Int) (b:D.length+(fr x i).length<=65536) (g:Nat):
   ar prog 281 [au Q 0,.slice (some ⟨g,0,none⟩) 1 1] [cells Q 156 (kp.c ⟨u,k⟩),dF c0 u 5 1 D,row (.slice (some ⟨g,0,none⟩) 1 1) 9 1 1 [S (fr x i)]]
    (λr Y=>∃X,r=I 0/\Y=[cells Q 156 (kp.c ⟨X,k⟩),dF c0 X 5 1 (D++fr x i),row (.slice (some ⟨g,0,none⟩) 1 1) 9 1 1 [S (fr x i)]]):=by
  have:=acG Q u D k (fr x i) _ _ 1 g 0 (Rd.lits (E:=9) (o:=1) eP [fr x i] rfl rfl (λ_=>rfl) XE) ac ac
  refine ar.post this ?_
  rintro r Y (⟨F,_⟩|⟨_,X,rfl,rfl⟩)
  .omega
  .exact⟨_,⟨X,rfl,rfl⟩,λ_ _ _ h=>h⟩
 have K:=h.m9;have r (L:jO):=D9 f L s.p x i h.p.towf;have o:=ac8 Q u s.data s.safe;unfold fc at o;have Z:=abn m f Q L u s h;unfold bE.add;by_cases j:32768<s.data.length+(fr x i).length
 .rw[aT j];unfold fP at Z⊢;unfold bE.Tn at Z⊢;dsimp only at Z⊢;refine HD λW h C=>?_;refine aa 34 ?_;rintro _ _⟨x,rfl,rfl⟩;refine aq 21 λD=>?_;refine ai.o' rfl (t _ _ _ ?_ _) ?_;exact b1;rintro _ _⟨K,rfl,rfl⟩;refine aa 14 ?_;refine ah.n' ?_ aA.d'.d'.j.d'.j.j.j;refine ae 6 0 ?_;refine af.o' 6 rfl rfl (r _) ?_;rintro _ _⟨b,rfl,rfl⟩;refine aa 11 ?_
  exact Pb
 .rw[aN j];unfold fP;dsimp only;refine HD λW h C=>?_;refine aq 40 λD=>?_;refine ai.o' rfl (t _ _ _ ?_ _) ?_;exact b1;rintro _ _⟨K,rfl,rfl⟩;refine aa 14 ?_;refine ah.n' ?_ aA.j.d'.d'.d'.j.j.j;refine ae 6 0 ?_;refine af.o' 6 rfl rfl (r _) ?_;rintro _ _⟨b,rfl,rfl⟩;refine aa 11 ?_
  exact Pb
end Go.Proofs.YteogojgnkjegmaaGreatDoor
namespace Go.Proofs.YteogojgnkjegmaaGreatDoor
open Go.ay Go.Proofs.Tryz
def rl(s p:ab aP):Bool:=decide (p.length<=s.length)&&decide (s.take p.length=p)
def abh(s p:ab aP)(Q:s.length<=9223372036854775807)(r:p.length<=9223372036854775807):cX prog 166 [S s,S p] (B (rl s p)):=by
 unfold rl;refine aB func166 λW=>?_;refine aa 13 ?_;refine ai.aU (λn=>?_) (λn=>?_);refine aa 3 ?_;refine ai.v (V.TD ad) ?_;refine aa 8 ?_
 exact Nr
 refine aa 12 ?_
 exact Nr
def Eb(s p:ab aP)(Q:s.length<=9223372036854775807)(r:p.length<=9223372036854775807):cX prog 119 [S s,S p] (B (rl s p)):=by
 refine aB func119 λW=>?_;refine aa 9 ?_;refine ai.o (aw.fn rfl (abh _ _ ?_ ?_) ?_);iterate 2 exact b1
 exact aM 5
def vF(d:bP):Bool:=decide (d.Kind=2)||(decide (d.Kind=3)||decide (d.Kind=4))
def afc(d:bP):cX prog 167 [A d.c] (B (vF d)):=by
 unfold vF;refine aB func167 λW=>?_;refine aq 2 λt=>?_;refine aa 9 ?_;refine Rg (λi=>?_) λi=>?_
 .simp_all
 refine RH (λl=>?_) λl=>?_;refine aa 9 ?_
 .simp_all
 refine aa 9 ?_
 .simp_all
def tI(r w:bP):Bool:=vF w&&(!decide (r.Kind=0)&&(if r.Kind=5 then rl w.Key r.Key else decide (r.Key=w.Key)))
def xu(r w:bP)(t:r.Key.length<=9223372036854775807)(m:w.Key.length<=9223372036854775807):cX prog 120 [A r.c,A w.c] (B (tI r w)):=by
 have p:=afc w;unfold tI;refine aB func120 λW=>?_;refine aq 2 λL=>?_;refine aq 0 λa=>?_;refine Ru (λs=>?_) λs=>?_;refine aa 15 ?_
 .clear p;simp_all
 refine Ri (λk=>?_) λk=>?_;refine aa 8 ?_
 .clear p;simp_all
 refine aa 10 ?_;refine ah.cs (λh=>?_) (λh=>?_);refine aa 6 ?_;refine ai.o (aw.fn rfl (Eb _ _ ?_ ?_) ?_);iterate 2 exact b1
 refine aa 6 ?_
 .clear p;simp_all
 refine aa 14 ?_
 .clear p;simp_all
def ow(a b:bP):Bool:=!decide (a.Kind=0)&&(!decide (b.Kind=0)&&((!decide (a.cy=0)&&decide (a.cy=b.cy))||(tI a b||tI b a)))
def aaZ(a b:bP)(t:a.Key.length<=9223372036854775807)(R:b.Key.length<=9223372036854775807):cX prog 86 [A a.c,A b.c] (B (ow a b)):=by
 unfold ow;refine aB func86 λW=>?_;refine aq 2 λL=>?_;refine aq 0 λp=>?_;refine Ru (λx=>?_) λx=>?_;refine aa 15 ?_
 .simp_all
 refine Ri (λY=>?_) λY=>?_;refine aa 8 ?_
 .simp_all
 refine aa 8 ?_;refine ai.aU (λF=>?_) (λF=>?_);refine aa 7 ?_;refine Rg (λU=>?_) λU=>?_
 .simp_all
 refine aa 2 ?_;refine ai.o (aw.fn rfl (xu _ _ ?_ ?_) ?_);iterate 2 exact b1
 refine aa 2 ?_;refine ai.aU (λJ=>?_) (λJ=>?_);refine aa 9 ?_
 .simp_all
 refine aa 2 ?_;refine ai.o (aw.fn rfl (xu _ _ ?_ ?_) ?_);iterate 2 exact b1
 refine aa 6 ?_
 .simp_all
 refine aa 9 ?_;refine ai.o (aw.fn rfl (xu _ _ ?_ ?_) ?_);iterate 2 exact b1
 refine aa 2 ?_;refine ai.aU (λZ=>?_) (λZ=>?_);refine aa 9 ?_
 .simp_all
 refine aa 2 ?_;refine ai.o (aw.fn rfl (xu _ _ ?_ ?_) ?_);iterate 2 exact b1
 refine aa 6 ?_
 .simp_all
def js(d:bI)(x:ag):bI:=
 ⟨if x.be=0 then Max.max d.fS x.bH else d.fS,if x.be=1 then Max.max d.eu x.bH else d.eu,if x.be=2 then Max.max d.bu x.bH else d.bu,if x.be=3 then Max.max d.hb x.bH else d.hb,
  if x.be=4 then Max.max d.n9 x.bH else d.n9,if x.be=5 then Max.max d.nD x.bH else d.nD,if x.be=6 then Max.max d.oa x.bH else d.oa⟩
def KB(d:bI)(x:ag){k:Nat}{m:Int}(T:x.be=(k:Int))(K:d.l[k]?=some m):(js d x).l=d.l.set k (Max.max m x.bH):=by
 have E:k<7:=M0
 rcases(by omega:k=0\/k=1\/k=2\/k=3\/k=4\/k=5\/k=6)with e|e|e|e|e|e|e<;>subst e<;>cases K<;>simp[js,bI.l,T]
def KC(d:bI)(x:ag):cX prog 87 [A d.c,A x.c] (A (js d x).c):=by
 by_cases h:0<=x.be/\x.be<7
 .obtain⟨k,T⟩:∃k:Nat,x.be=(k:Int):=⟨x.be.toNat,ac⟩
  obtain⟨m,K⟩:∃m,d.l[k]?=some m:=⟨_,gM P4⟩
  have g:=bI.RX d;rw[bI.Tm d];refine aB func87 λW=>?_;refine Ro λo a h=>?_;refine aa 17 ?_;refine ah.RN [10] ?_ aA.d'.d'.j aA.j.d'.j;refine ae 4 0 ?_;refine af.i' 4 rfl (V.RL ad (k:=k) rfl rfl T) ?_;refine ae 2 6 ?_;refine af.t 5 rfl (V.y' ad (g:=Dx K)) ?_;refine ae 1 8 ?_;refine af.i' 9 rfl (V.RL ad (k:=k) rfl rfl T) ?_;refine af.l 10 rfl (O.G' ad ?_ (j:=Dz ac) (z:=zz ac));refine aa 3 ?_;rotate_left;rw[<-KB d x T K,<-bI.Tm (js d x)];exact aM 8
 .have e:js d x=d:=by unfold js;simp only[show¬x.be=0 by omega,show¬x.be=1 by omega,show¬x.be=2 by omega,show¬x.be=3 by omega,show¬x.be=4 by omega,show¬x.be=5 by omega,show¬x.be=6 by omega,ii]
  rw[e];refine aB func87 λW=>?_;refine Ro λo a h=>?_;refine aa 9 ?_;refine ai.aU (λN=>?_) (λN=>?_);exact aM 17;exact aM 17
end Go.Proofs.YteogojgnkjegmaaGreatDoor
namespace Go.ay
open Go
section
variable{P:bF}{r:aQ Nat}{W:aY}{D:ab Nat}{n:c7}{Q:cE}{F J:bv}{U Y bc:ab ax}{N:Array bS}{Z:ab bS}{w:aY}
def vG(P:bF)(i:eg)(L:ab aj)(Z C:ab ax){o:Type}(f:o->ab aj)(A:ab o->Prop)(u:ab ax):Prop:=
 ∀(l:Nat) (t:Type) (G X:ab o->t->Prop) (S:t->ax) (K:t),G [] K->
  (∀pre x d b,A (pre++x::d)->G pre b->jG P l (f x) [aI (S b::Z)] (λv Y=>∃q t,v=.bool t/\(t=true->G (pre++[x]) q)/\(t=false->X (pre++[x]) q)/\Y=[aI (S q::Z)]))->
  ar P i (.func (.yield l) #[] #[]::L) (aI (S K::Z)::C) (λ_ Y=>∃q,((∃M,A M/\G M q)\/∃pre d,A (pre++d)/\X pre q)/\Y=aI (S q::Z)::u)
def vG.for{i:eg}{m:ab aj}{Z c u:ab ax}{o:Type}{p:o->ab aj}{A:ab o->Prop}(j:vG P i m Z c p A u){L:Type}{S y:L->ax}(a:∀b,aL [S b] [aI (y b::Z)])(l:Nat)(G X:ab o->L->Prop)(T:L)(f:G [] T)(E:∀pre x z b,A (pre++x::z)->G pre b->jG P l (p x) [S b] (λv Y=>∃q t,v=.bool t/\(t=true->G (pre++[x]) q)/\(t=false->X (pre++[x]) q)/\Y=[S q])):ar P i (.func (.yield l) #[] #[]::m) (S T::c) (λ_ Y=>∃q,((∃C,A C/\G C q)\/∃pre z,A (pre++z)/\X pre q)/\Y=S q::u):=by
 refine ar.eqv ((a T).append (aL.refl c)) (j l L G X y T f λpre x z b d R=>jG.eqv (a b).symm (E pre x z b d R) ?_) ?_
 .rintro v Y⟨q,t,M,K,g,rfl⟩;exact⟨_,⟨q,t,M,K,g,rfl⟩,a q⟩
 .rintro v Y⟨q,M,rfl⟩;exact⟨_,⟨q,M,rfl⟩,(a q).symm.append (aL.refl u)⟩
def ah.WX{c:Code}{K:ab ax}(h:ah P r W D n Q c F (aI bc::K))(u:ak U bc K:=by(repeat(first|exact ak.nil|exact al.here|apply ak.cons|apply al.there))):ah P r W D n Q c F U:=
 ah.of λa w L f=>h.get a w L (f.Se u).toBag
def ah.WY{t o:Type}{g:bd}{aU:ab Tmp}{assign body:Code}{iO:eg}{L:ab aj}{f:t->ab aj}{lX:ab t->Prop}{Z C u T:ab ax}(hV:vG P iO L Z C f lX u)(z:o->ab ax)(G:ab t->o->Prop)(X:dj->ab t->o->Prop)(k:o)(ep:G [] k)(round:∀pre x d b l rec,lX (pre++x::d)->G pre b->o1 rec->∀(eh:aY) (iP:ab Nat) (K:cE),(∀e q,fv e=true->Way G X (pre++[x]) e q->∀a w,H eh iP (iN l rec::(z q++Z)) w->K e a w)->ah P (some l) eh iP ⟨n.n,[]⟩ (Exit.then (pU P l body K) qQ) assign (o2 aU (f x) F) (bZ l rec .normal::(z b++Z)))(done:∀R b c,lX R->G R b->Out W D ⟨n.n,c::n.ds⟩ Q .normal F (fC c::((z b++Z)++(u++T))))(left:∀b c e pre,fv e=true->eL e=false->(∃d,lX (pre++d))->X e pre b->Out W D ⟨n.n,c::n.ds⟩ Q e F (fC c::((z b++Z)++(u++T))))(bU:aO F g=some (.func (.func iO) #[] L.toArray):=by exact rfl)(Ye:jE P iO=true:=by kernel_rfl)(Yf:ak U ((z k++Z)++C) T:=by(repeat(first|exact ak.nil|exact al.here|apply ak.cons|apply al.there)))(dO:∀x,aU.length=(f x).length:=by intro _;rfl)(ei:(aU.all λp=>Nat.blt p n.n)=true:=by exact rfl):ah P none W D n Q (.rangeFunc g aU.toArray assign body) F U:=by
 let S:o->ab ax:=λb=>z b++Z;have Yc:ah P none W D n Q (.rangeFunc g aU.toArray assign body) F (aI (S k)::(C++T)):=by
  have Yh:∀{e:dj} {pre:ab t} {b:o},fv e=true->Way G X pre e b->(eL e=true/\G pre b)\/(eL e=false/\X e pre b):=by
   intro e pre b m h;cases e with
   |normal=>exact .inl ⟨rfl,h⟩
   |ret=>exact .inr ⟨rfl,h⟩
   |exit id=>exact .inr ⟨rfl,h⟩
   |_=>cases m
  refine ah.Te (km:={p:ab t×t×ab t×o//lX (p.1++p.2.1::p.2.2.1)/\G p.1 p.2.2.2}) (d:=C) (t:=T) (λi=>f i.1.2.1) (aI (S k)) (λi=>aI (S i.1.2.2.2)) (λi e cn=>∃q,cn=aI (S q)/\Way G X (i.1.1++[i.1.2.1]) e q)
   (λe E=>∃q,E=aI (S q)::u/\((e=.normal/\∃R,lX R/\G R q)\/(eL e=false/\∃pre d,lX (pre++d)/\X e pre q))) bU Ye ?_ (λi=>dO _) ei ?_ ?_ ?_
  .have:∀(l:ab ax) (s:ax),ak (s::(l++T)) (s::l) T:=by
    intro l s;refine ak.cons al.here ?_;induction l with
    |nil=>exact ak.nil
    |cons x l la=>exact ak.cons al.here la
   exact this C _
  .rintro⟨⟨pre,x,d,b⟩,cr,dT⟩ l rec e6 eh K cu;have ef:bg [bZ l rec .normal,aI (S b)]=bg (bZ l rec .normal::S b):=by simp only[hS,tg];simp[bg]
   have:=round pre x d b l rec cr dT e6 eh (bg [bZ l rec .normal,aI (S b)]) K (λe q m dW a w y=>cu e (aI (S q)) m ⟨q,rfl,dW⟩ a w (by have M:H eh (bg [bZ l rec .normal,aI (S b)]) (S q++[iN l rec]) w:=y.perm (by simpa using(mZ (l₁:=[iN l rec]) (l₂:=S q)));exact(M.toBag).perm (gZ ..)))
   refine ah.of λa w cT y=>?_;refine this.get a w cT ?_;have M:=(y.perm (gZ ..)).R7;exact M.perm (mZ (l₁:=S b) (l₂:=[_]))
  .intro l rec e7;have lu:∀p:dj×o,aL [aI [bZ l rec p.1,aI (S p.2)]] [aI (aI [bZ l rec p.1,aI (z p.2)]::Z)]:=λp=>by have eu:aL [aI [bZ l rec p.1,aI (S p.2)]] ([bZ l rec p.1]++(z p.2++Z)):=aL.aI.trans ((aL.refl [bZ l rec p.1]).append aL.aI);have bu:aL [aI (aI [bZ l rec p.1,aI (z p.2)]::Z)] (([bZ l rec p.1]++z p.2)++Z):=aL.aI.trans ((aL.aI.trans ((aL.refl [bZ l rec p.1]).append aL.aI)).append (aL.refl Z));rw[cd]at bu;exact eu.trans bu.symm
   have eJ:=vG.for hV (S:=λp:dj×o=>aI [bZ l rec p.1,aI (S p.2)]) (y:=λp:dj×o=>aI [bZ l rec p.1,aI (z p.2)]) lu l (λpre p=>p.1=.normal/\G pre p.2) (λpre p=>fv p.1=true/\eL p.1=false/\X p.1 pre p.2) (.normal,k) ⟨rfl,ep⟩ ?_
   .refine eJ.conv (λw h=>?_) ?_ ?_
    .exact gI.toBag (bc:=[bZ l rec .normal,aI (S k)]) h
    .exact(qP (bc:=[bZ l rec .normal,aI (S k)])).symm
    .rintro v Y⟨⟨e,q⟩,bY,rfl⟩;refine⟨bZ l rec e::aI (S q)::u,⟨e,_,?_,⟨q,rfl,?_⟩,rfl⟩,λW D w h=>h.R7 (bc:=[bZ l rec e,aI (S q)])⟩
     .rcases bY with⟨_,_,h,_⟩|⟨_,_,_,h,_⟩
      exact ZI
      .exact h
     .rcases bY with⟨R,dO,h,j⟩|⟨pre,d,ei,_,cp,fZ⟩
      .exact .inl ⟨h,R,dO,j⟩
      .exact .inr ⟨cp,pre,d,ei,fZ⟩
   .rintro pre x d⟨e,b⟩ cr⟨ea,dT⟩;simp only at ea dT;subst ea;refine(e7 ⟨(pre,x,d,b),cr,dT⟩).conv (λw h=>?_) ?_ ?_
    exact Lq
    .have:=(qP (bc:=[bZ l rec .normal,aI (S b)]) (an:=[]))
     simpa using this
    .rintro v Y⟨e,cn,rfl,m,⟨q,rfl,dW⟩,rfl⟩;refine⟨[aI [bZ l rec e,aI (S q)]],⟨(e,q),eL e,rfl,λh=>?_,λh=>?_,rfl⟩,λW D w h=>H.toBag (bc:=[bZ l rec e,aI (S q)]) (an:=[]) XV⟩
     .rcases Yh m dW with⟨M,j⟩|⟨M,j⟩
      .refine⟨?_,j⟩;cases e<;>first|rfl|cases M
      .rw[M]at h;cases h
     .rcases Yh m dW with⟨M,j⟩|⟨M,j⟩
      .rw[M]at h;cases h
      .exact⟨m,M,j⟩
  .rintro c e E m⟨q,rfl,bY⟩;have conv:∀{e:dj},Out W D ⟨n.n,c::n.ds⟩ Q e F (fC c::(S q++(u++T)))->Out W D ⟨n.n,c::n.ds⟩ Q e F (fC c::(aI (S q)::u++T)):=λh=>Out.of λa w cT y=>by refine h.get a w cT ?_;have M:H W D (aI (S q)::(fC c::(u++T))) w:=y.perm HT;exact M.R7.perm mO
   rcases bY with⟨rfl,R,dO,dT⟩|⟨Yg,pre,d,Yi,hW⟩
   .exact conv (done R q c dO dT)
   .exact conv (left q c e pre m Yg ⟨d,Yi⟩ hW)
 refine ah.of λa w cT y=>?_;refine Yc.get a w cT ?_;have M:=y.Se Yf;rw[cd]at M;exact M.toBag
end
end Go.ay
namespace Go.ay
open Go
variable[Go.ay.bR]
section
variable{P:bF}{r:aQ Nat}{W:aY}{D:ab Nat}{n:c7}{Q:cE}{Y:bv}{Z:ab ax}{G:Nat}{R:aZ}{N:String}{K:Array Edge}{C:aQ (Nat×Bool)}{F J:Type}[DecidableEq F]{M:F->aj}{aR:J->aj}{X:aZ}{l:ab (F×J)}
def aK.R6{t e:aZ}{x y:bd}{b:Nat}{k:F}(q:J){v:J}(L:(br l k).getD q=v)(a:gO P X M)(j:g1 P t X e=true)(m:∀w,(zeroValue e).run P w=.ok (aR q) w) (u:aO Y x=some (.map (some b))) (T:aO Y y=some (M k)) (E:bn M aR b l∈Z):aK P n Y Z ⟨some G,.lookup t x y false,R,N,K,C⟩ (aR v):=by have h:=aK.RW (P:=P) (n:=n) (am:=Y) (an:=Z) (dst:=G) (a1:=R) (a6:=N) (a7:=K) (aW:=C) (l:=l) (k:=k) q a j m u T E;rwa[L]at h
end
end Go.ay
namespace Go.Proofs.YteogojgnkjegmaaGreatDoor
open Go.ay Go.Proofs.Tryz
variable[Go.ay.bR]
abbrev co:=aj×ab ag
def co.z:co:=(.slice none 0 0,[])
def vH(y:co):ax:=rows ag.c y.1 46 2 y.2
def cR(g:ab co):ax:=aI (g.map vH)
def cR.perm{g L:ab co}(h:g.Perm L):aL [cR g] [cR L]:=aL.aI.trans ((aL.RS (h.map vH)).trans aL.aI.symm)
def cR.cons(y:co)(g:ab co):aL [cR (y::g)] [vH y,cR g]:=aL.aI.trans (aL.cons _ aL.aI.symm)
def mu(g:ab co)(y:co)(L:ab co):Prop:=g.Perm (y::L)\/(y=co.z/\L.Perm g)
section
variable{P:bF}{r:aQ Nat}{W:aY}{D:ab Nat}{n:c7}{Q:cE}{Y:bv}{Z U:ab ax}{c:Go.Code}
def ah.cF{g L:ab co}{y:co}(h:mu g y L)(k:ah P r W D n Q c Y (rows ag.c y.1 46 2 y.2::cR L::U))(u:ak Z [cR g] U:=by(repeat(first|exact ak.nil|exact al.here|apply ak.cons|apply al.there))):ah P r W D n Q c Y Z:=by
 have o:ah P r W D n Q c Y (cR g::U):=by
  rcases h with h|⟨rfl,h⟩
  .exact ah.eqv (((cR.perm h).trans (cR.cons y L)).append (aL.refl U)) k
  .refine ah.eqv (((cR.perm h.symm)).append (aL.refl U)) ?_;exact ah.RK ag.c 46 2 k
 exact ah.of λa w L f=>o.get a w L (by simpa using f.Se u)
def ah.T9{g:ab co}{v:aj}{l:ab ag}(k:ah P r W D n Q c Y (cR ((v,l)::g)::U))(u:ak Z [rows ag.c v 46 2 l,cR g] U:=by(repeat(first|exact ak.nil|exact al.here|apply ak.cons|apply al.there))):ah P r W D n Q c Y Z:=by have o:ah P r W D n Q c Y (rows ag.c v 46 2 l::cR g::U):=ah.eqv ((cR.cons (v,l) g).symm.append (aL.refl U)) k;exact ah.of λa w L f=>o.get a w L (by simpa using f.Se u)
end
def cR.shut{g:ab co}{v:aj}{l:ab ag}{U a:ab ax}{W D w}(h:H W D (U++(rows ag.c v 46 2 l::cR g::a)) w):H W D (U++(cR ((v,l)::g)::a)) w:=
 h.eqv ((aL.refl U).append ((cR.cons (v,l) g).symm.append (aL.refl a)))
section
variable{F:Type}[DecidableEq F]
def fz(m:ab (F×co))(k:F):co:=(br m k).getD co.z
def Ec(m:ab (F×co))(k:F)(gk:ab co):∃L,mu (m.map (·.2)++gk) (fz m k) L/\∀z,(z::L).Perm ((bw m k z).map (·.2)++gk):=by
 induction m with
 |nil=>
  refine⟨gk,.inr ⟨rfl,gA _⟩,λz=>gA _⟩
 |cons p m E=>
  by_cases h:k=p.1
  .refine⟨m.map (·.2)++gk,.inl ?_,λz=>?_⟩
   .rw[fz,jp,aT h];exact gA _
   .rw[ka,aT h];exact gA _
  .obtain⟨L,u,T⟩:=E;have e:fz (p::m) k=fz m k:=by unfold fz;rw[jp,aN h]
   refine⟨p.2::L,?_,λz=>?_⟩
   .rw[e];rcases u with u|⟨u,g⟩
    .exact .inl ((u.cons p.2).trans (gZ ..))
    .exact .inr ⟨u,g.cons p.2⟩
   .rw[ka,aN h];exact(gZ ..).trans ((T z).cons p.2)
def mu.RS{g u:ab co}{y:co}{L:ab co}(h:u.Perm g)(E:mu g y L):mu u y L:=by
 rcases E with u|⟨u,T⟩
 .exact .inl (h.trans u)
 .exact .inr ⟨u,T.trans h.symm⟩
def xv(m:ab (F×co))(k b:F)(y:co):fz (bw m k y) b=if b=k then y else fz m b:=by unfold fz;rw[kM];split<;>rfl
end
def Ed{F J:Type}[DecidableEq F]{m:ab (F×J)}{k b:F}{y:J}(h:b∈(bw m k y).map (·.1)):b=k\/b∈m.map (·.1):=by
 induction m with
 |nil=>rw[oe]at h;simp at h;exact .inl h
 |cons p m u=>
  rw[ka]at h;split at h
  .rename_i e;simp only[eK,dq]at h;rcases h with h|h
   .exact .inl h
   .exact .inr (by simp only[eK,dq];exact .inr h)
  .simp only[eK,dq]at h;rcases h with h|h
   .exact .inr (by simp only[eK,dq];exact .inl h)
   .rcases u h with h|h
    .exact .inl h
    .exact .inr (by simp only[eK,dq];exact .inr h)
def Ee{F J:Type}[DecidableEq F](m:ab (F×J))(k:F)(y:J):(bw m k y).length<=m.length+1:=by
 induction m with
 |nil=>rw[oe];simp
 |cons p m u=>
  rw[ka];split
  .simp
  .simp only[dp];omega
structure fQ where
 hf:Nat
 dA:Nat
 fO:aj
 lists:ab ag
 keys:ab (ab aP×co)
 eb:ab (Int×co)
 g:ab co
 bU:g.Perm ((fO,lists)::(keys.map (·.2)++eb.map (·.2)))
def gl:gO prog 9 (λl:ab aP=>S l):=gO.str rfl
def nf:gO prog 3 (λn:Int=>I n):=gO.int rfl
def po:g1 prog 97 9 98=true:=rfl
def ng:g1 prog 99 3 98=true:=rfl
abbrev eR:co->aj:=λy=>y.1
def nT(w:aY):(Go.zeroValue 98).run prog w=.ok (eR co.z) w:=rfl
abbrev kU:ab aP->aj:=λl=>S l
abbrev pp:Int->aj:=λn=>I n
def hJ(E m:Nat)(L:fQ):ab ax:=[cells E 101 (iS.c ⟨au m 0,.map (some L.hf),L.fO,.map (some L.dA)⟩),bn kU eR L.hf L.keys,bn pp eR L.dA L.eb,cR L.g]
structure Found(L gm:fQ)(x:ag)(d:bP):Prop where
 lists:gm.lists=if d.Kind=5 then L.lists++[x]else L.lists
 keys:∀k,(fz gm.keys k).2=if d.Kind≠0/\d.Kind≠5/\k=d.Key then(fz L.keys k).2++[x]else(fz L.keys k).2
 eb:∀s,(fz gm.eb s).2=if d.Kind≠0/\d.cy≠0/\s=d.cy then(fz L.eb s).2++[x]else(fz L.eb s).2
 Ef:∀B,(∀k∈L.keys.map (·.1),k.length<=B)->d.Key.length<=B->∀k∈gm.keys.map (·.1),k.length<=B
def fQ.WZ(L:fQ):mu L.g (L.fO,L.lists) (L.keys.map (·.2)++L.eb.map (·.2)):=.inl L.bU
def fQ.W0(L:fQ)(k:ab aP):∃d,mu L.g (fz L.keys k) d/\∀z,(z::d).Perm ((L.fO,L.lists)::((bw L.keys k z).map (·.2)++L.eb.map (·.2))):=by obtain⟨d,u,T⟩:=Ec L.keys k ((L.fO,L.lists)::L.eb.map (·.2));refine⟨d,mu.RS (L.bU.trans mO.symm) u,λz=>(T z).trans mO⟩
def fQ.Vn(L:fQ)(s:Int):∃d,mu L.g (fz L.eb s) d/\∀z,(z::d).Perm ((L.fO,L.lists)::(L.keys.map (·.2)++(bw L.eb s z).map (·.2))):=by
 obtain⟨d,u,T⟩:=Ec L.eb s ((L.fO,L.lists)::L.keys.map (·.2));have e:∀m:ab co,(m++(L.fO,L.lists)::L.keys.map (·.2)).Perm ((L.fO,L.lists)::(L.keys.map (·.2)++m)):=λm=>
  mO.trans (qK _ mZ)
 exact⟨d,mu.RS (L.bU.trans (e _).symm) u,λz=>(T z).trans (e _)⟩
end Go.Proofs.YteogojgnkjegmaaGreatDoor
namespace Go.Proofs.YteogojgnkjegmaaGreatDoor
open Go.ay Go.Proofs.Tryz
variable[Go.ay.bR]
def jt(g:ab co):Nat:=(g.map (·.2.length)).sum
def Eg{g L:ab co}(h:g.Perm L):jt g=jt L:=(h.map _).sum_nat
def pq(y:co)(g:ab co):jt (y::g)=y.2.length+jt g:=by simp[jt]
def mu.cU{g L:ab co}{y:co}(h:mu g y L):jt g=y.2.length+jt L:=by
 rcases h with h|⟨rfl,h⟩
 .rw[Eg h,pq]
 .rw[<-Eg h];simp[co.z]
def fQ.cU(L:fQ):Nat:=jt L.g+L.keys.length
def Eh(E m:Nat)(L:fQ)(x:ag)(d:bP)(R:L.cU<=1000000000000):ar prog 102 [au E 0,A x.c,A d.c] (hJ E m L) (λr Y=>∃n:fQ,n.cU<=L.cU+3/\Found L n x d/\r=.tuple #[]/\Y=hJ E m n):=by
 by_cases j:d.Kind=0
 .have f:Found L L x d:=⟨by simp[j],λk=>by simp[j],λs=>by simp[j],λB h _=>h⟩
  have h:ar prog 102 [au E 0,A x.c,A d.c] (hJ E m L) (λr Y=>r=.tuple #[]/\Y=hJ E m L):=by unfold hJ;refine aB func102 λW=>?_;refine aq 2 λF=>?_;refine aq 0 λC=>?_;exact aM 21
  refine ar.post h ?_;rintro r Y⟨rfl,rfl⟩;exact⟨_,⟨L,ac,f,rfl,rfl⟩,λ_ _ _ h=>h⟩
 .by_cases N:d.Kind=5
  .have u:=L.WZ;have o:=u.cU;by_cases Q:d.cy=0
   .have h:ar prog 102 [au E 0,A x.c,A d.c] (hJ E m L) (λr Y=>∃X,r=.tuple #[]/\Y=[cells E 101 (iS.c ⟨au m 0,.map (some L.hf),X,.map (some L.dA)⟩),bn kU eR L.hf L.keys,bn pp eR L.dA L.eb]++(rows ag.c X 46 2 (L.lists++[x])::cR (L.keys.map (·.2)++L.eb.map (·.2))::[])):=by unfold hJ;unfold fQ.cU at R;dsimp only at o;refine aB func102 λW=>?_;refine ah.cF u ?_;dsimp only;refine aq 2 λF=>?_;refine aq 0 λC=>?_;refine aa 24 ?_;refine ah.RN [10] ?_ aA.j.j.d'.j.j.d'.j aA.j.j.j.j.j.d'.j;refine ae 4 0 ?_;refine ae 1 5 ?_;refine af.t 4 rfl (V.y' ad) ?_;refine af.p' 6 rfl (O.N' ad ag.c [_] rfl (bx.agg rfl bx.nil) rfl rfl (λYo=>?_));refine av ?_;refine af.p' 7 rfl (O.O' ad rfl rfl XJ (ce.rows ad XB ag.B') (λYp Yn=>?_));refine av ?_;refine ae 2 8 ?_;refine af.l 10 rfl (O.G' ad ?_);exact aM 14
    refine ar.post h ?_;rintro r Y⟨X,rfl,rfl⟩;refine⟨_,⟨⟨L.hf,L.dA,X,L.lists++[x],L.keys,L.eb,(X,L.lists++[x])::(L.keys.map (·.2)++L.eb.map (·.2)),gA _⟩,?_,⟨ZN,λk=>ZN,λs=>by simp[Q],λB h _=>h⟩,rfl,rfl⟩,λ_ _ _ h=>cR.shut h⟩;show jt ((X,L.lists++[x])::_)+L.keys.length<=jt L.g+L.keys.length+3
    rw[o,pq];simp only[bM,dp,fY];omega
   .obtain⟨⟨M,a⟩,w⟩:∃y,fz L.eb d.cy=y:=⟨_,rfl⟩
    have J:∀X,∃P,mu ((X,L.lists++[x])::(L.keys.map (·.2)++L.eb.map (·.2))) (M,a) P/\∀G,(G::P).Perm ((X,L.lists++[x])::(L.keys.map (·.2)++(bw L.eb d.cy G).map (·.2))):=λX=>by have:=fQ.Vn ⟨L.hf,L.dA,X,L.lists++[x],L.keys,L.eb,(X,L.lists++[x])::(L.keys.map (·.2)++L.eb.map (·.2)),gA _⟩ d.cy;dsimp only at this;rwa[w]at this
    have h:ar prog 102 [au E 0,A x.c,A d.c] (hJ E m L) (λr Y=>∃X U P,(∀G,(G::P).Perm ((X,L.lists++[x])::(L.keys.map (·.2)++(bw L.eb d.cy G).map (·.2))))/\jt ((X,L.lists++[x])::(L.keys.map (·.2)++L.eb.map (·.2)))=a.length+jt P/\r=.tuple #[]/\
      Y=[cells E 101 (iS.c ⟨au m 0,.map (some L.hf),X,.map (some L.dA)⟩),bn kU eR L.hf L.keys,bn pp eR L.dA (bw L.eb d.cy (U,a++[x]))]++(rows ag.c U 46 2 (a++[x])::cR P::[])):=by
     unfold hJ
     unfold fQ.cU at R
     dsimp only at o
     refine aB func102 λW=>?_
     refine ah.cF u ?_
     dsimp only
     refine aq 2 λF=>?_
     refine aq 0 λC=>?_
     refine aa 24 ?_
     refine ah.RN [10] ?_ aA.j.j.d'.j.j.d'.j aA.j.j.j.j.j.d'.j
     refine ae 4 0 ?_
     refine ae 1 5 ?_
     refine af.t 4 rfl (V.y' ad) ?_
     refine af.p' 6 rfl (O.N' ad ag.c [_] rfl (bx.agg rfl bx.nil) rfl rfl (λYo=>?_))
     refine av ?_
     refine af.p' 7 rfl (O.O' ad rfl rfl XJ (ce.rows ad XB ag.B') (λYp Yn=>?_))
     refine av ?_
     refine ae 2 8 ?_
     refine af.l 10 rfl (O.G' ad ?_)
     refine aa 4 ?_
     rotate_left
     refine ah.T9 (l:=L.lists++[x]) ?_
     obtain⟨P,D,K⟩:=J _
     have Yc:=D.cU
     have Yg:=Yc
     rw[pq]at Yg
     simp only[bM,dp,fY]at Yg
     refine ah.cF D ?_
     dsimp only
     refine aa 8 ?_
     refine ah.n' ?_ aA.j.j.d'.d'.d'.j.j.j
     refine ae 12 0 ?_
     refine ae 1 13 ?_
     refine af.bu 12 14 rfl rfl ?_ ?_
     refine aw.q' (aK.R6 (l:=L.eb) (k:=d.cy) (v:=(M,a)) (aR:=eR) co.z w nf ng nT rfl rfl XB) ?_
     refine av ?_
     refine af.p' 14 rfl (O.N' ad ag.c [_] rfl (bx.agg rfl bx.nil) rfl rfl (λYh=>?_))
     refine av ?_
     refine af.p' 15 rfl (O.O' ad rfl rfl XJ (ce.rows ad XB ag.B') (λYj Yi=>?_))
     refine av ?_
     refine af.p' 16 rfl (aw.R1 (l:=L.eb) (k:=d.cy) (v:=((_,a++[x]):co)) (aR:=eR) nf ng rfl rfl rfl XQ ?_)
     refine aa 3 ?_
     rotate_left
     refine O.N' ad ag.c [_] rfl (bx.agg rfl bx.nil) rfl rfl (λYh=>?_)
     refine av ?_
     refine af.p' 12 rfl (aw.q' (aK.R6 (l:=L.eb) (k:=d.cy) (v:=(M,a)) (aR:=eR) co.z w nf ng nT rfl rfl XB) ?_)
     refine av ?_
     refine af.p' 15 rfl (O.O' ad rfl rfl XJ (ce.rows ad XB ag.B') (λYj Yi=>?_))
     refine av ?_
     refine af.p' 16 rfl (aw.R1 (l:=L.eb) (k:=d.cy) (v:=((_,a++[x]):co)) (aR:=eR) nf ng rfl rfl rfl XQ ?_)
     refine aa 3 ?_
     rotate_left
     all_goals exact⟨_,_,⟨_,_,P,K,Yc,rfl,rfl⟩,XC⟩
    refine ar.post h ?_;rintro r Y⟨X,U,P,K,Yc,rfl,rfl⟩;refine⟨_,⟨⟨L.hf,L.dA,X,L.lists++[x],L.keys,bw L.eb d.cy (U,a++[x]),(U,a++[x])::P,K _⟩,?_,⟨ZN,λk=>ZN,λs=>?_,λB h _=>h⟩,rfl,rfl⟩,λ_ _ _ h=>cR.shut h⟩
    .show jt ((U,a++[x])::P)+L.keys.length<=jt L.g+L.keys.length+3;rw[o,pq];rw[pq]at Yc;simp only[bM,dp,fY]at Yc⊢;omega
    .show(fz (bw L.eb d.cy (U,a++[x])) s).2=_;rw[xv];by_cases e:s=d.cy
     .rw[aT e,aT ⟨j,Q,e⟩,e,w]
     exact P8
  .obtain⟨⟨h1,p⟩,q⟩:∃y,fz L.keys d.Key=y:=⟨_,rfl⟩
   obtain⟨i,u,Ym⟩:=L.W0 d.Key;rw[q]at u;have o:=u.cU;by_cases Q:d.cy=0
   .have h:ar prog 102 [au E 0,A x.c,A d.c] (hJ E m L) (λr Y=>∃U,r=.tuple #[]/\
      Y=[cells E 101 (iS.c ⟨au m 0,.map (some L.hf),L.fO,.map (some L.dA)⟩),bn kU eR L.hf (bw L.keys d.Key (U,p++[x])),bn pp eR L.dA L.eb]++(rows ag.c U 46 2 (p++[x])::cR i::[])):=by
     unfold hJ
     unfold fQ.cU at R
     dsimp only at o
     refine aB func102 λW=>?_
     refine ah.cF u ?_
     dsimp only
     refine aq 2 λF=>?_
     refine aq 0 λC=>?_
     refine aa 24 ?_
     refine ah.n' ?_ aA.j.j.d'.j.j.d'.d'
     refine ae 12 0 ?_
     refine ae 1 13 ?_
     refine af.bu 12 14 rfl rfl ?_ ?_
     refine aw.q' (aK.R6 (l:=L.keys) (k:=d.Key) (v:=(h1,p)) (aR:=eR) co.z q gl po nT rfl rfl XB) ?_
     refine av ?_
     refine af.p' 14 rfl (O.N' ad ag.c [_] rfl (bx.agg rfl bx.nil) rfl rfl (λYf=>?_))
     refine av ?_
     refine af.p' 15 rfl (O.O' ad rfl rfl XJ (ce.rows ad XB ag.B') (λYl Yk=>?_))
     refine av ?_
     refine af.p' 16 rfl (aw.R1 (l:=L.keys) (k:=d.Key) (v:=((_,p++[x]):co)) (aR:=eR) gl po rfl rfl rfl XQ ?_)
     exact aM 14
     refine O.N' ad ag.c [_] rfl (bx.agg rfl bx.nil) rfl rfl (λYf=>?_)
     refine av ?_
     refine af.p' 12 rfl (aw.q' (aK.R6 (l:=L.keys) (k:=d.Key) (v:=(h1,p)) (aR:=eR) co.z q gl po nT rfl rfl XB) ?_)
     refine av ?_
     refine af.p' 15 rfl (O.O' ad rfl rfl XJ (ce.rows ad XB ag.B') (λYl Yk=>?_))
     refine av ?_
     refine af.p' 16 rfl (aw.R1 (l:=L.keys) (k:=d.Key) (v:=((_,p++[x]):co)) (aR:=eR) gl po rfl rfl rfl XQ ?_)
     exact aM 14
    refine ar.post h ?_;rintro r Y⟨U,rfl,rfl⟩;refine⟨_,⟨⟨L.hf,L.dA,L.fO,L.lists,bw L.keys d.Key (U,p++[x]),L.eb,(U,p++[x])::i,Ym _⟩,?_,⟨ZN,λk=>?_,λs=>by simp[Q],λB h b k T=>(Ed T).elim (λe=>e▸b) (h k)⟩,rfl,rfl⟩,λ_ _ _ h=>cR.shut h⟩
    .have Ye:=Ee L.keys d.Key ((U,p++[x]):co);show jt ((U,p++[x])::i)+(bw L.keys d.Key (U,p++[x])).length<=jt L.g+L.keys.length+3
     rw[o,pq];simp only[bM,dp,fY];omega
    .show(fz (bw L.keys d.Key (U,p++[x])) k).2=_;rw[xv];by_cases e:k=d.Key
     .rw[aT e,aT ⟨j,N,e⟩,e,q]
     exact P8
   .obtain⟨⟨M,a⟩,w⟩:∃y,fz L.eb d.cy=y:=⟨_,rfl⟩
    have J:∀U,∃P,mu ((U,p++[x])::i) (M,a) P/\∀G,(G::P).Perm ((L.fO,L.lists)::((bw L.keys d.Key (U,p++[x])).map (·.2)++(bw L.eb d.cy G).map (·.2))):=λU=>by have:=fQ.Vn ⟨L.hf,L.dA,L.fO,L.lists,bw L.keys d.Key (U,p++[x]),L.eb,(U,p++[x])::i,Ym _⟩ d.cy;dsimp only at this;rwa[w]at this
    have h:ar prog 102 [au E 0,A x.c,A d.c] (hJ E m L) (λr Y=>∃U Z P,(∀G,(G::P).Perm ((L.fO,L.lists)::((bw L.keys d.Key (U,p++[x])).map (·.2)++(bw L.eb d.cy G).map (·.2))))/\jt ((U,p++[x])::i)=a.length+jt P/\r=.tuple #[]/\
      Y=[cells E 101 (iS.c ⟨au m 0,.map (some L.hf),L.fO,.map (some L.dA)⟩),bn kU eR L.hf (bw L.keys d.Key (U,p++[x])),bn pp eR L.dA (bw L.eb d.cy (Z,a++[x]))]++(rows ag.c Z 46 2 (a++[x])::cR P::[])):=by
     unfold hJ
     unfold fQ.cU at R
     dsimp only at o
     refine aB func102 λW=>?_
     refine ah.cF u ?_
     dsimp only
     refine aq 2 λF=>?_
     refine aq 0 λC=>?_
     refine aa 24 ?_
     refine ah.n' ?_ aA.j.j.d'.j.j.d'.d'
     refine ae 12 0 ?_
     refine ae 1 13 ?_
     refine af.bu 12 14 rfl rfl ?_ ?_
     refine aw.q' (aK.R6 (l:=L.keys) (k:=d.Key) (v:=(h1,p)) (aR:=eR) co.z q gl po nT rfl rfl XB) ?_
     refine av ?_
     refine af.p' 14 rfl (O.N' ad ag.c [_] rfl (bx.agg rfl bx.nil) rfl rfl (λYf=>?_))
     refine av ?_
     refine af.p' 15 rfl (O.O' ad rfl rfl XJ (ce.rows ad XB ag.B') (λYl Yk=>?_))
     refine av ?_
     refine af.p' 16 rfl (aw.R1 (l:=L.keys) (k:=d.Key) (v:=((_,p++[x]):co)) (aR:=eR) gl po rfl rfl rfl XQ ?_)
     refine aa 4 ?_
     rotate_left
     refine O.N' ad ag.c [_] rfl (bx.agg rfl bx.nil) rfl rfl (λYf=>?_)
     refine av ?_
     refine af.p' 12 rfl (aw.q' (aK.R6 (l:=L.keys) (k:=d.Key) (v:=(h1,p)) (aR:=eR) co.z q gl po nT rfl rfl XB) ?_)
     refine av ?_
     refine af.p' 15 rfl (O.O' ad rfl rfl XJ (ce.rows ad XB ag.B') (λYl Yk=>?_))
     refine av ?_
     refine af.p' 16 rfl (aw.R1 (l:=L.keys) (k:=d.Key) (v:=((_,p++[x]):co)) (aR:=eR) gl po rfl rfl rfl XQ ?_)
     refine aa 4 ?_
     rotate_left
     .refine ah.T9 (l:=p++[x]) ?_
      obtain⟨P,D,K⟩:=J _
      have Yc:=D.cU
      have Yg:=Yc
      rw[pq]at Yg
      simp only[bM,dp,fY]at Yg
      refine ah.cF D ?_
      dsimp only
      refine aa 8 ?_
      refine ah.n' ?_ aA.j.j.d'.d'.d'.j.j.j
      refine ae 12 0 ?_
      refine ae 1 13 ?_
      refine af.bu 12 14 rfl rfl ?_ ?_
      refine aw.q' (aK.R6 (l:=L.eb) (k:=d.cy) (v:=(M,a)) (aR:=eR) co.z w nf ng nT rfl rfl XB) ?_
      refine av ?_
      refine af.p' 14 rfl (O.N' ad ag.c [_] rfl (bx.agg rfl bx.nil) rfl rfl (λYh=>?_))
      refine av ?_
      refine af.p' 15 rfl (O.O' ad rfl rfl XJ (ce.rows ad XB ag.B') (λYj Yi=>?_))
      refine av ?_
      refine af.p' 16 rfl (aw.R1 (l:=L.eb) (k:=d.cy) (v:=((_,a++[x]):co)) (aR:=eR) nf ng rfl rfl rfl XQ ?_)
      refine aa 3 ?_
      rotate_left
      refine O.N' ad ag.c [_] rfl (bx.agg rfl bx.nil) rfl rfl (λYh=>?_)
      refine av ?_
      refine af.p' 12 rfl (aw.q' (aK.R6 (l:=L.eb) (k:=d.cy) (v:=(M,a)) (aR:=eR) co.z w nf ng nT rfl rfl XB) ?_)
      refine av ?_
      refine af.p' 15 rfl (O.O' ad rfl rfl XJ (ce.rows ad XB ag.B') (λYj Yi=>?_))
      refine av ?_
      refine af.p' 16 rfl (aw.R1 (l:=L.eb) (k:=d.cy) (v:=((_,a++[x]):co)) (aR:=eR) nf ng rfl rfl rfl XQ ?_)
      refine aa 3 ?_
      rotate_left
      all_goals exact⟨_,_,⟨_,_,P,K,Yc,rfl,rfl⟩,XC⟩
     .refine ah.T9 (l:=p++[x]) ?_
      obtain⟨P,D,K⟩:=J _
      have Yc:=D.cU
      have Yg:=Yc
      rw[pq]at Yg
      simp only[bM,dp,fY]at Yg
      refine ah.cF D ?_
      dsimp only
      refine aa 8 ?_
      refine ah.n' ?_ aA.j.j.d'.d'.d'.j.j.j
      refine ae 12 0 ?_
      refine ae 1 13 ?_
      refine af.bu 12 14 rfl rfl ?_ ?_
      refine aw.q' (aK.R6 (l:=L.eb) (k:=d.cy) (v:=(M,a)) (aR:=eR) co.z w nf ng nT rfl rfl XB) ?_
      refine av ?_
      refine af.p' 14 rfl (O.N' ad ag.c [_] rfl (bx.agg rfl bx.nil) rfl rfl (λYh=>?_))
      refine av ?_
      refine af.p' 15 rfl (O.O' ad rfl rfl XJ (ce.rows ad XB ag.B') (λYj Yi=>?_))
      refine av ?_
      refine af.p' 16 rfl (aw.R1 (l:=L.eb) (k:=d.cy) (v:=((_,a++[x]):co)) (aR:=eR) nf ng rfl rfl rfl XQ ?_)
      refine aa 3 ?_
      rotate_left
      refine O.N' ad ag.c [_] rfl (bx.agg rfl bx.nil) rfl rfl (λYh=>?_)
      refine av ?_
      refine af.p' 12 rfl (aw.q' (aK.R6 (l:=L.eb) (k:=d.cy) (v:=(M,a)) (aR:=eR) co.z w nf ng nT rfl rfl XB) ?_)
      refine av ?_
      refine af.p' 15 rfl (O.O' ad rfl rfl XJ (ce.rows ad XB ag.B') (λYj Yi=>?_))
      refine av ?_
      refine af.p' 16 rfl (aw.R1 (l:=L.eb) (k:=d.cy) (v:=((_,a++[x]):co)) (aR:=eR) nf ng rfl rfl rfl XQ ?_)
      refine aa 3 ?_
      rotate_left
      all_goals exact⟨_,_,⟨_,_,P,K,Yc,rfl,rfl⟩,XC⟩
    refine ar.post h ?_;rintro r Y⟨U,Z,P,K,Yc,rfl,rfl⟩;refine⟨_,⟨⟨L.hf,L.dA,L.fO,L.lists,bw L.keys d.Key (U,p++[x]),bw L.eb d.cy (Z,a++[x]),(Z,a++[x])::P,K _⟩,?_,⟨ZN,λk=>?_,λs=>?_,λB h b k T=>(Ed T).elim (λe=>e▸b) (h k)⟩,rfl,rfl⟩,λ_ _ _ h=>cR.shut h⟩
    .have Ye:=Ee L.keys d.Key ((U,p++[x]):co);show jt ((Z,a++[x])::P)+(bw L.keys d.Key (U,p++[x])).length<=jt L.g+L.keys.length+3
     rw[o,pq];rw[pq]at Yc;simp only[bM,dp,fY]at Yc⊢;omega
    .show(fz (bw L.keys d.Key (U,p++[x])) k).2=_;rw[xv];by_cases e:k=d.Key
     .rw[aT e,aT ⟨j,N,e⟩,e,q]
     exact P8
    .show(fz (bw L.eb d.cy (Z,a++[x])) s).2=_;rw[xv];by_cases e:s=d.cy
     .rw[aT e,aT ⟨j,Q,e⟩,e,w]
     exact P8
structure dZ where
 eE:Nat
 dG:Nat
 L:fQ
 R:jO
 du:aj
def gF(E Q:Nat)(X:dZ)(s:bE):ab ax:=hJ E X.eE X.L++fP X.eE X.dG Q X.R X.du s
def Loc(L:fQ)(x:ag)(d:bP):Prop:=d.Kind≠0->(d.Kind=5->x∈L.lists)/\(d.Kind≠5->x∈(fz L.keys d.Key).2)/\(d.cy≠0->x∈(fz L.eb d.cy).2)
def hg(L:fQ)(p:aJ ba):Prop:=(∀x i,p.at x=some i->Loc L x i.Call.cz)/\∀k∈L.keys.map (·.1),k.length<=16
def Found.here{L b:fQ}{x:ag}{d:bP}(h:Found L b x d):Loc b x d:=λf=>by
 refine⟨λN=>?_,λN=>?_,λQ=>?_⟩
 .rw[h.lists,aT N];simp
 .rw[h.keys,aT ⟨f,N,rfl⟩];simp
 .rw[h.eb,aT ⟨f,Q,rfl⟩];simp
def Found.cx{L b:fQ}{x y:ag}{d e:bP}(h:Found L b x d)(E:Loc L y e):Loc b y e:=λf=>by
 obtain⟨F,M,g⟩:=E f;refine⟨λN=>?_,λN=>?_,λQ=>?_⟩
 .rw[h.lists];have:=F N;split<;>simp[this]
 .rw[h.keys];have:=M N;split<;>simp[this]
 .rw[h.eb];have:=g Q;split<;>simp[this]
def tJ{n:Int}{p:aJ ba}(r:p.ok):jr n p.all↔∀x i,p.at x=some i->bB x n=true/\fb i n=true:=
 ⟨λh x i ao=>h (x,i) ((aJ.Sp r).2 ao),λh y G=>h y.1 y.2 ((aJ.Sp r).1 G)⟩
def bE.tK(s:bE)(x:ag)(i:ba):(s.add x i).p=s.p.set x i:=by unfold bE.add;split<;>rfl
def bE.To(s:bE)(x:ag)(i:ba):(s.add x i).n=s.n:=by unfold bE.add;split<;>rfl
def bE.W1{s:bE}(h:s.ok){x:ag}{i:ba}(U:bB x s.n=true)(ao:fb i s.n=true):(s.add x i).ok:=by
 have Q:s.n<=7:=ZD
 have o:=vC Q U ao;have E:=bE.SJ h;have r:(s.p.set x i).ok:=aJ.SL h.p x i;refine⟨by rw[bE.To];exact h.size,by rw[bE.tK];exact r,by rw[bE.tK,bE.To,aJ.SK];exact h.aS,?_,?_⟩
 .rw[bE.tK,bE.To,tJ r];intro y j G;rw[aJ.Sn h.p]at G;split at G
  .rename_i u;cases G;rw[u.2];exact⟨U,ao⟩
  .exact(tJ h.p).1 h.gE y j G
 .unfold bE.add;split
  .show(b5 s.p.all++fr x i).length<=65536;rw[bM];omega
  .show(s.data++fr x i).length<=65536;rw[bM];omega
def bE.Vo{s:bE}(h:s.ok){x:ag}{i:ba}(U:bB x s.n=true)(y:ag):(s.add x i).p.at y=if y=x then some i else s.p.at y:=by rw[bE.tK,aJ.Sn h.p,h.aS];simp[U]
def acU(E Q:Nat)(X:dZ)(s:bE)(x:ag)(i:ba)(h:s.ok)(U:bB x s.n=true)(ao:fb i s.n=true)(t:hg X.L s.p)(R:X.L.cU<=1000000000000):ar prog 236 [au E 0,A x.c,A i.c] (gF E Q X s) (λr Y=>∃M:dZ,M.L.cU<=X.L.cU+3/\hg M.L (s.add x i).p/\r=I 0/\Y=gF E Q M (s.add x i)):=by
 obtain⟨q,P,D,K,w⟩:=X;dsimp only at t R⊢;have g:=zS q P Q K w s x h.p.towf;have J:=Kx q P Q K w s x i h U ao;have d:=Eh E q D x i.Call.cz R;by_cases b:(b7 s.p x).Call.cz=i.Call.cz
 .have z:hg D (s.add x i).p:=by
   refine⟨?_,t.2⟩;intro y j G;rw[bE.Vo h U]at G;split at G
   .rename_i e;cases G;subst e;cases o:s.p.at y with
    |none=>
     intro f;rw[<-b,b7,o]at f;exact absurd rfl f
    |some u=>
     have:=t.1 y u o;rw[b7,o]at b;rw[<-b];exact this
   .exact t.1 y j G
  unfold gF hJ fP at*;refine O9 (λW F C=>?_) λW F C=>?_;refine JN ?_;refine c1 8 λZ=>?_;refine PM λk Ye=>?_;refine aa 14 ?_;rotate_left;refine O.K' ad (λZ=>?_);refine av ?_;refine af.o' 5 rfl rfl (g) ?_;refine JN ?_;refine PM λYk Yh=>?_;refine aa 14 ?_;rotate_left;all_goals exact⟨_,_,⟨⟨q,P,D,_,_⟩,(by exact iZ _ _),(by exact z),rfl,rfl⟩,XC⟩
 .unfold gF hJ fP at*;refine O9 (λW F C=>?_) λW F C=>?_;refine JN ?_;refine c1 8 λZ=>?_;refine PM λk Ye=>?_;refine aa 11 ?_;rintro _ _⟨Yf,a,m,rfl,rfl⟩;refine aa 11 ?_;rotate_left;refine O.K' ad (λZ=>?_);refine av ?_;refine af.o' 5 rfl rfl (g) ?_;refine JN ?_;refine PM λYi Yg=>?_;refine aa 11 ?_;rintro _ _⟨Yj,N,Yc,rfl,rfl⟩;refine aa 11 ?_;rotate_left;all_goals
   have l:=(by assumption:Found D _ x i.Call.cz)
   refine⟨_,_,⟨⟨q,P,_,_,_⟩,XF,?_,rfl,rfl⟩,XC⟩;refine⟨?_,l.Ef 16 t.2 (re (nQ (nS ao).2.2.2.2.1).1).2.2.1⟩;intro y j G;rw[bE.Vo h U]at G;split at G
   .rename_i e;cases G;subst e;exact l.here
   .exact l.cx (t.1 y j G)
def aey(E Q:Nat)(X:dZ)(s:bE):ar prog 91 [au E 0] (gF E Q X s) (λr Y=>r=I 0/\Y=gF E Q X {s with safe:=(s.data.length:Int)}):=by have v:=adX X.eE X.dG Q X.R X.du s;unfold gF hJ fP at*;refine bh ?_;refine aB func91 λW=>?_;exact aM 28
def aa5(E Q:Nat)(X:dZ)(s:bE)(x:ag)(h:s.p.wf):ar prog 16 [au E 0,A x.c] (gF E Q X s) (λr Y=>r=A (b7 s.p x).c/\Y=gF E Q X s):=by have L:=zS X.eE X.dG Q X.R X.du s x h;unfold gF hJ fP at*;refine bh ?_;refine aB func16 λW=>?_;refine aq 2 λa=>?_;refine aq 0 λh=>?_;refine aa 13 ?_;refine ah.n' ?_ aA.j.j.j.j.j.j.j.d'.d'.j;refine ae 5 0 ?_;refine af.o' 5 rfl rfl (L) ?_;refine aa 2 ?_;refine ae 1 6 ?_;exact aM 4
def KG(E Q:Nat)(X:dZ)(s:bE):ar prog 14 [au E 0] (gF E Q X s) (λr Y=>∃q,r=.func (.func 80) #[] #[au q 0]/\Y=cells q 117 [au X.dG 0]::gF E Q X s):=by have L:=Ea X.eE X.dG Q X.R X.du s;unfold gF hJ fP at*;refine bh ?_;refine aB func14 λW=>?_;refine aa 22 ?_;rintro _ _⟨p,rfl,rfl⟩;exact aM 6
def afz:ar prog 14 [.pointer none] [] (λr Y=>∃q f L,r=.func (.func 80) #[] #[au q 0]/\Y=[cells q 117 [au f 0],jP f L (aJ.new 0)]):=by
 refine aB func14 λW=>?_;refine aa 15 ?_;refine ai.o' rfl (ab3) ?_;rintro _ _⟨r,c,m,rfl,rfl⟩;refine aa 7 ?_
 exact Nb
def adM(E Q:Nat)(X:dZ)(s:bE)(x:Int)(h:s.p.wf):ar prog 83 [au E 0,I x] (gF E Q X s) (λr Y=>r=I (s.p.top x:Int)/\Y=gF E Q X s):=by have L:=afd X.eE X.dG Q X.R X.du s x h;unfold gF hJ fP at*;refine bh ?_;refine aB func83 λW=>?_;exact aM 29
def Ei(E Q:Nat)(X:dZ)(s:bE):ar prog 84 [au E 0] (gF E Q X s) (λr Y=>r=I s.n/\Y=gF E Q X s):=by have L:=afy X.eE X.dG Q X.R X.du s;unfold gF hJ fP at*;refine bh ?_;refine aB func84 λW=>?_;exact aM 28
def h2(s:bE)(h:Int):ag:=⟨h,(s.p.top h:Int)+1⟩
def acg(E Q:Nat)(X:dZ)(s:bE)(x:Int)(h:s.p.wf)(f:0<=x)(F:x<s.n):ar prog 55 [au E 0,I x] (gF E Q X s) (λr Y=>r=.tuple #[A (h2 s x).c,B (decide ((s.p.top x:Int)+1<=64))]/\Y=gF E Q X s):=by have Z:=adM E Q X s x h;have q:=Ei E Q X s;have m:=aJ.Vd h x;unfold h2;unfold gF hJ fP at*;refine bh ?_;refine aB func55 λW=>?_;refine aq 2 λh=>?_;refine aq 12 λC=>?_;refine aa 4 ?_;refine ah.n' ?_ aA.j.j.j.j.j.j.j.j.j.d';refine ae 8 0 ?_;refine bs 20 ?_;refine ae 2 8 ?_;refine af.o' 10 rfl rfl (q) ?_;refine aa 2 ?_;refine ae 3 11 ?_;refine bs 26 ?_;refine ae 6 14 ?_;exact aM 4
end Go.Proofs.YteogojgnkjegmaaGreatDoor
