/-
 Part of the proof.
-/
import Derived.Test.YteogojgnkjegmaaGreatDoorAj
set_option linter.all false
set_option maxRecDepth 8000
set_option maxHeartbeats 8000000
namespace Go.Proofs.YteogojgnkjegmaaGreatDoor
open Go.ay Go.Proofs.Tryz
variable[Go.ay.b4]
structure bR where
 n:Int
 p:aJ aX
 data:ab aS
 safe:Int
structure bR.ok(s:bR):Prop where
 size:s.n=3\/s.n=5\/s.n=7
 p:s.p.ok
 aH:s.p.aH=s.n
 g1:ko s.n s.p.all
 oB:s.data.length<=65536
def gy(k y g:Nat)(L:kS)(o:aj)(s:bR):ab ax:=[cells k 120 (lY.c ⟨aw g 0,s.n,aw y 0⟩),kT y L s.p,cells g 156 (lA.c ⟨o,s.safe⟩),ej dt o 5 1 s.data]
def tU(q y:Nat)(L:kS)(p:aJ aX)(n:p.wf):rm prog 80 [aw q 0] [cells q 117 [aw y 0],kT y L p] encI p.all [cells q 117 [aw y 0],kT y L p]:=ail q y L.ia L.us p n L.dU L.hu
def bR.V8(s:bR):bR:={s with data:=cj s.p.all,safe:=((cj s.p.all).length:Int)}
def bR.Vp{s:bR}(h:s.ok):(cj s.p.all).length<=47040:=by have Y:=ads Qq h.g1;have N:=aJ.Vp h.p.towf;omega
def ajs(k b o:Nat)(L:kS)(j:aj)(s:bR)(h:s.ok):ar prog 280 [aw k 0] (gy k b o L j s) (λr J=>∃Q,r=I 0/\J=gy k b o L Q s.V8):=by
 have w:=bR.Vp h;have i:s.n<=7:=Qq
 have G:=Gq o j s.data s.safe (cj s.p.all);have T:=ar.post (X:=λr J=>∃d,r=I 0/\J=[cells o 156 (lA.c ⟨d,((cj s.p.all).length:Int)⟩),ej dt d 5 1 (cj s.p.all)]) G (by
  rintro r J (⟨Y,_⟩|⟨_,d,rfl,rfl⟩)
  .omega
  .exact⟨_,⟨d,rfl,rfl⟩,λ_ _ _ h=>h⟩)
 unfold fC at T;unfold gy bR.V8;refine aE func280 λW=>?_;refine aq 7 λm=>?_;refine aa 9 ?_;refine ai.p' rfl (BW _ rfl) ?_;rintro _ _⟨R,rfl,rfl⟩;refine aa 4 ?_;refine ah.Ur dt 5 1 ?_;refine ah.rg (tU _ b L s.p h.p.towf) (λy:aj×ab aS=>[cells m 154 [y.1],rows dt y.1 5 1 y.2]) (λpre y=>y.2=cj pre/\y.1.oneCell'=true) (λ_ _ _=>False) (.slice none 0 0,[]) ⟨rfl,rfl⟩ ?_ ?_ ?_
 .rintro pre x z⟨v,E⟩ X rec U⟨C,N⟩ f a M q F;dsimp only at C N;subst C;have D:=h.g1 x (by rw[U];simp);have g:=Gp x.1 x.2 s.n i D.1 D.2;have u:=xy i D.1 D.2;have K:(cj pre).length<=47040:=by
   have:cj s.p.all=cj pre++cj (x::z):=by rw[U,qK]
   rw[this,b2]at w;omega
  refine bl ?_;refine aq 2 λZ=>?_;refine aq 4 λP=>?_;refine aa 4 ?_;refine ah.Uv [5] ?_ aB.j.d'.j.d'.d' aB.j.j.j.d'.d';refine ae 2 1 ?_;refine af.t 0 rfl (V.C' ad) ?_;refine ae 1 3 ?_;refine af.q' 4 rfl (O.Vj ad rfl rfl T8 (cq.str ad) (λYf Yc Ye=>?_));refine au ?_;refine af.l 5 rfl (O.K' ad ?_);refine aa 3 ?_;exact Out.rd F (_,cj pre++fV x.1 x.2) ⟨by rw[qK];simp[cj],TX⟩
 .rintro⟨v,E⟩ c⟨C,N⟩;dsimp only at C N;subst C;refine bl ?_;refine aa 3 ?_;refine ah.n' ?_ aB.j.j.d'.j.j.d'.d'.j;refine ae 5 0 ?_;refine af.i' 5 rfl (V.XF ad) ?_;refine af.p' 6 rfl rfl (T) ?_;rintro _ _⟨M,rfl,rfl⟩;refine aa 2 ?_;refine ae 1 7 ?_;exact aP 4
 exact Sw
def agN(k p g:Nat)(L:kS)(o:aj)(s:bR):ar prog 128 [aw k 0] (gy k p g L o s) (λr J=>r=I 0/\J=gy k p g L o {s with safe:=(s.data.length:Int)}):=by have T:=afu g o s.data s.safe;unfold fC at T;unfold gy;refine aE func128 λW=>?_;exact aP 28
def bP(p:aJ aX)(x:ag):aX:=(p.at x).getD aX.z
def B2(k y g:Nat)(L:kS)(o:aj)(s:bR)(x:ag)(h:s.p.wf):ar prog 34 [aw k 0,A x.c] (gy k y g L o s) (λr J=>r=A (bP s.p x).c/\J=gy k y g L o s):=by
 have b:=Gs y L.ia L.us s.p x h L.dU L.hu;unfold gy bP;cases g:s.p.at x with
 |none=>
  rw[g]at b;exact J9
 |some t=>
  rw[g]at b;exact J9
def M7(k y g:Nat)(L:kS)(o:aj)(s:bR)(U:Int)(h:s.p.wf):ar prog 116 [aw k 0,I U] (gy k y g L o s) (λr J=>r=I (s.p.top U:Int)/\J=gy k y g L o s):=by have b:=Gr y L.ia L.us s.p U h L.dU L.hu;unfold gy;refine aE func116 λW=>?_;exact aP 29
def ah2(k p g:Nat)(L:kS)(o:aj)(s:bR):ar prog 117 [aw k 0] (gy k p g L o s) (λr J=>r=I s.n/\J=gy k p g L o s):=by unfold gy;refine aE func117 λW=>?_;exact aP 26
def Gy(k p g:Nat)(L:kS)(o:aj)(s:bR):ar prog 32 [aw k 0] (gy k p g L o s) (λr J=>∃q,r=.func (.func 80) #[] #[aw q 0]/\J=cells q 117 [aw p 0]::gy k p g L o s):=by unfold gy;refine aE func32 λW=>?_;refine aa 21 ?_;refine ai.p' rfl (BW _ rfl) ?_;rintro _ _⟨R,rfl,rfl⟩;exact aP 6
def ag8:ar prog 32 [.pointer none] [] (λr J=>∃q p L,r=.func (.func 80) #[] #[aw q 0]/\J=[cells q 117 [aw p 0],kT p L (aJ.new 0)]):=by
 refine aE func32 λW=>?_;refine aa 15 ?_;refine ai.p' rfl (B0 _) ?_;rintro _ _⟨f,t,rfl,rfl⟩;refine au ?_;refine ai.p' rfl (BW _ rfl) ?_;rintro _ _⟨g,rfl,rfl⟩;refine aa 7 ?_
 exact PV
def bR.add(s:bR)(x:ag)(i:aX):bR:=
 let t:=if 32768<s.data.length+(fV x i).length then s.V8 else s
 {t with data:=t.data++fV x i,p:=t.p.set x i}
def Na(k y d:Nat)(L:kS)(o:aj)(s:bR)(x:ag)(i:aX)(h:s.ok)(U:bq x s.n=true)(ao:eW i s.n=true):ar prog 264 [aw k 0,A x.c,A i.c] (gy k y d L o s) (λr J=>∃u Q,r=I 0/\J=gy k y d u Q (s.add x i)):=by
 have v:s.n<=7:=Qq
 have b:=m7 x s.n;rw[U]at b;have Z:=Gn i s.n;rw[ao]at Z;have f:=Gp x i s.n v U ao;have l:=xy v U ao;have T:=bR.Vp h;have m (o:aj) (a:ab aS) (X:Int) (w:a.length+(fV x i).length<=65536) (g:Nat):
   ar prog 281 [aw d 0,.slice (some ⟨g,0,none⟩) 1 1] [cells d 156 (lA.c ⟨o,X⟩),ej dt o 5 1 a,row (.slice (some ⟨g,0,none⟩) 1 1) 9 1 1 [S (fV x i)]]
    (λr J=>∃t,r=I 0/\J=[cells d 156 (lA.c ⟨t,X⟩),ej dt t 5 1 (a++fV x i),row (.slice (some ⟨g,0,none⟩) 1 1) 9 1 1 [S (fV x i)]]):=by
  have:=MT d o a X (fV x i) _ _ 1 g 0 (Rd.lits (E:=9) (z:=1) fg [fV x i] rfl rfl (λ_=>rfl) T3) ac ac
  refine ar.post this ?_
  rintro r J (⟨Y,_⟩|⟨_,t,rfl,rfl⟩)
  .omega
  .exact⟨_,⟨t,rfl,rfl⟩,λ_ _ _ h=>h⟩
 have K:=h.oB;have v (L:kS):=Gx y L s.p x i h.p.towf;have w:=MQ d o s.data s.safe;unfold fC at w;have f:=ajs k y d L o s h;unfold bR.add;by_cases j:32768<s.data.length+(fV x i).length
 .rw[aQ j];unfold gy at f⊢;unfold bR.V8 at f⊢;dsimp only at f⊢;refine Lf λW Z g=>?_;refine aa 34 ?_;rintro _ _⟨M,rfl,rfl⟩;refine aq 21 λn=>?_;refine ai.p' rfl (m _ _ _ ?_ _) ?_;exact cf;rintro _ _⟨F,rfl,rfl⟩;refine aa 14 ?_;refine ah.n' ?_ aB.d'.d'.j.d'.j.j.j;refine ae 6 0 ?_;refine af.p' 6 rfl rfl (v _) ?_;rintro _ _⟨d,rfl,rfl⟩;refine aa 11 ?_
  exact SK
 .rw[aM j];unfold gy;dsimp only;refine Lf λW Z g=>?_;refine aq 40 λn=>?_;refine ai.p' rfl (m _ _ _ ?_ _) ?_;exact cf;rintro _ _⟨F,rfl,rfl⟩;refine aa 14 ?_;refine ah.n' ?_ aB.j.d'.d'.d'.j.j.j;refine ae 6 0 ?_;refine af.p' 6 rfl rfl (v _) ?_;rintro _ _⟨d,rfl,rfl⟩;refine aa 11 ?_
  exact SK
end Go.Proofs.YteogojgnkjegmaaGreatDoor
namespace Go.Proofs.YteogojgnkjegmaaGreatDoor
open Go.ay Go.Proofs.Tryz
def sS(s p:ab aS):Bool:=decide (p.length<=s.length)&&decide (s.take p.length=p)
def afr(s p:ab aS)(Q:s.length<=9223372036854775807)(z:p.length<=9223372036854775807):dr prog 166 [S s,S p] (B (sS s p)):=by
 unfold sS;refine aE func166 λW=>?_;refine aa 13 ?_;refine ai.aY (λo=>?_) (λo=>?_);refine aa 3 ?_;refine ai.v (V.Wn ad) ?_;refine aa 8 ?_
 exact LM
 refine aa 12 ?_
 exact LM
def Gz(s p:ab aS)(Q:s.length<=9223372036854775807)(z:p.length<=9223372036854775807):dr prog 119 [S s,S p] (B (sS s p)):=by
 refine aE func119 λW=>?_;refine aa 9 ?_;refine ai.o (av.fn rfl (afr _ _ ?_ ?_) ?_);iterate 2 exact cf
 exact aP 5
def xz(d:bN):Bool:=decide (d.Kind=2)||(decide (d.Kind=3)||decide (d.Kind=4))
def acC(d:bN):dr prog 167 [A d.c] (B (xz d)):=by
 unfold xz;refine aE func167 λW=>?_;refine aq 2 λl=>?_;refine aa 9 ?_;refine R3 (λL=>?_) λL=>?_
 .simp_all
 refine T0 (λz=>?_) λz=>?_;refine aa 9 ?_
 .simp_all
 refine aa 9 ?_
 .simp_all
def vz(r w:bN):Bool:=xz w&&(!decide (r.Kind=0)&&(if r.Kind=5 then sS w.Key r.Key else decide (r.Key=w.Key)))
def zn(r w:bN)(f:r.Key.length<=9223372036854775807)(n:w.Key.length<=9223372036854775807):dr prog 120 [A r.c,A w.c] (B (vz r w)):=by
 have b:=acC w;unfold vz;refine aE func120 λW=>?_;refine aq 2 λp=>?_;refine aq 0 λm=>?_;refine NG (λz=>?_) λz=>?_;refine aa 15 ?_
 .clear b;simp_all
 refine T5 (λP=>?_) λP=>?_;refine aa 8 ?_
 .clear b;simp_all
 refine aa 10 ?_;refine ah.cs (λj=>?_) (λj=>?_);refine aa 6 ?_;refine ai.o (av.fn rfl (Gz _ _ ?_ ?_) ?_);iterate 2 exact cf
 refine aa 6 ?_
 .clear b;simp_all
 refine aa 14 ?_
 .clear b;simp_all
def pU(a b:bN):Bool:=!decide (a.Kind=0)&&(!decide (b.Kind=0)&&((!decide (a.cP=0)&&decide (a.cP=b.cP))||(vz a b||vz b a)))
def agr(a b:bN)(K:a.Key.length<=9223372036854775807)(X:b.Key.length<=9223372036854775807):dr prog 86 [A a.c,A b.c] (B (pU a b)):=by
 unfold pU;refine aE func86 λW=>?_;refine aq 2 λp=>?_;refine aq 0 λm=>?_;refine NG (λr=>?_) λr=>?_;refine aa 15 ?_
 .simp_all
 refine T5 (λv=>?_) λv=>?_;refine aa 8 ?_
 .simp_all
 refine aa 8 ?_;refine ai.aY (λw=>?_) (λw=>?_);refine aa 7 ?_;refine R3 (λy=>?_) λy=>?_
 .simp_all
 refine aa 2 ?_;refine ai.o (av.fn rfl (zn _ _ ?_ ?_) ?_);iterate 2 exact cf
 refine aa 2 ?_;refine ai.aY (λn=>?_) (λn=>?_);refine aa 9 ?_
 .simp_all
 refine aa 2 ?_;refine ai.o (av.fn rfl (zn _ _ ?_ ?_) ?_);iterate 2 exact cf
 refine aa 6 ?_
 .simp_all
 refine aa 9 ?_;refine ai.o (av.fn rfl (zn _ _ ?_ ?_) ?_);iterate 2 exact cf
 refine aa 2 ?_;refine ai.aY (λi=>?_) (λi=>?_);refine aa 9 ?_
 .simp_all
 refine aa 2 ?_;refine ai.o (av.fn rfl (zn _ _ ?_ ?_) ?_);iterate 2 exact cf
 refine aa 6 ?_
 .simp_all
def kp(d:bX)(x:ag):bX:=
 ⟨if x.a1=0 then Max.max d.gC x.bT else d.gC,if x.a1=1 then Max.max d.dx x.bT else d.dx,if x.a1=2 then Max.max d.bv x.bT else d.bv,if x.a1=3 then Max.max d.gm x.bT else d.gm,
  if x.a1=4 then Max.max d.om x.bT else d.om,if x.a1=5 then Max.max d.nB x.bT else d.nB,if x.a1=6 then Max.max d.pE x.bT else d.pE⟩
def af4(d:bX)(x:ag){k:Nat}{m:Int}(u:x.a1=(k:Int))(K:d.l[k]?=some m):(kp d x).l=d.l.set k (Max.max m x.bT):=by
 have T:k<7:=Th
 rcases(by omega:k=0\/k=1\/k=2\/k=3\/k=4\/k=5\/k=6)with e|e|e|e|e|e|e<;>subst e<;>cases K<;>simp[kp,bX.l,u]
def Ng(d:bX)(x:ag):dr prog 87 [A d.c,A x.c] (A (kp d x).c):=by
 by_cases h:0<=x.a1/\x.a1<7
 .obtain⟨k,u⟩:∃k:Nat,x.a1=(k:Int):=⟨x.a1.toNat,ac⟩
  obtain⟨m,K⟩:∃m,d.l[k]?=some m:=⟨_,hs TD⟩
  have w:=bX.UE d;rw[bX.V7 d];refine aE func87 λW=>?_;refine Ug λp m Z=>?_;refine aa 17 ?_;refine ah.Uv [10] ?_ aB.d'.d'.j aB.j.d'.j;refine ae 4 0 ?_;refine af.i' 4 rfl (V.Us ad (k:=k) rfl rfl u) ?_;refine ae 2 6 ?_;refine af.t 5 rfl (V.C' ad (z:=FT K)) ?_;refine ae 1 8 ?_;refine af.i' 9 rfl (V.Us ad (k:=k) rfl rfl u) ?_;refine af.l 10 rfl (O.K' ad ?_ (j:=FV ac) (i:=BK ac));refine aa 3 ?_;rotate_left;rw[<-af4 d x u K,<-bX.V7 (kp d x)];exact aP 8
 .have e:kp d x=d:=by unfold kp;simp only[show¬x.a1=0 by omega,show¬x.a1=1 by omega,show¬x.a1=2 by omega,show¬x.a1=3 by omega,show¬x.a1=4 by omega,show¬x.a1=5 by omega,show¬x.a1=6 by omega,iq]
  rw[e];refine aE func87 λW=>?_;refine Ug λp m Z=>?_;refine aa 9 ?_;refine ai.aY (λc=>?_) (λc=>?_);exact aP 17;exact aP 17
end Go.Proofs.YteogojgnkjegmaaGreatDoor
namespace Go.ay
open Go
section
variable{P:bU}{r:aT Nat}{W:aZ}{D:ab Nat}{n:dq}{Q:cU}{U N:bC}{J Y be:ab ax}{M:Array b6}{Z:ab b6}{w:aZ}
def xA(P:bU)(K:eR)(m:ab aj)(Z h:ab ax){t:Type}(g:t->ab aj)(A:ab t->Prop)(z:ab ax):Prop:=
 ∀(l:Nat) (C:Type) (G X:ab t->C->Prop) (S:C->ax) (q:C),G [] q->
  (∀pre x L b,A (pre++x::L)->G pre b->kJ P l (g x) [aL (S b::Z)] (λv Y=>∃s t,v=.bool t/\(t=true->G (pre++[x]) s)/\(t=false->X (pre++[x]) s)/\Y=[aL (S s::Z)]))->
  ar P K (.func (.yield l) #[] #[]::m) (aL (S q::Z)::h) (λ_ Y=>∃s,((∃C,A C/\G C s)\/∃pre L,A (pre++L)/\X pre s)/\Y=aL (S s::Z)::z)
def xA.for{E:eR}{k:ab aj}{Z h z:ab ax}{g:Type}{d:g->ab aj}{A:ab g->Prop}(i:xA P E k Z h d A z){T:Type}{S p:T->ax}(a:∀b,aO [S b] [aL (p b::Z)])(l:Nat)(G X:ab g->T->Prop)(q:T)(o:G [] q)(j:∀pre x L b,A (pre++x::L)->G pre b->kJ P l (d x) [S b] (λv Y=>∃s t,v=.bool t/\(t=true->G (pre++[x]) s)/\(t=false->X (pre++[x]) s)/\Y=[S s])):ar P E (.func (.yield l) #[] #[]::k) (S q::h) (λ_ Y=>∃s,((∃K,A K/\G K s)\/∃pre L,A (pre++L)/\X pre s)/\Y=S s::z):=by
 refine ar.eqv ((a q).append (aO.refl h)) (i l T G X p q o λpre x L b m u=>kJ.eqv (a b).symm (j pre x L b m u) ?_) ?_
 .rintro v Y⟨s,t,C,F,R,rfl⟩;exact⟨_,⟨s,t,C,F,R,rfl⟩,a s⟩
 .rintro v Y⟨s,C,rfl⟩;exact⟨_,⟨s,C,rfl⟩,(a s).symm.append (aO.refl z)⟩
def ah.abc{c:Code}{R:ab ax}(h:ah P r W D n Q c U (aL be::R))(q:ak J be R:=by(repeat(first|exact ak.nil|exact al.here|apply ak.cons|apply al.there))):ah P r W D n Q c U J:=
 ah.of λa w j v=>h.get a w j (v.UP q).toBag
def ah.abd{o T:Type}{g:bf}{aY:ab Tmp}{assign body:Code}{jE:eR}{m:ab aj}{t:o->ab aj}{nc:ab o->Prop}{Z F z j:ab ax}(ib:xA P jE m Z F t nc z)(d:T->ab ax)(G:ab o->T->Prop)(X:dI->ab o->T->Prop)(f:T)(eE:G [] f)(round:∀pre x L b l rec,nc (pre++x::L)->G pre b->qm rec->∀(eI:aZ) (jk:ab Nat) (K:cU),(∀e k,ga e=true->Way G X (pre++[x]) e k->∀a w,H eI jk (jC l rec::(d k++Z)) w->K e a w)->ah P (some l) eI jk ⟨n.n,[]⟩ (Exit.then (rl P l body K) sl) assign (qn aY (t x) U) (ce l rec .normal::(d b++Z)))(done:∀u b c,nc u->G u b->Out W D ⟨n.n,c::n.ds⟩ Q .normal U (gl c::((d b++Z)++(z++j))))(left:∀b c e pre,ga e=true->fc e=false->(∃L,nc (pre++L))->X e pre b->Out W D ⟨n.n,c::n.ds⟩ Q e U (gl c::((d b++Z)++(z++j))))(bF:aR U g=some (.func (.func jE) #[] m.toArray):=by exact rfl)(Ye:kF P jE=true:=by kernel_rfl)(Yf:ak J ((d f++Z)++F) j:=by(repeat(first|exact ak.nil|exact al.here|apply ak.cons|apply al.there)))(dJ:∀x,aY.length=(t x).length:=by intro _;rfl)(cu:(aY.all λp=>Nat.blt p n.n)=true:=by exact rfl):ah P none W D n Q (.rangeFunc g aY.toArray assign body) U J:=by
 let S:T->ab ax:=λb=>d b++Z;have Yc:ah P none W D n Q (.rangeFunc g aY.toArray assign body) U (aL (S f)::(F++j)):=by
  have Yh:∀{e:dI} {pre:ab o} {b:T},ga e=true->Way G X pre e b->(fc e=true/\G pre b)\/(fc e=false/\X e pre b):=by
   intro e pre b E h;cases e with
   |normal=>exact .inl ⟨rfl,h⟩
   |ret=>exact .inr ⟨rfl,h⟩
   |exit id=>exact .inr ⟨rfl,h⟩
   |_=>cases E
  refine ah.VZ (lx:={p:ab o×o×ab o×T//nc (p.1++p.2.1::p.2.2.1)/\G p.1 p.2.2.2}) (x:=F) (k:=j) (λi=>t i.1.2.1) (aL (S f)) (λi=>aL (S i.1.2.2.2)) (λi e cE=>∃k,cE=aL (S k)/\Way G X (i.1.1++[i.1.2.1]) e k)
   (λe y=>∃k,y=aL (S k)::z/\((e=.normal/\∃u,nc u/\G u k)\/(fc e=false/\∃pre L,nc (pre++L)/\X e pre k))) bF Ye ?_ (λi=>dJ _) cu ?_ ?_ ?_
  .have:∀(l:ab ax) (s:ax),ak (s::(l++j)) (s::l) j:=by
    intro l s;refine ak.cons al.here ?_;induction l with
    |nil=>exact ak.nil
    |cons x l lu=>exact ak.cons al.here lu
   exact this F _
  .rintro⟨⟨pre,x,L,b⟩,b3,dv⟩ l rec c1 eI K cA;have dM:bn [ce l rec .normal,aL (S b)]=bn (ce l rec .normal::S b):=by simp only[iJ,u7];simp[bn]
   have:=round pre x L b l rec b3 dv c1 eI (bn [ce l rec .normal,aL (S b)]) K (λe k E eF a w R=>cA e (aL (S k)) E ⟨k,rfl,eF⟩ a w (by have C:H eI (bn [ce l rec .normal,aL (S b)]) (S k++[jC l rec]) w:=R.perm (by simpa using(oq (l₁:=[jC l rec]) (l₂:=S k)));exact(C.toBag).perm (hK ..)))
   refine ah.of λa w c2 R=>?_;refine this.get a w c2 ?_;have C:=(R.perm (hK ..)).UO;exact C.perm (oq (l₁:=S b) (l₂:=[_]))
  .intro l rec fy;have lE:∀p:dI×T,aO [aL [ce l rec p.1,aL (S p.2)]] [aL (aL [ce l rec p.1,aL (d p.2)]::Z)]:=λp=>by have dx:aO [aL [ce l rec p.1,aL (S p.2)]] ([ce l rec p.1]++(d p.2++Z)):=aO.aL.trans ((aO.refl [ce l rec p.1]).append aO.aL);have bv:aO [aL (aL [ce l rec p.1,aL (d p.2)]::Z)] (([ce l rec p.1]++d p.2)++Z):=aO.aL.trans ((aO.aL.trans ((aO.refl [ce l rec p.1]).append aO.aL)).append (aO.refl Z));rw[cn]at bv;exact dx.trans bv.symm
   have dE:=xA.for ib (S:=λp:dI×T=>aL [ce l rec p.1,aL (S p.2)]) (p:=λp:dI×T=>aL [ce l rec p.1,aL (d p.2)]) lE l (λpre p=>p.1=.normal/\G pre p.2) (λpre p=>ga p.1=true/\fc p.1=false/\X p.1 pre p.2) (.normal,f) ⟨rfl,eE⟩ ?_
   .refine dE.conv (λw h=>?_) ?_ ?_
    .exact hn.toBag (be:=[ce l rec .normal,aL (S f)]) h
    .exact(sk (be:=[ce l rec .normal,aL (S f)])).symm
    .rintro v Y⟨⟨e,k⟩,bH,rfl⟩;refine⟨ce l rec e::aL (S k)::z,⟨e,_,?_,⟨k,rfl,?_⟩,rfl⟩,λW D w h=>h.UO (be:=[ce l rec e,aL (S k)])⟩
     .rcases bH with⟨_,_,h,_⟩|⟨_,_,_,h,_⟩
      exact LL
      .exact h
     .rcases bH with⟨u,dJ,h,q⟩|⟨pre,L,cu,_,cd,gX⟩
      .exact .inl ⟨h,u,dJ,q⟩
      .exact .inr ⟨cd,pre,L,cu,gX⟩
   .rintro pre x L⟨e,b⟩ b3⟨c9,dv⟩;simp only at c9 dv;subst c9;refine(fy ⟨(pre,x,L,b),b3,dv⟩).conv (λw h=>?_) ?_ ?_
    exact RT
    .have:=(sk (be:=[ce l rec .normal,aL (S b)]) (an:=[]))
     simpa using this
    .rintro v Y⟨e,cE,rfl,E,⟨k,rfl,eF⟩,rfl⟩;refine⟨[aL [ce l rec e,aL (S k)]],⟨(e,k),fc e,rfl,λh=>?_,λh=>?_,rfl⟩,λW D w h=>H.toBag (be:=[ce l rec e,aL (S k)]) (an:=[]) Ub⟩
     .rcases Yh E eF with⟨C,q⟩|⟨C,q⟩
      .refine⟨?_,q⟩;cases e<;>first|rfl|cases C
      .rw[C]at h;cases h
     .rcases Yh E eF with⟨C,q⟩|⟨C,q⟩
      .rw[C]at h;cases h
      .exact⟨E,C,q⟩
  .rintro c e y E⟨k,rfl,bH⟩;have conv:∀{e:dI},Out W D ⟨n.n,c::n.ds⟩ Q e U (gl c::(S k++(z++j)))->Out W D ⟨n.n,c::n.ds⟩ Q e U (gl c::(aL (S k)::z++j)):=λh=>Out.of λa w c2 R=>by refine h.get a w c2 ?_;have C:H W D (aL (S k)::(gl c::(z++j))) w:=R.perm Oa;exact C.UO.perm n8
   rcases bH with⟨rfl,u,dJ,dv⟩|⟨Yg,pre,L,Yi,iP⟩
   .exact conv (done u k c dJ dv)
   .exact conv (left k c e pre E Yg ⟨L,Yi⟩ iP)
 refine ah.of λa w c2 R=>?_;refine Yc.get a w c2 ?_;have C:=R.UP Yf;rw[cn]at C;exact C.toBag
end
end Go.ay
namespace Go.ay
open Go
variable[Go.ay.b4]
section
variable{P:bU}{r:aT Nat}{W:aZ}{D:ab Nat}{n:dq}{Q:cU}{Y:bC}{N:ab ax}{C:Nat}{F:a7}{M:String}{K:Array Edge}{T:aT (Nat×Bool)}{U Z:Type}[DecidableEq U]{X:U->aj}{aU:Z->aj}{u:a7}{l:ab (U×Z)}
def aK.UN{t e:a7}{x y:bf}{b:Nat}{k:U}(z:Z){R:Z}(L:(a8 l k).getD z=R)(m:ht P u X)(j:hv P t u e=true)(v:∀w,(zeroValue e).run P w=.ok (aU z) w) (E:aR Y x=some (.map (some b))) (G:aR Y y=some (X k)) (q:bz X aU b l∈N):aK P n Y N ⟨some C,.lookup t x y false,F,M,K,T⟩ (aU R):=by have h:=aK.UD (P:=P) (n:=n) (am:=Y) (an:=N) (dst:=C) (ba:=F) (bb:=M) (bc:=K) (aV:=T) (l:=l) (k:=k) z m j v E G q;rwa[L]at h
end
end Go.ay
namespace Go.Proofs.YteogojgnkjegmaaGreatDoor
open Go.ay Go.Proofs.Tryz
variable[Go.ay.b4]
abbrev cI:=aj×ab ag
def cI.z:cI:=(.slice none 0 0,[])
def xB(y:cI):ax:=rows ag.c y.1 46 2 y.2
def c8(g:ab cI):ax:=aL (g.map xB)
def c8.perm{g m:ab cI}(h:g.Perm m):aO [c8 g] [c8 m]:=aO.aL.trans ((aO.UA (h.map xB)).trans aO.aL.symm)
def c8.cons(y:cI)(g:ab cI):aO [c8 (y::g)] [xB y,c8 g]:=aO.aL.trans (aO.cons _ aO.aL.symm)
def nJ(g:ab cI)(y:cI)(m:ab cI):Prop:=g.Perm (y::m)\/(y=cI.z/\m.Perm g)
section
variable{P:bU}{r:aT Nat}{W:aZ}{D:ab Nat}{n:dq}{Q:cU}{Y:bC}{N J:ab ax}{c:Go.Code}
def ah.ea{g m:ab cI}{y:cI}(h:nJ g y m)(k:ah P r W D n Q c Y (rows ag.c y.1 46 2 y.2::c8 m::J))(q:ak N [c8 g] J:=by(repeat(first|exact ak.nil|exact al.here|apply ak.cons|apply al.there))):ah P r W D n Q c Y N:=by
 have x:ah P r W D n Q c Y (c8 g::J):=by
  rcases h with h|⟨rfl,h⟩
  .exact ah.eqv (((c8.perm h).trans (c8.cons y m)).append (aO.refl J)) k
  .refine ah.eqv (((c8.perm h.symm)).append (aO.refl J)) ?_;exact ah.Ur ag.c 46 2 k
 exact ah.of λa w j v=>x.get a w j (by simpa using v.UP q)
def ah.WV{g:ab cI}{v:aj}{l:ab ag}(k:ah P r W D n Q c Y (c8 ((v,l)::g)::J))(q:ak N [rows ag.c v 46 2 l,c8 g] J:=by(repeat(first|exact ak.nil|exact al.here|apply ak.cons|apply al.there))):ah P r W D n Q c Y N:=by have x:ah P r W D n Q c Y (rows ag.c v 46 2 l::c8 g::J):=ah.eqv ((c8.cons (v,l) g).symm.append (aO.refl J)) k;exact ah.of λa w j v=>x.get a w j (by simpa using v.UP q)
end
def c8.shut{g:ab cI}{v:aj}{l:ab ag}{J a:ab ax}{W D w}(h:H W D (J++(rows ag.c v 46 2 l::c8 g::a)) w):H W D (J++(c8 ((v,l)::g)::a)) w:=
 h.eqv ((aO.refl J).append ((c8.cons (v,l) g).symm.append (aO.refl a)))
section
variable{U:Type}[DecidableEq U]
def gf(m:ab (U×cI))(k:U):cI:=(a8 m k).getD cI.z
def GA(m:ab (U×cI))(k:U)(gT:ab cI):∃i,nJ (m.map (·.2)++gT) (gf m k) i/\∀o,(o::i).Perm ((bx m k o).map (·.2)++gT):=by
 induction m with
 |nil=>
  refine⟨gT,.inr ⟨rfl,he _⟩,λo=>he _⟩
 |cons p m d=>
  by_cases h:k=p.1
  .refine⟨m.map (·.2)++gT,.inl ?_,λo=>?_⟩
   .rw[gf,kk,aQ h];exact he _
   .rw[lB,aQ h];exact he _
  .obtain⟨i,E,q⟩:=d;have e:gf (p::m) k=gf m k:=by unfold gf;rw[kk,aM h]
   refine⟨p.2::i,?_,λo=>?_⟩
   .rw[e];rcases E with E|⟨E,R⟩
    .exact .inl ((E.cons p.2).trans (hK ..))
    .exact .inr ⟨E,R.cons p.2⟩
   .rw[lB,aM h];exact(hK ..).trans ((q o).cons p.2)
def nJ.UA{g E:ab cI}{y:cI}{m:ab cI}(h:E.Perm g)(p:nJ g y m):nJ E y m:=by
 rcases p with E|⟨E,q⟩
 .exact .inl (h.trans E)
 .exact .inr ⟨E,q.trans h.symm⟩
def zo(m:ab (U×cI))(k E:U)(y:cI):gf (bx m k y) E=if E=k then y else gf m E:=by unfold gf;rw[hw];split<;>rfl
end
def GB{U Z:Type}[DecidableEq U]{m:ab (U×Z)}{k E:U}{y:Z}(h:E∈(bx m k y).map (·.1)):E=k\/E∈m.map (·.1):=by
 induction m with
 |nil=>rw[qv]at h;simp at h;exact .inl h
 |cons p m d=>
  rw[lB]at h;split at h
  .rename_i e;simp only[e7,dk]at h;rcases h with h|h
   .exact .inl h
   .exact .inr (by simp only[e7,dk];exact .inr h)
  .simp only[e7,dk]at h;rcases h with h|h
   .exact .inr (by simp only[e7,dk];exact .inl h)
   .rcases d h with h|h
    .exact .inl h
    .exact .inr (by simp only[e7,dk];exact .inr h)
def GC{U Z:Type}[DecidableEq U](m:ab (U×Z))(k:U)(y:Z):(bx m k y).length<=m.length+1:=by
 induction m with
 |nil=>rw[qv];simp
 |cons p m d=>
  rw[lB];split
  .simp
  .simp only[dD];omega
structure gz where
 h0:Nat
 eb:Nat
 gw:aj
 lists:ab ag
 keys:ab (ab aS×cI)
 eL:ab (Int×cI)
 g:ab cI
 bF:g.Perm ((gw,lists)::(keys.map (·.2)++eL.map (·.2)))
def gU:ht prog 9 (λl:ab aS=>S l):=ht.str rfl
def oI:ht prog 3 (λn:Int=>I n):=ht.int rfl
def qL:hv prog 97 9 98=true:=rfl
def oJ:hv prog 99 3 98=true:=rfl
abbrev e2:cI->aj:=λy=>y.1
def pi(w:aZ):(Go.zeroValue 98).run prog w=.ok (e2 cI.z) w:=rfl
abbrev ma:ab aS->aj:=λl=>S l
abbrev qM:Int->aj:=λn=>I n
def iz(o k:Nat)(L:gz):ab ax:=[cells o 101 (jG.c ⟨aw k 0,.map (some L.h0),L.gw,.map (some L.eb)⟩),bz ma e2 L.h0 L.keys,bz qM e2 L.eb L.eL,c8 L.g]
structure Found(L bD:gz)(x:ag)(d:bN):Prop where
 lists:bD.lists=if d.Kind=5 then L.lists++[x]else L.lists
 keys:∀k,(gf bD.keys k).2=if d.Kind≠0/\d.Kind≠5/\k=d.Key then(gf L.keys k).2++[x]else(gf L.keys k).2
 eL:∀s,(gf bD.eL s).2=if d.Kind≠0/\d.cP≠0/\s=d.cP then(gf L.eL s).2++[x]else(gf L.eL s).2
 GD:∀B,(∀k∈L.keys.map (·.1),k.length<=B)->d.Key.length<=B->∀k∈bD.keys.map (·.1),k.length<=B
def gz.abe(L:gz):nJ L.g (L.gw,L.lists) (L.keys.map (·.2)++L.eL.map (·.2)):=.inl L.bF
def gz.abf(L:gz)(k:ab aS):∃m,nJ L.g (gf L.keys k) m/\∀d,(d::m).Perm ((L.gw,L.lists)::((bx L.keys k d).map (·.2)++L.eL.map (·.2))):=by obtain⟨m,E,q⟩:=GA L.keys k ((L.gw,L.lists)::L.eL.map (·.2));refine⟨m,nJ.UA (L.bF.trans n8.symm) E,λd=>(q d).trans n8⟩
def gz.Zv(L:gz)(s:Int):∃i,nJ L.g (gf L.eL s) i/\∀d,(d::i).Perm ((L.gw,L.lists)::(L.keys.map (·.2)++(bx L.eL s d).map (·.2))):=by
 obtain⟨i,E,q⟩:=GA L.eL s ((L.gw,L.lists)::L.keys.map (·.2));have e:∀m:ab cI,(m++(L.gw,L.lists)::L.keys.map (·.2)).Perm ((L.gw,L.lists)::(L.keys.map (·.2)++m)):=λm=>
  n8.trans (sg _ oq)
 exact⟨i,nJ.UA (L.bF.trans (e _).symm) E,λd=>(q d).trans (e _)⟩
end Go.Proofs.YteogojgnkjegmaaGreatDoor
namespace Go.Proofs.YteogojgnkjegmaaGreatDoor
open Go.ay Go.Proofs.Tryz
variable[Go.ay.b4]
def kq(g:ab cI):Nat:=(g.map (·.2.length)).sum
def GF{g m:ab cI}(h:g.Perm m):kq g=kq m:=(h.map _).sum_nat
def qN(y:cI)(g:ab cI):kq (y::g)=y.2.length+kq g:=by simp[kq]
def nJ.da{g m:ab cI}{y:cI}(h:nJ g y m):kq g=y.2.length+kq m:=by
 rcases h with h|⟨rfl,h⟩
 .rw[GF h,qN]
 .rw[<-GF h];simp[cI.z]
def gz.da(L:gz):Nat:=kq L.g+L.keys.length
def GG(a Y:Nat)(L:gz)(x:ag)(d:bN)(X:L.da<=1000000000000):ar prog 102 [aw a 0,A x.c,A d.c] (iz a Y L) (λr J=>∃T:gz,T.da<=L.da+3/\Found L T x d/\r=.tuple #[]/\J=iz a Y T):=by
 by_cases o:d.Kind=0
 .have P:Found L L x d:=⟨by simp[o],λk=>by simp[o],λs=>by simp[o],λB h _=>h⟩
  have h:ar prog 102 [aw a 0,A x.c,A d.c] (iz a Y L) (λr J=>r=.tuple #[]/\J=iz a Y L):=by unfold iz;refine aE func102 λW=>?_;refine aq 2 λZ=>?_;refine aq 0 λb=>?_;exact aP 21
  refine ar.post h ?_;rintro r J⟨rfl,rfl⟩;exact⟨_,⟨L,ac,P,rfl,rfl⟩,λ_ _ _ h=>h⟩
 .by_cases p:d.Kind=5
  .have n:=L.abe;have C:=n.da;by_cases Q:d.cP=0
   .have h:ar prog 102 [aw a 0,A x.c,A d.c] (iz a Y L) (λr J=>∃j,r=.tuple #[]/\J=[cells a 101 (jG.c ⟨aw Y 0,.map (some L.h0),j,.map (some L.eb)⟩),bz ma e2 L.h0 L.keys,bz qM e2 L.eb L.eL]++(rows ag.c j 46 2 (L.lists++[x])::c8 (L.keys.map (·.2)++L.eL.map (·.2))::[])):=by unfold iz;unfold gz.da at X;dsimp only at C;refine aE func102 λW=>?_;refine ah.ea n ?_;dsimp only;refine aq 2 λZ=>?_;refine aq 0 λb=>?_;refine aa 24 ?_;refine ah.Uv [10] ?_ aB.j.j.d'.j.j.d'.j aB.j.j.j.j.j.d'.j;refine ae 4 0 ?_;refine ae 1 5 ?_;refine af.t 4 rfl (V.C' ad) ?_;refine af.q' 6 rfl (O.Q' ad ag.c [_] rfl (bI.agg rfl bI.nil) rfl rfl (λYo=>?_));refine au ?_;refine af.q' 7 rfl (O.U' ad rfl rfl T8 (cq.rows ad T1 ag.F') (λYp Yn=>?_));refine au ?_;refine ae 2 8 ?_;refine af.l 10 rfl (O.K' ad ?_);exact aP 14
    refine ar.post h ?_;rintro r J⟨j,rfl,rfl⟩;refine⟨_,⟨⟨L.h0,L.eb,j,L.lists++[x],L.keys,L.eL,(j,L.lists++[x])::(L.keys.map (·.2)++L.eL.map (·.2)),he _⟩,?_,⟨Rl,λk=>Rl,λs=>by simp[Q],λB h _=>h⟩,rfl,rfl⟩,λ_ _ _ h=>c8.shut h⟩;show kq ((j,L.lists++[x])::_)+L.keys.length<=kq L.g+L.keys.length+3
    rw[C,qN];simp only[b2,dD,gv];omega
   .obtain⟨⟨q,U⟩,K⟩:∃y,gf L.eL d.cP=y:=⟨_,rfl⟩
    have F:∀j,∃m,nJ ((j,L.lists++[x])::(L.keys.map (·.2)++L.eL.map (·.2))) (q,U) m/\∀G,(G::m).Perm ((j,L.lists++[x])::(L.keys.map (·.2)++(bx L.eL d.cP G).map (·.2))):=λj=>by have:=gz.Zv ⟨L.h0,L.eb,j,L.lists++[x],L.keys,L.eL,(j,L.lists++[x])::(L.keys.map (·.2)++L.eL.map (·.2)),he _⟩ d.cP;dsimp only at this;rwa[K]at this
    have h:ar prog 102 [aw a 0,A x.c,A d.c] (iz a Y L) (λr J=>∃j N m,(∀G,(G::m).Perm ((j,L.lists++[x])::(L.keys.map (·.2)++(bx L.eL d.cP G).map (·.2))))/\kq ((j,L.lists++[x])::(L.keys.map (·.2)++L.eL.map (·.2)))=U.length+kq m/\r=.tuple #[]/\
      J=[cells a 101 (jG.c ⟨aw Y 0,.map (some L.h0),j,.map (some L.eb)⟩),bz ma e2 L.h0 L.keys,bz qM e2 L.eb (bx L.eL d.cP (N,U++[x]))]++(rows ag.c N 46 2 (U++[x])::c8 m::[])):=by
     unfold iz
     unfold gz.da at X
     dsimp only at C
     refine aE func102 λW=>?_
     refine ah.ea n ?_
     dsimp only
     refine aq 2 λZ=>?_
     refine aq 0 λb=>?_
     refine aa 24 ?_
     refine ah.Uv [10] ?_ aB.j.j.d'.j.j.d'.j aB.j.j.j.j.j.d'.j
     refine ae 4 0 ?_
     refine ae 1 5 ?_
     refine af.t 4 rfl (V.C' ad) ?_
     refine af.q' 6 rfl (O.Q' ad ag.c [_] rfl (bI.agg rfl bI.nil) rfl rfl (λYo=>?_))
     refine au ?_
     refine af.q' 7 rfl (O.U' ad rfl rfl T8 (cq.rows ad T1 ag.F') (λYp Yn=>?_))
     refine au ?_
     refine ae 2 8 ?_
     refine af.l 10 rfl (O.K' ad ?_)
     refine aa 4 ?_
     rotate_left
     refine ah.WV (l:=L.lists++[x]) ?_
     obtain⟨m,f,R⟩:=F _
     have Yc:=f.da
     have Yg:=Yc
     rw[qN]at Yg
     simp only[b2,dD,gv]at Yg
     refine ah.ea f ?_
     dsimp only
     refine aa 8 ?_
     refine ah.n' ?_ aB.j.j.d'.d'.d'.j.j.j
     refine ae 12 0 ?_
     refine ae 1 13 ?_
     refine af.bv 12 14 rfl rfl ?_ ?_
     refine av.x' (aK.UN (l:=L.eL) (k:=d.cP) (R:=(q,U)) (aU:=e2) cI.z K oI oJ pi rfl rfl T1) ?_
     refine au ?_
     refine af.q' 14 rfl (O.Q' ad ag.c [_] rfl (bI.agg rfl bI.nil) rfl rfl (λYh=>?_))
     refine au ?_
     refine af.q' 15 rfl (O.U' ad rfl rfl T8 (cq.rows ad T1 ag.F') (λYj Yi=>?_))
     refine au ?_
     refine af.q' 16 rfl (av.UC (l:=L.eL) (k:=d.cP) (v:=((_,U++[x]):cI)) (aU:=e2) oI oJ rfl rfl rfl T4 ?_)
     refine aa 3 ?_
     rotate_left
     refine O.Q' ad ag.c [_] rfl (bI.agg rfl bI.nil) rfl rfl (λYh=>?_)
     refine au ?_
     refine af.q' 12 rfl (av.x' (aK.UN (l:=L.eL) (k:=d.cP) (R:=(q,U)) (aU:=e2) cI.z K oI oJ pi rfl rfl T1) ?_)
     refine au ?_
     refine af.q' 15 rfl (O.U' ad rfl rfl T8 (cq.rows ad T1 ag.F') (λYj Yi=>?_))
     refine au ?_
     refine af.q' 16 rfl (av.UC (l:=L.eL) (k:=d.cP) (v:=((_,U++[x]):cI)) (aU:=e2) oI oJ rfl rfl rfl T4 ?_)
     refine aa 3 ?_
     rotate_left
     all_goals exact⟨_,_,⟨_,_,m,R,Yc,rfl,rfl⟩,Uc⟩
    refine ar.post h ?_;rintro r J⟨j,N,m,R,Yc,rfl,rfl⟩;refine⟨_,⟨⟨L.h0,L.eb,j,L.lists++[x],L.keys,bx L.eL d.cP (N,U++[x]),(N,U++[x])::m,R _⟩,?_,⟨Rl,λk=>Rl,λs=>?_,λB h _=>h⟩,rfl,rfl⟩,λ_ _ _ h=>c8.shut h⟩
    .show kq ((N,U++[x])::m)+L.keys.length<=kq L.g+L.keys.length+3;rw[C,qN];rw[qN]at Yc;simp only[b2,dD,gv]at Yc⊢;omega
    .show(gf (bx L.eL d.cP (N,U++[x])) s).2=_;rw[zo];by_cases e:s=d.cP
     .rw[aQ e,aQ ⟨o,Q,e⟩,e,K]
     exact Sh
  .obtain⟨⟨iT,M⟩,E⟩:∃y,gf L.keys d.Key=y:=⟨_,rfl⟩
   obtain⟨i,n,Ym⟩:=L.abf d.Key;rw[E]at n;have C:=n.da;by_cases Q:d.cP=0
   .have h:ar prog 102 [aw a 0,A x.c,A d.c] (iz a Y L) (λr J=>∃N,r=.tuple #[]/\
      J=[cells a 101 (jG.c ⟨aw Y 0,.map (some L.h0),L.gw,.map (some L.eb)⟩),bz ma e2 L.h0 (bx L.keys d.Key (N,M++[x])),bz qM e2 L.eb L.eL]++(rows ag.c N 46 2 (M++[x])::c8 i::[])):=by
     unfold iz
     unfold gz.da at X
     dsimp only at C
     refine aE func102 λW=>?_
     refine ah.ea n ?_
     dsimp only
     refine aq 2 λZ=>?_
     refine aq 0 λb=>?_
     refine aa 24 ?_
     refine ah.n' ?_ aB.j.j.d'.j.j.d'.d'
     refine ae 12 0 ?_
     refine ae 1 13 ?_
     refine af.bv 12 14 rfl rfl ?_ ?_
     refine av.x' (aK.UN (l:=L.keys) (k:=d.Key) (R:=(iT,M)) (aU:=e2) cI.z E gU qL pi rfl rfl T1) ?_
     refine au ?_
     refine af.q' 14 rfl (O.Q' ad ag.c [_] rfl (bI.agg rfl bI.nil) rfl rfl (λYf=>?_))
     refine au ?_
     refine af.q' 15 rfl (O.U' ad rfl rfl T8 (cq.rows ad T1 ag.F') (λYl Yk=>?_))
     refine au ?_
     refine af.q' 16 rfl (av.UC (l:=L.keys) (k:=d.Key) (v:=((_,M++[x]):cI)) (aU:=e2) gU qL rfl rfl rfl T4 ?_)
     exact aP 14
     refine O.Q' ad ag.c [_] rfl (bI.agg rfl bI.nil) rfl rfl (λYf=>?_)
     refine au ?_
     refine af.q' 12 rfl (av.x' (aK.UN (l:=L.keys) (k:=d.Key) (R:=(iT,M)) (aU:=e2) cI.z E gU qL pi rfl rfl T1) ?_)
     refine au ?_
     refine af.q' 15 rfl (O.U' ad rfl rfl T8 (cq.rows ad T1 ag.F') (λYl Yk=>?_))
     refine au ?_
     refine af.q' 16 rfl (av.UC (l:=L.keys) (k:=d.Key) (v:=((_,M++[x]):cI)) (aU:=e2) gU qL rfl rfl rfl T4 ?_)
     exact aP 14
    refine ar.post h ?_;rintro r J⟨N,rfl,rfl⟩;refine⟨_,⟨⟨L.h0,L.eb,L.gw,L.lists,bx L.keys d.Key (N,M++[x]),L.eL,(N,M++[x])::i,Ym _⟩,?_,⟨Rl,λk=>?_,λs=>by simp[Q],λB h w k u=>(GB u).elim (λe=>e▸w) (h k)⟩,rfl,rfl⟩,λ_ _ _ h=>c8.shut h⟩
    .have Ye:=GC L.keys d.Key ((N,M++[x]):cI);show kq ((N,M++[x])::i)+(bx L.keys d.Key (N,M++[x])).length<=kq L.g+L.keys.length+3
     rw[C,qN];simp only[b2,dD,gv];omega
    .show(gf (bx L.keys d.Key (N,M++[x])) k).2=_;rw[zo];by_cases e:k=d.Key
     .rw[aQ e,aQ ⟨o,p,e⟩,e,E]
     exact Sh
   .obtain⟨⟨q,U⟩,K⟩:∃y,gf L.eL d.cP=y:=⟨_,rfl⟩
    have F:∀N,∃m,nJ ((N,M++[x])::i) (q,U) m/\∀G,(G::m).Perm ((L.gw,L.lists)::((bx L.keys d.Key (N,M++[x])).map (·.2)++(bx L.eL d.cP G).map (·.2))):=λN=>by have:=gz.Zv ⟨L.h0,L.eb,L.gw,L.lists,bx L.keys d.Key (N,M++[x]),L.eL,(N,M++[x])::i,Ym _⟩ d.cP;dsimp only at this;rwa[K]at this
    have h:ar prog 102 [aw a 0,A x.c,A d.c] (iz a Y L) (λr J=>∃N D m,(∀G,(G::m).Perm ((L.gw,L.lists)::((bx L.keys d.Key (N,M++[x])).map (·.2)++(bx L.eL d.cP G).map (·.2))))/\kq ((N,M++[x])::i)=U.length+kq m/\r=.tuple #[]/\
      J=[cells a 101 (jG.c ⟨aw Y 0,.map (some L.h0),L.gw,.map (some L.eb)⟩),bz ma e2 L.h0 (bx L.keys d.Key (N,M++[x])),bz qM e2 L.eb (bx L.eL d.cP (D,U++[x]))]++(rows ag.c D 46 2 (U++[x])::c8 m::[])):=by
     unfold iz
     unfold gz.da at X
     dsimp only at C
     refine aE func102 λW=>?_
     refine ah.ea n ?_
     dsimp only
     refine aq 2 λZ=>?_
     refine aq 0 λb=>?_
     refine aa 24 ?_
     refine ah.n' ?_ aB.j.j.d'.j.j.d'.d'
     refine ae 12 0 ?_
     refine ae 1 13 ?_
     refine af.bv 12 14 rfl rfl ?_ ?_
     refine av.x' (aK.UN (l:=L.keys) (k:=d.Key) (R:=(iT,M)) (aU:=e2) cI.z E gU qL pi rfl rfl T1) ?_
     refine au ?_
     refine af.q' 14 rfl (O.Q' ad ag.c [_] rfl (bI.agg rfl bI.nil) rfl rfl (λYf=>?_))
     refine au ?_
     refine af.q' 15 rfl (O.U' ad rfl rfl T8 (cq.rows ad T1 ag.F') (λYl Yk=>?_))
     refine au ?_
     refine af.q' 16 rfl (av.UC (l:=L.keys) (k:=d.Key) (v:=((_,M++[x]):cI)) (aU:=e2) gU qL rfl rfl rfl T4 ?_)
     refine aa 4 ?_
     rotate_left
     refine O.Q' ad ag.c [_] rfl (bI.agg rfl bI.nil) rfl rfl (λYf=>?_)
     refine au ?_
     refine af.q' 12 rfl (av.x' (aK.UN (l:=L.keys) (k:=d.Key) (R:=(iT,M)) (aU:=e2) cI.z E gU qL pi rfl rfl T1) ?_)
     refine au ?_
     refine af.q' 15 rfl (O.U' ad rfl rfl T8 (cq.rows ad T1 ag.F') (λYl Yk=>?_))
     refine au ?_
     refine af.q' 16 rfl (av.UC (l:=L.keys) (k:=d.Key) (v:=((_,M++[x]):cI)) (aU:=e2) gU qL rfl rfl rfl T4 ?_)
     refine aa 4 ?_
     rotate_left
     .refine ah.WV (l:=M++[x]) ?_
      obtain⟨m,f,R⟩:=F _
      have Yc:=f.da
      have Yg:=Yc
      rw[qN]at Yg
      simp only[b2,dD,gv]at Yg
      refine ah.ea f ?_
      dsimp only
      refine aa 8 ?_
      refine ah.n' ?_ aB.j.j.d'.d'.d'.j.j.j
      refine ae 12 0 ?_
      refine ae 1 13 ?_
      refine af.bv 12 14 rfl rfl ?_ ?_
      refine av.x' (aK.UN (l:=L.eL) (k:=d.cP) (R:=(q,U)) (aU:=e2) cI.z K oI oJ pi rfl rfl T1) ?_
      refine au ?_
      refine af.q' 14 rfl (O.Q' ad ag.c [_] rfl (bI.agg rfl bI.nil) rfl rfl (λYh=>?_))
      refine au ?_
      refine af.q' 15 rfl (O.U' ad rfl rfl T8 (cq.rows ad T1 ag.F') (λYj Yi=>?_))
      refine au ?_
      refine af.q' 16 rfl (av.UC (l:=L.eL) (k:=d.cP) (v:=((_,U++[x]):cI)) (aU:=e2) oI oJ rfl rfl rfl T4 ?_)
      refine aa 3 ?_
      rotate_left
      refine O.Q' ad ag.c [_] rfl (bI.agg rfl bI.nil) rfl rfl (λYh=>?_)
      refine au ?_
      refine af.q' 12 rfl (av.x' (aK.UN (l:=L.eL) (k:=d.cP) (R:=(q,U)) (aU:=e2) cI.z K oI oJ pi rfl rfl T1) ?_)
      refine au ?_
      refine af.q' 15 rfl (O.U' ad rfl rfl T8 (cq.rows ad T1 ag.F') (λYj Yi=>?_))
      refine au ?_
      refine af.q' 16 rfl (av.UC (l:=L.eL) (k:=d.cP) (v:=((_,U++[x]):cI)) (aU:=e2) oI oJ rfl rfl rfl T4 ?_)
      refine aa 3 ?_
      rotate_left
      all_goals exact⟨_,_,⟨_,_,m,R,Yc,rfl,rfl⟩,Uc⟩
     .refine ah.WV (l:=M++[x]) ?_
      obtain⟨m,f,R⟩:=F _
      have Yc:=f.da
      have Yg:=Yc
      rw[qN]at Yg
      simp only[b2,dD,gv]at Yg
      refine ah.ea f ?_
      dsimp only
      refine aa 8 ?_
      refine ah.n' ?_ aB.j.j.d'.d'.d'.j.j.j
      refine ae 12 0 ?_
      refine ae 1 13 ?_
      refine af.bv 12 14 rfl rfl ?_ ?_
      refine av.x' (aK.UN (l:=L.eL) (k:=d.cP) (R:=(q,U)) (aU:=e2) cI.z K oI oJ pi rfl rfl T1) ?_
      refine au ?_
      refine af.q' 14 rfl (O.Q' ad ag.c [_] rfl (bI.agg rfl bI.nil) rfl rfl (λYh=>?_))
      refine au ?_
      refine af.q' 15 rfl (O.U' ad rfl rfl T8 (cq.rows ad T1 ag.F') (λYj Yi=>?_))
      refine au ?_
      refine af.q' 16 rfl (av.UC (l:=L.eL) (k:=d.cP) (v:=((_,U++[x]):cI)) (aU:=e2) oI oJ rfl rfl rfl T4 ?_)
      refine aa 3 ?_
      rotate_left
      refine O.Q' ad ag.c [_] rfl (bI.agg rfl bI.nil) rfl rfl (λYh=>?_)
      refine au ?_
      refine af.q' 12 rfl (av.x' (aK.UN (l:=L.eL) (k:=d.cP) (R:=(q,U)) (aU:=e2) cI.z K oI oJ pi rfl rfl T1) ?_)
      refine au ?_
      refine af.q' 15 rfl (O.U' ad rfl rfl T8 (cq.rows ad T1 ag.F') (λYj Yi=>?_))
      refine au ?_
      refine af.q' 16 rfl (av.UC (l:=L.eL) (k:=d.cP) (v:=((_,U++[x]):cI)) (aU:=e2) oI oJ rfl rfl rfl T4 ?_)
      refine aa 3 ?_
      rotate_left
      all_goals exact⟨_,_,⟨_,_,m,R,Yc,rfl,rfl⟩,Uc⟩
    refine ar.post h ?_;rintro r J⟨N,D,m,R,Yc,rfl,rfl⟩;refine⟨_,⟨⟨L.h0,L.eb,L.gw,L.lists,bx L.keys d.Key (N,M++[x]),bx L.eL d.cP (D,U++[x]),(D,U++[x])::m,R _⟩,?_,⟨Rl,λk=>?_,λs=>?_,λB h w k u=>(GB u).elim (λe=>e▸w) (h k)⟩,rfl,rfl⟩,λ_ _ _ h=>c8.shut h⟩
    .have Ye:=GC L.keys d.Key ((N,M++[x]):cI);show kq ((D,U++[x])::m)+(bx L.keys d.Key (N,M++[x])).length<=kq L.g+L.keys.length+3
     rw[C,qN];rw[qN]at Yc;simp only[b2,dD,gv]at Yc⊢;omega
    .show(gf (bx L.keys d.Key (N,M++[x])) k).2=_;rw[zo];by_cases e:k=d.Key
     .rw[aQ e,aQ ⟨o,p,e⟩,e,E]
     exact Sh
    .show(gf (bx L.eL d.cP (D,U++[x])) s).2=_;rw[zo];by_cases e:s=d.cP
     .rw[aQ e,aQ ⟨o,Q,e⟩,e,K]
     exact Sh
structure eH where
 e3:Nat
 ee:Nat
 L:gz
 R:kS
 dH:aj
def hh(o g:Nat)(X:eH)(s:bR):ab ax:=iz o X.e3 X.L++gy X.e3 X.ee g X.R X.dH s
def Loc(L:gz)(x:ag)(d:bN):Prop:=d.Kind≠0->(d.Kind=5->x∈L.lists)/\(d.Kind≠5->x∈(gf L.keys d.Key).2)/\(d.cP≠0->x∈(gf L.eL d.cP).2)
def h1(L:gz)(p:aJ aX):Prop:=(∀x i,p.at x=some i->Loc L x i.Call.cv)/\∀k∈L.keys.map (·.1),k.length<=16
def Found.here{L T:gz}{x:ag}{d:bN}(h:Found L T x d):Loc T x d:=λo=>by
 refine⟨λa=>?_,λa=>?_,λQ=>?_⟩
 .rw[h.lists,aQ a];simp
 .rw[h.keys,aQ ⟨o,a,rfl⟩];simp
 .rw[h.eL,aQ ⟨o,Q,rfl⟩];simp
def Found.cQ{L u:gz}{x y:ag}{d e:bN}(h:Found L u x d)(T:Loc L y e):Loc u y e:=λo=>by
 obtain⟨Y,N,R⟩:=T o;refine⟨λa=>?_,λa=>?_,λQ=>?_⟩
 .rw[h.lists];have:=Y a;split<;>simp[this]
 .rw[h.keys];have:=N a;split<;>simp[this]
 .rw[h.eL];have:=R Q;split<;>simp[this]
def vA{n:Int}{p:aJ aX}(z:p.ok):ko n p.all↔∀x i,p.at x=some i->bq x n=true/\eW i n=true:=
 ⟨λh x i ao=>h (x,i) ((aJ.Ve z).2 ao),λh y F=>h y.1 y.2 ((aJ.Ve z).1 F)⟩
def bR.vB(s:bR)(x:ag)(i:aX):(s.add x i).p=s.p.set x i:=by unfold bR.add;split<;>rfl
def bR.V9(s:bR)(x:ag)(i:aX):(s.add x i).n=s.n:=by unfold bR.add;split<;>rfl
def bR.abg{s:bR}(h:s.ok){x:ag}{i:aX}(U:bq x s.n=true)(ao:eW i s.n=true):(s.add x i).ok:=by
 have r:s.n<=7:=Qq
 have f:=xy r U ao;have T:=bR.Vp h;have z:(s.p.set x i).ok:=aJ.Vr h.p x i;refine⟨by rw[bR.V9];exact h.size,by rw[bR.vB];exact z,by rw[bR.vB,bR.V9,aJ.Vq];exact h.aH,?_,?_⟩
 .rw[bR.vB,bR.V9,vA z];intro y j F;rw[aJ.U5 h.p]at F;split at F
  .rename_i q;cases F;rw[q.2];exact⟨U,ao⟩
  .exact(vA h.p).1 h.g1 y j F
 .unfold bR.add;split
  .show(cj s.p.all++fV x i).length<=65536;rw[b2];omega
  .show(s.data++fV x i).length<=65536;rw[b2];omega
def bR.Zw{s:bR}(h:s.ok){x:ag}{i:aX}(U:bq x s.n=true)(y:ag):(s.add x i).p.at y=if y=x then some i else s.p.at y:=by rw[bR.vB,aJ.U5 h.p,h.aH];simp[U]
def ahF(z g:Nat)(X:eH)(s:bR)(x:ag)(i:aX)(h:s.ok)(U:bq x s.n=true)(ao:eW i s.n=true)(m:h1 X.L s.p)(u:X.L.da<=1000000000000):ar prog 236 [aw z 0,A x.c,A i.c] (hh z g X s) (λr J=>∃d:eH,d.L.da<=X.L.da+3/\h1 d.L (s.add x i).p/\r=I 0/\J=hh z g d (s.add x i)):=by
 obtain⟨C,q,Q,D,f⟩:=X;dsimp only at m u⊢;have b:=B2 C q g D f s x h.p.towf;have N:=Na C q g D f s x i h U ao;have P:=GG z C Q x i.Call.cv u;by_cases w:(bP s.p x).Call.cv=i.Call.cv
 .have l:h1 Q (s.add x i).p:=by
   refine⟨?_,m.2⟩;intro y j F;rw[bR.Zw h U]at F;split at F
   .rename_i e;cases F;subst e;cases K:s.p.at y with
    |none=>
     intro o;rw[<-w,bP,K]at o;exact absurd rfl o
    |some k=>
     have:=m.1 y k K;rw[bP,K]at w;rw[<-w];exact this
   .exact m.1 y j F
  unfold hh iz gy at*;refine Ry (λW Z a=>?_) λW Z a=>?_;refine Pe ?_;refine df 8 λE=>?_;refine P6 λR Ye=>?_;refine aa 14 ?_;rotate_left;refine Rh λE=>?_;refine Pe ?_;refine P6 λYk Yh=>?_;refine aa 14 ?_;rotate_left;all_goals exact⟨_,_,⟨⟨C,q,Q,_,_⟩,(by exact jL _ _),(by exact l),rfl,rfl⟩,Uc⟩
 .unfold hh iz gy at*;refine Ry (λW Z a=>?_) λW Z a=>?_;refine Pe ?_;refine df 8 λE=>?_;refine P6 λR Ye=>?_;refine aa 11 ?_;rintro _ _⟨Yf,M,G,rfl,rfl⟩;refine aa 11 ?_;rotate_left;refine Rh λE=>?_;refine Pe ?_;refine P6 λYi Yg=>?_;refine aa 11 ?_;rintro _ _⟨Yj,t,Yc,rfl,rfl⟩;refine aa 11 ?_;rotate_left;all_goals
   have Y:=(by assumption:Found Q _ x i.Call.cv)
   refine⟨_,_,⟨⟨C,q,_,_,_⟩,TX,?_,rfl,rfl⟩,Uc⟩;refine⟨?_,Y.GD 16 m.2 (sL (oD (mJ ao).2.2.2.2.1).1).2.2.1⟩;intro y j F;rw[bR.Zw h U]at F;split at F
   .rename_i e;cases F;subst e;exact Y.here
   .exact Y.cQ (m.1 y j F)
def Ni(o g:Nat)(X:eH)(s:bR):ar prog 91 [aw o 0] (hh o g X s) (λr J=>r=I 0/\J=hh o g X {s with safe:=(s.data.length:Int)}):=by have v:=agN X.e3 X.ee g X.R X.dH s;unfold hh iz gy at*;refine bl ?_;refine aE func91 λW=>?_;exact aP 28
def aee(o g:Nat)(X:eH)(s:bR)(x:ag)(h:s.p.wf):ar prog 16 [aw o 0,A x.c] (hh o g X s) (λr J=>r=A (bP s.p x).c/\J=hh o g X s):=by have b:=B2 X.e3 X.ee g X.R X.dH s x h;unfold hh iz gy at*;refine bl ?_;refine aE func16 λW=>?_;refine aq 2 λm=>?_;refine aq 0 λZ=>?_;refine aa 13 ?_;refine ah.n' ?_ aB.j.j.j.j.j.j.j.d'.d'.j;refine ae 5 0 ?_;refine af.p' 5 rfl rfl (b) ?_;refine aa 2 ?_;refine ae 1 6 ?_;exact aP 4
def ah8(o g:Nat)(X:eH)(s:bR):ar prog 14 [aw o 0] (hh o g X s) (λr J=>∃q,r=.func (.func 80) #[] #[aw q 0]/\J=cells q 117 [aw X.ee 0]::hh o g X s):=by have b:=Gy X.e3 X.ee g X.R X.dH s;unfold hh iz gy at*;refine bl ?_;refine aE func14 λW=>?_;refine aa 22 ?_;rintro _ _⟨G,rfl,rfl⟩;exact aP 6
def GH:ar prog 14 [.pointer none] [] (λr J=>∃q p L,r=.func (.func 80) #[] #[aw q 0]/\J=[cells q 117 [aw p 0],kT p L (aJ.new 0)]):=by
 refine aE func14 λW=>?_;refine aa 15 ?_;refine ai.p' rfl (ag8) ?_;rintro _ _⟨t,f,g,rfl,rfl⟩;refine aa 7 ?_
 exact PV
def ad4(o g:Nat)(X:eH)(s:bR)(U:Int)(h:s.p.wf):ar prog 83 [aw o 0,I U] (hh o g X s) (λr J=>r=I (s.p.top U:Int)/\J=hh o g X s):=by have b:=M7 X.e3 X.ee g X.R X.dH s U h;unfold hh iz gy at*;refine bl ?_;refine aE func83 λW=>?_;exact aP 29
def GI(o g:Nat)(X:eH)(s:bR):ar prog 84 [aw o 0] (hh o g X s) (λr J=>r=I s.n/\J=hh o g X s):=by have b:=ah2 X.e3 X.ee g X.R X.dH s;unfold hh iz gy at*;refine bl ?_;refine aE func84 λW=>?_;exact aP 28
def fW(s:bR)(U:Int):ag:=⟨U,(s.p.top U:Int)+1⟩
def ajz(W g:Nat)(X:eH)(s:bR)(U:Int)(h:s.p.wf)(o:0<=U)(Y:U<s.n):ar prog 55 [aw W 0,I U] (hh W g X s) (λr J=>r=.tuple #[A (fW s U).c,B (decide ((s.p.top U:Int)+1<=64))]/\J=hh W g X s):=by have f:=ad4 W g X s U h;have d:=GI W g X s;have m:=aJ.X5 h U;unfold fW;unfold hh iz gy at*;refine bl ?_;refine aE func55 λW=>?_;refine aq 2 λZ=>?_;refine aq 12 λg=>?_;refine aa 4 ?_;refine ah.n' ?_ aB.j.j.j.j.j.j.j.j.j.d';refine ae 8 0 ?_;refine bE 20 ?_;refine ae 2 8 ?_;refine af.p' 10 rfl rfl (d) ?_;refine aa 2 ?_;refine ae 3 11 ?_;refine bE 26 ?_;refine ae 6 14 ?_;exact aP 4
end Go.Proofs.YteogojgnkjegmaaGreatDoor
