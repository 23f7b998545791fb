/-
 Part of the proof.
-/
import Derived.Test.YteogojgnkjegmaaGreatDoorXn
set_option linter.all false
set_option maxRecDepth 8000
set_option maxHeartbeats 8000000
namespace Go.Proofs.YteogojgnkjegmaaGreatDoor
open Go.ay Go.Proofs.Tryz
variable{it:ag}{N:ab ax}{D:bk}
def ar.facts{P:bF}{f:eg}{args:ab aj}{R G:aj->ab ax->Prop}(h:ar P f args N R)(o:∀v Y W D w,R v Y->H W D Y w->G v Y):ar P f args N G:=
 ar.of λw f=>(h.get w f).mono λe s ⟨v,Y,d,T,W⟩=>⟨v,Y,d,o v Y _ _ s T W,W⟩
def z8{e:ax}{y:aQ Go.Addr}{C b off:Nat}{Z:ab aD}{x:ag}{m:aD}{t:ab aD}(U:Z.length<=1000)(T:Rd e y Z.length b off 25 (Z.map aD.c))(Q:pr x Z=m::t):ar prog 283 [A x.c,.slice y Z.length C] [e] (λr Y=>∃g F,r=.slice (some ⟨g,0,none⟩) (t.length+1) F/\Y=[rows aD.c (.slice (some ⟨g,0,none⟩) (t.length+1) F) 176 25 (m::t),e]):=by
 refine ar.facts (xE e y C b off Z x U T) ?_;rintro v Y W D w⟨X,rfl,rfl⟩ f;rw[Q]at f⊢;rcases hc (aE _) w f with⟨_,h⟩|⟨g,F,rfl,_⟩
 .cases h
 .exact⟨g,F,rfl,rfl⟩
def lz(c d:aV):aV:=lW c [d]
def g6(c:aV)(Z:ab aD):aV:=Z.foldl (λc p=>if p.Status=1 then lz c p.Call else c) c
def aeV(c:aV)(Z:ab aD)(p:aD):g6 c (Z++[p])=(if p.Status=1 then lz (g6 c Z) p.Call else g6 c Z):=by simp[g6]
def oz(Z:ab aD):aQ aD:=match ao 2 Z with
 |some m=>match ao 1 Z with
  |some a=>if g2 m.cY a.cY then none else some m
  |none=>some m
 |none=>none
def choose(n:Int)(x:ag)(Z:ab aD):Int×aV:=
 if(Z.length:Int)<cD n+1 then(0,aV.z)else
 match ao 3 Z with
 |some m=>(1,m.Call)
 |none=>match oz Z with
  |some m=>(2,m.Call)
  |none=>match pr x Z with
   |m::t=>if cD n<=((t.length+1:Nat):Int)then(2,m.Call)else match ao 1 Z with
    |none=>(2,aV.z)
    |some a=>(3,g6 a.Call Z)
   |[]=>match ao 1 Z with
    |none=>(2,aV.z)
    |some a=>(3,g6 a.Call Z)
def LM(e:ax)(cG:aQ Go.Addr)(Q b off:Nat)(n:Int)(x:ag)(Z:ab aD)(c6:3<=n/\n<=1000000)(cr:Z.length<=1000)(D:Rd e cG Z.length b off 25 (Z.map aD.c)):ar prog 266 [I n,A x.c,.slice cG Z.length Q] [e] (λr Y=>r=.tuple #[I (choose n x Z).1,A (choose n x Z).2.c]/\Y=[e]):=by
 have nW:=w5 n ac;have cT:=zg n ac;have Yh:1<=cD n:=ZU
 have Yf:a8 .geq ((([]:ab aD).length:Nat):Int) (cD n)=some false:=XS
 have cM (st:Int):=acO e cG Q b off Z st D;have cp:=cM 3;have dd:=cM 2;have cm:=cM 1;clear cM;by_cases d:(Z.length:Int)<cD n+1
 .rw[show choose n x Z=(0,aV.z) by unfold choose;rw[aT d]];refine aB func266 λW=>?_;refine aq 2 λG=>?_;refine aq 1 λM=>?_;exact aM 23
 .cases f:ao 3 Z with
  |some m=>
   rw[show choose n x Z=(1,m.Call) by unfold choose;rw[aN d,f]];rw[f]at cp;refine aB func266 λW=>?_;refine aq 2 λG=>?_;refine aq 1 λM=>?_;refine aq 24 λT=>?_;refine aa 11 ?_;refine ah.n' ?_ aA.j.j.j.d';refine ae 4 0 ?_;exact aM 5
  |none=>
   rw[f]at cp;cases R:ao 1 Z with
   |none=>
    rw[R]at cm;cases h:ao 2 Z with
    |none=>
     rw[h]at dd;have w:oz Z=none:=by simp[oz,h]
     cases U:pr x Z with
     |cons vN t=>
      have E:=z8 (x:=x) (C:=Q) cr D U;by_cases s:cD n<=((t.length+1:Nat):Int)
      exact IW
      .rw[show choose n x Z=(2,aV.z) by unfold choose;rw[aN d,f];simp only[w,U,s,ii,R]];refine RJ λW G M T y C=>?_;refine aa 30 ?_;rintro _ _⟨L,j,rfl,rfl⟩;exact aM 40
     |nil=>
      have E:=xE e cG Q b off Z x cr D;rw[U]at E;rw[show choose n x Z=(2,aV.z) by unfold choose;rw[aN d,f];simp only[w,U,R]];refine RJ λW G M T y C=>?_;refine aa 30 ?_;rintro _ _⟨Yg,rfl,rfl⟩;refine aa 12 ?_;refine ai.aU (λvO=>?_) (λvO=>?_);exact aM 27;exact aM 27
    |some m=>
     rw[h]at dd;have w:oz Z=some m:=by simp[oz,h,R]
     rw[show choose n x Z=(2,m.Call) by unfold choose;rw[aN d,f];simp only[w]];refine RJ λW G M T y C=>?_;refine aa 24 ?_;exact Ps
   |some a=>
    rw[R]at cm;cases h:ao 2 Z with
    |none=>
     rw[h]at dd;have w:oz Z=none:=by simp[oz,h]
     cases U:pr x Z with
     |cons vN t=>
      have E:=z8 (x:=x) (C:=Q) cr D U;by_cases s:cD n<=((t.length+1:Nat):Int)
      exact IW
      .rw[show choose n x Z=(3,g6 a.Call Z) by unfold choose;rw[aN d,f];simp only[w,U,s,ii,R]];refine RJ λW G M T y C=>?_;refine aa 30 ?_;rintro _ _⟨L,j,rfl,rfl⟩;refine aq 36 λN=>?_;refine aa 12 ?_;refine Pn λi Yc K F=>?_;by_cases J:i<Z.length
       .obtain⟨p,q⟩:=b8 J;refine Iq λnh X=>?_
        generalize g6 a.Call (Z.take i)=c at*;have dT (g:Nat):ar prog 202 [A c.c,.slice (some ⟨g,0,none⟩) 1 1] [rows aV.c (.slice (some ⟨g,0,none⟩) 1 1) 52 14 [p.Call]] (λr Y=>r=A (lz c p.Call).c/\Y=[rows aV.c (.slice (some ⟨g,0,none⟩) 1 1) 52 14 [p.Call]]):=
         tB _ _ 1 _ _ c [p.Call] (Rd.rows (l:=[p.Call]) aV.len XE)
        by_cases u:p.Status=1
        exact Oi
        exact JL
       .obtain rfl:i=Z.length:=by omega
        rw[hE];clear F;exact Q7
     |nil=>
      have E:=xE e cG Q b off Z x cr D;rw[U]at E;rw[show choose n x Z=(3,g6 a.Call Z) by unfold choose;rw[aN d,f];simp only[w,U,R]];refine RJ λW G M T y C=>?_;refine aa 30 ?_;rintro _ _⟨Yg,rfl,rfl⟩;refine aa 10 ?_;refine ai.v (V.cmp rfl rfl Yf) ?_;refine aq 24 λN=>?_;refine aa 12 ?_;refine Pn λi Yc K F=>?_;by_cases J:i<Z.length
      .obtain⟨p,q⟩:=b8 J;refine Iq λnh X=>?_
       generalize g6 a.Call (Z.take i)=c at*;have dT (g:Nat):ar prog 202 [A c.c,.slice (some ⟨g,0,none⟩) 1 1] [rows aV.c (.slice (some ⟨g,0,none⟩) 1 1) 52 14 [p.Call]] (λr Y=>r=A (lz c p.Call).c/\Y=[rows aV.c (.slice (some ⟨g,0,none⟩) 1 1) 52 14 [p.Call]]):=
        tB _ _ 1 _ _ c [p.Call] (Rd.rows (l:=[p.Call]) aV.len XE)
       by_cases u:p.Status=1
       exact Oi
       exact JL
      .obtain rfl:i=Z.length:=by omega
       rw[hE];clear F;exact Q7
    |some m=>
     rw[h]at dd;have lA:=r6 m.cY a.cY;cases bY:g2 m.cY a.cY with
     |false=>
      rw[bY]at lA;have w:oz Z=some m:=by simp[oz,h,R,bY]
      rw[show choose n x Z=(2,m.Call) by unfold choose;rw[aN d,f];simp only[w]];refine RJ λW G M T y C=>?_;refine aa 25 ?_;exact Ps
     |true=>
      rw[bY]at lA;have w:oz Z=none:=by simp[oz,h,R,bY]
      cases U:pr x Z with
      |cons vN t=>
       have E:=z8 (x:=x) (C:=Q) cr D U;by_cases s:cD n<=((t.length+1:Nat):Int)
       .rw[show choose n x Z=(2,vN.Call) by unfold choose;rw[aN d,f];simp only[w,U,s,hA]];refine RJ λW G M T y C=>?_;refine aa 32 ?_;rintro _ _⟨L,j,rfl,rfl⟩;refine aa 21 ?_;refine ah.n' ?_ aA.j.j.j.j.j.d'.d';refine ae 1 0 ?_;refine af.i' 1 rfl (V.x' ad (k:=0) rfl rfl) ?_;refine ae 1 2 ?_;refine af.i' 3 rfl (V.SH ad (k:=0) (o:=11) rfl XB aD.len rfl) ?_;refine ae 2 4 ?_;exact aM 5
       .rw[show choose n x Z=(3,g6 a.Call Z) by unfold choose;rw[aN d,f];simp only[w,U,s,ii,R]];refine RJ λW G M T y C=>?_;refine aa 32 ?_;rintro _ _⟨L,j,rfl,rfl⟩;refine aq 36 λN=>?_;refine aa 12 ?_;rotate_left;refine Pn λi Yc K F=>?_;by_cases J:i<Z.length
        .obtain⟨p,q⟩:=b8 J;refine Iq λnh X=>?_
         generalize g6 a.Call (Z.take i)=c at*;have dT (g:Nat):ar prog 202 [A c.c,.slice (some ⟨g,0,none⟩) 1 1] [rows aV.c (.slice (some ⟨g,0,none⟩) 1 1) 52 14 [p.Call]] (λr Y=>r=A (lz c p.Call).c/\Y=[rows aV.c (.slice (some ⟨g,0,none⟩) 1 1) 52 14 [p.Call]]):=
          tB _ _ 1 _ _ c [p.Call] (Rd.rows (l:=[p.Call]) aV.len XE)
         by_cases u:p.Status=1
         exact Oi
         exact JL
        .obtain rfl:i=Z.length:=by omega
         rw[hE];clear F;exact Q7
      |nil=>
       have E:=xE e cG Q b off Z x cr D;rw[U]at E;rw[show choose n x Z=(3,g6 a.Call Z) by unfold choose;rw[aN d,f];simp only[w,U,R]];refine RJ λW G M T y C=>?_;refine aa 32 ?_;rintro _ _⟨Yg,rfl,rfl⟩;refine aa 10 ?_;refine ai.v (V.cmp rfl rfl Yf) ?_;refine aq 24 λN=>?_;refine aa 12 ?_;rotate_left;refine Pn λi Yc K F=>?_;by_cases J:i<Z.length
       .obtain⟨p,q⟩:=b8 J;refine Iq λnh X=>?_
        generalize g6 a.Call (Z.take i)=c at*;have dT (g:Nat):ar prog 202 [A c.c,.slice (some ⟨g,0,none⟩) 1 1] [rows aV.c (.slice (some ⟨g,0,none⟩) 1 1) 52 14 [p.Call]] (λr Y=>r=A (lz c p.Call).c/\Y=[rows aV.c (.slice (some ⟨g,0,none⟩) 1 1) 52 14 [p.Call]]):=
         tB _ _ 1 _ _ c [p.Call] (Rd.rows (l:=[p.Call]) aV.len XE)
        by_cases u:p.Status=1
        exact Oi
        exact JL
       .obtain rfl:i=Z.length:=by omega
        rw[hE];clear F;exact Q7
def a2.pre(x:a2):ab aj:=[I x.n,I x.self]++(x.item.c++(x.b2.c++(x.call.c++[I x.phase])))
def a2.sn(x:a2):ab aj:=x.pre++nH x.pl x.c2 x.dL
def a2.Tg(x:a2):x.c=c3 x.pre x.pl x.c2 x.dL (qW x.ol x.hD x.fD):=rfl
def a2.hq(x:a2):x.c=dP (λb:Bool=>B b) x.sn x.ol x.hD x.fD []:=by rw[a2.Tg];unfold c3 dP a2.sn qW;simp only[cd,dk]
structure a2.wf(x:a2):Prop where
 pl:x.pl.length=7
 c2:x.c2.length=7
 ol:x.ol.length=7
 hD:x.hD.length=7
 dL:x.dL=(x.c2.count true:Int)
 fD:x.fD=(x.hD.count true:Int)
def a2.wf.v{x:a2}(w:x.wf):je x.pre 21 x.pl x.c2:=⟨rfl,w.pl,w.c2⟩
def a2.wf.o{x:a2}(w:x.wf):kw x.sn 204 x.ol x.hD:=⟨by
 have:(nH x.pl x.c2 x.dL).length=183:=by unfold nH;simp only[bM,rq w.pl,ev,w.c2,dp,fY]
 rw[a2.sn,bM,this];rfl,w.ol,w.hD⟩
def a2.wf.bD{x:a2}(w:x.wf):0<=x.dL/\x.dL<=7:=by have:=EV (a:=true) (l:=x.c2);rw[w.dL];rw[w.c2]at this;omega
def a2.wf.bG{x:a2}(w:x.wf):0<=x.fD/\x.fD<=7:=by have:=EV (a:=true) (l:=x.hD);rw[w.fD];rw[w.hD]at this;omega
def a2.S0(x:a2):Bool:=decide (x.b2=⟨0,x.item.be⟩)
def a2.Th(x:a2):a2:={x with call:=(fd x.pl x.c2).foldl (λc p=>lz c p.2.Call) x.call,phase:=2}
def abc(b:Nat)(x:a2)(w:x.wf):ar prog 267 [au b 0] [cells b 183 x.c] (λr Y=>r=B x.S0/\Y=[cells b 183 x.c]):=by refine aB func267 λW=>?_;refine aa 6 ?_;refine ah.n' ?_ aA.d';refine ae 9 0 ?_;refine af.p' 9 rfl (aw.fn rfl (w4 _) ?_);refine av ?_;refine af.i' 10 rfl (V.eq (bk.P' _ _ _)) ?_;refine ae 1 11 ?_;exact aM 4
def a2.wf.call{x:a2}(w:x.wf)(c:aV):({x with call:=c}:a2).wf:=⟨w.pl,w.c2,w.ol,w.hD,w.dL,w.fD⟩
def agk(b:Nat)(x:a2)(w:x.wf)(h:Int):ar prog 246 [au b 21,I h] [cells b 183 x.c] (λr Y=>r=B (decide (0<=h/\h<7)&&x.c2.getD h.toNat false)/\Y=[cells b 183 x.c]):=
 ET (d:=qW x.ol x.hD x.fD) (n:=x.dL) b 183 w.v h
def LP(b q:Nat)(x:a2)(w:x.wf):CI prog 245 [au q 0] (λc:aV=>[cells b 183 ({x with call:=c}:a2).c]) xG (λk i c P=>(fd x.pl x.c2)[k]?=some i/\P=c) (λk c=>k=(fd x.pl x.c2).length) [cells q 311 [au b 21],cells b 183 x.c] [cells q 311 [au b 21]] x.call:=by
 intro y l b4 G X S r R g N;refine aB func245 λW=>?_;refine aa 6 ?_;rw[show cells b 183 x.c=cells b 183 ({x with call:=b4 r}:a2).c by rw[R]];refine ah.cb [0,1] (λy:Nat×l=>y.1<=7/\G (h5 x.pl x.c2 y.1).length y.2) (λy=>[(4,I (y.1:Int))]) (λy=>[S y.2,cells b 183 ({x with call:=b4 y.2}:a2).c]) (λy=>7-y.1) (0,r) ⟨ac,g⟩ ?_;rintro⟨k,c⟩⟨T,J⟩ K a;dsimp only at T J;refine bh ?_;have C:=nj x.pl x.c2 k;by_cases p:k<7
 .have E:=w.call (b4 c);have Z:=agk b _ E (k:Int);rw[show decide (0<=(k:Int)/\(k:Int)<7)=true by simp;omega,pa,show((k:Int)).toNat=k by omega]at Z;dsimp only at Z;cases t:x.c2.getD k false with
  |false=>
   rw[t]at Z;rw[show im x.pl x.c2 k=none by unfold im;rw[t];simp]at C;simp only[zO,dk]at C;refine aa 45 ?_;rotate_left;refine Out.t' a (k+1,c) ?_ ZB;exact ⟨ZM,by rw[C];exact J⟩
  |true=>
   rw[t]at Z;obtain⟨m,U⟩:=b8 (q:=x.pl) (k:=k) (by rw[w.pl];exact p);have L:im x.pl x.c2 k=some (k,m):=by unfold im;rw[t,aT rfl,U];rfl
   rw[L]at C;simp only[u9]at C;obtain⟨D,s⟩:=ES p L;have Q:=N (h5 x.pl x.c2 k).length (k,m) c (b4 c) J ⟨by rw[s,iu (cl _),Nat.sub_self];rfl,rfl⟩;have h:(h5 x.pl x.c2 (k+1)).length=(h5 x.pl x.c2 k).length+1:=by rw[C];simp
   have d:et (21+0+k*25) 25 ({x with call:=b4 c}:a2).c m.c:=c3.get E.v U;refine aa 30 ?_;refine ai.v (V.RL ad (k:=k) rfl rfl rfl) ?_;refine ai.v (V.Si ad (z:=c3.S7 (post:=qW x.ol x.hD x.fD) (n:=x.dL) E.v p) (g:=d)) ?_;refine ai.o (aw.Sx rfl rfl (Q) XC ?_);rintro F u⟨j,z,rfl,Y,M,rfl⟩;refine RD (λf=>?_) λf=>?_;refine aa 6 ?_
   .exact⟨_,_,⟨_,(h5 x.pl x.c2 k).length+1,.inr Ya,rfl⟩,XC⟩
   refine aa 7 ?_;rotate_left;refine Out.t' a (k+1,_) ?_ ZB;exact ⟨ZM,by show G _ _;rw[h];apply_assumption;assumption⟩
 .obtain rfl:k=7:=by omega
  refine aa 12 ?_
  .exact⟨_,_,⟨c,_,.inl ⟨J,rfl⟩,rfl⟩,XC⟩
def EW(b:Nat)(x:a2)(w:x.wf):ar prog 137 [au b 0] [cells b 183 x.c] (λr Y=>r=B true/\Y=[cells b 183 x.Th.c]):=by
 refine aB func137 λW=>?_;refine aa 2 ?_;refine ai.o (O.R9 (λL=>?_));refine aa 9 ?_;refine Pu λU=>?_;refine ah.Ww (LP b _ x w) (λc:aV=>c) (λ_=>[cells L 132 [au b 0]]) (λk c=>c=((fd x.pl x.c2).take k).foldl (λc p=>lz c p.2.Call) x.call) (λ_ _ _=>False) x.call rfl rfl ?_ ?_ ?_
 .rintro k⟨j,m⟩ c q l rec u⟨T,rfl⟩ t d F K a;refine bh ?_;have y:(fd x.pl x.c2).take (k+1)=(fd x.pl x.c2).take k++[(j,m)]:=kl T;have J:((fd x.pl x.c2).take (k+1)).foldl (λc p=>lz c p.2.Call) x.call=lz q m.Call:=by rw[y,tx,<-u];rfl
  have Z (g:Nat):ar prog 202 [A q.c,.slice (some ⟨g,0,none⟩) 1 1] [rows aV.c (.slice (some ⟨g,0,none⟩) 1 1) 52 14 [m.Call]] (λr Y=>r=A (lz q m.Call).c/\Y=[rows aV.c (.slice (some ⟨g,0,none⟩) 1 1) 52 14 [m.Call]]):=
   tB _ _ 1 _ _ q [m.Call] (Rd.rows (l:=[m.Call]) aV.len XE)
  refine aq 1 λh=>?_;refine aa 4 ?_;refine ah.n' ?_ aA.j.d'.d'.d';refine ae 4 0 ?_;refine ae 2 5 ?_;refine af.bu 4 7 rfl rfl ?_ ?_;refine aw.q' (V.Si ad) ?_;refine av ?_;refine af.p' 7 rfl (O.N' ad aV.c [m.Call] rfl (bx.agg rfl bx.nil) rfl rfl (λN=>?_));refine av ?_;refine af.o' 8 rfl rfl (Z _) ?_;refine aa 2 ?_;refine ae 3 9 ?_;refine aa 2 ?_;rotate_left;refine O.N' ad aV.c [m.Call] rfl (bx.agg rfl bx.nil) rfl rfl (λN=>?_);refine av ?_;refine af.p' 4 rfl (aw.q' (V.Si ad) ?_);refine av ?_;refine af.o' 8 rfl rfl (Z _) ?_;refine aa 2 ?_;refine ae 3 9 ?_;refine aa 2 ?_;rotate_left;all_goals exact Out.rd a (lz q m.Call) (by show _=_;rw[J])
 .rintro k c D rfl f;have z:k=(fd x.pl x.c2).length:=f;rw[z,hE];exact aM 17
 .intro _ _ _ _ _ _ h;exact h.elim
def Aa{h:ab Bool}{k:Nat}(T:h.getD k true=false):(h.set k true).count true=h.count true+1:=by
 have C:h[k]?=some false:=by
  cases y:h[k]? with
  |none=>simp[List.getD,y]at T
  |some v=>simp[List.getD,y]at T;rw[T]
 obtain⟨y,J,p⟩:=tP C;have T:h.count true=(h.take k++([false]++h.drop (k+1))).count true:=by rw[<-y]
 rw[p,T];simp only[List.count_append,List.count_cons,List.count_nil];simp;omega
def a2.can(x:a2)(h:Int):Bool:=decide (0<=h/\h<7)&&!(x.c2.getD h.toNat true)
def a2.put(x:a2)(h:Int)(m:aD):a2:={x with pl:=x.pl.set h.toNat m,c2:=x.c2.set h.toNat true,dL:=x.dL+1}
def a2.TN{x:a2}{h:Int}:x.can h=true↔0<=h/\h<7/\x.c2.getD h.toNat true=false:=by unfold a2.can;simp[and_assoc]
def a2.wf.put{x:a2}(w:x.wf){h:Int}(u:x.can h=true)(m:aD):(x.put h m).wf:=
 ⟨by show(x.pl.set _ _).length=7;rw[b9,w.pl],by show(x.c2.set _ _).length=7;rw[b9,w.c2],w.ol,w.hD,by
  show x.dL+1=((x.c2.set _ _).count true:Int)
  rw[Aa (a2.TN.1 u).2.2,w.dL];omega,w.fD⟩
def LQ(b:Nat)(x:a2)(w:x.wf)(F:Int)(m:aD):ar prog 238 [au b 21,I F,A m.c] [cells b 183 x.c] (λr Y=>r=B (x.can F)/\Y=[cells b 183 (if x.can F=true then x.put F m else x).c]):=by
 have R:=w.bD;have h:=xF (post:=qW x.ol x.hD x.fD) (n:=x.dL) b 183 w.v F m ac;refine h.mono ?_;rintro v Y⟨rfl,rfl⟩;refine⟨rfl,?_⟩;by_cases u:x.can F=true
 .rw[aT u,aT (a2.TN.1 u)];rfl
 .rw[aN u,aN (λh=>u (a2.TN.2 h))];rfl
def EX(b:Nat)(x:a2)(w:x.wf):ar prog 135 [au b 21] [cells b 183 x.c] (λr Y=>r=I x.dL/\Y=[cells b 183 x.c]):=
 aaL (d:=qW x.ol x.hD x.fD) (n:=x.dL) b 183 w.v
def kY(l:ab (Nat×aD)):Nat:=(l.filter λp=>p.2.dB).length
def LR(l:ab (Nat×aD))(p:Nat×aD):kY (l++[p])=kY l+(if p.2.dB=true then 1 else 0):=by unfold kY;rw[mq,bM];by_cases h:p.2.dB=true<;>simp[h]
def a2.Sa(x:a2)(m:aD):a2×Bool:=
 if x.can m.bm=true then
  if(x.put m.bm m).S0=true/\2*cD x.n<=(kY (fd (x.put m.bm m).pl (x.put m.bm m).c2):Int)then({x.put m.bm m with phase:=3},true)
  else if x.dL+1<cD x.n+1 then(x.put m.bm m,false)
  else if(x.put m.bm m).S0=false\/x.n-2*cD x.n<x.dL+1-(kY (fd (x.put m.bm m).pl (x.put m.bm m).c2):Int)then((x.put m.bm m).Th,true)
  else(x.put m.bm m,false)
 else(x,false)
def Ab{D:Type}(l:ab D)(h:ab Bool):(fd l h).length<=7:=by unfold fd h5;exact jk (List.length_filterMap_le _ _) XE
def LS(b:Nat)(x:a2)(w:x.wf)(m:aD)(a:0<=x.n/\x.n<=1000):ar prog 240 [au b 0,A m.c] [cells b 183 x.c] (λr Y=>r=B (x.Sa m).2/\Y=[cells b 183 (x.Sa m).1.c]):=by
 have X:=LQ b x w m.bm m;by_cases u:x.can m.bm=true
 .have vP:=w.put u m;rw[aT u,u]at X;have Yh:cD x.n<=1000/\0<=cD x.n:=by unfold cD;omega
  have E:x.Sa m=(if(x.put m.bm m).S0=true/\2*cD x.n<=(kY (fd (x.put m.bm m).pl (x.put m.bm m).c2):Int)then({x.put m.bm m with phase:=3},true)
   else if x.dL+1<cD x.n+1 then(x.put m.bm m,false)
   else if(x.put m.bm m).S0=false\/x.n-2*cD x.n<x.dL+1-(kY (fd (x.put m.bm m).pl (x.put m.bm m).c2):Int)then((x.put m.bm m).Th,true)
   else(x.put m.bm m,false)):=by unfold a2.Sa;rw[aT u]
  rw[E];clear E;have Ac:(x.put m.bm m).n=x.n:=rfl;have abi:(x.put m.bm m).dL=x.dL+1:=rfl;rw[<-Ac,<-abi];have R:=vP.bD;generalize x.put m.bm m=y at*;have Ye:=abc b y vP;have Yc:=EX b y vP;have Yi:=EW b y vP;have Yg:=aew y.n ac ac;have Yf:=w5 y.n ac;refine aB func240 λW=>?_;have P (q:Nat):pW prog 245 [au q 0] [cells q 311 [au b 21],cells b 183 y.c] xG (fd y.pl y.c2) [cells q 311 [au b 21],cells b 183 y.c]:=
   EU (d:=qW y.ol y.hD y.fD) (n:=y.dL) q b 183 vP.v
  refine Qt λG=>?_;refine aq 7 λC=>?_;refine aa 9 ?_;refine Pu λYj=>?_;refine ah.rg (P _) (λk:Nat=>[cells C 3 [I (k:Int)]]) (λpre k=>k=kY pre) (λ_ _ _=>False) 0 rfl ?_ ?_ ?_
  .rintro pre⟨j,z⟩ d k l rec U rfl o T t K p;have f:=Ab y.pl y.c2;have D:kY pre<=pre.length:=ri _ _;have L:pre.length<=7:=by rw[U,bM]at f;omega
   have J:=LR pre (j,z);dsimp only at J;cases i:z.dB with
   |true=>
    rw[i,aT rfl]at J;refine aq 1 λQ=>?_;refine aa 7 ?_;refine ai.v (V.y' ad (v:=B true) (g:=by rw[<-i];rfl)) ?_;refine aa 9 ?_;exact Out.rd p (kY pre+1) (by show _=_;rw[J])
   |false=>
    rw[i]at J;refine aq 1 λQ=>?_;refine aa 7 ?_;refine ai.v (V.y' ad (v:=B false) (g:=by rw[<-i];rfl)) ?_;refine aa 5 ?_;exact Out.rd p (kY pre) (by show _=_;rw[J];simp)
  .rintro k yX rfl;generalize N:kY (fd y.pl y.c2)=s at*;cases Z:y.S0 with
   |true=>
    rw[Z]at Ye;by_cases F:2*cD y.n<=(s:Int)
    .rw[aT ⟨rfl,F⟩];refine aa 5 ?_;refine ah.n' ?_ aA.j.d'.j.d'.d';refine ae 1 0 ?_;refine af.o' 1 rfl rfl (Ye) ?_;refine aa 2 ?_;refine ae 10 2 ?_;exact aM 20
    .rw[aN (λh=>F h.2)];by_cases M:y.dL<cD y.n+1
     exact L6
     .rw[aN M];by_cases g:y.n-2*cD y.n<y.dL-(s:Int)
      .rw[aT (.inr g)];refine Nd ?_;refine AB ?_;exact aM 15
      .rw[aN (by rintro(h|h);cases h;exact g h)];refine Nd ?_;refine AB ?_;exact aM 13
   |false=>
    rw[Z]at Ye;rw[aN (by rintro⟨h,_⟩;cases h)];by_cases M:y.dL<cD y.n+1
    exact L6
    .rw[aN M,aT (.inl rfl)];refine Nd ?_;refine ae 21 2 ?_;exact aM 15
  exact X6
 .have E:x.Sa m=(x,false):=by unfold a2.Sa;rw[aN u]
  rw[aN u,show x.can m.bm=false by simpa using u]at X;rw[E];refine aB func240 λW=>?_;refine Qt λG=>?_;exact aM 11
def a2.SQ(x:a2)(h:Int):Bool:=decide (0<=h/\h<7)&&!(x.hD.getD h.toNat true)
def a2.SE(x:a2)(h:Int):a2:={x with ol:=x.ol.set h.toNat true,hD:=x.hD.set h.toNat true,fD:=x.fD+1}
def a2.Ud{x:a2}{h:Int}:x.SQ h=true↔0<=h/\h<7/\x.hD.getD h.toNat true=false:=by unfold a2.SQ;simp[and_assoc]
def a2.wf.SE{x:a2}(w:x.wf){h:Int}(u:x.SQ h=true):(x.SE h).wf:=
 ⟨w.pl,w.c2,by show(x.ol.set _ _).length=7;rw[b9,w.ol],by show(x.hD.set _ _).length=7;rw[b9,w.hD],w.dL,by
  show x.fD+1=((x.hD.set _ _).count true:Int)
  rw[Aa (a2.Ud.1 u).2.2,w.fD];omega⟩
def aaM(b:Nat)(x:a2)(w:x.wf)(F:Int):ar prog 241 [au b 204,I F,B true] [cells b 183 x.c] (λr Y=>r=B (x.SQ F)/\Y=[cells b 183 (if x.SQ F=true then x.SE F else x).c]):=by
 have R:=w.bG;have h:=LJ (post:=[]) (n:=x.fD) b 183 w.o F true ac;rw[<-a2.hq]at h;refine h.mono ?_;rintro v Y⟨rfl,rfl⟩;refine⟨rfl,?_⟩;by_cases u:x.SQ F=true
 .rw[aT u,aT (a2.Ud.1 u),a2.hq (x.SE F)];rfl
 .rw[aN u,aN (λh=>u (a2.Ud.2 h))]
def agi(b:Nat)(x:a2)(w:x.wf):ar prog 242 [au b 204] [cells b 183 x.c] (λr Y=>r=I x.fD/\Y=[cells b 183 x.c]):=by have h:=ae1 (d:=[]) (n:=x.fD) b 183 w.o;rw[<-a2.hq]at h;exact h
def a2.z'(x:a2)(m:aD):a2×Bool:=
 if 2<x.phase\/m.Item≠x.item\/m.b3≠x.self\/m.bm<0\/x.n<=m.bm then(x,false)
 else if m.Kind=5 then({x with call:=m.Call,phase:=3},true)
 else if m.Kind=8/\g2 x.b2 m.ch=true then({x with phase:=4},true)
 else if m.ch≠x.b2 then(x,false)
 else if m.Kind=2/\x.phase=1 then x.Sa m
 else if m.Kind=4/\x.phase=2 then
  (if x.SQ m.bm=true then(if cD x.n+1<=x.fD+1 then({x.SE m.bm with phase:=3},true)else(x.SE m.bm,false))else(x,false))
 else(x,false)
def a2.late(x:a2):a2×Bool:=if x.phase=1/\cD x.n+1<=x.dL then(x.Th,true)else(x,false)
def LX(b:Nat)(x:a2)(w:x.wf)(v:0<=x.n/\x.n<=1000):ar prog 96 [au b 0] [cells b 183 x.c] (λr Y=>r=B x.late.2/\Y=[cells b 183 x.late.1.c]):=by
 have o:=EX b x w;have r:=EW b x w;have t:=w5 x.n ac;unfold a2.late;by_cases h:x.phase=1
 .by_cases M:cD x.n+1<=x.dL
  .rw[aT ⟨h,M⟩];refine aB func96 λW=>?_;apply ah.seq;refine aa 4 ?_;apply ah.seq;refine ah.RN [23] ?_ (og _ pb) (tQ _ pb);refine ae 6 0 ?_;refine af.TH 6 rfl (V.y' ad) ?_;refine ae 3 7 ?_;refine bs 12 ?_;refine ae 3 10 ?_;refine ae 3 14 ?_;refine af.TH 17 rfl (V.y' ad) ?_;refine af.o' 13 rfl rfl (o) ?_;refine aa 2 ?_;refine ae 4 18 ?_;refine bs 24 ?_;refine ae 1 22 ?_;refine af.l 23 rfl (aw.R' rfl (r) XC ?_);refine aa 2 ?_;refine ae 2 24 ?_;exact aM 4
  .rw[aN (λy=>M y.2)];refine aB func96 λW=>?_;apply ah.seq;refine aa 4 ?_;apply ah.seq;refine ah.n' ?_ aA.d';refine ae 10 0 ?_;refine bs 12 ?_;refine ae 3 10 ?_;refine ae 4 14 ?_;refine af.o' 13 rfl rfl (o) ?_;refine aa 2 ?_;refine ae 4 18 ?_;refine bs 24 ?_;refine ae 4 22 ?_;exact aM 4
 .rw[aN (λy=>h y.1)];refine aB func96 λW=>?_;refine aa 6 ?_;refine ah.n' ?_ aA.d';refine ae 10 0 ?_;refine bs 12 ?_;refine ae 16 10 ?_;exact aM 4
def Ad(b:Nat)(x:a2):ar prog 89 [au b 0] [cells b 183 x.c] (λr Y=>r=I x.phase/\Y=[cells b 183 x.c]):=by refine aB func89 λW=>?_;exact aM 26
def aeN(b:Nat)(x:a2):ar prog 185 [au b 0] [cells b 183 x.c] (λr Y=>r=A x.b2.c/\Y=[cells b 183 x.c]):=by refine aB func185 λW=>?_;refine aq 2 λo=>?_;exact aM 23
def abU:cX prog 89 [.pointer none] (I 0):=by refine aB func89 λW=>?_;exact aM 21
def lB(n U:Int)(x:ag)(b:bk)(c:aV)(p:Int):a2:={a2.z with n:=n,self:=U,item:=x,b2:=b,call:=c,phase:=if p=1 then 1 else 2}
def Ae(n U x b c p):(lB n U x b c p).wf:=⟨rfl,rfl,rfl,rfl,rfl,rfl⟩
def EY(n U:Int)(x:ag)(b:bk)(c:aV)(p:Int):ar prog 57 [I n,I U,A x.c,A b.c,A c.c,I p] [] (λr Y=>∃q,r=au q 0/\Y=[cells q 183 (lB n U x b c p).c]):=by
 by_cases v:p=1
 .subst v;refine aB func57 λW=>?_;refine Ro λd h w=>?_;refine aq 22 λL=>?_;exact aM 5
 .rw[show lB n U x b c p=lB n U x b c 2 by unfold lB;rw[aN v,aN XG]];refine aB func57 λW=>?_;refine Ro λd h w=>?_;refine aq 24 λL=>?_;exact aM 5
def L0(m:aD):cX prog 188 [.pointer none,A m.c] (B false):=by refine aB func188 λW=>?_;refine aq 2 λa=>?_;refine aa 5 ?_;refine ah.n' ?_ aA.d';refine ae 41 0 ?_;exact aM 11
def Af(b:Nat)(x:a2)(w:x.wf)(m:aD)(v:0<=x.n/\x.n<=1000):ar prog 188 [au b 0,A m.c] [cells b 183 x.c] (λr Y=>r=B (x.z' m).2/\Y=[cells b 183 (x.z' m).1.c]):=by
 have p:=LS b x w m v;have T:=aaM b x w m.bm;have o:=r6 x.b2 m.ch;have t:=w5 x.n ac;have z:cD x.n<=1000/\0<=cD x.n:=ZU
 unfold a2.z';have F:(2<x.phase\/m.Item≠x.item\/m.b3≠x.self\/m.bm<0\/x.n<=m.bm)->ar prog 188 [au b 0,A m.c] [cells b 183 x.c] (λr Y=>r=B false/\Y=[cells b 183 x.c]):=by
  clear p T;intro f;by_cases y:2<x.phase
  .refine aB func188 λW=>?_;refine aq 2 λa=>?_;refine aa 5 ?_;refine ah.n' ?_ aA.d'.d';refine ae 10 0 ?_;refine bs 14 ?_;refine ae 31 10 ?_;exact aM 11
  by_cases M:m.Item=x.item
  .by_cases z:m.b3=x.self
   .by_cases C:m.bm<0
    .refine Hm λW a=>?_;exact aM 11
    .have i:x.n<=m.bm:=by
      rcases f with h|h|h|h|h
      .exact absurd h y
      .exact absurd M h
      .exact absurd z h
      .exact absurd h C
      .exact h
     refine Hm λW a=>?_;exact aM 11
   .refine aB func188 λW=>?_;apply ah.seq;refine aq 1 λa=>?_;refine aa 3 ?_;apply ah.seq;apply ah.seq;refine ah.n' ?_ aA.d'.d';refine ae 10 0 ?_;refine bs 14 ?_;refine ae 9 10 ?_;refine bs 23 ?_;refine ae 9 19 ?_;refine af.de 32 (λg=>?_) (λg=>?_);replace g:=fT g;refine ae 13 28 ?_;refine aa 3 ?_;apply ah.seq;exact aM 7;replace g:=fT g;(exfalso;omega)
  .refine aB func188 λW=>?_;refine aq 2 λa=>?_;refine aa 5 ?_;refine ah.n' ?_ aA.d'.d';refine ae 10 0 ?_;refine bs 14 ?_;refine ae 9 10 ?_;refine bs 23 ?_;refine ae 22 19 ?_;exact aM 11
 by_cases f:2<x.phase\/m.Item≠x.item\/m.b3≠x.self\/m.bm<0\/x.n<=m.bm
 .rw[aT f];exact F f
 clear F;rw[aN f];have y:¬2<x.phase:=λh=>f (.inl h);have M:m.Item=x.item:=Decidable.byContradiction λh=>f (.inr (.inl h));have z:m.b3=x.self:=Decidable.byContradiction λh=>f (.inr (.inr (.inl h)));have C:¬m.bm<0:=λh=>f (.inr (.inr (.inr (.inl h))));have i:¬x.n<=m.bm:=λh=>f (.inr (.inr (.inr (.inr h))));clear f;by_cases N:m.Kind=5
 .rw[aT N];clear p T;refine Hm λW a=>?_;exact aM 39
 rw[aN N];by_cases v:m.Kind=8/\g2 x.b2 m.ch=true
 .rw[aT v];obtain⟨v,k⟩:=v;rw[k]at o;clear p T;refine Hm λW a=>?_;refine aa 17 ?_;refine Mc ?_;exact aM 20
 rw[aN v];by_cases R:m.ch≠x.b2
 .rw[aT R];clear p T;by_cases k:m.Kind=8
  .have l:g2 x.b2 m.ch=false:=by simpa usingλh=>v ⟨k,h⟩
   rw[l]at o;refine L5 λW a=>?_;exact aM 12
  .refine L5 λW a=>?_;exact aM 12
 rw[aN R];have R:=Decidable.of_not_not R;have U:g2 x.b2 m.ch=false:=by rw[R];simp[g2]
 rw[U]at o;by_cases M:m.Kind=2/\x.phase=1
 .rw[aT M];obtain⟨M,r⟩:=M;clear T;refine L5 λW a=>?_;exact aM 33
 rw[aN M];by_cases g:m.Kind=4/\x.phase=2
 .rw[aT g];obtain⟨g,r⟩:=g;by_cases u:x.SQ m.bm=true
  .rw[aT u];rw[aT u,u]at T;have y:=w.SE u;have f:=y.bG;have C:=agi b _ y;rw[show(x.SE m.bm).fD=x.fD+1 from rfl]at C f;by_cases bb:cD x.n+1<=x.fD+1
   .rw[aT bb];refine aB func188 λW=>?_;apply ah.seq;refine aq 1 λa=>?_;refine aa 3 ?_;apply ah.seq;apply ah.seq;refine J6 ?_;refine aa 5 ?_;apply ah.seq;refine av ?_;apply ah.seq;refine aa 8 ?_;apply ah.seq;refine Mc ?_;refine aa 3 ?_;apply ah.seq;refine IP ?_;refine aa 3 ?_;apply ah.seq;refine aa 16 ?_;apply ah.seq;refine aa 16 ?_;rotate_left;apply ah.seq;refine Jf ?_ ?_;refine aa 2 ?_;refine ah.c (λz=>?_) (λz=>?_);replace z:=fT z;apply ah.seq;refine aa 7 ?_;apply ah.seq;exact aM 8;replace z:=fT z;(exfalso;omega);refine aw.q' (V.y' ad) ?_;refine av ?_;refine af.o' 10 rfl rfl (C) ?_;refine aa 2 ?_;refine ae 3 15 ?_;refine aa 2 ?_;refine ah.c (λf=>?_) (λf=>?_);replace f:=fT f;apply ah.seq;refine aa 7 ?_;apply ah.seq;exact aM 8;replace f:=fT f;(exfalso;omega)
   .rw[aN bb];refine aB func188 λW=>?_;apply ah.seq;refine aq 1 λa=>?_;refine aa 3 ?_;apply ah.seq;apply ah.seq;refine J6 ?_;refine aa 5 ?_;apply ah.seq;refine av ?_;apply ah.seq;refine aa 8 ?_;apply ah.seq;refine Mc ?_;refine aa 3 ?_;apply ah.seq;refine IP ?_;refine aa 3 ?_;apply ah.seq;refine aa 16 ?_;apply ah.seq;refine aa 16 ?_;rotate_left;apply ah.seq;refine Jf ?_ ?_;refine aa 6 ?_;apply ah.seq;exact aM 6;refine aw.q' (V.y' ad) ?_;refine av ?_;refine af.o' 10 rfl rfl (C) ?_;refine aa 2 ?_;refine ae 3 15 ?_;refine aa 6 ?_;apply ah.seq;exact aM 6
  .rw[aN u];rw[aN u,show x.SQ m.bm=false by simpa using u]at T;refine L5 λW a=>?_;refine aa 38 ?_;refine ah.n' ?_ aA.d'.d';refine ae 5 0 ?_;refine af.o' 5 rfl rfl (T) ?_;refine aa 2 ?_;refine ae 12 6 ?_;exact aM 13
 rw[aN g];clear T p;refine Hm λW a=>?_;refine aa 17 ?_;refine ah.n' ?_ aA.d'.d';refine ae 4 0 ?_;refine af.aU 62 (λw=>?_) (λw=>?_);refine ae 9 4 ?_;refine aa 4 ?_;refine IP ?_;exact aM 47;refine ae 9 4 ?_;refine aa 4 ?_;refine IP ?_;refine aa 9 ?_;refine ai.aU (λj=>?_) (λj=>?_);exact aM 37;refine aa 16 ?_;refine ai.aU (λP=>?_) (λP=>?_);exact aM 20;exact aM 20
def ps(p:Int):Int:=if p=1 then 1 else if p=2 then 3 else 5
def kx(u:Int)(x:a2)(i:Nat):aD:={aD.z with Kind:=u,bm:=x.self,b3:=(i:Int),Item:=x.item,ch:=x.b2,Call:=x.call}
def so(x:a2)(i:Nat):aD:=kx (ps x.phase) x i
def a2.R3(x:a2)(k:Nat):ab aD:=(List.range k).map (so x)
def a2.Ue(x:a2)(k:Nat):x.R3 (k+1)=x.R3 k++[so x k]:=by simp[a2.R3,se]
def a2.Tp(x:a2)(k:Nat):(x.R3 k).length=k:=by simp[a2.R3]
def a2.C'(x:a2):ab aD:=if x.phase=1\/x.phase=2\/x.phase=3 then x.R3 x.n.toNat else[]
def xI(b:Nat)(x:a2)(w:0<=x.n/\x.n<=1000):ar prog 60 [au b 0] [cells b 183 x.c] (λr Y=>∃v,r=v/\Y=[rows aD.c v 176 25 x.C',cells b 183 x.c]):=by
 have p:=Ad b x;obtain⟨R,U⟩:∃k:Nat,x.n=(k:Int):=⟨x.n.toNat,ac⟩
 by_cases h:x.phase=1\/x.phase=2\/x.phase=3
 .rw[show x.C'=x.R3 R by rw[a2.C',aT h,U];rfl];rcases h with h|h|h
  .have T:ps x.phase=1:=by unfold ps;rw[h];rfl
   refine MA λW=>?_;refine aa 47 ?_;rotate_left;refine MO λk v q K i=>?_;dsimp only at q;refine bh ?_;have M:=x.Tp k;by_cases s:k<R
   .have l:x.R3 (k+1)=x.R3 k++[kx 1 x k]:=by rw[a2.Ue,so,T]
    refine aa 17 ?_;refine ah.n' ?_ aA.d'.j;refine ae 19 0 ?_;refine af.i' 19 rfl (V.Sj ad (v:=(kx 1 x k).c)) ?_;refine c1 20 λF=>?_;refine af.p' 21 rfl (O.O' (m:=[kx 1 x k]) ad rfl rfl XJ (ce.one (f:=aD.c) (a:=kx 1 x k) ad XB aD.B') (λP j=>?_));refine av ?_;refine ae 1 22 ?_;refine aa 7 ?_;rotate_left;exact Out.t' i (k+1,.slice (some ⟨P,0,none⟩) (x.R3 k++[kx 1 x k]).length j) Yb PH (g:=Qy) (q:=K8)
   .obtain rfl:k=R:=by omega
    exact aM 20
  .have T:ps x.phase=3:=by unfold ps;rw[h];rfl
   refine MA λW=>?_;refine aa 54 ?_;rotate_left;refine MO λk v q K i=>?_;dsimp only at q;refine bh ?_;have M:=x.Tp k;by_cases s:k<R
   .have l:x.R3 (k+1)=x.R3 k++[kx 3 x k]:=by rw[a2.Ue,so,T]
    refine aa 17 ?_;refine ah.n' ?_ aA.d'.j;refine ae 19 0 ?_;refine af.i' 19 rfl (V.Sj ad (v:=(kx 3 x k).c)) ?_;refine c1 20 λF=>?_;refine af.p' 21 rfl (O.O' (m:=[kx 3 x k]) ad rfl rfl XJ (ce.one (f:=aD.c) (a:=kx 3 x k) ad XB aD.B') (λP j=>?_));refine av ?_;refine ae 1 22 ?_;refine aa 7 ?_;rotate_left;exact Out.t' i (k+1,.slice (some ⟨P,0,none⟩) (x.R3 k++[kx 3 x k]).length j) Yb PH (g:=Qy) (q:=K8)
   .obtain rfl:k=R:=by omega
    exact aM 20
  .have T:ps x.phase=5:=by unfold ps;rw[h];rfl
   refine MA λW=>?_;refine aa 61 ?_;rotate_left;refine MO λk v q K i=>?_;dsimp only at q;refine bh ?_;have M:=x.Tp k;by_cases s:k<R
   .have l:x.R3 (k+1)=x.R3 k++[kx 5 x k]:=by rw[a2.Ue,so,T]
    refine aa 17 ?_;refine ah.n' ?_ aA.d'.j;refine ae 19 0 ?_;refine af.i' 19 rfl (V.Sj ad (v:=(kx 5 x k).c)) ?_;refine c1 20 λF=>?_;refine af.p' 21 rfl (O.O' (m:=[kx 5 x k]) ad rfl rfl XJ (ce.one (f:=aD.c) (a:=kx 5 x k) ad XB aD.B') (λP j=>?_));refine av ?_;refine ae 1 22 ?_;refine aa 7 ?_;rotate_left;exact Out.t' i (k+1,.slice (some ⟨P,0,none⟩) (x.R3 k++[kx 5 x k]).length j) Yb PH (g:=Qy) (q:=K8)
   .obtain rfl:k=R:=by omega
    exact aM 20
 .rw[show x.C'=[] by rw[a2.C',aN h]];refine MA λW=>?_;exact aM 49
def a2.wf.phase{x:a2}(w:x.wf)(p:Int):({x with phase:=p}:a2).wf:=⟨w.pl,w.c2,w.ol,w.hD,w.dL,w.fD⟩
structure hp(x:a2)(n jU:Int)(it:ag)(sq:bk):Prop where
 wf:x.wf
 n:x.n=n
 self:x.self=jU
 item:x.item=it
 b2:x.b2=sq
 phase:x.phase=1\/x.phase=2\/x.phase=3\/x.phase=4
def a2.Vq{x:a2}(w:x.wf):x.Th.wf:=⟨w.pl,w.c2,w.ol,w.hD,w.dL,w.fD⟩
def adN{x:a2}{n W:Int}(k:hp x n W it D)(m:aD):hp (x.Sa m).1 n W it D:=by
 unfold a2.Sa;split
 .rename_i u;have a:=k.wf.put u m;split
  exact NB
  .split
   exact QH
   .split
    .exact⟨a2.Vq a,k.n,k.self,k.item,k.b2,.inr (.inl rfl)⟩
    exact QH
 .exact k
def xJ{x:a2}{n W:Int}(k:hp x n W it D)(m:aD):hp (x.z' m).1 n W it D:=by
 unfold a2.z';split
 .exact k
 split
 .exact⟨(k.wf.call m.Call).phase 3,k.n,k.self,k.item,k.b2,.inr (.inr (.inl rfl))⟩
 split
 .exact⟨k.wf.phase 4,k.n,k.self,k.item,k.b2,.inr (.inr (.inr rfl))⟩
 split
 .exact k
 split
 .exact adN k m
 split
 .split
  .rename_i u;have a:=k.wf.SE u;split
   exact NB
   exact QH
  .exact k
 .exact k
def Ag{x:a2}{n W:Int}(k:hp x n W it D):hp x.late.1 n W it D:=by
 unfold a2.late;split
 .exact⟨a2.Vq k.wf,k.n,k.self,k.item,k.b2,.inr (.inl rfl)⟩
 .exact k
theorem EZ{x:a2}(h:x.phase=4):x.C'=[]:=by unfold a2.C';rw[aN ac]
def hM{o:Type}{f:o->ab aj}{W:aY}{D:ab Nat}{v:aj}{E X:Nat}{l:ab o}(c:∀x,(f x).length=X)(K:rows f v E X l∈N):∀w,H W D N w->∃m C b,v=.slice m l.length C/\Rd (rows f (.slice m l.length C) E X l) m l.length b 0 X (l.map f):=λw y=>by
 rcases hc K w y with⟨rfl,rfl⟩|⟨g,C,rfl,F,M⟩
 .exact⟨none,0,0,rfl,Rd.nil⟩
 .exact⟨some ⟨g,0,none⟩,C,g,rfl,Rd.rows c PL⟩
end Go.Proofs.YteogojgnkjegmaaGreatDoor
namespace Go.Proofs.YteogojgnkjegmaaGreatDoor
open Go.ay Go.Proofs.Tryz
variable[Go.ay.bR]
structure cW where
 item:ag
 cG:aQ Go.Addr
 cap:Nat
 l:ab ag
def cW.c(y:cW):ab aj:=o6.c ⟨y.item,.slice y.cG y.l.length y.cap⟩
def cW.len(y:cW):y.c.length=3:=rfl
def cW.B':iv cW.c:=λ_=>rfl
structure dx where
 idx:ab (ag×Int)
 low:ab (ag×Int)
 on:ab (ag×Bool)
 stack:ab ag
 fj:ab cW
 parts:ab gd
 missing:ab ag
 g:ab co
structure qe where
 dy:Nat
 eE:Nat
 bG:Nat
 ij:aj
 nV:aj
 du:aj
 e5:aj
abbrev bW:ag->aj:=λx=>A x.c
abbrev ew:Int->aj:=λn=>I n
abbrev h6:Bool->aj:=λb=>B b
def kZ(w:Nat)(X:qe):ab aj:=iy.c ⟨au w 0,.map (some X.dy),.map (some X.eE),.map (some X.bG),X.ij,X.nV,X.du,X.e5⟩
def tR:g1 prog 57 46 4=true:=rfl
def hh(Q w:Nat)(L:g3)(X:qe)(g:bj)(s:dx):ab ax:=[cells Q 343 (kZ w X),g4 w L g,bn bW ew X.dy s.idx,bn bW ew X.eE s.low,bn bW h6 X.bG s.on,rows ag.c X.ij 46 2 s.stack,rows cW.c X.nV 375 3 s.fj,rows gd.c X.du 98 1 s.parts,rows ag.c X.e5 46 2 s.missing,cR s.g]
def L2(Q w:Nat)(L:g3)(g:bj)(h:g.ok)(q:g.gE)(x:ag)(X:qe):ar prog 255 [au Q 0,A x.c] [cells Q 343 (kZ w X),g4 w L g] (λr Y=>∃v,r=v/\Y=[rows ag.c v 46 2 (g.waits x),cells Q 343 (kZ w X),g4 w L g]):=by have b:aL [cells Q 343 (kZ w X),g4 w L g] (cells Q 343 (kZ w X)::hH w L g):=aL.cons _ aL.aI;refine ar.eqv b (aam Q w L g h q x ⟨au w 0,.map (some X.dy),.map (some X.eE),.map (some X.bG),X.ij,X.nV,X.du,X.e5⟩ rfl) ?_;rintro r Y⟨_,rfl,rfl⟩;exact⟨_,⟨_,rfl,rfl⟩,aL.cons _ b.symm⟩
def ar.RR{P:bF}{f:eg}{args:ab aj}{N:ab ax}{R G:aj->ab ax->Prop}(h:ar P f args N R)(o:∀v Y W D w,R v Y->H W D Y w->∃t,G v t/\H W D t w):ar P f args N G:=
 ar.of λw f=>(ar.get h w f).mono λe s ⟨v,Y,d,T,W⟩=>by obtain⟨t,F,M⟩:=o v Y _ _ _ T W;exact⟨v,t,d,F,M⟩
def L3(Q y:Nat)(L:g3)(g:bj)(h:g.ok)(q:g.gE)(x:ag)(X:qe):ar prog 255 [au Q 0,A x.c] [cells Q 343 (kZ y X),g4 y L g] (λr Y=>∃m C,(g.waits x).length<=C/\r=.slice m (g.waits x).length C/\Y=[rows ag.c (.slice m (g.waits x).length C) 46 2 (g.waits x),cells Q 343 (kZ y X),g4 y L g]):=by
 refine ar.RR (L2 Q y L g h q x X) ?_;rintro v Y W D w⟨_,rfl,rfl⟩ f;rcases hc (aE _) w f with⟨rfl,F⟩|⟨s,C,rfl,F,_⟩
 .have M:(g.waits x).length=0:=by rw[F];rfl
  exact⟨_,⟨none,0,ac,by rw[M],by rw[M]⟩,f⟩
 .exact⟨_,⟨_,C,F,rfl,rfl⟩,f⟩
def jV(e:ax)(m:aQ Go.Addr)(l:ab ag):Prop:=∃b off,Rd e m l.length b off 2 (l.map ag.c)
def cR.holds{g:ab co}{y:co}{w:aY}(h:(cR (y::g)).holds w):(cR g).holds w:=by unfold cR at*;rw[pT]at*;refine⟨λe d=>h.1 e (by simp only[eK,dq];exact .inr d),?_⟩;have:=h.2;rw[eK,hS,gV]at this;exact this.2.1
def jV.more{g:ab co}{c:aQ Go.Addr}{l:ab ag}(h:jV (cR g) c l)(y:co):jV (cR (y::g)) c l:=by obtain⟨b,off,T⟩:=h;exact⟨b,off,T.length,T.small,T.addr,λw m=>T.reads w (cR.holds m)⟩
def jV.here{g:ab co}{c:aQ Go.Addr}{C:Nat}{l:ab ag}{W:aY}{D:ab Nat}{an:ab ax}(K:cR ((.slice c l.length C,l)::g)∈an):∀w,H W D an w->jV (cR ((.slice c l.length C,l)::g)) c l:=λw m=>by obtain⟨s,Q,b,off,d,T⟩:=ox.of (iT ..) K w m;simp only[rk]at d;obtain⟨rfl,-,rfl⟩:=d;exact⟨b,off,T⟩
def dx.push(s:dx)(x:ag)(N:cW):dx:={s with idx:=bw s.idx x (s.idx.length:Int),low:=bw s.low x (s.idx.length:Int),on:=bw s.on x true,stack:=s.stack++[x],fj:=s.fj++[N],g:=(.slice N.cG N.l.length N.cap,N.l)::s.g}
def E0(Q y:Nat)(L:g3)(X:qe)(g:bj)(h:g.ok)(q:g.gE)(x:ag)(s:dx)(F:s.idx.length<=1000)(M:s.stack.length<=1000)(z:s.fj.length<=1000):ar prog 223 [au Q 0,A x.c] (hh Q y L X g s) (λr Y=>∃G N,N.item=x/\N.l=g.waits x/\N.l.length<=N.cap/\jV (cR (s.push x N).g) N.cG N.l/\r=.tuple #[]/\Y=hh Q y L G g (s.push x N)):=by
 have Yl (j b bG:Nat) (P p u e5:aj):=L3 Q y L g h q x ⟨j,b,bG,P,p,u,e5⟩;have Yp:=g.T8 q x;generalize g.waits x=o at*;obtain⟨j,b,bG,P,p,u,e5⟩:=X;obtain⟨i,U,on,T,J,K,E,Z⟩:=s;dsimp only at F M z;have n:ar prog 223 [au Q 0,A x.c] (hh Q y L ⟨j,b,bG,P,p,u,e5⟩ g ⟨i,U,on,T,J,K,E,Z⟩)
   (λr Y=>∃d Yh m C,o.length<=C/\r=.tuple #[]/\Y=rows ag.c (.slice m o.length C) 46 2 o::hh Q y L ⟨j,b,bG,d,Yh,u,e5⟩ g ⟨bw i x (i.length:Int),bw U x (i.length:Int),bw on x true,T++[x],J++[⟨x,m,C,o⟩],K,E,Z⟩):=by
  unfold hh kZ at*
  dsimp only at*
  refine aB func223 λW=>?_
  refine aq 2 λa=>?_
  refine aa 3 ?_
  refine ah.n' ?_ aA.j.j.j.j.j.j.j.j.j.d'.d'
  refine ae 14 0 ?_
  refine ae 4 15 ?_
  refine af.p' 14 rfl (aw.q' (aK.UU (l:=i) (bN:=bW) (aR:=ew) fW rfl XB) ?_)
  refine av ?_
  refine af.p' 19 rfl (aw.q' (aK.UU (l:=i) (bN:=bW) (aR:=ew) fW rfl XB) ?_)
  refine av ?_
  refine af.p' 20 rfl (aw.SI (bN:=bW) (aR:=ew) (l:=i) (k:=x) 0 cq fW hL rfl rfl XJ (λYm=>?_))
  refine av ?_
  refine ae 1 21 ?_
  refine af.p' 22 rfl (aw.Tf (bN:=bW) (aR:=ew) (l:=i) (v:=(i.length:Int)) rfl rfl rfl XH ?_)
  refine av ?_
  refine af.p' 23 rfl (aw.SI (bN:=bW) (aR:=ew) (l:=U) (k:=x) 0 cq fW hL rfl rfl XJ (λYq=>?_))
  refine av ?_
  refine ae 1 24 ?_
  refine af.p' 25 rfl (aw.Tf (bN:=bW) (aR:=ew) (l:=U) (v:=(i.length:Int)) rfl rfl rfl XH ?_)
  refine aa 4 ?_
  refine ah.n' ?_ aA.j.j.j.j.j.j.j.j.j.d'.d'
  refine ae 5 0 ?_
  refine af.p' 5 rfl (aw.R1 (l:=on) (k:=x) (v:=true) (bN:=bW) (aR:=h6) cq tR rfl rfl rfl XH ?_)
  refine aa 4 ?_
  refine ah.RN [10] ?_ aA.j.j.j.j.j.j.j.j.j.d'.d' aA.j.j.j.j.j.j.j.j.j.j.d'
  refine ae 4 0 ?_
  refine ae 1 5 ?_
  refine af.t 4 rfl (V.y' ad) ?_
  refine c1 6 λYk=>?_
  refine af.p' 7 rfl (O.O' ad rfl rfl XJ (ce.one ad XB ag.B') (λYj Yi=>?_))
  refine av ?_
  refine ae 2 8 ?_
  refine af.l 10 rfl (O.G' ad ?_)
  refine aa 3 ?_
  refine ah.RN [14] ?_ aA.j.j.j.j.j.j.j.j.j.d'.d'.j aA.j.j.j.j.j.j.j.j.j.j.d'.j
  refine ae 4 0 ?_
  refine ae 3 5 ?_
  refine af.t 4 rfl (V.y' ad) ?_
  dsimp only
  refine af.o' 8 rfl rfl (Yl _ _ _ _ _ _ _) ?_
  rintro _ _⟨Yo,Yn,R,rfl,rfl⟩
  refine aa 2 ?_
  refine af.i' 9 rfl (V.Sj ad) ?_
  refine af.p' 10 rfl (O.N' ad cW.c [⟨x,_,_,o⟩] rfl (bx.agg rfl bx.nil) rfl rfl (λYf=>?_))
  refine av ?_
  refine af.p' 11 rfl (O.O' ad rfl rfl XJ (ce.rows ad XB cW.B') (λYg Ye=>?_))
  refine av ?_
  refine ae 2 12 ?_
  refine af.l 14 rfl (O.G' ad ?_)
  refine aa 3 ?_
  all_goals exact⟨_,_,⟨_,_,_,_,XF,rfl,rfl⟩,XC⟩
 refine ar.RR n ?_;rintro v Y W D w⟨d,Yh,m,C,Yc,rfl,rfl⟩ f;have n:H W D (hh Q y L ⟨j,b,bG,d,Yh,u,e5⟩ g (dx.push ⟨i,U,on,T,J,K,E,Z⟩ x ⟨x,m,C,o⟩)) w:=by
  unfold hh at f⊢;have M:=f.perm (aX:=[cells Q 343 (kZ y ⟨j,b,bG,d,Yh,u,e5⟩),g4 y L g,bn bW ew j (bw i x (i.length:Int)),bn bW ew b (bw U x (i.length:Int)),bn bW h6 bG (bw on x true),rows ag.c d 46 2 (T++[x]),rows cW.c Yh 375 3 (J++[⟨x,m,C,o⟩]),rows gd.c u 98 1 K,rows ag.c e5 46 2 E]++[rows ag.c (.slice m o.length C) 46 2 o,cR Z]) (by simp only[kn,gi];exact kO (mO (l₁:=[_,_,_,_,_,_,_,_,_]) (a:=rows ag.c (.slice m o.length C) 46 2 o) (l₂:=[cR Z])).symm (gA _))
  have z:=M.eqv ((aL.refl _).append (cR.cons (.slice m o.length C,o) Z).symm);exact z
 refine⟨_,⟨⟨j,b,bG,d,Yh,u,e5⟩,⟨x,m,C,o⟩,rfl,rfl,Yc,?_,rfl,rfl⟩,n⟩;exact jV.here (an:=hh Q y L ⟨j,b,bG,d,Yh,u,e5⟩ g (dx.push ⟨i,U,on,T,J,K,E,Z⟩ x ⟨x,m,C,o⟩)) Ng w n
end Go.Proofs.YteogojgnkjegmaaGreatDoor
