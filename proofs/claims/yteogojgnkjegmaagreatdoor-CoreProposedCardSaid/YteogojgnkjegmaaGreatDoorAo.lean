/-
 Part of the proof.
-/
import Derived.Test.YteogojgnkjegmaaGreatDoorAn
set_option linter.all false
set_option maxRecDepth 8000
set_option maxHeartbeats 8000000
namespace Go.Proofs.YteogojgnkjegmaaGreatDoor
open Go.ay Go.Proofs.Tryz
variable{U:Int}{it:ag}{C:ab ax}{n:aT Go.Addr}
def ar.facts{P:bU}{f:eR}{args:ab aj}{R Y:aj->ab ax->Prop}(h:ar P f args C R)(t:∀v J W D w,R v J->H W D J w->Y v J):ar P f args C Y:=
 ar.of λw o=>(h.get w o).mono λe Y ⟨v,J,L,f,r⟩=>⟨v,J,L,t v J _ _ Y f r,r⟩
def Cg{e:ax}{E b off:Nat}{Z:ab aD}{x:ag}{m:aD}{t:ab aD}(U:Z.length<=1000)(f:Rd e n Z.length b off 25 (Z.map aD.c))(Q:kY x Z=m::t):ar prog 283 [A x.c,.slice n Z.length E] [e] (λr J=>∃g i,r=.slice (some ⟨g,0,none⟩) (t.length+1) i/\J=[rows aD.c (.slice (some ⟨g,0,none⟩) (t.length+1) i) 176 25 (m::t),e]):=by
 refine ar.facts (zw e n E b off Z x U f) ?_;rintro v J W D w⟨d,rfl,rfl⟩ a;rw[Q]at a⊢;rcases hW (aF _) w a with⟨_,h⟩|⟨g,i,rfl,_⟩
 .cases h
 .exact⟨g,i,rfl,rfl⟩
def li(c d:aN):aN:=m9 c [d]
def gH(c:aN)(Z:ab aD):aN:=Z.foldl (λc p=>if p.Status=1 then li c p.Call else c) c
def agl(c:aN)(Z:ab aD)(p:aD):gH c (Z++[p])=(if p.Status=1 then li (gH c Z) p.Call else gH c Z):=by simp[gH]
def mO(Z:ab aD):aT aD:=match ao 2 Z with
 |some m=>match ao 1 Z with
  |some a=>if fL m.b0 a.b0 then none else some m
  |none=>some m
 |none=>none
def choose(n:Int)(x:ag)(Z:ab aD):Int×aN:=
 if(Z.length:Int)<cY n+1 then(0,aN.z)else
 match ao 3 Z with
 |some m=>(1,m.Call)
 |none=>match mO Z with
  |some m=>(2,m.Call)
  |none=>match kY x Z with
   |m::t=>if cY n<=((t.length+1:Nat):Int)then(2,m.Call)else match ao 1 Z with
    |none=>(2,aN.z)
    |some a=>(3,gH a.Call Z)
   |[]=>match ao 1 Z with
    |none=>(2,aN.z)
    |some a=>(3,gH a.Call Z)
def adb(e:ax)(cV:aT Go.Addr)(E b off:Nat)(n:Int)(x:ag)(Z:ab aD)(cM:3<=n/\n<=1000000)(b3:Z.length<=1000)(L:Rd e cV Z.length b off 25 (Z.map aD.c)):ar prog 266 [I n,A x.c,.slice cV Z.length E] [e] (λr J=>r=.tuple #[I (choose n x Z).1,A (choose n x Z).2.c]/\J=[e]):=by
 have pn:=yZ n ac;have c2:=Br n ac;have Ye:1<=cY n:=Qw
 have Yg:bd .geq ((([]:ab aD).length:Nat):Int) (cY n)=some false:=TZ
 have cy (st:Int):=ai7 e cV E b off Z st L;have cd:=cy 3;have bY:=cy 2;have bg:=cy 1;clear cy;by_cases w:(Z.length:Int)<cY n+1
 .rw[show choose n x Z=(0,aN.z) by unfold choose;rw[aQ w]];refine aE func266 λW=>?_;refine aq 2 λu=>?_;refine aq 1 λQ=>?_;exact aP 23
 .cases j:ao 3 Z with
  |some m=>
   rw[show choose n x Z=(1,m.Call) by unfold choose;rw[aM w,j]];rw[j]at cd;refine aE func266 λW=>?_;refine aq 2 λu=>?_;refine aq 1 λQ=>?_;refine aq 24 λR=>?_;refine aa 11 ?_;refine ah.n' ?_ aB.j.j.j.d';refine ae 4 0 ?_;exact aP 5
  |none=>
   rw[j]at cd;cases s:ao 1 Z with
   |none=>
    rw[s]at bg;cases q:ao 2 Z with
    |none=>
     rw[q]at bY;have C:mO Z=none:=by simp[mO,q]
     cases F:kY x Z with
     |cons xG t=>
      have d:=Cg (x:=x) (E:=E) b3 L F;by_cases Y:cY n<=((t.length+1:Nat):Int)
      exact Lc
      .rw[show choose n x Z=(2,aN.z) by unfold choose;rw[aM w,j];simp only[C,F,Y,iq,s]];refine QA λW u Q R h y=>?_;refine aa 30 ?_;rintro _ _⟨f,X,rfl,rfl⟩;exact aP 40
     |nil=>
      have d:=zw e cV E b off Z x b3 L;rw[F]at d;rw[show choose n x Z=(2,aN.z) by unfold choose;rw[aM w,j];simp only[C,F,s]];refine QA λW u Q R h y=>?_;refine aa 30 ?_;rintro _ _⟨Yh,rfl,rfl⟩;refine aa 12 ?_;refine ai.aY (λmP=>?_) (λmP=>?_);exact aP 27;exact aP 27
    |some m=>
     rw[q]at bY;have C:mO Z=some m:=by simp[mO,q,s]
     rw[show choose n x Z=(2,m.Call) by unfold choose;rw[aM w,j];simp only[C]];refine QA λW u Q R h y=>?_;refine aa 24 ?_;exact To
   |some a=>
    rw[s]at bg;cases q:ao 2 Z with
    |none=>
     rw[q]at bY;have C:mO Z=none:=by simp[mO,q]
     cases F:kY x Z with
     |cons xG t=>
      have d:=Cg (x:=x) (E:=E) b3 L F;by_cases Y:cY n<=((t.length+1:Nat):Int)
      exact Lc
      .rw[show choose n x Z=(3,gH a.Call Z) by unfold choose;rw[aM w,j];simp only[C,F,Y,iq,s]];refine QA λW u Q R h y=>?_;refine aa 30 ?_;rintro _ _⟨f,X,rfl,rfl⟩;refine aq 36 λT=>?_;refine aa 12 ?_;refine Sy λi Yc K U=>?_;by_cases N:i<Z.length
       .obtain⟨p,P⟩:=cl N;refine Ko λkU D=>?_
        generalize gH a.Call (Z.take i)=c at*;have dv (g:Nat):ar prog 202 [A c.c,.slice (some ⟨g,0,none⟩) 1 1] [rows aN.c (.slice (some ⟨g,0,none⟩) 1 1) 52 14 [p.Call]] (λr J=>r=A (li c p.Call).c/\J=[rows aN.c (.slice (some ⟨g,0,none⟩) 1 1) 52 14 [p.Call]]):=
         vt _ _ 1 _ _ c [p.Call] (Rd.rows (l:=[p.Call]) aN.len T3)
        by_cases G:p.Status=1
        exact NV
        exact Pk
       .obtain rfl:i=Z.length:=by omega
        rw[ir];clear U;exact Lt
     |nil=>
      have d:=zw e cV E b off Z x b3 L;rw[F]at d;rw[show choose n x Z=(3,gH a.Call Z) by unfold choose;rw[aM w,j];simp only[C,F,s]];refine QA λW u Q R h y=>?_;refine aa 30 ?_;rintro _ _⟨Yh,rfl,rfl⟩;refine aa 10 ?_;refine ai.v (V.cmp rfl rfl Yg) ?_;refine aq 24 λT=>?_;refine aa 12 ?_;refine Sy λi Yc K U=>?_;by_cases N:i<Z.length
      .obtain⟨p,P⟩:=cl N;refine Ko λkU D=>?_
       generalize gH a.Call (Z.take i)=c at*;have dv (g:Nat):ar prog 202 [A c.c,.slice (some ⟨g,0,none⟩) 1 1] [rows aN.c (.slice (some ⟨g,0,none⟩) 1 1) 52 14 [p.Call]] (λr J=>r=A (li c p.Call).c/\J=[rows aN.c (.slice (some ⟨g,0,none⟩) 1 1) 52 14 [p.Call]]):=
        vt _ _ 1 _ _ c [p.Call] (Rd.rows (l:=[p.Call]) aN.len T3)
       by_cases G:p.Status=1
       exact NV
       exact Pk
      .obtain rfl:i=Z.length:=by omega
       rw[ir];clear U;exact Lt
    |some m=>
     rw[q]at bY;have lj:=tI m.b0 a.b0;cases bH:fL m.b0 a.b0 with
     |false=>
      rw[bH]at lj;have C:mO Z=some m:=by simp[mO,q,s,bH]
      rw[show choose n x Z=(2,m.Call) by unfold choose;rw[aM w,j];simp only[C]];refine QA λW u Q R h y=>?_;refine aa 25 ?_;exact To
     |true=>
      rw[bH]at lj;have C:mO Z=none:=by simp[mO,q,s,bH]
      cases F:kY x Z with
      |cons xG t=>
       have d:=Cg (x:=x) (E:=E) b3 L F;by_cases Y:cY n<=((t.length+1:Nat):Int)
       .rw[show choose n x Z=(2,xG.Call) by unfold choose;rw[aM w,j];simp only[C,F,Y,h7]];refine QA λW u Q R h y=>?_;refine aa 32 ?_;rintro _ _⟨f,X,rfl,rfl⟩;refine aa 21 ?_;refine ah.n' ?_ aB.j.j.j.j.j.d'.d';refine ae 1 0 ?_;refine af.i' 1 rfl (V.B' ad (k:=0) rfl rfl) ?_;refine ae 1 2 ?_;refine af.i' 3 rfl (V.Vn ad (k:=0) (o:=11) rfl T1 aD.len rfl) ?_;refine ae 2 4 ?_;exact aP 5
       .rw[show choose n x Z=(3,gH a.Call Z) by unfold choose;rw[aM w,j];simp only[C,F,Y,iq,s]];refine QA λW u Q R h y=>?_;refine aa 32 ?_;rintro _ _⟨f,X,rfl,rfl⟩;refine aq 36 λT=>?_;refine aa 12 ?_;rotate_left;refine Sy λi Yc K U=>?_;by_cases N:i<Z.length
        .obtain⟨p,P⟩:=cl N;refine Ko λkU D=>?_
         generalize gH a.Call (Z.take i)=c at*;have dv (g:Nat):ar prog 202 [A c.c,.slice (some ⟨g,0,none⟩) 1 1] [rows aN.c (.slice (some ⟨g,0,none⟩) 1 1) 52 14 [p.Call]] (λr J=>r=A (li c p.Call).c/\J=[rows aN.c (.slice (some ⟨g,0,none⟩) 1 1) 52 14 [p.Call]]):=
          vt _ _ 1 _ _ c [p.Call] (Rd.rows (l:=[p.Call]) aN.len T3)
         by_cases G:p.Status=1
         exact NV
         exact Pk
        .obtain rfl:i=Z.length:=by omega
         rw[ir];clear U;exact Lt
      |nil=>
       have d:=zw e cV E b off Z x b3 L;rw[F]at d;rw[show choose n x Z=(3,gH a.Call Z) by unfold choose;rw[aM w,j];simp only[C,F,s]];refine QA λW u Q R h y=>?_;refine aa 32 ?_;rintro _ _⟨Yh,rfl,rfl⟩;refine aa 10 ?_;refine ai.v (V.cmp rfl rfl Yg) ?_;refine aq 24 λT=>?_;refine aa 12 ?_;rotate_left;refine Sy λi Yc K U=>?_;by_cases N:i<Z.length
       .obtain⟨p,P⟩:=cl N;refine Ko λkU D=>?_
        generalize gH a.Call (Z.take i)=c at*;have dv (g:Nat):ar prog 202 [A c.c,.slice (some ⟨g,0,none⟩) 1 1] [rows aN.c (.slice (some ⟨g,0,none⟩) 1 1) 52 14 [p.Call]] (λr J=>r=A (li c p.Call).c/\J=[rows aN.c (.slice (some ⟨g,0,none⟩) 1 1) 52 14 [p.Call]]):=
         vt _ _ 1 _ _ c [p.Call] (Rd.rows (l:=[p.Call]) aN.len T3)
        by_cases G:p.Status=1
        exact NV
        exact Pk
       .obtain rfl:i=Z.length:=by omega
        rw[ir];clear U;exact Lt
def a6.pre(x:a6):ab aj:=[I x.n,I x.self]++(x.item.c++(x.bj.c++(x.call.c++[I x.phase])))
def a6.sY(x:a6):ab aj:=x.pre++pb x.pl x.dB x.eQ
def a6.V1(x:a6):x.c=du x.pre x.pl x.dB x.eQ (su x.ol x.ft x.fZ):=rfl
def a6.ia(x:a6):x.c=eu (λb:Bool=>B b) x.sY x.ol x.ft x.fZ []:=by rw[a6.V1];unfold du eu a6.sY su;simp only[cn,dT]
structure a6.wf(x:a6):Prop where
 pl:x.pl.length=7
 dB:x.dB.length=7
 ol:x.ol.length=7
 ft:x.ft.length=7
 eQ:x.eQ=(x.dB.count true:Int)
 fZ:x.fZ=(x.ft.count true:Int)
def a6.wf.v{x:a6}(w:x.wf):j6 x.pre 21 x.pl x.dB:=⟨rfl,w.pl,w.dB⟩
def a6.wf.o{x:a6}(w:x.wf):lK x.sY 204 x.ol x.ft:=⟨by
 have:(pb x.pl x.dB x.eQ).length=183:=by unfold pb;simp only[b2,sX w.pl,eT,w.dB,dD,gv]
 rw[a6.sY,b2,this];rfl,w.ol,w.ft⟩
def a6.wf.bQ{x:a6}(w:x.wf):0<=x.eQ/\x.eQ<=7:=by have:=Hk (a:=true) (l:=x.dB);rw[w.eQ];rw[w.dB]at this;omega
def a6.wf.bW{x:a6}(w:x.wf):0<=x.fZ/\x.fZ<=7:=by have:=Hk (a:=true) (l:=x.ft);rw[w.fZ];rw[w.ft]at this;omega
def a6.VI(x:a6):Bool:=decide (x.bj=⟨0,x.item.a1⟩)
def a6.jM(x:a6):a6:={x with call:=(fD x.pl x.dB).foldl (λc p=>li c p.2.Call) x.call,phase:=2}
def ad0(b:Nat)(x:a6)(w:x.wf):ar prog 267 [aw b 0] [cells b 183 x.c] (λr J=>r=B x.VI/\J=[cells b 183 x.c]):=by refine aE func267 λW=>?_;refine aa 6 ?_;refine ah.n' ?_ aB.d';refine ae 9 0 ?_;refine af.q' 9 rfl (av.fn rfl (yY _) ?_);refine au ?_;refine af.i' 10 rfl (V.eq (bm.R' _ _ _)) ?_;refine ae 1 11 ?_;exact aP 4
def a6.wf.call{x:a6}(w:x.wf)(c:aN):({x with call:=c}:a6).wf:=⟨w.pl,w.dB,w.ol,w.ft,w.eQ,w.fZ⟩
def acm(b:Nat)(x:a6)(w:x.wf)(U:Int):ar prog 246 [aw b 21,I U] [cells b 183 x.c] (λr J=>r=B (decide (0<=U/\U<7)&&x.dB.getD U.toNat false)/\J=[cells b 183 x.c]):=
 Hi (L:=su x.ol x.ft x.fZ) (n:=x.eQ) b 183 w.v U
def ac0(b q:Nat)(x:a6)(w:x.wf):E0 prog 245 [aw q 0] (λc:aN=>[cells b 183 ({x with call:=c}:a6).c]) zy (λk i c g=>(fD x.pl x.dB)[k]?=some i/\g=c) (λk c=>k=(fD x.pl x.dB).length) [cells q 311 [aw b 21],cells b 183 x.c] [cells q 311 [aw b 21]] x.call:=by
 intro y C ch G X S J d j P;refine aE func245 λW=>?_;refine aa 6 ?_;rw[show cells b 183 x.c=cells b 183 ({x with call:=ch J}:a6).c by rw[d]];refine ah.cp [0,1] (λy:Nat×C=>y.1<=7/\G (iW x.pl x.dB y.1).length y.2) (λy=>[(4,I (y.1:Int))]) (λy=>[S y.2,cells b 183 ({x with call:=ch y.2}:a6).c]) (λy=>7-y.1) (0,J) ⟨ac,j⟩ ?_;rintro⟨k,c⟩⟨u,Y⟩ K l;dsimp only at u Y;refine bl ?_;have R:=oL x.pl x.dB k;by_cases s:k<7
 .have D:=w.call (ch c);have f:=acm b _ D (k:Int);rw[show decide (0<=(k:Int)/\(k:Int)<7)=true by simp;omega,qu,show((k:Int)).toNat=k by omega]at f;dsimp only at f;cases L:x.dB.getD k false with
  |false=>
   rw[L]at f;rw[show i7 x.pl x.dB k=none by unfold i7;rw[L];simp]at R;simp only[BX,dT]at R;refine aa 45 ?_;rotate_left;refine Out.z' l (k+1,c) ?_ Qk;exact ⟨NC,by rw[R];exact Y⟩
  |true=>
   rw[L]at f;obtain⟨m,U⟩:=cl (t:=x.pl) (k:=k) (by rw[w.pl];exact s);have F:i7 x.pl x.dB k=some (k,m):=by unfold i7;rw[L,aQ rfl,U];rfl
   rw[F]at R;simp only[w4]at R;obtain⟨N,z⟩:=Hh s F;have T:=P (iW x.pl x.dB k).length (k,m) c (ch c) Y ⟨by rw[z,ji (cD _),Nat.sub_self];rfl,rfl⟩;have Z:(iW x.pl x.dB (k+1)).length=(iW x.pl x.dB k).length+1:=by rw[R];simp
   have a:eZ (21+0+k*25) 25 ({x with call:=ch c}:a6).c m.c:=du.get D.v U;refine aa 30 ?_;refine ai.v (V.Us ad (k:=k) rfl rfl rfl) ?_;refine ai.v (V.UY ad (z:=du.VR (post:=su x.ol x.ft x.fZ) (n:=x.eQ) D.v s) (j:=a)) ?_;refine ai.o (av.Vd rfl rfl (T) Uc ?_);rintro h p⟨r,M,rfl,E,Q,rfl⟩;refine PD (λt=>?_) λt=>?_;refine aa 6 ?_
   .exact⟨_,_,⟨_,(iW x.pl x.dB k).length+1,.inr Ks,rfl⟩,Uc⟩
   refine aa 7 ?_;rotate_left;refine Out.z' l (k+1,_) ?_ Qk;exact ⟨NC,by show G _ _;rw[Z];apply_assumption;assumption⟩
 .obtain rfl:k=7:=by omega
  refine aa 12 ?_
  .exact⟨_,_,⟨c,_,.inl ⟨Y,rfl⟩,rfl⟩,Uc⟩
def Hl(b:Nat)(x:a6)(w:x.wf):ar prog 137 [aw b 0] [cells b 183 x.c] (λr J=>r=B true/\J=[cells b 183 x.jM.c]):=by
 refine aE func137 λW=>?_;refine aa 2 ?_;refine ai.o (O.UQ (λN=>?_));refine aa 9 ?_;refine K1 λF=>?_;refine ah.aaM (ac0 b _ x w) (λc:aN=>c) (λ_=>[cells N 132 [aw b 0]]) (λk c=>c=((fD x.pl x.dB).take k).foldl (λc p=>li c p.2.Call) x.call) (λ_ _ _=>False) x.call rfl rfl ?_ ?_ ?_
 .rintro k⟨j,m⟩ c s l rec q⟨u,rfl⟩ f a L K i;refine bl ?_;have n:(fD x.pl x.dB).take (k+1)=(fD x.pl x.dB).take k++[(j,m)]:=lw u;have Y:((fD x.pl x.dB).take (k+1)).foldl (λc p=>li c p.2.Call) x.call=li s m.Call:=by rw[n,vp,<-q];rfl
  have U (g:Nat):ar prog 202 [A s.c,.slice (some ⟨g,0,none⟩) 1 1] [rows aN.c (.slice (some ⟨g,0,none⟩) 1 1) 52 14 [m.Call]] (λr J=>r=A (li s m.Call).c/\J=[rows aN.c (.slice (some ⟨g,0,none⟩) 1 1) 52 14 [m.Call]]):=
   vt _ _ 1 _ _ s [m.Call] (Rd.rows (l:=[m.Call]) aN.len T3)
  refine aq 1 λZ=>?_;refine aa 4 ?_;refine ah.n' ?_ aB.j.d'.d'.d';refine ae 4 0 ?_;refine ae 2 5 ?_;refine af.bv 4 7 rfl rfl ?_ ?_;refine av.x' (V.UY ad) ?_;refine au ?_;refine af.q' 7 rfl (O.Q' ad aN.c [m.Call] rfl (bI.agg rfl bI.nil) rfl rfl (λM=>?_));refine au ?_;refine af.p' 8 rfl rfl (U _) ?_;refine aa 2 ?_;refine ae 3 9 ?_;refine aa 2 ?_;rotate_left;refine O.Q' ad aN.c [m.Call] rfl (bI.agg rfl bI.nil) rfl rfl (λM=>?_);refine au ?_;refine af.q' 4 rfl (av.x' (V.UY ad) ?_);refine au ?_;refine af.p' 8 rfl rfl (U _) ?_;refine aa 2 ?_;refine ae 3 9 ?_;refine aa 2 ?_;rotate_left;all_goals exact Out.rd i (li s m.Call) (by show _=_;rw[Y])
 .rintro k c h rfl C;have h:k=(fD x.pl x.dB).length:=C;rw[h,ir];exact aP 17
 .intro _ _ _ _ _ _ h;exact h.elim
def Ch{h:ab Bool}{k:Nat}(u:h.getD k true=false):(h.set k true).count true=h.count true+1:=by
 have L:h[k]?=some false:=by
  cases j:h[k]? with
  |none=>simp[List.getD,j]at u
  |some v=>simp[List.getD,j]at u;rw[u]
 obtain⟨c,Y,z⟩:=vH L;have N:h.count true=(h.take k++([false]++h.drop (k+1))).count true:=by rw[<-c]
 rw[z,N];simp only[List.count_append,List.count_cons,List.count_nil];simp;omega
def a6.can(x:a6)(U:Int):Bool:=decide (0<=U/\U<7)&&!(x.dB.getD U.toNat true)
def a6.put(x:a6)(U:Int)(m:aD):a6:={x with pl:=x.pl.set U.toNat m,dB:=x.dB.set U.toNat true,eQ:=x.eQ+1}
def a6.Wy{x:a6}:x.can U=true↔0<=U/\U<7/\x.dB.getD U.toNat true=false:=by unfold a6.can;simp[and_assoc]
def a6.wf.put{x:a6}(w:x.wf)(q:x.can U=true)(m:aD):(x.put U m).wf:=
 ⟨by show(x.pl.set _ _).length=7;rw[co,w.pl],by show(x.dB.set _ _).length=7;rw[co,w.dB],w.ol,w.ft,by
  show x.eQ+1=((x.dB.set _ _).count true:Int)
  rw[Ch (a6.Wy.1 q).2.2,w.eQ];omega,w.fZ⟩
def ai2(b:Nat)(x:a6)(w:x.wf)(U:Int)(m:aD):ar prog 238 [aw b 21,I U,A m.c] [cells b 183 x.c] (λr J=>r=B (x.can U)/\J=[cells b 183 (if x.can U=true then x.put U m else x).c]):=by
 have X:=w.bQ;have h:=zx (post:=su x.ol x.ft x.fZ) (n:=x.eQ) b 183 w.v U m ac;refine h.mono ?_;rintro v J⟨rfl,rfl⟩;refine⟨rfl,?_⟩;by_cases q:x.can U=true
 .rw[aQ q,aQ (a6.Wy.1 q)];rfl
 .rw[aM q,aM (λh=>q (a6.Wy.2 h))];rfl
def Hm(b:Nat)(x:a6)(w:x.wf):ar prog 135 [aw b 21] [cells b 183 x.c] (λr J=>r=I x.eQ/\J=[cells b 183 x.c]):=
 ajv (L:=su x.ol x.ft x.fZ) (n:=x.eQ) b 183 w.v
def nf(l:ab (Nat×aD)):Nat:=(l.filter λp=>p.2.cL).length
def ajV(l:ab (Nat×aD))(p:Nat×aD):nf (l++[p])=nf l+(if p.2.cL=true then 1 else 0):=by unfold nf;rw[nH,b2];by_cases h:p.2.cL=true<;>simp[h]
def a6.UM(x:a6)(m:aD):a6×Bool:=
 if x.can m.bh=true then
  if(x.put m.bh m).VI=true/\2*cY x.n<=(nf (fD (x.put m.bh m).pl (x.put m.bh m).dB):Int)then({x.put m.bh m with phase:=3},true)
  else if x.eQ+1<cY x.n+1 then(x.put m.bh m,false)
  else if(x.put m.bh m).VI=false\/x.n-2*cY x.n<x.eQ+1-(nf (fD (x.put m.bh m).pl (x.put m.bh m).dB):Int)then((x.put m.bh m).jM,true)
  else(x.put m.bh m,false)
 else(x,false)
def Ci{t:Type}(l:ab t)(h:ab Bool):(fD l h).length<=7:=by unfold fD iW;exact jy (List.length_filterMap_le _ _) T3
def afS(b:Nat)(x:a6)(w:x.wf)(m:aD)(p:0<=x.n/\x.n<=1000):ar prog 240 [aw b 0,A m.c] [cells b 183 x.c] (λr J=>r=B (x.UM m).2/\J=[cells b 183 (x.UM m).1.c]):=by
 have T:=ai2 b x w m.bh m;by_cases D:x.can m.bh=true
 .have xH:=w.put D m;rw[aQ D,D]at T;have Yh:cY x.n<=1000/\0<=cY x.n:=by unfold cY;omega
  have t:x.UM m=(if(x.put m.bh m).VI=true/\2*cY x.n<=(nf (fD (x.put m.bh m).pl (x.put m.bh m).dB):Int)then({x.put m.bh m with phase:=3},true)
   else if x.eQ+1<cY x.n+1 then(x.put m.bh m,false)
   else if(x.put m.bh m).VI=false\/x.n-2*cY x.n<x.eQ+1-(nf (fD (x.put m.bh m).pl (x.put m.bh m).dB):Int)then((x.put m.bh m).jM,true)
   else(x.put m.bh m,false)):=by unfold a6.UM;rw[aQ D]
  rw[t];clear t;have Cj:(x.put m.bh m).n=x.n:=rfl;have ag7:(x.put m.bh m).eQ=x.eQ+1:=rfl;rw[<-Cj,<-ag7];have X:=xH.bQ;generalize x.put m.bh m=y at*;have Ye:=ad0 b y xH;have Yc:=Hm b y xH;have Yi:=Hl b y xH;have Yg:=ahL y.n ac ac;have Yf:=yZ y.n ac;refine aE func240 λW=>?_;have E (q:Nat):rm prog 245 [aw q 0] [cells q 311 [aw b 21],cells b 183 y.c] zy (fD y.pl y.dB) [cells q 311 [aw b 21],cells b 183 y.c]:=
   Hj (z:=su y.ol y.ft y.fZ) (n:=y.eQ) q b 183 xH.v
  refine SV λF=>?_;refine aq 7 λg=>?_;refine aa 9 ?_;refine K1 λYj=>?_;refine ah.rg (E _) (λk:Nat=>[cells g 3 [I (k:Int)]]) (λpre k=>k=nf pre) (λ_ _ _=>False) 0 rfl ?_ ?_ ?_
  .rintro pre⟨j,z⟩ L k l rec U rfl f G P K Z;have u:=Ci y.pl y.dB;have d:nf pre<=pre.length:=sP _ _;have o:pre.length<=7:=by rw[U,b2]at u;omega
   have i:=ajV pre (j,z);dsimp only at i;cases a:z.cL with
   |true=>
    rw[a,aQ rfl]at i;refine aq 1 λQ=>?_;refine aa 7 ?_;refine ai.v (V.C' ad (v:=B true) (z:=by rw[<-a];rfl)) ?_;refine aa 9 ?_;exact Out.rd Z (nf pre+1) (by show _=_;rw[i])
   |false=>
    rw[a]at i;refine aq 1 λQ=>?_;refine aa 7 ?_;refine ai.v (V.C' ad (v:=B false) (z:=by rw[<-a];rfl)) ?_;refine aa 5 ?_;exact Out.rd Z (nf pre) (by show _=_;rw[i];simp)
  .rintro k A7 rfl;generalize C:nf (fD y.pl y.dB)=s at*;cases M:y.VI with
   |true=>
    rw[M]at Ye;by_cases Y:2*cY y.n<=(s:Int)
    .rw[aQ ⟨rfl,Y⟩];refine aa 5 ?_;refine ah.n' ?_ aB.j.d'.j.d'.d';refine ae 1 0 ?_;refine af.p' 1 rfl rfl (Ye) ?_;refine aa 2 ?_;refine ae 10 2 ?_;exact aP 20
    .rw[aM (λh=>Y h.2)];by_cases N:y.eQ<cY y.n+1
     exact Pb
     .rw[aM N];by_cases R:y.n-2*cY y.n<y.eQ-(s:Int)
      .rw[aQ (.inr R)];refine M4 ?_;refine Sr ?_;exact aP 15
      .rw[aM (by rintro(h|h);cases h;exact R h)];refine M4 ?_;refine Sr ?_;exact aP 13
   |false=>
    rw[M]at Ye;rw[aM (by rintro⟨h,_⟩;cases h)];by_cases N:y.eQ<cY y.n+1
    exact Pb
    .rw[aM N,aQ (.inl rfl)];refine M4 ?_;refine ae 21 2 ?_;exact aP 15
  exact Sw
 .have t:x.UM m=(x,false):=by unfold a6.UM;rw[aM D]
  rw[aM D,show x.can m.bh=false by simpa using D]at T;rw[t];refine aE func240 λW=>?_;refine SV λF=>?_;exact aP 11
def a6.Vx(x:a6)(U:Int):Bool:=decide (0<=U/\U<7)&&!(x.ft.getD U.toNat true)
def a6.U4(x:a6)(U:Int):a6:={x with ol:=x.ol.set U.toNat true,ft:=x.ft.set U.toNat true,fZ:=x.fZ+1}
def a6.Wz{x:a6}:x.Vx U=true↔0<=U/\U<7/\x.ft.getD U.toNat true=false:=by unfold a6.Vx;simp[and_assoc]
def a6.wf.U4{x:a6}(w:x.wf)(q:x.Vx U=true):(x.U4 U).wf:=
 ⟨w.pl,w.dB,by show(x.ol.set _ _).length=7;rw[co,w.ol],by show(x.ft.set _ _).length=7;rw[co,w.ft],w.eQ,by
  show x.fZ+1=((x.ft.set _ _).count true:Int)
  rw[Ch (a6.Wz.1 q).2.2,w.fZ];omega⟩
def Oz(b:Nat)(x:a6)(w:x.wf)(U:Int):ar prog 241 [aw b 204,I U,B true] [cells b 183 x.c] (λr J=>r=B (x.Vx U)/\J=[cells b 183 (if x.Vx U=true then x.U4 U else x).c]):=by
 have X:=w.bW;have h:=Ol (post:=[]) (n:=x.fZ) b 183 w.o U true ac;rw[<-a6.ia]at h;refine h.mono ?_;rintro v J⟨rfl,rfl⟩;refine⟨rfl,?_⟩;by_cases q:x.Vx U=true
 .rw[aQ q,aQ (a6.Wz.1 q),a6.ia (x.U4 U)];rfl
 .rw[aM q,aM (λh=>q (a6.Wz.2 h))]
def acZ(b:Nat)(x:a6)(w:x.wf):ar prog 242 [aw b 204] [cells b 183 x.c] (λr J=>r=I x.fZ/\J=[cells b 183 x.c]):=by have h:=ajH (L:=[]) (n:=x.fZ) b 183 w.o;rw[<-a6.ia]at h;exact h
def a6.y'(x:a6)(m:aD):a6×Bool:=
 if 2<x.phase\/m.Item≠x.item\/m.bK≠x.self\/m.bh<0\/x.n<=m.bh then(x,false)
 else if m.Kind=5 then({x with call:=m.Call,phase:=3},true)
 else if m.Kind=8/\fL x.bj m.bB=true then({x with phase:=4},true)
 else if m.bB≠x.bj then(x,false)
 else if m.Kind=2/\x.phase=1 then x.UM m
 else if m.Kind=4/\x.phase=2 then
  (if x.Vx m.bh=true then(if cY x.n+1<=x.fZ+1 then({x.U4 m.bh with phase:=3},true)else(x.U4 m.bh,false))else(x,false))
 else(x,false)
def a6.late(x:a6):a6×Bool:=if x.phase=1/\cY x.n+1<=x.eQ then(x.jM,true)else(x,false)
def OB(b:Nat)(x:a6)(w:x.wf)(a:0<=x.n/\x.n<=1000):ar prog 96 [aw b 0] [cells b 183 x.c] (λr J=>r=B x.late.2/\J=[cells b 183 x.late.1.c]):=by
 have a:=Hm b x w;have v:=Hl b x w;have u:=yZ x.n ac;unfold a6.late;by_cases h:x.phase=1
 .by_cases N:cY x.n+1<=x.eQ
  .rw[aQ ⟨h,N⟩];refine aE func96 λW=>?_;apply ah.seq;refine aa 4 ?_;apply ah.seq;refine ah.Uv [23] ?_ (pJ _ qx) (vI _ qx);refine ae 6 0 ?_;refine af.Wr 6 rfl (V.C' ad) ?_;refine ae 3 7 ?_;refine bE 12 ?_;refine ae 3 10 ?_;refine ae 3 14 ?_;refine af.Wr 17 rfl (V.C' ad) ?_;refine af.p' 13 rfl rfl (a) ?_;refine aa 2 ?_;refine ae 4 18 ?_;refine bE 24 ?_;refine ae 1 22 ?_;refine af.l 23 rfl (av.Z' rfl (v) Uc ?_);refine aa 2 ?_;refine ae 2 24 ?_;exact aP 4
  .rw[aM (λj=>N j.2)];refine aE func96 λW=>?_;apply ah.seq;refine aa 4 ?_;apply ah.seq;refine ah.n' ?_ aB.d';refine ae 10 0 ?_;refine bE 12 ?_;refine ae 3 10 ?_;refine ae 4 14 ?_;refine af.p' 13 rfl rfl (a) ?_;refine aa 2 ?_;refine ae 4 18 ?_;refine bE 24 ?_;refine ae 4 22 ?_;exact aP 4
 .rw[aM (λj=>h j.1)];refine aE func96 λW=>?_;refine aa 6 ?_;refine ah.n' ?_ aB.d';refine ae 10 0 ?_;refine bE 12 ?_;refine ae 16 10 ?_;exact aP 4
def Ck(b:Nat)(x:a6):ar prog 89 [aw b 0] [cells b 183 x.c] (λr J=>r=I x.phase/\J=[cells b 183 x.c]):=by refine aE func89 λW=>?_;exact aP 26
def OC(b:Nat)(x:a6):ar prog 185 [aw b 0] [cells b 183 x.c] (λr J=>r=A x.bj.c/\J=[cells b 183 x.c]):=by refine aE func185 λW=>?_;refine aq 2 λp=>?_;exact aP 23
def ahJ:dr prog 89 [.pointer none] (I 0):=by refine aE func89 λW=>?_;exact aP 21
def iC(n X:Int)(x:ag)(b:bm)(c:aN)(p:Int):a6:={a6.z with n:=n,self:=X,item:=x,bj:=b,call:=c,phase:=if p=1 then 1 else 2}
def Cl(n X x b c p):(iC n X x b c p).wf:=⟨rfl,rfl,rfl,rfl,rfl,rfl⟩
def Hn(n X:Int)(x:ag)(b:bm)(c:aN)(p:Int):ar prog 57 [I n,I X,A x.c,A b.c,A c.c,I p] [] (λr J=>∃q,r=aw q 0/\J=[cells q 183 (iC n X x b c p).c]):=by
 by_cases z:p=1
 .subst z;refine aE func57 λW=>?_;refine Ug λi t l=>?_;refine aq 22 λm=>?_;exact aP 5
 .rw[show iC n X x b c p=iC n X x b c 2 by unfold iC;rw[aM z,aM T6]];refine aE func57 λW=>?_;refine Ug λi t l=>?_;refine aq 24 λm=>?_;exact aP 5
def aiz(m:aD):dr prog 188 [.pointer none,A m.c] (B false):=by refine aE func188 λW=>?_;refine aq 2 λm=>?_;refine aa 5 ?_;refine ah.n' ?_ aB.d';refine ae 41 0 ?_;exact aP 11
def Cm(b:Nat)(x:a6)(w:x.wf)(m:aD)(a:0<=x.n/\x.n<=1000):ar prog 188 [aw b 0,A m.c] [cells b 183 x.c] (λr J=>r=B (x.y' m).2/\J=[cells b 183 (x.y' m).1.c]):=by
 have T:=afS b x w m a;have p:=Oz b x w m.bh;have v:=tI x.bj m.bB;have u:=yZ x.n ac;have C:cY x.n<=1000/\0<=cY x.n:=Qw
 unfold a6.y';have g:(2<x.phase\/m.Item≠x.item\/m.bK≠x.self\/m.bh<0\/x.n<=m.bh)->ar prog 188 [aw b 0,A m.c] [cells b 183 x.c] (λr J=>r=B false/\J=[cells b 183 x.c]):=by
  clear T p;intro o;by_cases l:2<x.phase
  .refine aE func188 λW=>?_;refine aq 2 λi=>?_;refine aa 5 ?_;refine ah.n' ?_ aB.d'.d';refine ae 10 0 ?_;refine bE 14 ?_;refine ae 31 10 ?_;exact aP 11
  by_cases C:m.Item=x.item
  .by_cases j:m.bK=x.self
   .by_cases L:m.bh<0
    .refine MF λW i=>?_;exact aP 11
    .have N:x.n<=m.bh:=by
      rcases o with h|h|h|h|h
      .exact absurd h l
      .exact absurd C h
      .exact absurd j h
      .exact absurd h L
      .exact h
     refine MF λW i=>?_;exact aP 11
   .refine aE func188 λW=>?_;apply ah.seq;refine aq 1 λi=>?_;refine aa 3 ?_;apply ah.seq;apply ah.seq;refine ah.n' ?_ aB.d'.d';refine ae 10 0 ?_;refine bE 14 ?_;refine ae 9 10 ?_;refine bE 23 ?_;refine ae 9 19 ?_;refine af.dA 32 (λF=>?_) (λF=>?_);replace F:=gD F;refine ae 13 28 ?_;refine aa 3 ?_;apply ah.seq;exact aP 7;replace F:=gD F;(exfalso;omega)
  .refine aE func188 λW=>?_;refine aq 2 λi=>?_;refine aa 5 ?_;refine ah.n' ?_ aB.d'.d';refine ae 10 0 ?_;refine bE 14 ?_;refine ae 9 10 ?_;refine bE 23 ?_;refine ae 22 19 ?_;exact aP 11
 by_cases o:2<x.phase\/m.Item≠x.item\/m.bK≠x.self\/m.bh<0\/x.n<=m.bh
 .rw[aQ o];exact g o
 clear g;rw[aM o];have l:¬2<x.phase:=λh=>o (.inl h);have C:m.Item=x.item:=Decidable.byContradiction λh=>o (.inr (.inl h));have j:m.bK=x.self:=Decidable.byContradiction λh=>o (.inr (.inr (.inl h)));have L:¬m.bh<0:=λh=>o (.inr (.inr (.inr (.inl h))));have N:¬x.n<=m.bh:=λh=>o (.inr (.inr (.inr (.inr h))));clear o;by_cases a:m.Kind=5
 .rw[aQ a];clear T p;refine MF λW i=>?_;exact aP 39
 rw[aM a];by_cases U:m.Kind=8/\fL x.bj m.bB=true
 .rw[aQ U];obtain⟨U,K⟩:=U;rw[K]at v;clear T p;refine MF λW i=>?_;refine aa 17 ?_;refine PM ?_;exact aP 20
 rw[aM U];by_cases X:m.bB≠x.bj
 .rw[aQ X];clear T p;by_cases K:m.Kind=8
  .have k:fL x.bj m.bB=false:=by simpa usingλh=>U ⟨K,h⟩
   rw[k]at v;refine QC λW i=>?_;exact aP 12
  .refine QC λW i=>?_;exact aP 12
 rw[aM X];have X:=Decidable.of_not_not X;have F:fL x.bj m.bB=false:=by rw[X];simp[fL]
 rw[F]at v;by_cases N:m.Kind=2/\x.phase=1
 .rw[aQ N];obtain⟨N,z⟩:=N;clear p;refine QC λW i=>?_;exact aP 33
 rw[aM N];by_cases Z:m.Kind=4/\x.phase=2
 .rw[aQ Z];obtain⟨Z,z⟩:=Z;by_cases q:x.Vx m.bh=true
  .rw[aQ q];rw[aQ q,q]at p;have l:=w.U4 q;have X:=l.bW;have f:=acZ b _ l;rw[show(x.U4 m.bh).fZ=x.fZ+1 from rfl]at f X;by_cases aW:cY x.n+1<=x.fZ+1
   .rw[aQ aW];refine aE func188 λW=>?_;apply ah.seq;refine aq 1 λi=>?_;refine aa 3 ?_;apply ah.seq;apply ah.seq;refine NY ?_;refine aa 5 ?_;apply ah.seq;refine au ?_;apply ah.seq;refine aa 8 ?_;apply ah.seq;refine PM ?_;refine aa 3 ?_;apply ah.seq;refine Kv ?_;refine aa 3 ?_;apply ah.seq;refine aa 16 ?_;apply ah.seq;refine aa 16 ?_;rotate_left;apply ah.seq;refine M8 ?_ ?_;refine aa 2 ?_;refine ah.c (λX=>?_) (λX=>?_);replace X:=gD X;apply ah.seq;refine aa 7 ?_;apply ah.seq;exact aP 8;replace X:=gD X;(exfalso;omega);refine av.x' (V.C' ad) ?_;refine au ?_;refine af.p' 10 rfl rfl (f) ?_;refine aa 2 ?_;refine ae 3 15 ?_;refine aa 2 ?_;refine ah.c (λu=>?_) (λu=>?_);replace u:=gD u;apply ah.seq;refine aa 7 ?_;apply ah.seq;exact aP 8;replace u:=gD u;(exfalso;omega)
   .rw[aM aW];refine aE func188 λW=>?_;apply ah.seq;refine aq 1 λi=>?_;refine aa 3 ?_;apply ah.seq;apply ah.seq;refine NY ?_;refine aa 5 ?_;apply ah.seq;refine au ?_;apply ah.seq;refine aa 8 ?_;apply ah.seq;refine PM ?_;refine aa 3 ?_;apply ah.seq;refine Kv ?_;refine aa 3 ?_;apply ah.seq;refine aa 16 ?_;apply ah.seq;refine aa 16 ?_;rotate_left;apply ah.seq;refine M8 ?_ ?_;refine aa 6 ?_;apply ah.seq;exact aP 6;refine av.x' (V.C' ad) ?_;refine au ?_;refine af.p' 10 rfl rfl (f) ?_;refine aa 2 ?_;refine ae 3 15 ?_;refine aa 6 ?_;apply ah.seq;exact aP 6
  .rw[aM q];rw[aM q,show x.Vx m.bh=false by simpa using q]at p;refine QC λW i=>?_;refine aa 38 ?_;refine ah.n' ?_ aB.d'.d';refine ae 5 0 ?_;refine af.p' 5 rfl rfl (p) ?_;refine aa 2 ?_;refine ae 12 6 ?_;exact aP 13
 rw[aM Z];clear p T;refine MF λW i=>?_;refine aa 17 ?_;refine ah.n' ?_ aB.d'.d';refine ae 4 0 ?_;refine af.aY 62 (λy=>?_) (λy=>?_);refine ae 9 4 ?_;refine aa 4 ?_;refine Kv ?_;exact aP 47;refine ae 9 4 ?_;refine aa 4 ?_;refine Kv ?_;refine aa 9 ?_;refine ai.aY (λT=>?_) (λT=>?_);exact aP 37;refine aa 16 ?_;refine ai.aY (λu=>?_) (λu=>?_);exact aP 20;exact aP 20
def i9(p:Int):Int:=if p=1 then 1 else if p=2 then 3 else 5
def lL(p:Int)(x:a6)(i:Nat):aD:={aD.z with Kind:=p,bh:=x.self,bK:=(i:Int),Item:=x.item,bB:=x.bj,Call:=x.call}
def po(x:a6)(i:Nat):aD:=lL (i9 x.phase) x i
def a6.Uy(x:a6)(k:Nat):ab aD:=(List.range k).map (po x)
def a6.WZ(x:a6)(k:Nat):x.Uy (k+1)=x.Uy k++[po x k]:=by simp[a6.Uy,tP]
def a6.Wa(x:a6)(k:Nat):(x.Uy k).length=k:=by simp[a6.Uy]
def a6.E'(x:a6):ab aD:=if x.phase=1\/x.phase=2\/x.phase=3 then x.Uy x.n.toNat else[]
def zA(b:Nat)(x:a6)(p:0<=x.n/\x.n<=1000):ar prog 60 [aw b 0] [cells b 183 x.c] (λr J=>∃v,r=v/\J=[rows aD.c v 176 25 x.E',cells b 183 x.c]):=by
 have z:=Ck b x;obtain⟨Z,d⟩:∃k:Nat,x.n=(k:Int):=⟨x.n.toNat,ac⟩
 by_cases h:x.phase=1\/x.phase=2\/x.phase=3
 .rw[show x.E'=x.Uy Z by rw[a6.E',aQ h,d];rfl];rcases h with h|h|h
  .have u:i9 x.phase=1:=by unfold i9;rw[h];rfl
   refine S4 λW=>?_;refine aa 47 ?_;rotate_left;refine Nw λk v D K i=>?_;dsimp only at D;refine bl ?_;have F:=x.Wa k;by_cases l:k<Z
   .have P:x.Uy (k+1)=x.Uy k++[lL 1 x k]:=by rw[a6.WZ,po,u]
    refine aa 17 ?_;refine ah.n' ?_ aB.d'.j;refine ae 19 0 ?_;refine af.i' 19 rfl (V.UZ ad (d:=(lL 1 x k).c)) ?_;refine df 20 λo=>?_;refine af.q' 21 rfl (O.U' (m:=[lL 1 x k]) ad rfl rfl T8 (cq.one (f:=aD.c) (a:=lL 1 x k) ad T1 aD.F') (λQ E=>?_));refine au ?_;refine ae 1 22 ?_;refine aa 7 ?_;rotate_left;exact Out.z' i (k+1,.slice (some ⟨Q,0,none⟩) (x.Uy k++[lL 1 x k]).length E) QR NF (z:=L9) (t:=ML)
   .obtain rfl:k=Z:=by omega
    exact aP 20
  .have u:i9 x.phase=3:=by unfold i9;rw[h];rfl
   refine S4 λW=>?_;refine aa 54 ?_;rotate_left;refine Nw λk v D K i=>?_;dsimp only at D;refine bl ?_;have F:=x.Wa k;by_cases l:k<Z
   .have P:x.Uy (k+1)=x.Uy k++[lL 3 x k]:=by rw[a6.WZ,po,u]
    refine aa 17 ?_;refine ah.n' ?_ aB.d'.j;refine ae 19 0 ?_;refine af.i' 19 rfl (V.UZ ad (d:=(lL 3 x k).c)) ?_;refine df 20 λo=>?_;refine af.q' 21 rfl (O.U' (m:=[lL 3 x k]) ad rfl rfl T8 (cq.one (f:=aD.c) (a:=lL 3 x k) ad T1 aD.F') (λQ E=>?_));refine au ?_;refine ae 1 22 ?_;refine aa 7 ?_;rotate_left;exact Out.z' i (k+1,.slice (some ⟨Q,0,none⟩) (x.Uy k++[lL 3 x k]).length E) QR NF (z:=L9) (t:=ML)
   .obtain rfl:k=Z:=by omega
    exact aP 20
  .have u:i9 x.phase=5:=by unfold i9;rw[h];rfl
   refine S4 λW=>?_;refine aa 61 ?_;rotate_left;refine Nw λk v D K i=>?_;dsimp only at D;refine bl ?_;have F:=x.Wa k;by_cases l:k<Z
   .have P:x.Uy (k+1)=x.Uy k++[lL 5 x k]:=by rw[a6.WZ,po,u]
    refine aa 17 ?_;refine ah.n' ?_ aB.d'.j;refine ae 19 0 ?_;refine af.i' 19 rfl (V.UZ ad (d:=(lL 5 x k).c)) ?_;refine df 20 λo=>?_;refine af.q' 21 rfl (O.U' (m:=[lL 5 x k]) ad rfl rfl T8 (cq.one (f:=aD.c) (a:=lL 5 x k) ad T1 aD.F') (λQ E=>?_));refine au ?_;refine ae 1 22 ?_;refine aa 7 ?_;rotate_left;exact Out.z' i (k+1,.slice (some ⟨Q,0,none⟩) (x.Uy k++[lL 5 x k]).length E) QR NF (z:=L9) (t:=ML)
   .obtain rfl:k=Z:=by omega
    exact aP 20
 .rw[show x.E'=[] by rw[a6.E',aM h]];refine S4 λW=>?_;exact aP 49
def a6.wf.phase{x:a6}(w:x.wf)(p:Int):({x with phase:=p}:a6).wf:=⟨w.pl,w.dB,w.ol,w.ft,w.eQ,w.fZ⟩
structure ip(x:a6)(n ja:Int)(it:ag)(rF:bm):Prop where
 wf:x.wf
 n:x.n=n
 self:x.self=ja
 item:x.item=it
 bj:x.bj=rF
 phase:x.phase=1\/x.phase=2\/x.phase=3\/x.phase=4
def a6.W0{x:a6}(w:x.wf):x.jM.wf:=⟨w.pl,w.dB,w.ol,w.ft,w.eQ,w.fZ⟩
def aix{x:a6}{n c:Int}{h:bm}(k:ip x n c it h)(m:aD):ip (x.UM m).1 n c it h:=by
 unfold a6.UM;split
 .rename_i q;have i:=k.wf.put q m;split
  .exact⟨i.phase 3,k.n,k.self,k.item,k.bj,.inr (.inr (.inl rfl))⟩
  .split
   .exact⟨i,k.n,k.self,k.item,k.bj,k.phase⟩
   .split
    .exact⟨a6.W0 i,k.n,k.self,k.item,k.bj,.inr (.inl rfl)⟩
    .exact⟨i,k.n,k.self,k.item,k.bj,k.phase⟩
 .exact k
def tZ{x:a6}{n c:Int}{h:bm}(k:ip x n c it h)(m:aD):ip (x.y' m).1 n c it h:=by
 unfold a6.y';split
 .exact k
 split
 .exact⟨(k.wf.call m.Call).phase 3,k.n,k.self,k.item,k.bj,.inr (.inr (.inl rfl))⟩
 split
 .exact⟨k.wf.phase 4,k.n,k.self,k.item,k.bj,.inr (.inr (.inr rfl))⟩
 split
 .exact k
 split
 .exact aix k m
 split
 .split
  .rename_i q;have m:=k.wf.U4 q;split
   .exact⟨m.phase 3,k.n,k.self,k.item,k.bj,.inr (.inr (.inl rfl))⟩
   .exact⟨m,k.n,k.self,k.item,k.bj,k.phase⟩
  .exact k
 .exact k
def xI{x:a6}{n c:Int}{h:bm}(k:ip x n c it h):ip x.late.1 n c it h:=by
 unfold a6.late;split
 .exact⟨a6.W0 k.wf,k.n,k.self,k.item,k.bj,.inr (.inl rfl)⟩
 .exact k
theorem OG{x:a6}(h:x.phase=4):x.E'=[]:=by unfold a6.E';rw[aM ac]
def adO{x:a6}(h:x.phase=1\/x.phase=2\/x.phase=3):x.E'=x.Uy x.n.toNat:=by unfold a6.E';rw[aQ h]
def iD{t:Type}{f:t->ab aj}{W:aZ}{D:ab Nat}{v:aj}{E G:Nat}{l:ab t}(a:∀x,(f x).length=G)(K:rows f v E G l∈C):∀w,H W D C w->∃m Q b,v=.slice m l.length Q/\Rd (rows f (.slice m l.length Q) E G l) m l.length b 0 G (l.map f):=λw n=>by
 rcases hW K w n with⟨rfl,rfl⟩|⟨g,Q,rfl,Y,N⟩
 .exact⟨none,0,0,rfl,Rd.nil⟩
 .exact⟨some ⟨g,0,none⟩,Q,g,rfl,Rd.rows a OJ⟩
end Go.Proofs.YteogojgnkjegmaaGreatDoor
namespace Go.Proofs.YteogojgnkjegmaaGreatDoor
open Go.ay Go.Proofs.Tryz
variable[Go.ay.b4]
structure dh where
 item:ag
 cV:aT Go.Addr
 cap:Nat
 l:ab ag
def dh.c(y:dh):ab aj:=qq.c ⟨y.item,.slice y.cV y.l.length y.cap⟩
def dh.len(y:dh):y.c.length=3:=rfl
def dh.F':jj dh.c:=λ_=>rfl
structure dY where
 idx:ab (ag×Int)
 low:ab (ag×Int)
 on:ab (ag×Bool)
 stack:ab ag
 fK:ab dh
 parts:ab gN
 missing:ab ag
 g:ab cI
structure rG where
 bt:Nat
 e3:Nat
 bW:Nat
 cF:aj
 pk:aj
 dH:aj
 fx:aj
abbrev cg:ag->aj:=λx=>A x.c
abbrev fl:Int->aj:=λn=>I n
abbrev iX:Bool->aj:=λb=>B b
def me(s:Nat)(X:rG):ab aj:=jn.c ⟨aw s 0,.map (some X.bt),.map (some X.e3),.map (some X.bW),X.cF,X.pk,X.dH,X.fx⟩
def vJ:hv prog 57 46 4=true:=rfl
def h2(P k:Nat)(L:hN)(X:rG)(g:bs)(s:dY):ab ax:=[cells P 343 (me k X),hO k L g,bz cg fl X.bt s.idx,bz cg fl X.e3 s.low,bz cg iX X.bW s.on,rows ag.c X.cF 46 2 s.stack,rows dh.c X.pk 375 3 s.fK,rows gN.c X.dH 98 1 s.parts,rows ag.c X.fx 46 2 s.missing,c8 s.g]
def afp(P s:Nat)(L:hN)(g:bs)(h:g.ok)(G:g.g1)(x:ag)(X:rG):ar prog 255 [aw P 0,A x.c] [cells P 343 (me s X),hO s L g] (λr J=>∃v,r=v/\J=[rows ag.c v 46 2 (g.waits x),cells P 343 (me s X),hO s L g]):=by have Y:aO [cells P 343 (me s X),hO s L g] (cells P 343 (me s X)::iw s L g):=aO.cons _ aO.aL;refine ar.eqv Y (agd P s L g h G x ⟨aw s 0,.map (some X.bt),.map (some X.e3),.map (some X.bW),X.cF,X.pk,X.dH,X.fx⟩ rfl) ?_;rintro r J⟨_,rfl,rfl⟩;exact⟨_,⟨_,rfl,rfl⟩,aO.cons _ Y.symm⟩
def ar.UB{P:bU}{f:eR}{args:ab aj}{C:ab ax}{R Y:aj->ab ax->Prop}(h:ar P f args C R)(t:∀v J W D w,R v J->H W D J w->∃z,Y v z/\H W D z w):ar P f args C Y:=
 ar.of λw o=>(ar.get h w o).mono λe Y ⟨v,J,L,f,r⟩=>by obtain⟨z,Y,N⟩:=t v J _ _ _ f r;exact⟨v,z,L,Y,N⟩
def ady(P s:Nat)(L:hN)(g:bs)(h:g.ok)(G:g.g1)(x:ag)(X:rG):ar prog 255 [aw P 0,A x.c] [cells P 343 (me s X),hO s L g] (λr J=>∃m E,(g.waits x).length<=E/\r=.slice m (g.waits x).length E/\J=[rows ag.c (.slice m (g.waits x).length E) 46 2 (g.waits x),cells P 343 (me s X),hO s L g]):=by
 refine ar.UB (afp P s L g h G x X) ?_;rintro v J W D w⟨_,rfl,rfl⟩ a;rcases hW (aF _) w a with⟨rfl,Y⟩|⟨z,E,rfl,Y,_⟩
 .have N:(g.waits x).length=0:=by rw[Y];rfl
  exact⟨_,⟨none,0,ac,SN,SN⟩,a⟩
 .exact⟨_,⟨_,E,Y,rfl,rfl⟩,a⟩
def kZ(e:ax)(m:aT Go.Addr)(l:ab ag):Prop:=∃b off,Rd e m l.length b off 2 (l.map ag.c)
def c8.holds{g:ab cI}{y:cI}{w:aZ}(h:(c8 (y::g)).holds w):(c8 g).holds w:=by unfold c8 at*;rw[rk]at*;refine⟨λe L=>h.1 e (by simp only[e7,dk];exact .inr L),?_⟩;have:=h.2;rw[e7,iJ,hH]at this;exact this.2.1
def kZ.more{g:ab cI}{m:aT Go.Addr}{l:ab ag}(h:kZ (c8 g) m l)(y:cI):kZ (c8 (y::g)) m l:=by obtain⟨b,off,f⟩:=h;exact⟨b,off,f.length,f.small,f.addr,λw n=>f.reads w (c8.holds n)⟩
def kZ.here{g:ab cI}{m:aT Go.Addr}{E:Nat}{l:ab ag}{W:aZ}{D:ab Nat}{an:ab ax}(K:c8 ((.slice m l.length E,l)::g)∈an):∀w,H W D an w->kZ (c8 ((.slice m l.length E,l)::g)) m l:=λw n=>by obtain⟨r,a,b,off,L,f⟩:=pV.of (gS ..) K w n;simp only[sQ]at L;obtain⟨rfl,-,rfl⟩:=L;exact⟨b,off,f⟩
def dY.push(s:dY)(x:ag)(z:dh):dY:={s with idx:=bx s.idx x (s.idx.length:Int),low:=bx s.low x (s.idx.length:Int),on:=bx s.on x true,stack:=s.stack++[x],fK:=s.fK++[z],g:=(.slice z.cV z.l.length z.cap,z.l)::s.g}
def Ho(P U:Nat)(L:hN)(X:rG)(g:bs)(h:g.ok)(G:g.g1)(x:ag)(s:dY)(Y:s.idx.length<=1000)(N:s.stack.length<=1000)(R:s.fK.length<=1000):ar prog 223 [aw P 0,A x.c] (h2 P U L X g s) (λr J=>∃d z,z.item=x/\z.l=g.waits x/\z.l.length<=z.cap/\kZ (c8 (s.push x z).g) z.cV z.l/\r=.tuple #[]/\J=h2 P U L d g (s.push x z)):=by
 have Yl (p Z bW:Nat) (b C o fx:aj):=ady P U L g h G x ⟨p,Z,bW,b,C,o,fx⟩;have Yp:=g.WU G x;generalize g.waits x=q at*;obtain⟨p,Z,bW,b,C,o,fx⟩:=X;obtain⟨y,F,on,i,T,j,u,K⟩:=s;dsimp only at Y N R;have M:ar prog 223 [aw P 0,A x.c] (h2 P U L ⟨p,Z,bW,b,C,o,fx⟩ g ⟨y,F,on,i,T,j,u,K⟩)
   (λr J=>∃f Yh m E,q.length<=E/\r=.tuple #[]/\J=rows ag.c (.slice m q.length E) 46 2 q::h2 P U L ⟨p,Z,bW,f,Yh,o,fx⟩ g ⟨bx y x (y.length:Int),bx F x (y.length:Int),bx on x true,i++[x],T++[⟨x,m,E,q⟩],j,u,K⟩):=by
  unfold h2 me at*
  dsimp only at*
  refine aE func223 λW=>?_
  refine aq 2 λn=>?_
  refine aa 3 ?_
  refine ah.n' ?_ aB.j.j.j.j.j.j.j.j.j.d'.d'
  refine ae 14 0 ?_
  refine ae 4 15 ?_
  refine af.q' 14 rfl (av.x' (aK.XN (l:=y) (b1:=cg) (aU:=fl) gG rfl T1) ?_)
  refine au ?_
  refine af.q' 19 rfl (av.x' (aK.XN (l:=y) (b1:=cg) (aU:=fl) gG rfl T1) ?_)
  refine au ?_
  refine af.q' 20 rfl (av.Vo (b1:=cg) (aU:=fl) (l:=y) (k:=x) 0 ct gG iB rfl rfl T8 (λYm=>?_))
  refine au ?_
  refine ae 1 21 ?_
  refine af.q' 22 rfl (av.V0 (b1:=cg) (aU:=fl) (l:=y) (v:=(y.length:Int)) rfl rfl rfl T2 ?_)
  refine au ?_
  refine af.q' 23 rfl (av.Vo (b1:=cg) (aU:=fl) (l:=F) (k:=x) 0 ct gG iB rfl rfl T8 (λYq=>?_))
  refine au ?_
  refine ae 1 24 ?_
  refine af.q' 25 rfl (av.V0 (b1:=cg) (aU:=fl) (l:=F) (v:=(y.length:Int)) rfl rfl rfl T2 ?_)
  refine aa 4 ?_
  refine ah.n' ?_ aB.j.j.j.j.j.j.j.j.j.d'.d'
  refine ae 5 0 ?_
  refine af.q' 5 rfl (av.UC (l:=on) (k:=x) (v:=true) (b1:=cg) (aU:=iX) ct vJ rfl rfl rfl T2 ?_)
  refine aa 4 ?_
  refine ah.Uv [10] ?_ aB.j.j.j.j.j.j.j.j.j.d'.d' aB.j.j.j.j.j.j.j.j.j.j.d'
  refine ae 4 0 ?_
  refine ae 1 5 ?_
  refine af.t 4 rfl (V.C' ad) ?_
  refine df 6 λYk=>?_
  refine af.q' 7 rfl (O.U' ad rfl rfl T8 (cq.one ad T1 ag.F') (λYj Yi=>?_))
  refine au ?_
  refine ae 2 8 ?_
  refine af.l 10 rfl (O.K' ad ?_)
  refine aa 3 ?_
  refine ah.Uv [14] ?_ aB.j.j.j.j.j.j.j.j.j.d'.d'.j aB.j.j.j.j.j.j.j.j.j.j.d'.j
  refine ae 4 0 ?_
  refine ae 3 5 ?_
  refine af.t 4 rfl (V.C' ad) ?_
  dsimp only
  refine af.p' 8 rfl rfl (Yl _ _ _ _ _ _ _) ?_
  rintro _ _⟨Yo,Yn,Q,rfl,rfl⟩
  refine aa 2 ?_
  refine af.i' 9 rfl (V.UZ ad) ?_
  refine af.q' 10 rfl (O.Q' ad dh.c [⟨x,_,_,q⟩] rfl (bI.agg rfl bI.nil) rfl rfl (λYf=>?_))
  refine au ?_
  refine af.q' 11 rfl (O.U' ad rfl rfl T8 (cq.rows ad T1 dh.F') (λYg Ye=>?_))
  refine au ?_
  refine ae 2 12 ?_
  refine af.l 14 rfl (O.K' ad ?_)
  refine aa 3 ?_
  all_goals exact⟨_,_,⟨_,_,_,_,TX,rfl,rfl⟩,Uc⟩
 refine ar.UB M ?_;rintro v J W D w⟨f,Yh,m,E,Yc,rfl,rfl⟩ a;have h:H W D (h2 P U L ⟨p,Z,bW,f,Yh,o,fx⟩ g (dY.push ⟨y,F,on,i,T,j,u,K⟩ x ⟨x,m,E,q⟩)) w:=by
  unfold h2 at a⊢;have N:=a.perm (a2:=[cells P 343 (me U ⟨p,Z,bW,f,Yh,o,fx⟩),hO U L g,bz cg fl p (bx y x (y.length:Int)),bz cg fl Z (bx F x (y.length:Int)),bz cg iX bW (bx on x true),rows ag.c f 46 2 (i++[x]),rows dh.c Yh 375 3 (T++[⟨x,m,E,q⟩]),rows gN.c o 98 1 j,rows ag.c fx 46 2 u]++[rows ag.c (.slice m q.length E) 46 2 q,c8 K]) (by simp only[ly,gJ];exact l3 (n8 (l₁:=[_,_,_,_,_,_,_,_,_]) (a:=rows ag.c (.slice m q.length E) 46 2 q) (l₂:=[c8 K])).symm (he _))
  have R:=N.eqv ((aO.refl _).append (c8.cons (.slice m q.length E,q) K).symm);exact R
 refine⟨_,⟨⟨p,Z,bW,f,Yh,o,fx⟩,⟨x,m,E,q⟩,rfl,rfl,Yc,?_,rfl,rfl⟩,h⟩;exact kZ.here (an:=h2 P U L ⟨p,Z,bW,f,Yh,o,fx⟩ g (dY.push ⟨y,F,on,i,T,j,u,K⟩ x ⟨x,m,E,q⟩)) KN w h
end Go.Proofs.YteogojgnkjegmaaGreatDoor
