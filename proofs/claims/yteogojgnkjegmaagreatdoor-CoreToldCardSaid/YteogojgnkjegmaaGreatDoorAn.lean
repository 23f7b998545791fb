/-
 Part of the proof.
-/
import Derived.Test.YteogojgnkjegmaaGreatDoorAm
set_option linter.all false
set_option maxRecDepth 8000
set_option maxHeartbeats 8000000
namespace Go.Proofs
open Go.Shelf Go.Proofs.Tryz
def Tryz.ac1:Go.Shelf.Ren:=⟨λ|125=>151|128=>215|129=>216|n=>n,λ|46=>268|3=>3|51=>296|53=>335|4=>4|5=>5|9=>9|n=>n,λ|n=>n⟩
def Tryz.ac2:Go.Proofs.Lays.n125 prog Tryz.ac1:={
 mixed:=Vw
 f125:=func151.trans (c7 some Vw)
 f128:=func215.trans (c7 some Vw)
 f129:=func216.trans (c7 some Vw)
 t3:=Tryz.underlying3
 a3:=Tryz.isAgg3
 z3:=Tryz.sizeOf3
 v3:=Tryz.zeroValue3
 t4:=Tryz.underlying4
 a4:=Tryz.isAgg4
 z4:=Tryz.sizeOf4
 v4:=Tryz.zeroValue4
 t5:=Tryz.underlying5
 a5:=Tryz.isAgg5
 z5:=Tryz.sizeOf5
 v5:=Tryz.zeroValue5
 t9:=Tryz.underlying9
 a9:=Tryz.isAgg9
 z9:=Tryz.sizeOf9
 v9:=Tryz.zeroValue9
 t46:=Tryz.underlying268
 a46:=Tryz.isAgg268
 z46:=Tryz.sizeOf268
 v46:=Tryz.zeroValue268
 t51:=Tryz.underlying296
 a51:=Tryz.isAgg296
 z51:=Tryz.sizeOf296
 v51:=Tryz.zeroValue296
 t53:=Tryz.underlying335
 a53:=Tryz.isAgg335
 z53:=Tryz.sizeOf335
 v53:=Tryz.zeroValue335}
def Tryz.ac3:Go.Shelf.Ren:=⟨λ|190=>275|125=>151|258=>286|128=>215|129=>216|302=>287|303=>288|304=>289|305=>290|306=>291|307=>292|308=>293|309=>294|310=>295|333=>296|329=>249|330=>250|334=>297|335=>298|336=>299|344=>300|n=>n,λ|31=>61|9=>9|3=>3|46=>268|0=>0|51=>296|53=>335|4=>4|183=>328|182=>327|131=>216|5=>5|218=>365|222=>369|228=>391|229=>392|n=>n,λ|n=>n⟩
def Tryz.abh:Go.Proofs.Lays.n190 prog Tryz.ac3:={
 mixed:=Vw
 f125:=func151.trans (c7 some Vw)
 f128:=func215.trans (c7 some Vw)
 f129:=func216.trans (c7 some Vw)
 f190:=func275.trans (c7 some Vw)
 f258:=func286.trans (c7 some Vw)
 f302:=func287.trans (c7 some Vw)
 f303:=func288.trans (c7 some Vw)
 f304:=func289.trans (c7 some Vw)
 f305:=func290.trans (c7 some Vw)
 f306:=func291.trans (c7 some Vw)
 f307:=func292.trans (c7 some Vw)
 f308:=func293.trans (c7 some Vw)
 f309:=func294.trans (c7 some Vw)
 f310:=func295.trans (c7 some Vw)
 f329:=func249.trans (c7 some Vw)
 f330:=func250.trans (c7 some Vw)
 f333:=func296.trans (c7 some Vw)
 f334:=func297.trans (c7 some Vw)
 f335:=func298.trans (c7 some Vw)
 f336:=func299.trans (c7 some Vw)
 f344:=func300.trans (c7 some Vw)
 t0:=Tryz.underlying0
 a0:=Tryz.isAgg0
 z0:=Tryz.sizeOf0
 v0:=Tryz.zeroValue0
 t3:=Tryz.underlying3
 a3:=Tryz.isAgg3
 z3:=Tryz.sizeOf3
 v3:=Tryz.zeroValue3
 t4:=Tryz.underlying4
 a4:=Tryz.isAgg4
 z4:=Tryz.sizeOf4
 v4:=Tryz.zeroValue4
 t5:=Tryz.underlying5
 a5:=Tryz.isAgg5
 z5:=Tryz.sizeOf5
 v5:=Tryz.zeroValue5
 t9:=Tryz.underlying9
 a9:=Tryz.isAgg9
 z9:=Tryz.sizeOf9
 v9:=Tryz.zeroValue9
 t31:=Tryz.underlying61
 a31:=Tryz.isAgg61
 z31:=Tryz.sizeOf61
 v31:=Tryz.zeroValue61
 t46:=Tryz.underlying268
 a46:=Tryz.isAgg268
 z46:=Tryz.sizeOf268
 v46:=Tryz.zeroValue268
 t51:=Tryz.underlying296
 a51:=Tryz.isAgg296
 z51:=Tryz.sizeOf296
 v51:=Tryz.zeroValue296
 t53:=Tryz.underlying335
 a53:=Tryz.isAgg335
 z53:=Tryz.sizeOf335
 v53:=Tryz.zeroValue335
 t131:=Tryz.underlying216
 a131:=Tryz.isAgg216
 z131:=Tryz.sizeOf216
 v131:=Tryz.zeroValue216
 t182:=Tryz.underlying327
 a182:=Tryz.isAgg327
 z182:=Tryz.sizeOf327
 v182:=Tryz.zeroValue327
 t183:=Tryz.underlying328
 a183:=Tryz.isAgg328
 z183:=Tryz.sizeOf328
 v183:=Tryz.zeroValue328
 t218:=Tryz.underlying365
 a218:=Tryz.isAgg365
 z218:=Tryz.sizeOf365
 v218:=Tryz.zeroValue365
 t222:=Tryz.underlying369
 a222:=Tryz.isAgg369
 z222:=Tryz.sizeOf369
 v222:=Tryz.zeroValue369
 t228:=Tryz.underlying391
 a228:=Tryz.isAgg391
 z228:=Tryz.sizeOf391
 v228:=Tryz.zeroValue391
 t229:=Tryz.underlying392
 a229:=Tryz.isAgg392
 z229:=Tryz.sizeOf392
 v229:=Tryz.zeroValue392}
end Go.Proofs
namespace Go.Proofs.YteogojgnkjegmaaGreatDoor
open Go Go.az Go.Proofs.Tryz
def PE(E g Q:Nat)(T:ab (ab aS))(u:T.length<4611686018427387904):ar prog 275 [.slice (some ⟨g,0,none⟩) T.length Q] [rows fy (.slice (some ⟨g,0,none⟩) T.length Q) E 1 T] (λr J=>r=.tuple #[]/\J=[rows fy (.slice (some ⟨g,0,none⟩) T.length Q) E 1 (T.mergeSort λx y=>decide (x<=y))]):=
 al3 Tryz.abh E g Q T u
def alD(F:ab ay):ar prog 275 [.slice none 0 0] F (λr J=>r=.tuple #[]/\J=F):=ajL Tryz.abh F
def DJ(x:Nat)(h:x<=18446744073709551615):dH prog 151 [.int .u64 (x:Int)] (I (Lib.bitLen x:Nat)):=ar.of λw W=>by refine(Any.bits_Len Tryz.ac2 (x:Int) w ac ac).mono ?_;rintro e D⟨rfl,rfl⟩;exact⟨_,[],rfl,⟨by rw[hY],rfl⟩,W.start⟩
def IM{x:Nat}(h:x<=1000000)(W:x≠0):2^Lib.bitLen x<=2*x/\Lib.bitLen x<=20:=by
 obtain⟨Y,Z,D⟩:=Lib.bitLenAux_bounds 64 x ac W;refine⟨?_,Lib.bitLen_le x 20 ac ac⟩;have e:Lib.bitLen x=Lib.bitLenAux 64 x:=rfl;rw[e];have:2^Lib.bitLenAux 64 x=2*2^(Lib.bitLenAux 64 x-1):=by rw[<-Nat.pow_succ'];congr 1;omega
 omega
def akI(x:Nat)(U:x<=1000000)(W:x≠0):dH prog 249 [I (x:Int)] (.int .u64 ((2^Lib.bitLen x:Nat):Int)):=by
 have E:=DJ x ac;obtain⟨Y,Z⟩:=IM U W;have p:Go.IntKind.u64.wrap (x:Int)=(x:Int):=Ua
 have c:dH prog 151 [.int .u64 (Go.IntKind.u64.wrap (x:Int))] (I (Lib.bitLen x:Nat)):=by rw[p];exact E
 have h:Go.IntKind.u64.wrap (1*2^(Min.min ((Lib.bitLen x:Nat):Int).toNat Go.IntKind.u64.bits))=((2^Lib.bitLen x:Nat):Int):=by
  have:Min.min ((Lib.bitLen x:Nat):Int).toNat Go.IntKind.u64.bits=Lib.bitLen x:=by
   rw[hY];show Min.min _ 64=_
   omega
  rw[this,Int.one_mul];have D:(2:Int)^Lib.bitLen x=((2^Lib.bitLen x:Nat):Int):=VK
  rw[D];generalize 2^Lib.bitLen x=y at*;simp[Go.IntKind.wrap,Go.IntKind.signed,Go.IntKind.bits];omega
 refine aF func249 λW=>?_;refine aa 8 ?_;refine ai.v (V.XB ad) ?_;refine au ?_;refine ai.v (V.shl rfl rfl ac h) ?_;exact aQ 5
def amh(q:Nat)(s:Int):ar prog 250 [av q 0] [cells q 365 [.int .u64 s]] (λr J=>∃t:Int,r=.int .u64 t/\J=[cells q 365 [.int .u64 t]]):=by refine aF func250 λW=>?_;refine aa 6 ?_;refine ah.V9 [9] ?_ aC.d' aC.j;refine ae 2 0 ?_;refine ae 2 3 ?_;refine af.t 2 rfl (V.F' ad) ?_;refine af.t 5 rfl (V.F' ad) ?_;refine af.n' 6 rfl (V.shl) ?_;refine af.n' 7 rfl (V.bit rfl) ?_;refine ae 1 8 ?_;refine af.l 9 rfl (O.O' ad ?_);refine aa 4 ?_;refine ah.V9 [9] ?_ aC.d' aC.j;refine ae 2 0 ?_;refine ae 2 3 ?_;refine af.t 2 rfl (V.F' ad) ?_;refine af.t 5 rfl (V.F' ad) ?_;refine af.n' 6 rfl (V.shr) ?_;refine af.n' 7 rfl (V.bit rfl) ?_;refine ae 1 8 ?_;refine af.l 9 rfl (O.O' ad ?_);refine aa 4 ?_;refine ah.V9 [9] ?_ aC.d' aC.j;refine ae 2 0 ?_;refine ae 2 3 ?_;refine af.t 2 rfl (V.F' ad) ?_;refine af.t 5 rfl (V.F' ad) ?_;refine af.n' 6 rfl (V.shl) ?_;refine af.n' 7 rfl (V.bit rfl) ?_;refine ae 1 8 ?_;refine af.l 9 rfl (O.O' ad ?_);exact aQ 13
def aij(s:Int){m:Nat}(W:1<=m)(h:m<=2097152):∃z:Nat,z<m/\Go.IntKind.i64.wrap (Go.IntKind.u64.wrap ((BitVec.ofInt Go.IntKind.u64.bits s&&&BitVec.ofInt Go.IntKind.u64.bits (Go.IntKind.u64.wrap ((m:Int)-1))).toNat:Int))=(z:Int):=by
 have L:Go.IntKind.u64.wrap ((m:Int)-1)=((m-1:Nat):Int):=by
  have:(m:Int)-1=((m-1:Nat):Int):=ac
  rw[this];simp[Go.IntKind.wrap,Go.IntKind.signed,Go.IntKind.bits];omega
 rw[L];refine⟨(BitVec.ofInt Go.IntKind.u64.bits s&&&BitVec.ofInt Go.IntKind.u64.bits ((m-1:Nat):Int)).toNat,?_,?_⟩
 .rw[Ho];refine Nat.lt_of_le_of_lt Nat.and_le_right ?_;show(BitVec.ofInt 64 ((m-1:Nat):Int)).toNat<m
  rw[tL,sr];have:=Nat.mod_le (m-1) (2^64);omega
 .have v:(BitVec.ofInt Go.IntKind.u64.bits s&&&BitVec.ofInt Go.IntKind.u64.bits ((m-1:Nat):Int)).toNat<2097152:=by
   rw[Ho];refine Nat.lt_of_le_of_lt Nat.and_le_right ?_;show(BitVec.ofInt 64 ((m-1:Nat):Int)).toNat<2097152
   rw[tL,sr];have:=Nat.mod_le (m-1) (2^64);omega
  generalize(BitVec.ofInt Go.IntKind.u64.bits s&&&BitVec.ofInt Go.IntKind.u64.bits ((m-1:Nat):Int)).toNat=z at*;simp[Go.IntKind.wrap,Go.IntKind.signed,Go.IntKind.bits];omega
def amm(g n Q:Nat)(l:ab ag)(u:l.length=n)(a b:Nat)(F:a+12<b)(X:b<=n)(y:n<=1000000)(E:ay)(C:aj)(N:ag->ag->Int)(q:m4 C E N):ar prog 209 [.slice (some ⟨g,0,none⟩) n Q,I (a:Int),I (b:Int),C] [eS g n Q l,E] (λr J=>∃o:ab ag,o.Perm l/\r=.tuple #[]/\J=[eS g n Q o,E]):=by
 unfold eS;have f:((b:Int)-(a:Int))=((b-a:Nat):Int):=ac
 obtain⟨L,p⟩:∃L,L=b-a:=⟨_,rfl⟩
 rw[<-p]at f;have T:=akI L ac ac;obtain⟨Y,c⟩:=IM (x:=L) ac ac;have U:1<=2^Lib.bitLen L:=Nat.one_le_two_pow;generalize 2^Lib.bitLen L=m at*;obtain⟨k,T⟩:∃k,k=L/4:=⟨_,rfl⟩
 have Y:((L:Int)/4)=(k:Int):=ac
 have h:((a:Int)+(k:Int)*2)=((a+2*k:Nat):Int):=ac
 have j:(((a+2*k:Nat):Int)-1)=((a+2*k-1:Nat):Int):=ac
 refine aF func209 λW=>?_;refine aa 4 ?_;refine ai.v (V.VX f rfl rfl ac) ?_;refine aa 13 ?_;refine ai.v (V.XB ad) ?_;refine aq 0 λp=>?_;refine aa 10 ?_;rotate_left;refine aa 5 ?_;refine ai.v (V.mul) ?_;refine aa 6 ?_;rw[Y,h,j];refine ah.cq [0,1,8,9,10,3] (λy:Nat×Int×ab ag=>a+2*k-1<=y.1/\y.1<=a+2*k+2/\y.2.2.Perm l) (λy=>[(11,I (y.1:Int))]) (λy=>[cells p 365 [.int .u64 y.2.1],rows ag.c (.slice (some ⟨g,0,none⟩) n Q) 46 2 y.2.2]) (λy=>a+2*k+2-y.1) (a+2*k-1,_,l) ⟨cx _,by show a+2*k-1<=a+2*k+2;omega,hI _⟩ ?_;rintro⟨i,s,Y⟩⟨Q,m,h⟩ K l;dsimp only at Q m h;refine bh ?_;have R:Y.length=n:=by rw[h.length_eq,u]
 have f:=amh p s;have D:((i:Int)+1)=((i+1:Nat):Int):=ac
 by_cases b:i<a+2*k+2
 .refine aa 7 ?_;refine ai.v (V.mul) ?_;refine aa 13 ?_;rintro _ _⟨b,rfl,rfl⟩;refine aa 2 ?_;refine ai.v (V.aay) ?_;refine ai.v (V.bit rfl) ?_;refine ai.v (V.XB ad) ?_;refine aa 4 ?_;rotate_left;obtain⟨z,s,r⟩:=aij b U ac;rw[r];obtain⟨x,U⟩:=cl (g:=Y) (k:=i) ac;by_cases b:z<L
  .have m:((a:Int)+(z:Int))=((a+z:Nat):Int):=by omega
   obtain⟨y,C⟩:=cl (g:=Y) (k:=a+z) ac;refine aa 10 ?_;refine Uq ?_;refine af.n' 10 rfl (V.E' ad (k:=a+z) rfl rfl rfl rfl ac) ?_;refine O9 ?_ ?_;refine af.n' 18 rfl (V.E' ad (k:=a+z) rfl rfl rfl rfl ac) ?_;refine O7 ?_;rotate_left;refine Qh ?_;refine Vj ?_;refine af.n' 18 rfl (V.E' ad (k:=a+z) rfl rfl rfl rfl ac) ?_;refine O7 ?_;rotate_left;all_goals(refine Out.C' l (i+1,_,(Y.set i y).set (a+z) x) ?_ (by show a+2*k+2-(i+1)<a+2*k+2-i;omega);exact ⟨by show a+2*k-1<=i+1;omega,by show i+1<=a+2*k+2;omega,(mA U C).trans h⟩)
  .have t:((z:Int)-(L:Int))=((z-L:Nat):Int):=by omega
   have m:((a:Int)+((z-L:Nat):Int))=((a+(z-L):Nat):Int):=ac
   obtain⟨y,C⟩:=cl (g:=Y) (k:=a+(z-L)) ac;refine aa 11 ?_;refine ai.v (V.VX t rfl rfl ac) ?_;refine aa 3 ?_;refine Uq ?_;refine af.n' 10 rfl (V.E' ad (k:=a+(z-L)) rfl rfl rfl rfl ac) ?_;refine O9 ?_ ?_;refine af.n' 18 rfl (V.E' ad (k:=a+(z-L)) rfl rfl rfl rfl ac) ?_;refine O7 ?_;rotate_left;refine Qh ?_;refine Vj ?_;refine af.n' 18 rfl (V.E' ad (k:=a+(z-L)) rfl rfl rfl rfl ac) ?_;refine O7 ?_;rotate_left;all_goals(refine Out.C' l (i+1,_,(Y.set i y).set (a+(z-L)) x) ?_ (by show a+2*k+2-(i+1)<a+2*k+2-i;omega);exact ⟨by show a+2*k-1<=i+1;omega,by show i+1<=a+2*k+2;omega,(mA U C).trans h⟩)
 .refine aa 7 ?_;refine ai.v (V.mul) ?_;refine aa 11 ?_;exact⟨_,_,⟨Y,h,rfl,rfl⟩,VH⟩
end Go.Proofs.YteogojgnkjegmaaGreatDoor
namespace Go.Proofs.YteogojgnkjegmaaGreatDoor
open Go.az Go.Proofs.Tryz
def PK(g n Q:Nat)(l:ab ag)(z:l.length=n)(a b:Nat)(Yf:a<b)(bN:b<=n)(cN:n<=1000000)(E:ay)(qc:aj)(m5:ag->ag->Int)(P:m4 qc E m5):ar prog 212 [.slice (some ⟨g,0,none⟩) n Q,I (a:Int),I (b:Int),qc] [eS g n Q l,E] (λr L=>∃iO:ab ag,∃t:Bool,iO.Perm l/\r=B t/\L=[eS g n Q iO,E]):=by
 unfold eS;have eV:((a:Int)+1)=((a+1:Nat):Int):=ac
 refine aF func212 λW=>?_;refine aa 8 ?_;refine ai.v (V.V4 eV rfl rfl ac) ?_;refine aa 10 ?_;refine ah.cq [0,1,2,3] (λy:Nat×Nat×ab ag=>y.1<=5/\a+1<=y.2.1/\y.2.1<=b/\y.2.2.Perm l) (λy=>[(10,I (y.1:Int)),(9,I (y.2.1:Int))]) (λy=>[rows ag.c (.slice (some ⟨g,0,none⟩) n Q) 46 2 y.2.2]) (λy=>5-y.1) (0,a+1,l) ⟨ac,cx _,Yf,hI _⟩ ?_;rintro⟨j,i,N⟩⟨dK,q,h,m⟩ K o;dsimp only at dK q h m;refine bh ?_;have R:N.length=n:=by rw[m.length_eq,z]
 by_cases Yh:j<5
 .refine aa 14 ?_;rotate_left;refine ah.cq [0,1,2,3,10] (λi:Nat=>a+1<=i/\i<=b) (λi=>[(9,I (i:Int))]) (λ_=>[]) (λi=>b-i) i ⟨q,h⟩ ?_;rintro i⟨q,h⟩ fP M;refine bh ?_;by_cases Yc:i<b
  .have Y:((i:Int)-1)=((i-1:Nat):Int):=by omega
   have bW:((i:Int)+1)=((i+1:Nat):Int):=ac
   obtain⟨x,U⟩:=cl (g:=N) (k:=i) ac;obtain⟨y,C⟩:=cl (g:=N) (k:=i-1) ac;have T:=P x y;by_cases Yi:m5 x y<0
   .clear M;refine VO ?_;refine Oh ?_;refine aa 28 ?_;refine ah.cs (λD=>?_) (λD=>?_);refine aa 13 ?_
    .first|(exfalso;omega)|exact⟨_,_,⟨N,_,m,rfl,rfl⟩,VH⟩
    refine aa 2 ?_;rotate_left;refine ah.mt [0,1,2,3,10,9] (λX:ab ag=>X.Perm l) (λ_=>[]) (λX=>[rows ag.c (.slice (some ⟨g,0,none⟩) n Q) 46 2 X]) (s:=[rows ag.c (.slice (some ⟨g,0,none⟩) n Q) 46 2 N]) ?_ ?_
    .intro tX J;refine L5 ?_;refine ae 2 5 ?_;refine af.n' 7 rfl (V.VX Y rfl rfl ac) ?_;refine af.n' 8 rfl (V.E' ad (k:=i-1) rfl rfl rfl rfl ac) ?_;refine ae 2 10 ?_;refine af.n' 12 rfl (V.E' ad (k:=i) rfl rfl rfl rfl ac) ?_;refine Um ?_ ?_;refine au ?_;refine af.n' 14 rfl (V.E' ad (k:=i) rfl rfl rfl rfl ac) ?_;refine Nl ?_;refine P5 ?_;rotate_left;refine Tt ?_;refine au ?_;refine af.n' 14 rfl (V.E' ad (k:=i) rfl rfl rfl rfl ac) ?_;refine Nl ?_;refine P5 ?_;rotate_left;all_goals exact Out.C' J ((N.set i y).set (i-1) x) ((mA U C).trans m) trivial
    .intro X Z;refine bh ?_;refine ah.mt [0,1,2,3,10,9] (λX:ab ag=>X.Perm l) (λ_=>[]) (λX=>[rows ag.c (.slice (some ⟨g,0,none⟩) n Q) 46 2 X]) (s:=[rows ag.c (.slice (some ⟨g,0,none⟩) n Q) 46 2 X]) ?_ ?_
     .intro tX J;by_cases Yj:a+2<=i
      .refine aa 12 ?_;refine ai.v (V.VX Y rfl rfl ac) ?_;refine aa 4 ?_;rotate_left;refine ah.cq [0,1,2,3,10,9] (λy:Nat×ab ag=>y.1<i/\y.2.Perm l) (λy=>[(11,I (y.1:Int))]) (λy=>[rows ag.c (.slice (some ⟨g,0,none⟩) n Q) 46 2 y.2]) (λy=>y.1) (i-1,X) ⟨by show i-1<i;omega,Z⟩ ?_;rintro⟨k,s⟩⟨ca,F⟩ Il w;dsimp only at ca F;refine bh ?_;have R:s.length=n:=by rw[F.length_eq,z]
       by_cases u:1<=k
       .have Y:((k:Int)-1)=((k-1:Nat):Int):=by omega
        obtain⟨x,U⟩:=cl (g:=s) (k:=k) ac;obtain⟨y,C⟩:=cl (g:=s) (k:=k-1) ac;have T:=P x y;refine aa 14 ?_;refine UG (λG=>?_) λG=>?_;refine aa 3 ?_;rotate_left;refine QP ?_;refine Um ?_ ?_;refine R7 ?_;refine ai.v (V.VX Y rfl rfl ac) ?_;refine aa 2 ?_;rotate_left;refine Tt ?_;refine R7 ?_;refine ai.v (V.VX Y rfl rfl ac) ?_;refine aa 2 ?_;rotate_left
        .exact Out.C' J s F trivial
        all_goals(refine Out.C' w (k-1,(s.set k y).set (k-1) x) ?_ (by show k-1<k;omega);exact ⟨by show k-1<i;omega,(mA U C).trans F⟩)
       .clear w;refine aa 12 ?_;exact Out.C' J s F trivial
      .refine aa 10 ?_;exact Out.C' J X Z trivial
     .intro X Z;refine bh ?_;have p:((j:Int)+1)=((j+1:Nat):Int):=by omega
      by_cases Yk:i+2<=b
      .refine aa 12 ?_;refine ai.v (V.V4 bW rfl rfl ac) ?_;refine aa 4 ?_;rotate_left;refine ah.cq [0,1,2,3,10,9] (λy:Nat×ab ag=>i+1<=y.1/\y.1<=b/\y.2.Perm l) (λy=>[(12,I (y.1:Int))]) (λy=>[rows ag.c (.slice (some ⟨g,0,none⟩) n Q) 46 2 y.2]) (λy=>b-y.1) (i+1,X) ⟨cx _,by show i+1<=b;omega,Z⟩ ?_;rintro⟨k,s⟩⟨u,Ye,F⟩ Il w;dsimp only at u Ye F;refine bh ?_;have R:s.length=n:=by rw[F.length_eq,z]
       by_cases Yg:k<b
       .have Y:((k:Int)-1)=((k-1:Nat):Int):=by omega
        have jr:((k:Int)+1)=((k+1:Nat):Int):=ac
        obtain⟨x,U⟩:=cl (g:=s) (k:=k) ac;obtain⟨y,C⟩:=cl (g:=s) (k:=k-1) ac;have T:=P x y;refine aa 15 ?_;refine UG (λd=>?_) λd=>?_;refine aa 7 ?_;refine ai.v (V.V4 p rfl rfl ac) ?_;refine aa 2 ?_;rotate_left;refine QP ?_;refine Um ?_ ?_;refine R7 ?_;refine ai.v (V.V4 jr rfl rfl ac) ?_;refine aa 2 ?_;rotate_left;refine Tt ?_;refine R7 ?_;refine ai.v (V.V4 jr rfl rfl ac) ?_;refine aa 2 ?_;rotate_left
        .refine Out.C' o (j+1,i,s) ?_ RU;exact ⟨by show j+1<=5;omega,q,h,F⟩
        all_goals(refine Out.C' w (k+1,(s.set k y).set (k-1) x) ?_ (by show b-(k+1)<b-k;omega);exact ⟨by show i+1<=k+1;omega,Sj,(mA U C).trans F⟩)
       .clear w;refine aa 17 ?_;refine ai.v (V.V4 p rfl rfl ac) ?_;refine aa 2 ?_;refine Out.C' o (j+1,i,s) ?_ RU;exact ⟨by show j+1<=5;omega,q,h,F⟩
      .refine aa 14 ?_;refine ai.v (V.V4 p rfl rfl ac) ?_;refine aa 2 ?_;refine Out.C' o (j+1,i,X) ?_ RU;exact ⟨by show j+1<=5;omega,q,h,Z⟩
   .refine VO ?_;refine Oh ?_;refine aa 8 ?_;refine ai.v (V.V4 bW rfl rfl ac) ?_;refine aa 3 ?_;rotate_left;exact Out.C' M (i+1) ⟨ac,ac⟩ ac
  .clear M;obtain rfl:i=b:=by omega
   refine VO ?_;refine bK 22 ?_;refine ae 14 4 ?_;refine aa 16 ?_;refine ah.c (λz=>?_) (λz=>?_);replace z:=g5 z;refine aa 13 ?_;rotate_left;exact mq z;exact⟨_,_,⟨N,_,m,rfl,rfl⟩,VH⟩
 .clear o;refine aa 20 ?_;exact⟨_,_,⟨N,_,m,rfl,rfl⟩,VH⟩
def aib(g n Q:Nat)(l:ab ag)(u:l.length=n)(a b p:Nat)(Yg:a<=p)(Yf:p<b)(X:b<=n)(s:n<=1000000)(E:ay)(d:aj)(m5:ag->ag->Int)(q:m4 d E m5):ar prog 213 [.slice (some ⟨g,0,none⟩) n Q,I (a:Int),I (b:Int),I (p:Int),d] [eS g n Q l,E] (λr J=>∃L:ab ag,∃t:Nat,a+1<=t/\t<=b/\L.Perm l/\r=I (t:Int)/\J=[eS g n Q L,E]):=by
 unfold eS;have o:((a:Int)+1)=((a+1:Nat):Int):=ac
 have Y:((b:Int)-1)=((b-1:Nat):Int):=ac
 refine aF func213 λW=>?_;refine aa 5 ?_;refine ah.mt [0,1,2,4] (λe4:ab ag=>e4.Perm l) (λ_=>[]) (λe4=>[rows ag.c (.slice (some ⟨g,0,none⟩) n Q) 46 2 e4]) (s:=[rows ag.c (.slice (some ⟨g,0,none⟩) n Q) 46 2 l]) ?_ ?_
 .intro K h;have R:=u;obtain⟨x,U⟩:=cl (g:=l) (k:=a) ac;obtain⟨y,C⟩:=cl (g:=l) (k:=p) ac;refine Sb ?_ ?_;refine Rl ?_;refine Te ?_;refine af.n' 12 rfl (V.E' ad (k:=a) rfl rfl rfl rfl ac) ?_;refine Qq ?_;refine SL ?_;rotate_left;refine Tn ?_;refine af.n' 12 rfl (V.E' ad (k:=a) rfl rfl rfl rfl ac) ?_;refine Qq ?_;refine SL ?_;rotate_left;all_goals exact Out.C' h ((l.set a y).set p x) (mA U C) trivial
 intro P Ye;refine bh ?_;refine aa 3 ?_;refine ai.v (V.V4 o rfl rfl ac) ?_;refine au ?_;refine ai.v (V.VX Y rfl rfl ac) ?_;refine aa 6 ?_;refine ah.cq [0,1,2,4] (λy:Nat×Nat×ab ag=>a+1<=y.1/\y.1<=b/\a<=y.2.1/\y.2.1<b/\y.2.2.Perm l) (λy=>[(11,I (y.1:Int)),(12,I (y.2.1:Int))]) (λy=>[rows ag.c (.slice (some ⟨g,0,none⟩) n Q) 46 2 y.2.2]) (λy=>y.2.1+b-y.1) (a+1,b-1,P) ⟨cx _,by show a+1<=b;omega,by show a<=b-1;omega,by show b-1<b;omega,Ye⟩ ?_;rintro⟨i,j,N⟩⟨Ar,wL,yH,DK,M⟩ K h;dsimp only at Ar wL yH DK M;refine bh ?_;have R:N.length=n:=by rw[M.length_eq,u]
 obtain⟨z,w⟩:=cl (g:=N) (k:=a) ac;refine aa 3 ?_;refine ah.cq [0,1,2,4,12] (λk:Nat=>i<=k/\k<=b) (λk=>[(11,I (k:Int))]) (λ_=>[]) (λk=>b-k) i ⟨cx _,wL⟩ ?_;rintro k⟨gY,hf⟩ fP Z;refine bh ?_;have T:((k:Int)+1)=((k+1:Nat):Int):=ac
 by_cases Yk:k<=j
 .obtain⟨x,U⟩:=cl (g:=N) (k:=k) ac;have D:=q z x;by_cases Yj:m5 z x<0
  .clear Z;refine VO ?_;refine bK 34 ?_;refine S2 ?_;refine Rm ?_;refine aa 10 ?_;rotate_left;refine ah.cq [0,1,2,4,11] (λm:Nat=>a<=m/\m<=j) (λm=>[(12,I (m:Int))]) (λ_=>[]) (λm=>m) j ⟨yH,cx _⟩ ?_;rintro m⟨ku,mB⟩ tX Yc;refine bh ?_;have F:((m:Int)-1)=((m-1:Nat):Int)\/m=0:=by omega
   by_cases Yi:k<=m
   .have F:((m:Int)-1)=((m-1:Nat):Int):=by omega
    obtain⟨y,C⟩:=cl (g:=N) (k:=m) ac;have G:=q z y;by_cases Yh:m5 z y<0
    .refine VO ?_;refine bK 53 ?_;refine S2 ?_;refine S1 ?_;refine aa 8 ?_;refine ai.v (V.VX F rfl rfl ac) ?_;refine aa 3 ?_;rotate_left;exact LU
    .clear Yc;refine VO ?_;refine bK 53 ?_;refine S2 ?_;refine S1 ?_;refine aa 20 ?_;refine MQ ?_ ?_;refine Rl ?_;refine Te ?_;refine af.n' 12 rfl (V.E' ad (k:=k) rfl rfl rfl rfl ac) ?_;refine Qq ?_;refine NN ?_;refine LL ?_;rotate_left;refine Tn ?_;refine af.n' 12 rfl (V.E' ad (k:=k) rfl rfl rfl rfl ac) ?_;refine Qq ?_;refine NN ?_;refine LL ?_;rotate_left;all_goals(refine Out.C' h (k+1,m-1,(N.set k y).set m x) ?_ (by show m-1+b-(k+1)<j+b-i;omega);exact ⟨Sn,Sj,by show a<=m-1;omega,by show m-1<b;omega,(mA U C).trans M⟩)
   .clear Yc;refine VO ?_;refine bK 53 ?_;refine ae 12 4 ?_;refine aa 19 ?_;refine Out.Xs ?_;refine aa 11 ?_;rotate_left;exact⟨_,_,⟨N,k,ac,ac,M,rfl,rfl⟩,VH⟩
  .refine VO ?_;refine bK 34 ?_;refine S2 ?_;refine Rm ?_;refine aa 8 ?_;refine ai.v (V.V4 T rfl rfl ac) ?_;refine aa 3 ?_;rotate_left;exact Tq
 .clear Z;refine VO ?_;refine bK 34 ?_;refine ae 13 4 ?_;refine aa 10 ?_;refine ah.cq [0,1,2,4,11] (λm:Nat=>m=j) (λm=>[(12,I (m:Int))]) (λ_=>[]) (λm=>m) j rfl ?_;rintro m rfl tX Yc;clear Yc;refine bh ?_;refine VO ?_;refine bK 53 ?_;refine ae 12 4 ?_;refine aa 19 ?_;refine Out.Xs ?_;refine aa 11 ?_;rotate_left;exact⟨_,_,⟨N,k,ac,ac,M,rfl,rfl⟩,VH⟩
def akP(g n q:Nat)(l:ab ag)(Q:l.length=n)(a b p:Nat)(Yh:a<=p)(Yg:p<b)(X:b<=n)(s:n<=1000000)(E:ay)(P:aj)(m5:ag->ag->Int)(D:m4 P E m5):ar prog 214 [.slice (some ⟨g,0,none⟩) n q,I (a:Int),I (b:Int),I (p:Int),P] [eS g n q l,E] (λr J=>∃L:ab ag,∃t:Nat,∃u:Bool,a<=t/\t<b/\L.Perm l/\r=.tuple #[I (t:Int),B u]/\J=[eS g n q L,E]):=by
 unfold eS;have o:((a:Int)+1)=((a+1:Nat):Int):=ac
 have Y:((b:Int)-1)=((b-1:Nat):Int):=ac
 refine aF func214 λW=>?_;refine aa 6 ?_;refine ah.mt [0,1,2,4] (λe4:ab ag=>e4.Perm l) (λ_=>[]) (λe4=>[rows ag.c (.slice (some ⟨g,0,none⟩) n q) 46 2 e4]) (s:=[rows ag.c (.slice (some ⟨g,0,none⟩) n q) 46 2 l]) ?_ ?_
 .intro K h;have d:=Q;obtain⟨x,U⟩:=cl (g:=l) (k:=a) ac;obtain⟨y,C⟩:=cl (g:=l) (k:=p) ac;refine Sb ?_ ?_;refine Rl ?_;refine Te ?_;refine RI ?_;rotate_left;refine Tn ?_;refine RI ?_;rotate_left;all_goals exact Out.C' h ((l.set a y).set p x) (mA U C) trivial
 intro N M;refine bh ?_;have d:N.length=n:=by rw[M.length_eq,Q]
 obtain⟨z,w⟩:=cl (g:=N) (k:=a) ac;refine aa 3 ?_;refine ai.v (V.V4 o rfl rfl ac) ?_;refine au ?_;refine ai.v (V.VX Y rfl rfl ac) ?_;refine aa 6 ?_;refine ah.cq [0,1,2,4,13] (λk:Nat=>a+1<=k/\k<=b) (λk=>[(12,I (k:Int))]) (λ_=>[]) (λk=>b-k) (a+1) ⟨cx _,ac⟩ ?_;rintro k⟨gY,hf⟩ fP Z;refine bh ?_;have T:((k:Int)+1)=((k+1:Nat):Int):=ac
 by_cases Yl:k<=b-1
 .obtain⟨x,U⟩:=cl (g:=N) (k:=k) ac;have G:=D x z;by_cases Yk:m5 x z<0
  .refine VO ?_;refine bK 35 ?_;refine Vn ?_;refine aa 8 ?_;refine ai.v (V.V4 T rfl rfl ac) ?_;refine aa 3 ?_;rotate_left;exact Tq
  .clear Z;refine VO ?_;refine bK 35 ?_;refine Vn ?_;refine aa 10 ?_;rotate_left;refine ah.cq [0,1,2,4,12] (λm:Nat=>a<=m/\m<=b-1) (λm=>[(13,I (m:Int))]) (λ_=>[]) (λm=>m) (b-1) ⟨ac,cx _⟩ ?_;rintro m⟨ku,mB⟩ tX Yc;refine bh ?_;obtain⟨y,C⟩:=cl (g:=N) (k:=m) ac;by_cases Yj:k<=m
   .have F:((m:Int)-1)=((m-1:Nat):Int):=by omega
    have R:=D y z;by_cases Yi:m5 y z<0
    .clear Yc;refine VO ?_;refine bK 53 ?_;refine Vg ?_;refine aa 19 ?_;rotate_left;refine ah.mt [0,1,2,4,12,13] (λe4:ab ag=>e4.Perm l) (λ_=>[]) (λe4=>[rows ag.c (.slice (some ⟨g,0,none⟩) n q) 46 2 e4]) (s:=[rows ag.c (.slice (some ⟨g,0,none⟩) n q) 46 2 N]) ?_ ?_
     .intro K h;refine MQ ?_ ?_;refine Rl ?_;refine af.y' 11 rfl (aw.z' (V.K' ad rfl VF ag.len U) ?_);refine Pv ?_;refine aa 2 ?_;rotate_left;refine MG ?_;refine af.y' 7 rfl (aw.z' (V.K' ad rfl VF ag.len C) ?_);refine Pv ?_;refine aa 2 ?_;rotate_left;all_goals exact Out.C' h ((N.set k y).set m x) ((mA U C).trans M) trivial
     intro e4 Ye;refine bh ?_;refine aa 3 ?_;refine ai.v (V.V4 T rfl rfl ac) ?_;refine aa 6 ?_;refine ai.v (V.VX F rfl rfl ac) ?_;refine aa 5 ?_;refine ah.cq [0,1,2,4] (λy:Nat×Nat×ab ag=>a+1<=y.1/\y.1<=b/\a<=y.2.1/\y.2.1<b/\y.2.2.Perm l) (λy=>[(12,I (y.1:Int)),(13,I (y.2.1:Int))]) (λy=>[rows ag.c (.slice (some ⟨g,0,none⟩) n q) 46 2 y.2.2]) (λy=>y.2.1+b-y.1) (k+1,m-1,e4) ⟨Sn,Sj,by show a<=m-1;omega,by show m-1<b;omega,Ye⟩ ?_;rintro⟨i,j,rD⟩⟨Ar,wL,yH,DK,Yf⟩ K h;dsimp only at Ar wL yH DK Yf;refine bh ?_;clear d;have d:rD.length=n:=by rw[Yf.length_eq,Q]
     obtain⟨z,w⟩:=cl (g:=rD) (k:=a) ac;refine aa 3 ?_;refine ah.cq [0,1,2,4,13] (λk:Nat=>i<=k/\k<=b) (λk=>[(12,I (k:Int))]) (λ_=>[]) (λk=>b-k) i ⟨cx _,wL⟩ ?_;rintro k⟨gY,hf⟩ fP Z;refine bh ?_;have T:((k:Int)+1)=((k+1:Nat):Int):=ac
     by_cases Yl:k<=j
     .obtain⟨x,U⟩:=cl (g:=rD) (k:=k) ac;have G:=D x z;by_cases Yk:m5 x z<0
      .refine VO ?_;refine bK 108 ?_;refine Vn ?_;refine aa 8 ?_;refine ai.v (V.V4 T rfl rfl ac) ?_;refine aa 3 ?_;rotate_left;exact Tq
      .clear Z;refine VO ?_;refine bK 108 ?_;refine Vn ?_;refine aa 10 ?_;rotate_left;refine ah.cq [0,1,2,4,12] (λm:Nat=>a<=m/\m<=j) (λm=>[(13,I (m:Int))]) (λ_=>[]) (λm=>m) j ⟨yH,cx _⟩ ?_;rintro m⟨ku,mB⟩ tX Yc;refine bh ?_;obtain⟨y,C⟩:=cl (g:=rD) (k:=m) ac;by_cases Yj:k<=m
       .have F:((m:Int)-1)=((m-1:Nat):Int):=by omega
        have R:=D y z;by_cases Yi:m5 y z<0
        .clear Yc;refine VO ?_;refine bK 126 ?_;refine Vg ?_;refine aa 20 ?_;refine MQ ?_ ?_;refine Rl ?_;refine af.y' 11 rfl (aw.z' (V.K' ad rfl VF ag.len U) ?_);refine Pv ?_;refine LL ?_;rotate_left;refine MG ?_;refine af.y' 7 rfl (aw.z' (V.K' ad rfl VF ag.len C) ?_);refine Pv ?_;refine LL ?_;rotate_left;all_goals(refine Out.C' h (k+1,m-1,(rD.set k y).set m x) ?_ (by show m-1+b-(k+1)<j+b-i;omega);exact ⟨Sn,Sj,by show a<=m-1;omega,by show m-1<b;omega,(mA U C).trans Yf⟩)
        .refine VO ?_;refine bK 126 ?_;refine Vg ?_;refine aa 8 ?_;refine ai.v (V.VX F rfl rfl ac) ?_;refine aa 3 ?_;rotate_left;exact LU
       .clear Yc;refine VO ?_;refine bK 126 ?_;refine ae 13 4 ?_;refine aa 19 ?_;refine Out.Xs ?_;refine aa 4 ?_;refine Ts ?_ ?_;refine LO ?_;refine aa 12 ?_;rotate_left;refine LA ?_;refine Q0 ?_;refine LO ?_;refine aa 12 ?_;rotate_left;all_goals exact⟨_,_,⟨(rD.set m z).set a y,m,_,ac,ac,(mA C w).trans Yf,rfl,rfl⟩,VH⟩
     .clear Z;refine VO ?_;refine bK 108 ?_;refine ae 12 4 ?_;refine aa 10 ?_;refine ah.cq [0,1,2,4,12] (λm:Nat=>m=j) (λm=>[(13,I (m:Int))]) (λ_=>[]) (λm=>m) j rfl ?_;rintro m rfl tX Yc;clear Yc;refine bh ?_;obtain⟨y,C⟩:=cl (g:=rD) (k:=m) ac;refine VO ?_;refine bK 126 ?_;refine ae 13 4 ?_;refine aa 19 ?_;refine Out.Xs ?_;refine aa 4 ?_;refine Ts ?_ ?_;refine LO ?_;refine aa 12 ?_;rotate_left;refine LA ?_;refine Q0 ?_;refine LO ?_;refine aa 12 ?_;rotate_left;all_goals exact⟨_,_,⟨(rD.set m z).set a y,m,_,ac,ac,(mA C w).trans Yf,rfl,rfl⟩,VH⟩
    .refine VO ?_;refine bK 53 ?_;refine Vg ?_;refine aa 8 ?_;refine ai.v (V.VX F rfl rfl ac) ?_;refine aa 3 ?_;rotate_left;exact LU
   .clear Yc;refine VO ?_;refine bK 53 ?_;refine ae 13 4 ?_;refine aa 18 ?_;refine Ts ?_ ?_;refine LO ?_;refine aa 13 ?_;rotate_left;refine LA ?_;refine Q0 ?_;refine LO ?_;refine aa 13 ?_;rotate_left;all_goals exact⟨_,_,⟨(N.set m z).set a y,m,_,ac,ac,(mA C w).trans M,rfl,rfl⟩,VH⟩
 .clear Z;refine VO ?_;refine bK 35 ?_;refine ae 12 4 ?_;refine aa 10 ?_;refine ah.cq [0,1,2,4,12] (λm:Nat=>m=b-1) (λm=>[(13,I (m:Int))]) (λ_=>[]) (λm=>m) (b-1) rfl ?_;rintro m rfl tX Yc;clear Yc;refine bh ?_;obtain⟨y,C⟩:=cl (g:=N) (k:=b-1) ac;refine VO ?_;refine bK 53 ?_;refine ae 13 4 ?_;refine aa 18 ?_;refine ah.p' ?_ aC.j.j;refine ae 6 0 ?_;refine af.n' 6 rfl (V.E' ad (k:=a) rfl rfl rfl rfl ac) ?_;refine ae 2 8 ?_;refine af.n' 10 rfl (V.E' ad (k:=b-1) rfl rfl rfl rfl ac) ?_;refine af.bx 7 11 rfl rfl ?_ ?_;refine aw.z' (V.K' ad rfl VF ag.len w) ?_;refine au ?_;refine af.y' 11 rfl (aw.z' (V.K' ad rfl VF ag.len C) ?_);refine au ?_;refine af.n' 12 rfl (V.E' ad (k:=b-1) rfl rfl rfl rfl ac) ?_;refine LO ?_;refine aa 13 ?_;rotate_left;refine LA ?_;refine au ?_;refine af.n' 12 rfl (V.E' ad (k:=b-1) rfl rfl rfl rfl ac) ?_;refine LO ?_;refine aa 13 ?_;rotate_left;all_goals exact⟨_,_,⟨(N.set (b-1) z).set a y,b-1,_,ac,ac,(mA C w).trans M,rfl,rfl⟩,VH⟩
def aeR(g n Q:Nat)(k:n<=1000000)(E:ay)(C:aj)(N:ag->ag->Int)(q:m4 C E N):∀(f a b:Nat) (J:Int) (l:ab ag),l.length=n->a<=b->b<=n->b-a<=f->0<=J->J<=64->ar prog 150 [.slice (some ⟨g,0,none⟩) n Q,I (a:Int),I (b:Int),I J,C] [eS g n Q l,E] (λr P=>∃iO:ab ag,iO.Perm l/\r=.tuple #[]/\P=[eS g n Q iO,E]):=by
 intro f;induction f using Nat.strongRecOn with
 |ind f IN=>
 intro a b J l D u T s F X;have L (a b:Nat) (J:Int) (l:ab ag) (D:l.length=n) (U:a<=b) (j:b<=n) (w:b-a<f) (gw:0<=J) (jJ:J<=64):=IN (b-a) w a b J l D U j (cx _) gw jJ;clear IN;unfold eS at*;refine aF func150 λW=>?_;refine aa 11 ?_;refine ah.cq [0,4] (λy:Nat×Nat×Int×Bool×Bool×ab ag=>y.1<=y.2.1/\y.2.1<=n/\y.2.1-y.1<=f/\0<=y.2.2.1/\y.2.2.1<=64/\y.2.2.2.2.2.Perm l) (λy=>[(1,I (y.1:Int)),(2,I (y.2.1:Int)),(3,I y.2.2.1),(10,B y.2.2.2.1),(11,B y.2.2.2.2.1)]) (λy=>[rows ag.c (.slice (some ⟨g,0,none⟩) n Q) 46 2 y.2.2.2.2.2]) (λy=>y.2.1-y.1) (a,b,J,true,true,l) ⟨u,T,s,F,X,hI _⟩ ?_;rintro⟨a,b,J,kv,wp,Y⟩⟨u,T,s,F,X,m⟩ K h;dsimp only at u T s F X m;refine bh ?_;have R:Y.length=n:=Sd
 have eV:((b:Int)-(a:Int))=((b-a:Nat):Int):=ac
 by_cases Yc:b-a<=12
 .clear h;have iG:=ajY g n Q Y R a b u T k E C N q;unfold eS at iG;refine aa 5 ?_;refine ai.v (V.VX eV rfl rfl ac) ?_;refine aa 18 ?_;rintro _ _⟨Yf,d,rfl,rfl⟩;refine aa 9 ?_;rotate_left;refine⟨_,_,⟨_,?_,rfl,rfl⟩,VH⟩;exact mW VV m
 by_cases Ye:J=0
 .clear h;have iG:=ajr g n Q Y R a b ac T k E C N q;unfold eS at iG;refine aa 5 ?_;refine ai.v (V.VX eV rfl rfl ac) ?_;refine aa 28 ?_;rintro _ _⟨Yg,z,rfl,rfl⟩;refine aa 9 ?_;rotate_left;refine⟨_,_,⟨_,?_,rfl,rfl⟩,VH⟩;exact mW VV m
 have x:a+12<b:=ac
 refine aa 5 ?_;refine ai.v (V.VX eV rfl rfl ac) ?_;refine aa 23 ?_;refine ah.mt [0,1,2,4,10,11,12] (λy:Int×ab ag=>0<=y.1/\y.1<=64/\y.2.Perm l) (λy=>[(3,I y.1)]) (λy=>[rows ag.c (.slice (some ⟨g,0,none⟩) n Q) 46 2 y.2]) (s:=[rows ag.c (.slice (some ⟨g,0,none⟩) n Q) 46 2 Y]) ?_ ?_
 .intro fP i;cases kv
  .have nE:=amm g n Q Y R a b x T k E C N q;unfold eS at nE;refine aa 14 ?_;rintro _ _⟨Yh,o,rfl,rfl⟩;refine aa 8 ?_;refine Out.C' i (J-1,_) ⟨by show 0<=J-1;omega,by show J-1<=64;omega,?_⟩ trivial;exact mW VV m
  .refine aa 8 ?_;exact Out.C' i (J,Y) ⟨F,X,m⟩ trivial
 clear F X Ye m R;rintro⟨J,Y⟩⟨F,X,m⟩;dsimp only at F X m;refine bh ?_;have R:Y.length=n:=Sd
 have gQ:=PB g n Q Y R a b x T k E C N q;unfold eS at gQ;refine aa 7 ?_;rintro _ _⟨M,Yj,o,d,rfl,rfl⟩;refine aa 8 ?_;refine ah.mt [0,1,2,3,4,10,11,12] (λy:Nat×Int×ab ag=>a<=y.1/\y.1<b/\y.2.2.Perm l) (λy=>[(13,I (y.1:Int)),(14,I y.2.1)]) (λy=>[rows ag.c (.slice (some ⟨g,0,none⟩) n Q) 46 2 y.2.2]) (s:=[rows ag.c (.slice (some ⟨g,0,none⟩) n Q) 46 2 Y]) ?_ ?_
 .intro fP i;have ep:=akN g n Q Y R a b ac T k E C N q;unfold eS at ep;have U:((b:Int)-1)=((b-1:Nat):Int):=by omega
  have j:((M:Int)-(a:Int))=((M-a:Nat):Int):=ac
  have w:(((b-1:Nat):Int)-((M-a:Nat):Int))=((b-1-(M-a):Nat):Int):=ac
  refine Vy (λt=>?_) λt=>?_;refine aa 7 ?_;rintro _ _⟨Yi,d,rfl,rfl⟩;refine aa 6 ?_;refine ai.v (V.VX U rfl rfl ac) ?_;refine aa 2 ?_;refine ai.v (V.VX j rfl rfl ac) ?_;refine ai.v (V.VX w rfl rfl ac) ?_;refine aa 6 ?_;rotate_left;refine au ?_;rotate_left
  .refine Out.C' i (b-1-(M-a),1,_) ⟨by show a<=b-1-(M-a);omega,by show b-1-(M-a)<b;omega,?_⟩ trivial;exact mW VV m
  .refine Out.C' i (M,_,Y) ?_ trivial;exact ⟨VV,by show M<b;omega,m⟩
 clear m R gQ;rintro⟨p,hint,Y⟩⟨Z,G,m⟩;dsimp only at Z G m;refine bh ?_;have R:Y.length=n:=Sd
 refine ah.mt [0,1,2,3,4,10,11,12,13] (λe4:ab ag=>e4.Perm l) (λ_=>[]) (λe4=>[rows ag.c (.slice (some ⟨g,0,none⟩) n Q) 46 2 e4]) (s:=[rows ag.c (.slice (some ⟨g,0,none⟩) n Q) 46 2 Y]) ?_ ?_
 .intro fP i;have iP:=PK g n Q Y R a b ac T k E C N q;unfold eS at iP;cases kv<;>cases wp
  exact SQ
  exact SQ
  exact SQ
  .refine aa 12 ?_;refine ah.cs (λs=>?_) (λs=>?_);refine aa 7 ?_;rintro _ _⟨x,M,d,rfl,rfl⟩;refine Tf (λs=>?_) λs=>?_;refine aa 6 ?_;rotate_left;refine au ?_;rotate_left;refine au ?_;rotate_left
   .refine⟨_,_,⟨_,?_,rfl,rfl⟩,VH⟩;exact mW VV m
   .refine Out.C' i _ ?_ trivial;exact mW VV m
   .exact Out.C' i Y m trivial
 clear m R;intro Y m;refine bh ?_;have R:Y.length=n:=Sd
 have M:=aib g n Q Y R a b p Z G T k E C N q;have w:=akP g n Q Y R a b p Z G T k E C N q;unfold eS at M w;obtain⟨y,C⟩:=cl (g:=Y) (k:=p) ac;refine ah.mt [0,1,2,3,4,12,13] (λ_:Unit=>True) (λ_=>[]) (λ_=>[]) ?_ ?_
 .intro fP i;by_cases Z:0<a
  .have U:((a:Int)-1)=((a-1:Nat):Int):=by omega
   obtain⟨x,Z⟩:=cl (g:=Y) (k:=a-1) ac;have K:=q x y;refine au ?_;refine ah.p' ?_ aC.d'.d';refine ae 3 0 ?_;refine bK 83 ?_;refine ae 3 3 ?_;refine af.n' 6 rfl (V.VX U rfl rfl ac) ?_;refine af.n' 7 rfl (V.E' ad (k:=a-1) rfl rfl rfl rfl ac) ?_;refine af.n' 8 rfl (V.K' ad rfl VF ag.len Z) ?_;refine ae 2 9 ?_;refine af.n' 11 rfl (V.E' ad (k:=p) rfl rfl rfl rfl ac) ?_;refine af.n' 12 rfl (V.K' ad rfl VF ag.len C) ?_;refine af.y' 13 rfl (aw.Wl K rfl rfl VH ?_);refine au ?_;refine ae 3 14 ?_;refine aa 2 ?_;refine R4 (λk=>?_) λk=>?_;rintro _ _⟨Z,N,z,K,E,rfl,rfl⟩;refine aa 13 ?_;rotate_left;refine au ?_;rotate_left
   .refine Out.C' h (_,b,J,_,_,_) ⟨by show _<=b;assumption,T,?_,F,X,?_⟩ ?_
    .show b-_<=f;omega
    .exact mW VV m
    .show b-_<b-a;omega
   .exact Out.C' i () trivial trivial
  .refine au ?_;refine ah.p' ?_ aC.d'.d';refine ae 3 0 ?_;refine bK 83 ?_;refine ae 14 3 ?_;refine aa 4 ?_;exact Out.C' i () trivial trivial
 rintro⟨⟩-;refine bh ?_;refine aa 8 ?_;rintro _ _⟨j,r,Y,o,d,z,rfl,rfl⟩;refine aa 14 ?_;have i:j.Perm l:=mW VV m;have x:j.length=n:=by rw[i.length_eq,D]
 have p:((r:Int)-(a:Int))=((r-a:Nat):Int):=ac
 have U:((b:Int)-(r:Int))=((b-r:Nat):Int):=ac
 have w:((r:Int)+1)=((r+1:Nat):Int):=ac
 by_cases l:r-a<b-r
 .have W:=L a r J j x ac ac ac F X;refine aa 4 ?_;refine ai.v (V.VX p rfl rfl ac) ?_;refine aa 2 ?_;refine ai.v (V.VX U rfl rfl ac) ?_;refine aa 35 ?_;rintro _ _⟨N,d,rfl,rfl⟩;refine aa 5 ?_;refine ai.v (V.V4 w rfl rfl ac) ?_;refine aa 3 ?_;rotate_left;refine Out.C' h (r+1,b,J,_,Y,_) ⟨by show r+1<=b;omega,T,by show b-(r+1)<=f;omega,F,X,?_⟩ (by show b-(r+1)<b-a;omega);exact mW VV i
 .have W:=L (r+1) b J j x ac ac ac F X;refine aa 4 ?_;refine ai.v (V.VX p rfl rfl ac) ?_;refine aa 2 ?_;refine ai.v (V.VX U rfl rfl ac) ?_;refine aa 31 ?_;refine ai.v (V.V4 w rfl rfl ac) ?_;refine aa 4 ?_;rintro _ _⟨M,d,rfl,rfl⟩;refine aa 8 ?_;refine Out.C' h (a,r,J,_,Y,_) ⟨by show a<=r;omega,by show r<=n;omega,by show r-a<=f;omega,F,X,?_⟩ (by show r-a<b-a;omega);exact mW VV i
def DL(g Q:Nat)(l:ab ag)(y:l.length<=1000000)(E:ay)(C:aj)(N:ag->ag->Int)(q:m4 C E N):ar prog 107 [.slice (some ⟨g,0,none⟩) l.length Q,C] [eS g l.length Q l,E] (λr J=>∃f:ab ag,f.Perm l/\r=.tuple #[]/\J=[eS g l.length Q f,E]):=by
 have D:=DJ l.length ac;have p:Go.IntKind.u64.wrap ((l.length:Nat):Int)=((l.length:Nat):Int):=Ua
 have c:dH prog 151 [.int .u64 (Go.IntKind.u64.wrap ((l.length:Nat):Int))] (I (Go.Lib.bitLen l.length:Nat)):=by rw[p];exact D
 have K:Go.Lib.bitLen l.length<=64:=Go.Lib.bitLen_le _ 64 (cx _) ac;have G:=aeR g l.length Q y E C N q l.length 0 l.length (Go.Lib.bitLen l.length:Nat) l rfl (cG _) (cx _) (cx _) ac ac;unfold eS at*;refine aF func107 λW=>?_;refine aa 11 ?_;refine ai.v (V.XB ad) ?_;refine aa 3 ?_;rintro _ _⟨K,E,rfl,rfl⟩;refine aa 3 ?_;refine⟨_,_,⟨_,?_,rfl,rfl⟩,VH⟩;assumption
def PO(C:aj)(Y:C.oneCell'=true):ar prog 107 [.slice none 0 0,C] [] (λr J=>r=.tuple #[]/\J=[]):=by
 have l:ar prog 207 [.slice none 0 0,I 0,I 0,C] [] (λr J=>r=.tuple #[]/\J=[]):=by refine aF func207 λW=>?_;refine aa 8 ?_;refine ah.cq [] (λ_:Unit=>True) (λ_=>[(8,I 1),(2,I 0)]) (λ_=>[]) (λ_=>0) () trivial ?_;rintro⟨⟩-K i;clear i;refine bh ?_;exact aQ 14
 have G:ar prog 150 [.slice none 0 0,I 0,I 0,I 0,C] [] (λr J=>r=.tuple #[]/\J=[]):=by refine aF func150 λW=>?_;refine aa 11 ?_;refine ah.cq [] (λ_:Unit=>True) (λ_=>[(0,.slice none 0 0),(1,I 0),(2,I 0),(4,C)]) (λ_=>[]) (λ_=>0) () trivial ?_;rintro⟨⟩-K i;clear i;refine bh ?_;exact aQ 33
 have E:dH prog 151 [.int .u64 (Go.IntKind.u64.wrap (0:Int))] (I 0):=DJ 0 ac;refine aF func107 λW=>?_;refine aa 11 ?_;refine ai.v (V.XB ad) ?_;exact aQ 6
def qd(st:Int)(o:aT aD)(m:aD):aT aD:=if decide (m.Status=st)&&(match o with|none=>true|some a=>fY a.bZ m.bZ)then some m else o
def am(st:Int)(N:ab aD):aT aD:=N.foldl (qd st) none
def IP(st N x):am st (N++[x])=qd st (am st N) x:=by simp[am]
def DM(st:Int)(N:ab aD)(i:Nat)(m:aD):Prop:=N[i]?=some m/\m.Status=st/\∀k o,N[k]?=some o->o.Status=st->fY m.bZ o.bZ=false/\¬(m.bZ=o.bZ/\k<i)
def PP{a b c:bp}(Y:fY a b=true)(Z:fY b c=true):fY a c=true:=by rw[yc]at*;omega
def DN{N:ab aD}{x o:aD}{k:Nat}(h:(N++[x])[k]?=some o):N[k]?=some o/\k<N.length\/k=N.length/\o=x:=by
 rcases Nat.lt_trichotomy k N.length with T|T|T
 .rw[pU T]at h;exact .inl ⟨h,T⟩
 .subst T;rw[iC (cx _)]at h;simp at h;exact .inr ⟨rfl,h.symm⟩
 .rw[qE VG]at h;cases h
def DO(st:Int)(N:ab aD):match am st N with|none=>∀m∈N,m.Status≠st|some a=>∃i,DM st N i a:=by
 suffices h:∀G:ab aD,match am st G.reverse with|none=>∀m∈G.reverse,m.Status≠st|some a=>∃i,DM st G.reverse i a by have:=h N.reverse;rwa[List.reverse_reverse]at this
 intro G;induction G with
 |nil=>simp[am]
 |cons y G X=>
  rw[List.reverse_cons,IP];generalize G.reverse=r at*;cases v:am st r with
  |none=>
   rw[v]at X;simp only at X;by_cases C:y.Status=st
   .simp only[qd,C,AH,Bool.and_self,ik];refine⟨r.length,VK,C,λk o T p=>?_⟩;rcases DN T with⟨Y,_⟩|⟨Y,Z⟩
    .exact absurd p (X o (im Y))
    .rw[Z];exact⟨C0,ac⟩
   .simp only[qd,C,uV,tP,h8,iH];intro m K;rcases eh.1 K with h|h
    .exact X m h
    .rw[fF.1 h];exact C
  |some a=>
   rw[v]at X;simp only at X;obtain⟨i,s,M,u⟩:=X;have Q:=(cF.1 s).1;by_cases C:y.Status=st/\fY a.bZ y.bZ=true
   .simp only[qd,C.1,C.2,AH,Bool.and_self,ik];refine⟨r.length,VK,C.1,λk o T p=>?_⟩;rcases DN T with⟨Y,D⟩|⟨Y,Z⟩
    .have n:=(u k o Y p).1;refine⟨?_,?_⟩
     .cases aV:fY y.bZ o.bZ with
      |false=>rfl
      |true=>rw[PP C.2 aV]at n;cases n
     .rintro⟨t,_⟩;rw[<-t,C.2]at n;cases n
    .rw[Z];exact⟨C0,ac⟩
   .have l:(decide (y.Status=st)&&fY a.bZ y.bZ)=false:=by rw[<-mh,c1,cO];exact C
    simp only[qd,l,h8,iH];refine⟨i,by rw[pU Q];exact s,M,λk o T p=>?_⟩;rcases DN T with⟨Y,D⟩|⟨Y,Z⟩
    .exact u k o Y p
    .rw[Z]at p⊢;refine⟨?_,ac⟩;cases aV:fY a.bZ y.bZ with
     |false=>rfl
     |true=>exact absurd ⟨p,aV⟩ C
def PQ(e:ay)(n:aT Go.Addr)(Q b off:Nat)(N:ab aD)(st:Int)(f:Rd e n N.length b off 25 (N.map aD.c)):ar prog 282 [.slice n N.length Q,I st] [e] (λr J=>r=.tuple #[A ((am st N).getD aD.z).c,B (am st N).isSome]/\J=[e]):=by
 have F:=f.small;simp only[Go.maxLen]at F;refine aF func282 λW=>?_;refine aq 2 λq=>?_;refine aq 5 λm=>?_;refine aa 16 ?_;refine ah.cq [11,10,6,4,1] (λi:Nat=>i<=N.length) (λi=>[(12,I (i:Int)),(7,B (am st (N.take i)).isSome)]) (λi=>[cells m 176 ((am st (N.take i)).getD aD.z).c]) (λi=>N.length-i) 0 (cG _) ?_;rintro i Y K l;refine bh ?_;by_cases k:i<N.length
 .obtain⟨x,U⟩:=cl k;have p:=mm U;have h:am st (N.take (i+1))=qd st (am st (N.take i)) x:=by rw[p,IP]
  generalize am st (N.take i)=o at*;cases o with
  |none=>
   by_cases E:x.Status=st
   .have j:am st (N.take (i+1))=some x:=by rw[h];simp[qd,E]
    refine aq 15 λs=>?_;refine aa 35 ?_;rotate_left;all_goals exact Out.C' l (i+1) VU VB (j:=Ny) (g:=U4)
   .have j:am st (N.take (i+1))=none:=by rw[h];simp[qd,E]
    refine aq 15 λs=>?_;refine aa 31 ?_;rotate_left;all_goals exact Out.C' l (i+1) VU VB (j:=Ny) (g:=U4)
  |some a=>
   by_cases E:x.Status=st
   .have y:=u1 a.bZ x.bZ;cases X:fY a.bZ x.bZ with
    |true=>
     rw[X]at y;have j:am st (N.take (i+1))=some x:=by rw[h];simp[qd,E,X]
     refine aq 15 λs=>?_;refine aa 36 ?_;rotate_left;all_goals exact Out.C' l (i+1) VU VB (j:=Ny) (g:=U4)
    |false=>
     rw[X]at y;have j:am st (N.take (i+1))=some a:=by rw[h];simp[qd,E,X]
     refine aq 15 λs=>?_;refine aa 32 ?_;rotate_left;all_goals exact Out.C' l (i+1) VU VB (j:=Ny) (g:=U4)
   .have j:am st (N.take (i+1))=some a:=by rw[h];simp[qd,E]
    refine aq 15 λs=>?_;refine aa 31 ?_;rotate_left;all_goals exact Out.C' l (i+1) VU VB (j:=Ny) (g:=U4)
 .obtain rfl:i=N.length:=by omega
  rw[iI];clear l;exact aQ 22
def DP(st:Int)(m:aD)(i:Nat)(o:aD)(k:Nat):Bool:=decide (o.Status=st)&&(fY m.bZ o.bZ||(decide (m.bZ=o.bZ)&&decide (k<i)))
def adV{st:Int}{N:ab aD}{i:Nat}{m:aD}(U:N[i]?=some m)(E:m.Status=st):DM st N i m↔∀k,k<N.length->∀o,N[k]?=some o->DP st m i o k=false:=by
 constructor
 .rintro⟨_,_,h⟩ k _ o a;unfold DP;by_cases Y:o.Status=st
  .have Z:=h k o a Y;rw[Z.1];have D:=Z.2;by_cases n:m.bZ=o.bZ
   .have:¬k<i:=λt=>D ⟨n,t⟩;simp[this]
   .simp[n]
  .simp[Y]
 .intro h;refine⟨U,E,λk o a Y=>?_⟩;have Z:=h k (cF.1 a).1 o a;unfold DP at Z;simp only[Y,AH,qB,yI,G1,jW]at Z;refine⟨Z.1,λ⟨D,n⟩=>?_⟩;rcases Z.2 with t|t
  .exact t D
  .exact t n
def kK(x:ag)(m:aD):Bool:=decide (m.Status=1)&&(m.cZ&&decide (m.bZ=⟨0,x.a1⟩))
def lM(x:ag)(N:ab aD):ab aD:=if N.any (λm=>decide (m.bc=x.a1))then[]else N.filter (kK x)
def AI(e:ay)(n:aT Go.Addr)(Q b off:Nat)(N:ab aD)(x:ag)(U:N.length<=1000)(f:Rd e n N.length b off 25 (N.map aD.c)):ar prog 283 [A x.c,.slice n N.length Q] [e] (λr J=>∃v,r=v/\J=[rows aD.c v 176 25 (lM x N),e]):=by
 refine aF func283 λW=>?_;refine ah.V5 aD.c 176 25 ?_;refine ah.V5 aD.c 176 25 ?_;refine aq 2 λX=>?_;refine aa 17 ?_;refine ah.cq [9,8,2] (λy:Nat×aj=>y.1<=N.length/\(N.take y.1).any (λm=>decide (m.bc=x.a1))=false) (λy=>[(10,I (y.1:Int)),(5,y.2)]) (λy=>[rows aD.c y.2 176 25 ((N.take y.1).filter (kK x))]) (λy=>N.length-y.1) (0,.slice none 0 0) ⟨cG _,rfl⟩ ?_;rintro⟨i,v⟩⟨T,w⟩ K l;dsimp only at T w;refine bh ?_;by_cases k:i<N.length
 .obtain⟨m,F⟩:=cl k;have p:=mm F;by_cases s:m.bc=x.a1
  .have j:lM x N=[]:=by unfold lM;rw[aJ];rw[List.any_eq_true];exact⟨m,im F,by simpa using s⟩
   rw[j];refine aq 15 λL=>?_;exact aQ 27
  .have M:(N.take (i+1)).any (λm=>decide (m.bc=x.a1))=false:=by rw[p,List.any_append,w];simp[s]
   have E:=z8 x.a1;have P:((N.take i).filter (kK x)).length<=1000:=iB (rC _ _) Pq;cases z:kK x m with
   |true=>
    have C:(N.take (i+1)).filter (kK x)=(N.take i).filter (kK x)++[m]:=by rw[p,nA];simp[z]
    unfold kK at z;simp only[c1,cO]at z;obtain⟨Y,Z,D⟩:=z;refine Rb λL=>?_;refine ae 4 4 ?_;refine af.aX 26 (λu=>?_) (λu=>?_);refine ae 5 8 ?_;refine af.n' 13 rfl (V.eq (bp.Y' _ _ _)) ?_;refine ae 1 14 ?_;refine aq 6 λR=>?_;refine ai.o (O.Z' ad rfl rfl Vz (cz.one ad VF aD.J') (λd g=>?_));refine aa 8 ?_;rotate_left;exact absurd (i7 (iL u) VV:false=true) VI;all_goals exact Out.C' l (i+1,_) ⟨VU,M⟩ VB (g:=Q1)
   |false=>
    have C:(N.take (i+1)).filter (kK x)=(N.take i).filter (kK x):=by rw[p,nA];simp[z]
    unfold kK at z;simp only[G1,jW]at z;by_cases Y:m.Status=1
    .cases Z:m.cZ with
     |false=>
      refine Rb λL=>?_;refine ae 4 4 ?_;refine af.aX 26 (λq=>?_) (λq=>?_);exact absurd (i7 (iL q) VV:true=false) VI;refine ae 7 8 ?_;refine aa 10 ?_;rotate_left;all_goals exact Out.C' l (i+1,v) ⟨VU,M⟩ VB (g:=Q1)
     |true=>
      have D:¬m.bZ=⟨0,x.a1⟩:=by
       rcases z with h|h|h
       .exact absurd Y h
       .rw[Z]at h;cases h
       .exact h
      refine Rb λL=>?_;refine ae 4 4 ?_;refine af.aX 26 (λG=>?_) (λG=>?_);refine ae 5 8 ?_;refine af.n' 13 rfl (V.eq (bp.Y' _ _ _)) ?_;refine ae 1 14 ?_;refine aa 10 ?_;rotate_left;exact absurd (i7 (iL G) VV:false=true) VI;all_goals exact Out.C' l (i+1,v) ⟨VU,M⟩ VB (g:=Q1)
    .refine Rb λL=>?_;refine ae 11 4 ?_;refine aa 10 ?_;rotate_left;all_goals exact Out.C' l (i+1,v) ⟨VU,M⟩ VB (g:=Q1)
 .obtain rfl:i=N.length:=by omega
  rw[iI]at w⊢;have j:lM x N=N.filter (kK x):=by unfold lM;rw[w];rfl
  rw[j];clear l;exact aQ 20
end Go.Proofs.YteogojgnkjegmaaGreatDoor
