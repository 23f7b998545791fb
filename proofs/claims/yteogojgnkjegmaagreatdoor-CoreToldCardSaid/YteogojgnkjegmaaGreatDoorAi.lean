/-
 Part of the proof.
-/
import Derived.Test.YteogojgnkjegmaaGreatDoorAg
import Derived.Test.YteogojgnkjegmaaGreatDoorAh
set_option linter.all false
set_option maxRecDepth 8000
set_option maxHeartbeats 8000000
namespace Go.Proofs.YteogojgnkjegmaaGreatDoor
open Go.az Go.Proofs.Tryz
variable{k:Nat}{n m:Int}
def b4.l(x:b4):ab Int:=[x.fE,x.c5,x.bx,x.fL,x.pj,x.k0,x.pm]
variable{d:b4}
def nz(l:ab Int):ab aj:=l.map λn=>I n
def b4.XN(x:b4):x.c=nz x.l:=rfl
def lA(a b:b4):b4:=⟨Max.max a.fE b.fE,Max.max a.c5 b.c5,Max.max a.bx b.bx,Max.max a.fL b.fL,Max.max a.pj b.pj,Max.max a.k0 b.k0,Max.max a.pm b.pm⟩
def rz(a b:b4)(k:Nat):ab Int:=(lA a b).l.take k++a.l.drop k
def b4.Wk(a:b4):a.l.length=7:=rfl
def aiM(a b:b4)(k:Nat):(rz a b k).length=7:=by unfold rz;rw[bQ,e8,jn,b4.Wk,b4.Wk];omega
def ag8(a b:b4):rz a b 7=(lA a b).l:=rfl
def Hx(a b:b4)(T:k<7):∃x y,a.l[k]?=some x/\b.l[k]?=some y/\(lA a b).l[k]?=some (Max.max x y):=by rcases(by omega:k=0\/k=1\/k=2\/k=3\/k=4\/k=5\/k=6)with h|h|h|h|h|h|h<;>subst h<;>exact⟨_,_,rfl,rfl,rfl⟩
def ahT(a b:b4)(T:k<7):(rz a b k)[k]?=a.l[k]?:=by unfold rz;rw[iC (by rw[e8,b4.Wk];omega),e8,b4.Wk,l0];congr 1;omega
def alf(a b:b4){v:Int}(T:k<7)(t:(lA a b).l[k]?=some v):(rz a b k).set k v=rz a b (k+1):=by unfold rz;rw[List.set_append,aG (by rw[e8,b4.Wk];omega),oC,t,e8,b4.Wk];rw[show k-Min.min k 7=0 by omega];have:a.l.drop k=a.l[k]'(by rw[b4.Wk];exact T)::a.l.drop (k+1):=wF _;rw[this,Gs];simp
def Hy{l:ab Int}{x:Int}(h:l[k]?=some x):(nz l)[0+k*1]?=some (I x):=by rw[p3,h4,nz,h5,h];rfl
theorem Dj{l:ab Int}{x:Int}(h:k<l.length):bH (0+k*1) [I x] (nz l) (nz (l.set k x)):=⟨by rw[p3,h4,ey,nz,nz,List.map_set,yk,aJ VR];simp⟩
def Hz{l:ab Int}(h:k<l.length):Nat.blt (0+k*1) (nz l).length=true:=by rw[nr,nz,dZ];omega
def oM(N:ab b4):b4:=N.foldl lA b4.z
def ajO(N:ab b4)(x:b4):oM (N++[x])=lA (oM N) x:=by simp[oM]
def Nr(e:ay)(n:aT Go.Addr)(Q b off:Nat)(N:ab b4)(f:Rd e n N.length b off 7 (N.map b4.c)):ar prog 247 [.slice n N.length Q] [e] (λr J=>r=A (oM N).c/\J=[e]):=by
 have F:=f.small;simp only[Go.maxLen]at F;refine aF func247 λW=>?_;refine aq 2 λC=>?_;refine aq 4 λZ=>?_;refine aa 11 ?_;refine ah.cq [9,8,3,2] (λy:Nat=>y<=N.length) (λy=>[(10,I (y:Int))]) (λy=>[cells Z 50 (oM (N.take y)).c]) (λy=>N.length-y) 0 (cG _) ?_;rintro i am K l;refine bh ?_;by_cases s:i<N.length
 .obtain⟨x,U⟩:=cl s;have p:=mm U;have h:oM (N.take (i+1))=lA (oM (N.take i)) x:=by rw[p,ajO]
  generalize oM (N.take i)=a at*;refine aq 15 λM=>?_;refine aa 10 ?_;rotate_left;refine ah.cq [14,10,9,8,3,2] (λk:Nat=>k<=7) (λk=>[(15,I (k:Int))]) (λk=>[cells Z 50 (nz (rz a x k))]) (λk=>7-k) 0 (cG _) ?_;intro k T L m;refine bh ?_;by_cases X:k<7
  .obtain⟨u,v,Y,t,D⟩:=Hx a x X;have q:(rz a x k)[k]?=some u:=by rw[ahT a x X,Y]
   have E:=aiM a x k;have w:x.c[k]?=some (I v):=by rw[b4.XN,nz,h5,t];rfl
   refine aa 14 ?_;refine ai.v (V.Yd ad rfl rfl w X) ?_;refine aa 7 ?_;refine ai.v (V.V6 ad (k:=k) rfl rfl rfl) ?_;refine ai.v (V.F' ad (z:=Hy q)) ?_;refine aa 2 ?_;refine ai.v (V.V6 ad (k:=k) rfl rfl rfl) ?_;refine ai.o (O.O' ad ?_ (j:=Hz ac) (i:=Dj ac));refine aa 7 ?_;rotate_left;exact Out.C' m (k+1) ac Mn (g:=by rw[<-alf a x X D];(repeat(first|exact ak.nil|exact al.here|apply ak.cons|apply al.there)))
  .obtain rfl:k=7:=by omega
   rw[ag8];refine aa 17 ?_;exact Out.C' l (i+1) VU VB (g:=by rw[h,b4.XN (lA a x)];(repeat(first|exact ak.nil|exact al.here|apply ak.cons|apply al.there)))
 .obtain rfl:i=N.length:=by omega
  rw[iI];clear l;exact aQ 20
def akm(T:k<7):b4.z.l[k]?=some 0:=by rcases(by omega:k=0\/k=1\/k=2\/k=3\/k=4\/k=5\/k=6)with h|h|h|h|h|h|h<;>subst h<;>rfl
def wG(c d:aO):aO:={c with eX:=oM [c.eX,d.eX],Seq:=Max.max c.Seq d.Seq}
def n4(c:aO)(N:ab aO):aO:=N.foldl wG {c with eX:=oM [c.eX,c.eX]}
def ajm(c:aO)(N:ab aO)(x:aO):n4 c (N++[x])=wG (n4 c N) x:=by simp[n4]
def wH(e:ay)(n:aT Go.Addr)(Q b off:Nat)(c:aO)(N:ab aO)(f:Rd e n N.length b off 14 (N.map aO.c)):ar prog 202 [A c.c,.slice n N.length Q] [e] (λr J=>r=A (n4 c N).c/\J=[e]):=by
 have F:=f.small;simp only[Go.maxLen]at F;have Z (x y:b4) (g:Nat):ar prog 247 [.slice (some ⟨g,0,none⟩) 2 2] [rows b4.c (.slice (some ⟨g,0,none⟩) 2 2) 50 7 [x,y]] (λr J=>r=A (oM [x,y]).c/\J=[rows b4.c (.slice (some ⟨g,0,none⟩) 2 2) 50 7 [x,y]]):=
  Nr _ _ 2 _ _ [x,y] (Rd.rows (l:=[x,y]) b4.len VK)
 refine aF func202 λW=>?_;refine aq 2 λY=>?_;refine aq 0 λq=>?_;refine aa 8 ?_;refine ai.o (O.V' ad b4.c [_,_] rfl (bP.agg rfl (bP.agg rfl bP.nil)) rfl rfl (λP=>?_));refine ai.x' rfl (Z _ _ _) ?_;refine aa 14 ?_;refine ah.cq [15,14,4,2] (λi:Nat=>i<=N.length) (λi=>[(16,I (i:Int))]) (λi=>[cells Y 52 (n4 c (N.take i)).c]) (λi=>N.length-i) 0 (cG _) ?_;rintro i am K k;refine bh ?_;by_cases s:i<N.length
 .obtain⟨x,U⟩:=cl s;have p:=mm U;have h:n4 c (N.take (i+1))=wG (n4 c (N.take i)) x:=by rw[p,ajm]
  generalize n4 c (N.take i)=a at*;refine aq 15 λm=>?_;refine aa 3 ?_;refine ah.V9 [12,14] ?_ aC.j.j.j.d'.d' aC.j.j.j.j.d';refine ae 1 0 ?_;refine ae 2 2 ?_;refine ae 1 6 ?_;refine ae 2 8 ?_;refine af.t 1 rfl (V.WG ad) ?_;refine af.t 7 rfl (V.F' ad) ?_;refine ae 1 10 ?_;refine af.y' 4 rfl (O.V' ad b4.c [_,_] rfl (bP.agg rfl (bP.agg rfl bP.nil)) rfl rfl (λM=>?_));refine au ?_;refine af.x' 5 rfl rfl (Z _ _ _) ?_;refine aa 2 ?_;refine ae 1 11 ?_;refine af.l 12 rfl (O.XD ad ?_);refine au ?_;refine ae 1 13 ?_;refine af.l 14 rfl (O.O' ad ?_);refine aa 8 ?_;rotate_left;all_goals exact Out.C' k (i+1) VU VB (g:=aen)
 .obtain rfl:i=N.length:=by omega
  rw[iI];clear k;exact aQ 20
def j1(b:Nat)(n d:Int)(x:ab aS)(W:0<=n)(Y:n<=d)(K:d<=9223372036854775807)(g:x.length<=1000000000):ar prog 190 [av b 0,I d] [cells b 306 (fd.c ⟨bL n++x,false⟩)] (λr J=>r=I n/\J=[cells b 306 (fd.c ⟨x,false⟩)]):=by have u:=fG (n:=n) ac;have h:=Ag b ⟨bL n++x,false⟩ d QT;rw[Dh ac,aG ac,HA W]at h;exact h
def HB(b:Nat)(t:ab aS)(d:Int)(x:ab aS)(Y:(t.length:Int)<=d)(K:d<=1000000000)(g:x.length<=100000000):ar prog 269 [av b 0,I d] [cells b 306 (fd.c ⟨bL (t.length:Int)++(t++x),false⟩)] (λr J=>r=S t/\J=[cells b 306 (fd.c ⟨x,false⟩)]):=by
 have u:=fG (n:=(t.length:Int)) ac;have h:=amb b ⟨bL (t.length:Int)++(t++x),false⟩ d QT;have e:Ah ⟨bL (t.length:Int)++(t++x),false⟩ d=(t,⟨x,false⟩):=by unfold Ah;rw[Dh ac,aG ac,HA ac];rw[Di VK];simp
 rw[e]at h;exact h
def Dk(b:Nat)(y:Bool)(x:ab aS)(g:x.length<=1000000000):ar prog 196 [av b 0] [cells b 306 (fd.c ⟨bL (if y then 1 else 0)++x,false⟩)] (λr J=>r=B y/\J=[cells b 306 (fd.c ⟨x,false⟩)]):=by
 generalize m:(if y then(1:Int)else 0)=n;have T:0<=n/\n<=1:=by subst m;cases y<;>decide
 have u:=fG (n:=n) ac;have h:=afI b ⟨bL n++x,false⟩ QT;rw[Dh ac,aG ac,HA T.1]at h;have e:decide (n=1)=y:=by subst m;cases y<;>rfl
 rw[e]at h;exact h
def kr(x:ag):ab aS:=bL x.a1++bL x.bX
def iJ(x:bp):ab aS:=bL x.Round++bL x.a1
def yl(b:Nat)(v:aj)(N:ab aS)(x:ag)(Y:x.a1<=9223372036854775807)(Z:x.bX<=9223372036854775807)(U:N.length<=900000):ar prog 171 [av b 0,A x.c] [cells b 231 (gB.c ⟨v⟩),rows dL v 5 1 N] (λr J=>∃L,r=.tuple #[]/\J=[cells b 231 (gB.c ⟨L⟩),rows dL L 5 1 (N++kr x)]):=by
 unfold kr;refine aF func171 λW=>?_;refine aq 2 λx=>?_;refine aq 8 λa=>?_;refine ai.x' rfl (Hg _ _ _ _ _ _ ?_ ?_ ?_) ?_;iterate 3 exact co
 rintro _ _⟨C,rfl,rfl⟩;exact aQ 3
def ym(b:Nat)(x:ag)(Y:ab aS)(G:bt x 7=true)(g:Y.length<=100000000):ar prog 194 [av b 0] [cells b 306 (fd.c ⟨kr x++Y,false⟩)] (λr J=>r=A x.c/\J=[cells b 306 (fd.c ⟨Y,false⟩)]):=by
 obtain⟨d,h,P,u⟩:0<=x.a1/\x.a1<7/\1<=x.bX/\x.bX<=64:=by simp only[bt,c1,cO]at G;omega
 have o:=fG (n:=x.bX) ac;unfold kr;rw[ck];refine aF func194 λW=>?_;refine aq 2 λx=>?_;refine aa 5 ?_;refine ai.x' rfl (j1 _ _ _ _ ?_ ?_ ?_ ?_) ?_;iterate 4 exact co
 refine aa 2 ?_;refine ai.x' rfl (j1 _ _ _ _ ?_ ?_ ?_ ?_) ?_;iterate 4 exact co
 exact aQ 7
def u4(b:Nat)(v:aj)(N:ab aS)(x:bp)(Y:x.Round<=9223372036854775807)(Z:x.a1<=9223372036854775807)(U:N.length<=900000):ar prog 172 [av b 0,A x.c] [cells b 231 (gB.c ⟨v⟩),rows dL v 5 1 N] (λr J=>∃L,r=.tuple #[]/\J=[cells b 231 (gB.c ⟨L⟩),rows dL L 5 1 (N++iJ x)]):=aer b v N x Y Z U
def k4{b:bp}(h:cX b n=true):0<=b.Round/\b.Round<=1099511627776/\0<=b.a1/\b.a1<n:=by simpa[cX]using h
def u5(b:Nat)(x:bp)(Y:ab aS)(G:cX x 7=true)(g:Y.length<=100000000):ar prog 195 [av b 0] [cells b 306 (fd.c ⟨iJ x++Y,false⟩)] (λr J=>r=A x.c/\J=[cells b 306 (fd.c ⟨Y,false⟩)]):=by
 obtain⟨d,h,P,u⟩:=k4 G;have o:=fG (n:=x.a1) ac;unfold iJ;rw[ck];refine aF func195 λW=>?_;refine aq 2 λx=>?_;refine aa 5 ?_;refine ai.x' rfl (j1 _ _ _ _ ?_ ?_ ?_ ?_) ?_;iterate 4 exact co
 refine aa 2 ?_;refine ai.x' rfl (j1 _ _ _ _ ?_ ?_ ?_ ?_) ?_;iterate 4 exact co
 exact aQ 7
def ps(d:bF):ab aS:=bL d.Kind++(bL (d.Key.length:Int)++(d.Key++(bL (d.Value.length:Int)++(d.Value++(bL d.Version++(bL d.c3++bL d.Number))))))
def yn(b:Nat)(v:aj)(N:ab aS)(m n o:Int)(g:Nat)(K:m<=9223372036854775807)(h:n<=9223372036854775807)(a:o<=9223372036854775807)(U:N.length<=900000):ar prog 170 [av b 0,.slice (some ⟨g,0,none⟩) 3 3] [cells b 231 (gB.c ⟨v⟩),rows dL v 5 1 N,row (.slice (some ⟨g,0,none⟩) 3 3) 3 1 3 [I m,I n,I o]] (λr J=>∃L,r=.tuple #[]/\J=[cells b 231 (gB.c ⟨L⟩),rows dL L 5 1 (N++(bL m++(bL n++bL o))),row (.slice (some ⟨g,0,none⟩) 3 3) 3 1 3 [I m,I n,I o]]):=by have:=Ad b v N [m,n,o] _ _ 3 g 0 (Rd.lits (E:=3) (z:=3) uO [m,n,o] rfl rfl (λ_=>rfl) VK) (by intro q aV;simp at aV;rcases aV with rfl|rfl|rfl<;>assumption) VG;exact L2
def tO{d:bF}(h:dh d):0<=d.Kind/\d.Kind<=5/\d.Key.length<=16/\d.Value.length<=32/\0<=d.Version/\d.Version<=1099511627776/\0<=d.c3/\d.c3<=1099511627776/\0<=d.Number/\d.Number<=1099511627776:=by unfold dh at h;omega
def akt(b:Nat)(v:aj)(N:ab aS)(d:bF)(m:dh d)(U:N.length<=700000):ar prog 230 [av b 0,A d.c] [cells b 231 (gB.c ⟨v⟩),rows dL v 5 1 N] (λr J=>∃L,r=.tuple #[]/\J=[cells b 231 (gB.c ⟨L⟩),rows dL L 5 1 (N++ps d)]):=by
 obtain⟨Y,Z,D,n,t,b,w,a,z,s⟩:=tO m;have o:=fG (n:=d.Kind) ac;have Y:=fG (n:=(d.Key.length:Int)) ac;have K:=fG (n:=(d.Value.length:Int)) ac;have e:N++bL d.Kind++(bL (d.Key.length:Int)++d.Key)++(bL (d.Value.length:Int)++d.Value)++(bL d.Version++(bL d.c3++bL d.Number))=N++ps d:=by simp only[ps,ck]
 rw[<-e];refine aF func230 λW=>?_;refine aq 2 λx=>?_;refine aq 7 λo=>?_;refine ai.x' rfl (rv _ _ _ _ _ ?_ ?_) ?_;iterate 2 exact co
 rintro _ _⟨J,rfl,rfl⟩;refine aa 8 ?_;refine ai.x' rfl (Hh _ _ _ _ ?_) ?_;exact co;rintro _ _⟨v,rfl,rfl⟩;refine aa 8 ?_;refine ai.x' rfl (Hh _ _ _ _ ?_) ?_;exact co;rintro _ _⟨u,rfl,rfl⟩;refine aq 11 λx=>?_;refine ai.x' rfl (yn _ _ _ _ _ _ _ ?_ ?_ ?_ ?_) ?_;iterate 4 exact co
 rintro _ _⟨N,rfl,rfl⟩;exact aQ 3
def agm(b:Nat)(d:bF)(x:ab aS)(m:dh d)(g:x.length<=10000000):ar prog 244 [av b 0] [cells b 306 (fd.c ⟨ps d++x,false⟩)] (λr J=>r=A d.c/\J=[cells b 306 (fd.c ⟨x,false⟩)]):=by
 obtain⟨Y,Z,D,n,t,b,w,a,z,s⟩:=tO m;have K:=fG (n:=(d.Value.length:Int)) ac;have b:=fG (n:=d.Version) ac;have F:=fG (n:=d.c3) ac;have Y:=fG (n:=d.Number) ac;have Y:=fG (n:=(d.Key.length:Int)) ac;have T:dH prog 54 [A d.c] (B true):=by have:=Ak d;rwa[oL,iq m]at this
 unfold ps;simp only[ck];refine aF func244 λW=>?_;refine aq 2 λx=>?_;refine aa 5 ?_;refine ai.x' rfl (j1 _ _ _ _ ?_ ?_ ?_ ?_) ?_;iterate 4 exact co
 refine aa 2 ?_;refine ai.x' rfl (HB _ _ _ _ ?_ ?_ ?_) ?_;iterate 3 exact co
 refine aa 2 ?_;refine ai.x' rfl (HB _ _ _ _ ?_ ?_ ?_) ?_;iterate 3 exact co
 refine aa 2 ?_;refine ai.x' rfl (j1 _ _ _ _ ?_ ?_ ?_ ?_) ?_;iterate 4 exact co
 refine aa 2 ?_;refine ai.x' rfl (j1 _ _ _ _ ?_ ?_ ?_ ?_) ?_;iterate 4 exact co
 refine aa 2 ?_;refine ai.x' rfl (j1 _ _ _ _ ?_ ?_ ?_ ?_) ?_;iterate 4 exact co
 refine aq 2 λx=>?_;refine aa 7 ?_;refine ai.x' rfl (Ae _ _) ?_;exact aQ 19
def j2(n:Int)(k:Nat)(m:Int):Bool:=decide (0<=m)&&decide (m<=64)&&(decide ((k:Int)<n)||decide (m=0))
def ga(d:b4)(n:Int):Bool:=j2 n 0 d.fE&&j2 n 1 d.c5&&j2 n 2 d.bx&&j2 n 3 d.fL&&j2 n 4 d.pj&&j2 n 5 d.k0&&j2 n 6 d.pm
def su:ga d n=true↔∀(k:Nat) (m:Int),d.l[k]?=some m->j2 n k m=true:=by
 constructor
 .intro h k m T;simp only[ga,c1]at h;have u:k<7:=by have:=(cF.1 T).1;rwa[b4.Wk]at this
  rcases(by omega:k=0\/k=1\/k=2\/k=3\/k=4\/k=5\/k=6)with e|e|e|e|e|e|e<;>subst e<;>cases T<;>simp[h]
 .intro h;simp only[ga,c1];exact⟨⟨⟨⟨⟨⟨h 0 _ rfl,h 1 _ rfl⟩,h 2 _ rfl⟩,h 3 _ rfl⟩,h 4 _ rfl⟩,h 5 _ rfl⟩,h 6 _ rfl⟩
def b4.abd(h:d.l[k]?=some m):d.c[k]?=some (I m):=by rw[b4.XN,nz,h5,h];rfl
def HC(d:b4)(n:Int):dH prog 147 [A d.c,I n] (B (ga d n)):=by
 refine aF func147 λW=>?_;refine aq 2 λx=>?_;refine aa 11 ?_;refine ah.cq [7,1,2] (λk:Nat=>k<=7/\∀j m,j<k->d.l[j]?=some m->j2 n j m=true) (λk=>[(8,I (k:Int))]) (λk=>[]) (λk=>7-k) 0 ⟨cG _,λ_ _ h=>absurd h (yo _)⟩ ?_;rintro k⟨T,P⟩ K i;refine bh ?_;by_cases J:k<7
 .obtain⟨m,F⟩:∃m,d.l[k]?=some m:=⟨_,hl (by rw[b4.Wk];exact J)⟩
  have U:=b4.abd F;by_cases X:j2 n k m=true
  .have R:=X;simp only[j2,c1,hc,cO]at R;have E:∀j f,j<k+1->d.l[j]?=some f->j2 n j f=true:=by
    intro j f w s;rcases Nat.lt_succ_iff_lt_or_eq.1 w with w|rfl
    .exact P j f w s
    .rw[F]at s;cases s;exact X
   refine aa 14 ?_;refine ai.v (V.Yd ad rfl rfl U J) ?_;refine aa 19 ?_;refine ai.aX (λD=>?_) (λD=>?_);refine aa 14 ?_;rotate_left;refine aa 14 ?_;rotate_left;all_goals exact Out.C' i (k+1) ⟨ac,E⟩ ac
  .have R:=X;simp only[j2,c1,hc,cO]at R;have e:ga d n=false:=by
    cases G:ga d n with
    |false=>rfl
    |true=>exact absurd (su.1 G k m F) X
   rw[e];refine aa 14 ?_;refine ai.v (V.Yd ad rfl rfl U J) ?_;refine aa 9 ?_;refine ai.aX (λY=>?_) (λY=>?_);exact aQ 27;refine RJ (λZ=>?_) λZ=>?_;exact aQ 23;exact aQ 24
 .obtain rfl:k=7:=by omega
  have e:ga d n=true:=su.2 λj m F=>P j m (by have:=(cF.1 F).1;rwa[b4.Wk]at this) F;rw[e];exact aQ 19
def e1(c:aO)(n:Int):Bool:=oL c.cv&&(ga c.eX n&&(decide (0<=c.Seq)&&decide (c.Seq<=1099511627776)))
def HD(c:aO)(n:Int):dH prog 169 [A c.c,I n] (B (e1 c n)):=by
 have Y:=Ak c.cv;have Z:=HC c.eX n;unfold e1;cases b:oL c.cv<;>rw[b]at Y
 exact Oe
 cases P:ga c.eX n<;>rw[P]at Z
 exact Oe
 refine aF func169 λW=>?_;refine aq 2 λx=>?_;refine aa 20 ?_;refine ai.aX (λf=>?_) (λf=>?_);refine aa 9 ?_
 exact Rk
 refine aa 9 ?_
 exact Rk
def pt{c:aO}(h:e1 c n=true):dh c.cv/\ga c.eX n=true/\0<=c.Seq/\c.Seq<=1099511627776:=by simp only[e1,c1,cO]at h;refine⟨?_,h.2.1,h.2.2.1,h.2.2.2⟩;have:=h.1;simpa[oL]using this
def tQ(d:b4):ab aS:=d.l.flatMap bL
def kG(c:aO):ab aS:=ps c.cv++(tQ c.eX++bL c.Seq)
def oN(h:n<=127):(bL n).length<=1:=C3 0 _ ac
def HE(l:ab Int)(h:∀m,m∈l->m<=127):(l.flatMap bL).length<=l.length:=by
 induction l with
 |nil=>simp
 |cons m l X=>
  have Y:=oN (h m VK);have Z:=X λx U=>h x Ti;rw[fW,bQ,df];omega
def u6(h:ga d n=true):∀m,m∈d.l->0<=m/\m<=64:=by intro m K;obtain⟨k,T⟩:=tB K;have:=su.1 h k m T;simp only[j2,c1,cO]at this;exact this.1
def Al(h:ga d n=true):(tQ d).length<=7:=HE d.l λm K=>by have:=u6 h m K;omega
def HF{d:bF}(h:dh d):(ps d).length<=200:=by obtain⟨Y,Z,D,m,t,b,w,a,z,s⟩:=tO h;have o:=fG (n:=d.Kind) ac;have Y:=fG (n:=(d.Key.length:Int)) ac;have K:=fG (n:=(d.Value.length:Int)) ac;have c:=fG (n:=d.Version) ac;have F:=fG (n:=d.c3) ac;have Y:=fG (n:=d.Number) ac;unfold ps;simp only[bQ];omega
def Am{c:aO}(h:e1 c n=true):(kG c).length<=300:=by obtain⟨Y,Z,D,m⟩:=pt h;have o:=HF Y;have Y:=Al Z;have K:=fG (n:=c.Seq) ac;unfold kG;simp only[bQ];omega
def Rd.acS(p:Nat)(c:aO):Rd (cells p 52 c.c) (some ⟨p,6,none⟩) c.eX.l.length p 6 1 (c.eX.l.map uO):=
 ⟨VK,by rw[b4.Wk];decide,λ_=>rfl,λw s i x U=>by
  rw[h5]at U;obtain⟨m,K,rfl⟩:=qs.1 U;refine⟨rfl,λj u Y=>?_⟩;have v:j=0:=by have:=(cF.1 Y).1;simp[uO]at this;omega
  subst v;simp only[uO,ra,fj]at Y;subst Y;rw[B9 s];have E:i<7:=UC
  rcases(by omega:i=0\/i=1\/i=2\/i=3\/i=4\/i=5\/i=6)with e|e|e|e|e|e|e<;>subst e<;>cases K<;>rfl⟩
def An(b:Nat)(v:aj)(N:ab aS)(c:aO)(n:Int)(q:e1 c n=true)(U:N.length<=600000):ar prog 174 [av b 0,A c.c] [cells b 231 (gB.c ⟨v⟩),rows dL v 5 1 N] (λr J=>∃L,r=.tuple #[]/\J=[cells b 231 (gB.c ⟨L⟩),rows dL L 5 1 (N++kG c)]):=by
 obtain⟨Y,Z,D,m⟩:=pt q;have o:=HF Y;have Y:=Al Z;have K:=fG (n:=c.Seq) ac;have e:N++ps c.cv++tQ c.eX++bL c.Seq=N++kG c:=by simp only[kG,ck]
 rw[<-e];have y (v:aj) (D:ab aS) (p:Nat) (C:D.length<=700000):
   ar prog 170 [av b 0,.slice (some ⟨p,6,none⟩) 7 7] [cells b 231 (gB.c ⟨v⟩),rows dL v 5 1 D,cells p 52 c.c] (λr J=>∃L,r=.tuple #[]/\J=[cells b 231 (gB.c ⟨L⟩),rows dL L 5 1 (D++tQ c.eX),cells p 52 c.c]):=
  Ad b v D c.eX.l _ _ 7 p 6 (Rd.acS p c) (λm K=>by have:=u6 Z m K;omega) Ls
 refine aF func174 λW=>?_;refine aq 2 λx=>?_;refine aa 7 ?_;refine ai.x' rfl (akt _ _ _ _ ?_ ?_) ?_;iterate 2 exact co
 rintro _ _⟨N,rfl,rfl⟩;refine aa 7 ?_;refine ai.v (V.aaW ad rfl) ?_;refine ai.x' rfl (y _ _ _ ?_) ?_;exact co;rintro _ _⟨Z,rfl,rfl⟩;refine aq 7 λa=>?_;refine ai.x' rfl (rv _ _ _ _ _ ?_ ?_) ?_;iterate 2 exact co
 rintro _ _⟨u,rfl,rfl⟩;exact aQ 3
def sv(d:b4)(k:Nat):ab Int:=d.l.take k++List.replicate (7-k) 0
def Nw(T:k<7)(K:d.l[k]?=some m):(sv d k).set k m=sv d (k+1):=by unfold sv;have u:=b4.Wk d;rw[List.set_append,aG (by rw[e8,u];omega),oC,K,e8,u];rw[show k-Min.min k 7=0 by omega,show 7-k=(7-(k+1))+1 by omega,Cp,Gs];simp
def Dl(T:k<=7):(sv d k).length=7:=by unfold sv;rw[bQ,e8,List.length_replicate,b4.Wk];omega
def Nx{l:ab Int}(h:l[k]?=some m):(l.drop k).flatMap bL=bL m++(l.drop (k+1)).flatMap bL:=by obtain⟨T,rfl⟩:=cF.1 h;rw[wF T,fW]
def tR(c:aO)(k:Nat):ab aj:=c.cv.c++(nz (sv c.eX k)++[I 0])
def ae2(c:aO):tR c 7=aO.c {c with Seq:=0}:=by unfold tR sv;rw[show 7-7=0 from rfl,List.replicate_zero,db,show c.eX.l.take 7=c.eX.l from rfl];rfl
theorem ahJ{c:aO}(T:k<7)(K:c.eX.l[k]?=some m):bH (6+k*1) [I m] (tR c k) (tR c (k+1)):=⟨by
 have h:=(Dj (l:=sv c.eX k) (x:=m) (k:=k) (by rw[Dl ac];exact T)).1;rw[Nw T K]at h;unfold tR;have u:(nz (sv c.eX k)).length=7:=by rw[nz,dZ,Dl ac]
 rw[<-h];simp only[ey,p3,h4,df,gv];have b:c.cv.c.length=6:=rfl;rw[sd,oA ac,wk,x8 ac];rw[lr ac,List.drop_eq_nil_of_le ac,b,show 6+k-6=k by omega,show 6+k+1-6=k+1 by omega];simp⟩
def NA{c:aO}(T:k<=7):(tR c k).length=14:=by unfold tR;rw[bQ,bQ,nz,dZ,Dl T];rfl
def Ao(b:Nat)(c:aO)(n:Int)(N:ab aS)(q:e1 c n=true)(g:N.length<=1000000):ar prog 197 [av b 0] [cells b 306 (fd.c ⟨kG c++N,false⟩)] (λr J=>r=A c.c/\J=[cells b 306 (fd.c ⟨N,false⟩)]):=by
 obtain⟨Y,Z,D,i⟩:=pt q;have C:=Al Z;have E:=fG (n:=c.Seq) ac;unfold kG;simp only[ck];have Q:(tQ c.eX++(bL c.Seq++N)).length<=10000000:=QT
 refine aF func197 λW=>?_;refine aq 2 λu=>?_;refine aa 5 ?_;refine ai.x' rfl (agm _ _ _ ?_ ?_) ?_;iterate 2 exact co
 refine aq 2 λM=>?_;refine aa 10 ?_;refine ah.cq [3,2,0] (λk:Nat=>k<=7) (λk=>[(8,I (k:Int))]) (λk=>[cells M 52 (tR c k),cells b 306 (fd.c ⟨(c.eX.l.drop k).flatMap bL++(bL c.Seq++N),false⟩)]) (λk=>7-k) 0 (cG _) ?_;intro k T K s;refine bh ?_;by_cases G:k<7
 .obtain⟨m,F⟩:∃m,c.eX.l[k]?=some m:=⟨_,hl (by rw[b4.Wk];exact G)⟩
  have a:=u6 Z m (im F);have R:=NA (c:=c) (k:=k) ac;have X:((c.eX.l.drop (k+1)).flatMap bL++(bL c.Seq++N)).length<=1000000000:=by
   have:=HE (c.eX.l.drop (k+1)) λx U=>by have:=u6 Z x (List.mem_of_mem_drop U);omega
   have w:(c.eX.l.drop (k+1)).length<=7:=by rw[jn,b4.Wk];omega
   simp only[bQ];omega
  rw[Nx F,ck];refine aa 20 ?_;refine ai.x' rfl (j1 _ _ _ _ ?_ ?_ ?_ ?_) ?_;iterate 4 exact co
  refine aa 2 ?_;refine ai.v (V.V6 ad (k:=k) rfl rfl rfl) ?_;refine ai.o (O.O' ad ?_ (j:=by rw[nr];omega) (i:=ahJ G F));refine aa 7 ?_;rotate_left;exact Out.C' s (k+1) ac ac
 .obtain rfl:k=7:=by omega
  rw[ae2,show(c.eX.l.drop 7).flatMap bL=[]from rfl,g4];clear s;refine aa 15 ?_;refine ai.x' rfl (j1 _ _ _ _ ?_ ?_ ?_ ?_) ?_;iterate 4 exact co
  refine aa 9 ?_;refine ai.x' rfl (Ae _ _) ?_;exact aQ 14
structure pu where
 iD:ab aj
 us:ab aj
 dO:iD.length=7
 hu:us.length=7
structure h9 where
 e2:Nat
 kH:Nat
 C:pu
 D:pu
def pu.new:pu:=⟨List.replicate 7 (.slice none 0 0),List.replicate 7 (.slice none 0 0),rfl,rfl⟩
abbrev Ap(b:Nat)(L:pu)(p:aL aO):ay:=eG aO.c 323 52 14 b L.iD L.us p
abbrev yp(b:Nat)(L:pu)(p:aL Bool):ay:=eG fq 325 4 1 b L.iD L.us p
def amo(b:Nat)(L:pu)(p:aL aO)(x:ag)(t:aO)(s:p.wf):ar prog 149 [av b 0,A x.c,A t.c] [Ap b L p] (λr J=>∃F:pu,r=B (bt x p.aE)/\J=[Ap b F (p.set x t)]):=by refine ar.post (Mt b L.iD L.us p x t s L.dO L.hu) ?_;rintro v J⟨X,w,U,Z,rfl,rfl⟩;exact⟨_,⟨⟨X,w,U,Z⟩,rfl,rfl⟩,λ_ _ _ h=>h⟩
def aee(b:Nat)(L:pu)(p:aL Bool)(x:ag)(t:Bool)(s:p.wf):ar prog 257 [av b 0,A x.c,B t] [yp b L p] (λr J=>∃F:pu,r=B (bt x p.aE)/\J=[yp b F (p.set x t)]):=by refine ar.post (ah3 b L.iD L.us p x t s L.dO L.hu) ?_;rintro v J⟨X,w,U,Z,rfl,rfl⟩;exact⟨_,⟨⟨X,w,U,Z⟩,rfl,rfl⟩,λ_ _ _ h=>h⟩
structure bv where
 calls:aL aO
 done:aL Bool
structure bv.ok(g:bv):Prop where
 c:g.calls.ok
 d:g.done.ok
def bv.new(n:Int):bv:=⟨aL.new n,aL.new n⟩
def bv.Wo(n:Int):(bv.new n).ok:=⟨aL.Wo n,aL.Wo n⟩
def bv.is(g:bv)(x:ag):Bool:=(g.calls.at x).isSome
def bv.over(g:bv)(x:ag):Bool:=(g.done.at x).isSome
def bv.call(g:bv)(x:ag):aO:=(g.calls.at x).getD aO.z
def bv.WE(g:bv)(x:ag)(c:aO):Bool:=ga c.eX 7&&(!g.is x&&bt x g.calls.aE)
def bv.Wf(g:bv)(x:ag)(c:aO):bv:=if g.WE x c then{g with calls:=g.calls.set x c}else g
def bv.hL(g:bv)(N:ab ag):bv:={g with done:=N.foldl (λp x=>p.set x true) g.done}
def bv.ZW{g:bv}(h:g.ok)(N:ab ag):(g.hL N).ok:=by
 refine⟨h.c,?_⟩;show(N.foldl (λp x=>p.set x true) g.done).ok
 have:=h.d;generalize g.done=p at*;induction N generalizing p with
 |nil=>exact this
 |cons x N X=>exact X _ (aL.Xe this x true)
def bv.acT{g:bv}(h:g.ok)(x:ag)(c:aO):(g.Wf x c).ok:=by
 unfold bv.Wf;split
 .exact⟨aL.Xe h.c x c,h.d⟩
 .exact h
def bv.Zz(g:bv)(x y:ag):Int:=if x=y then 0 else if(g.call x).Seq<(g.call y).Seq\/((g.call x).Seq=(g.call y).Seq/\rt x y=true)then-1 else 1
def i6(Z:Nat)(L:h9)(g:bv):ab ay:=[cells Z 260 (qx.c ⟨av L.e2 0,av L.kH 0⟩),Ap L.e2 L.C g.calls,yp L.kH L.D g.done]
def ia(Z:Nat)(L:h9)(g:bv):ay:=aK (i6 Z L g)
section
variable{P:b1}{f:fb}{args:ab aj}{Y:ab ay}
def ar.abe{F:Type}{Q:aj->F->Prop}{T:F->ab ay}(h:ar P f args Y (λr J=>∃z,Q r z/\J=T z)):ar P f args [aK Y] (λr J=>∃z,Q r z/\J=[aK (T z)]):=
 ar.eqv aP.aK h Ta
def ar.ZA{Q:aj->Prop}{T:ab ay}(h:ar P f args Y (λr J=>Q r/\J=T)):ar P f args [aK Y] (λr J=>Q r/\J=[aK T]):=
 ar.eqv aP.aK h (by rintro r J⟨U,rfl⟩;exact⟨_,⟨U,rfl⟩,aP.aK.symm⟩)
end
def akf(n:Int):ar prog 104 [I n] [] (λr J=>∃Z L,r=av Z 0/\J=[ia Z L (bv.new n)]):=by
 have h:ar prog 104 [I n] [] (λr J=>∃Z:Nat×h9,r=av Z.1 0/\J=i6 Z.1 Z.2 (bv.new n)):=by
  unfold i6;refine aF func104 λW=>?_;refine aa 8 ?_;refine ai.x' rfl (akK _) ?_;rintro _ _⟨b,rfl,rfl⟩;refine aa 2 ?_;refine ai.x' rfl (akR _) ?_;rintro _ _⟨o,rfl,rfl⟩;refine aq 2 λF=>?_;refine aa 5 ?_
  .exact⟨_,_,⟨(_,⟨_,_,pu.new,pu.new⟩),rfl,rfl⟩,VH⟩
 refine ar.post h ?_;rintro r J⟨⟨Z,L⟩,rfl,rfl⟩;exact⟨_,⟨Z,L,rfl,rfl⟩,λ_ _ _ h=>h.toBag⟩
def NE(Z:Nat)(L:h9)(g:bv)(h:g.ok)(x:ag):ar prog 221 [av Z 0,A x.c] (i6 Z L g) (λr J=>r=B (g.is x)/\J=i6 Z L g):=by
 have z:=ya L.e2 L.C.iD L.C.us g.calls x h.c.towf L.C.dO L.C.hu;unfold bv.is i6;cases Q:g.calls.at x<;>rw[Q]at z
 exact Pn
 exact Pn
def HG(Z:Nat)(L:h9)(g:bv)(h:g.ok)(x:ag):ar prog 222 [av Z 0,A x.c] (i6 Z L g) (λr J=>r=B (g.over x)/\J=i6 Z L g):=by
 have z:=Mv L.kH L.D.iD L.D.us g.done x h.d.towf L.D.dO L.D.hu;unfold bv.over i6;cases Q:g.done.at x<;>rw[Q]at z
 exact RY
 exact RY
def ah0(Z:Nat)(L:h9)(g:bv)(h:g.ok)(x:ag):ar prog 161 [av Z 0,A x.c] (i6 Z L g) (λr J=>r=.tuple #[A (g.call x).c,B (g.is x)]/\J=i6 Z L g):=by
 have z:=ya L.e2 L.C.iD L.C.us g.calls x h.c.towf L.C.dO L.C.hu;unfold bv.is bv.call i6;cases Q:g.calls.at x<;>rw[Q]at z
 exact N1
 exact N1
def ali(Z:Nat)(L:h9)(g:bv)(h:g.ok)(x:ag)(c:aO):ar prog 106 [av Z 0,A x.c,A c.c] (i6 Z L g) (λr J=>∃F,r=B (g.WE x c)/\J=i6 Z F (g.Wf x c)):=by
 obtain⟨m,U,C,D⟩:=L;have T:=HC c.eX 7;have z:=ya m C.iD C.us g.calls x h.c.towf C.dO C.hu;have y:=amo m C g.calls x c h.c.towf;have l:g.is x=(g.calls.at x).isSome:=rfl;unfold bv.Wf;generalize q:g.WE x c=b;unfold bv.WE at q;rw[l]at q;cases G:ga c.eX 7<;>rw[G]at T q
 .rw[tP]at q;subst q;simp only[h8,iH];unfold i6;dsimp only;refine aF func106 λW=>?_;refine aq 2 λR=>?_;refine aq 0 λa=>?_;refine aa 25 ?_
  exact T1
 .rw[qB]at q;cases Q:g.calls.at x<;>rw[Q]at z q
  .simp only[Option.isSome_none,Bool.not_false,qB]at q;rw[q]at y;have u:(if b=true then({g with calls:=g.calls.set x c}:bv)else g)={g with calls:=g.calls.set x c}:=by
    cases b
    .rw[aG VI,aL.set,q];rfl
    .rfl
   rw[u];unfold i6;dsimp only;refine aF func106 λW=>?_;refine P2 λR a=>?_;refine ah.p' ?_ aC.d'.d'.d'.d'.j;refine Rj ?_ ?_;refine aw.V0 rfl (z) VH ?_;refine Vh λo=>?_;refine Nb λN=>?_;rotate_left;refine RH λo=>?_;refine Qs ?_;refine Nb λp=>?_;rotate_left;all_goals exact⟨_,_,⟨⟨m,U,_,D⟩,rfl,rfl⟩,VH⟩
  .simp only[Option.isSome_some,Cm,tP]at q;subst q;simp only[h8,iH];unfold i6;dsimp only;refine aF func106 λW=>?_;refine P2 λR a=>?_;refine ah.p' ?_ aC.d'.d'.d'.d'.j;refine Rj ?_ ?_;refine aw.V0 rfl (z) VH ?_;refine Vh λo=>?_;refine aa 16 ?_
   exact T1
   refine RH λo=>?_;refine Qs ?_;refine aa 16 ?_
   exact T1
def alS(Z:Nat)(L:h9)(g:bv)(h:g.ok)(x y:ag):ar prog 273 [av Z 0,A x.c,A y.c] (i6 Z L g) (λr J=>r=I (g.Zz x y)/\J=i6 Z L g):=by
 have z (x:ag):=ya L.e2 L.C.iD L.C.us g.calls x h.c.towf L.C.dO L.C.hu;have b:=CY x y;have Q (x:ag):∃i:Bool,x9 (g.calls.at x)=.tuple #[A (g.call x).c,B i]:=by
  unfold bv.call;cases g.calls.at x
  .exact⟨false,rfl⟩
  .exact⟨true,rfl⟩
 obtain⟨M,p⟩:=Q x;obtain⟨X,U⟩:=Q y;have t:=z x;have d:=z y;rw[p]at t;rw[U]at d;clear z Q;unfold bv.Zz;generalize g.call x=adS at*;generalize g.call y=ad0 at*;unfold i6;have N (k:Nat):=ag.Y' x y k;by_cases j:x=y
 .rw[aJ j];rw[iq j]at N;refine N2 λW q a=>?_;refine Rj ?_ ?_;refine SP λo=>?_;refine PI (λm=>?_) ?_;exact aQ 13;refine Sx λm=>?_;exact aQ 13;refine Sp λo=>?_;refine PI (λm=>?_) ?_;exact aQ 13;refine Sx λm=>?_;exact aQ 13
 .rw[aG j];rw[l5 j]at N;cases u:rt x y<;>rw[u]at b
  .refine N2 λW q a=>?_;refine Rj ?_ ?_;refine SP λo=>?_;refine PI (λm=>?_) ?_;refine Ml (λE=>?_) λE=>?_
   exact O4
   refine Px (λD=>?_) λD=>?_;refine aa 19 ?_
   exact O4
   refine aa 19 ?_
   exact O4
   refine Sx λm=>?_;refine Ml (λT=>?_) λT=>?_
   exact O4
   refine Px (λYc=>?_) λYc=>?_;refine aa 19 ?_
   exact O4
   refine aa 19 ?_
   exact O4
   refine Sp λo=>?_;refine PI (λm=>?_) ?_;refine Ml (λG=>?_) λG=>?_
   exact O4
   refine Px (λR=>?_) λR=>?_;refine aa 19 ?_
   exact O4
   refine aa 19 ?_
   exact O4
   refine Sx λm=>?_;refine Ml (λw=>?_) λw=>?_
   exact O4
   refine Px (λn=>?_) λn=>?_;refine aa 19 ?_
   exact O4
   refine aa 19 ?_
   exact O4
  .refine N2 λW q a=>?_;refine Rj ?_ ?_;refine SP λo=>?_;refine PI (λm=>?_) ?_;refine Ml (λYe=>?_) λYe=>?_
   exact Vt
   refine Px (λYf=>?_) λYf=>?_;refine aa 18 ?_
   exact Vt
   refine aa 19 ?_
   exact Vt
   refine Sx λm=>?_;refine Ml (λYg=>?_) λYg=>?_
   exact Vt
   refine Px (λYh=>?_) λYh=>?_;refine aa 18 ?_
   exact Vt
   refine aa 19 ?_
   exact Vt
   refine Sp λo=>?_;refine PI (λm=>?_) ?_;refine Ml (λl=>?_) λl=>?_
   exact Vt
   refine Px (λs=>?_) λs=>?_;refine aa 18 ?_
   exact Vt
   refine aa 19 ?_
   exact Vt
   refine Sx λm=>?_;refine Ml (λK=>?_) λK=>?_
   exact Vt
   refine Px (λF=>?_) λF=>?_;refine aa 18 ?_
   exact Vt
   refine aa 19 ?_
   exact Vt
def HH(e:ay)(n:aT Go.Addr)(Q F off:Nat)(l:ab ag)(L:Rd e n l.length F off 2 (l.map ag.c))(u:l.length<=1000000):ar prog 158 [.slice n l.length Q] [e] (λr J=>∃v,r=v/\J=[rows ag.c v 46 2 l,e]):=by
 cases n with
 |none=>
  have o:l=[]:=by
   cases l with
   |nil=>rfl
   |cons a l=>have:=L.addr VK;simp at this
  subst o;refine aF func158 λW=>?_;refine ah.V5 ag.c 46 2 ?_;exact Ri
 |some a=>
  by_cases f:l=[]
  .subst f;refine aF func158 λW=>?_;refine T8 ?_;refine ai.o (O.V' ad ag.c [] rfl bP.nil rfl rfl (λa=>?_));refine au ?_;refine ai.v (V.ZP ad rfl rfl (cz.aaJ ad L VF ag.J' ag.len) ac) ?_;exact aQ 5
  .have w:0<l.length:=qA.2 f;refine aF func158 λW=>?_;refine T8 ?_;refine ai.o (O.V' ad ag.c [] rfl bP.nil rfl rfl (λa=>?_));refine au ?_;refine ai.o (O.ZO ad rfl rfl (cz.rd ad L VF ag.J' ag.len w) f ag.len (λY u=>?_));exact aQ 5
def rA(x:ag)(l:ab ag):Int:=match l.findIdx? (λy=>decide (y=x))with|some i=>(i:Int)|none=>-1
def ajx{x:ag}{l:ab ag}{i:Nat}(U:l[i]?=some x)(h:∀(j:Nat) (y:ag),j<i->l[j]?=some y->y≠x):rA x l=i:=by obtain⟨Y,rfl⟩:=cF.1 U;unfold rA;rw[wJ.2 ⟨Y,VK,λj v=>by simpa using h j _ v (hl ac)⟩]
def ajy{x:ag}{l:ab ag}(h:∀(j:Nat) (y:ag),l[j]?=some y->y≠x):rA x l=-1:=by unfold rA;rw[yq.2];intro y C;obtain⟨j,v⟩:=tB C;simpa using h j y v
def HI(e:ay)(n:aT Go.Addr)(Q F off:Nat)(l:ab ag)(x:ag)(f:Rd e n l.length F off 2 (l.map ag.c))(u:l.length<=1000000):ar prog 229 [.slice n l.length Q,A x.c] [e] (λr J=>r=I (rA x l)/\J=[e]):=by
 refine aF func229 λW=>?_;refine aq 2 λU=>?_;refine aa 12 ?_;refine ah.cq [7,3,0] (λi:Nat=>i<=l.length/\∀(j:Nat) (y:ag),j<i->l[j]?=some y->y≠x) (λi=>[(8,I (i:Int))]) (λ_=>[]) (λi=>l.length-i) 0 ⟨cG _,λj y h=>absurd h (yo _)⟩ ?_;rintro i⟨am,t⟩ K s;refine bh ?_;by_cases Y:i<l.length
 .obtain⟨y,C⟩:=cl Y;have N (k:Nat):=ag.Y' x y k;by_cases T:x=y
  .subst T;rw[ajx C t];rw[iq rfl]at N;refine Q3 ?_;exact aQ 16
  .rw[l5 T]at N;refine Q3 ?_;refine aa 10 ?_;rotate_left;exact Out.C' s (i+1) ⟨ac,λj z v w=>by
    by_cases b:j=i
    .subst b;rw[C]at w;rw[<-gs w];exactλh=>T h.symm
    .exact t j z ac w⟩ UJ
 .rw[ajy λj y C=>t j y Na C];clear s;exact aQ 19
def aia(x:ag)(l:ab ag):decide (0<=rA x l)=decide (x∈l):=by
 unfold rA;cases h:l.findIdx? (λy=>decide (y=x))with
 |none=>
  rw[yq]at h;refine dR.2 ⟨λY=>absurd Y VI,λY=>?_⟩;have:=h x Y;simp at this
 |some i=>
  obtain⟨Y,Z,_⟩:=wJ.1 h;refine dR.2 ⟨λ_=>?_,λ_=>u7 i⟩;have:l[i]=x:=by simpa using Z
  rw[<-this];exact Gg Y
def HJ(e:ay)(n:aT Go.Addr)(Q F off:Nat)(l:ab ag)(x:ag)(f:Rd e n l.length F off 2 (l.map ag.c))(u:l.length<=1000000):ar prog 164 [.slice n l.length Q,A x.c] [e] (λr J=>r=B (decide (x∈l))/\J=[e]):=by have s:=HI e n Q F off l x f u;rw[<-aia];generalize rA x l=k at*;refine aF func164 λW=>?_;refine aq 2 λx=>?_;exact aQ 15
def jK(M:Nat)(k:Nat):ab ag:=(List.range k).map λi:Nat=>⟨(M:Int),(i:Int)+1⟩
def mY(d:b4)(k:Nat):ab ag:=(List.range k).flatMap λr=>jK r (d.l.getD r 0).toNat
def rB(d:b4):ab ag:=mY d 7
def HK(M k:Nat):jK M (k+1)=jK M k++[⟨(M:Int),(k:Int)+1⟩]:=by simp[jK,sk]
def yr(d:b4)(k:Nat):mY d (k+1)=mY d k++jK k (d.l.getD k 0).toNat:=by simp[mY,sk]
def afQ{M m:Nat}(h:k<m):∃w,jK M m=jK M k++⟨(M:Int),(k:Int)+1⟩::w:=by
 obtain⟨j,rfl⟩:∃j,m=k+1+j:=⟨m-(k+1),ac⟩
 refine⟨(jK M (k+1+j)).drop (k+1),?_⟩;have e:jK M (k+1+j)=jK M (k+1)++(jK M (k+1+j)).drop (k+1):=by
  have Y:(jK M (k+1+j)).take (k+1)=jK M (k+1):=by unfold jK;rw[<-List.map_take,List.take_range];congr 2;omega
  conv=>lhs;rw[<-nU (k+1) (jK M (k+1+j)),Y]
 conv=>lhs;rw[e,HK]
 simp
def HL(d:b4)(k:Nat):∀j:Nat,∃t,mY d (k+j)=mY d k++t
 |0=>⟨[],VK⟩
 |j+1=>by obtain⟨t,h⟩:=HL d k j;exact⟨t++jK (k+j) (d.l.getD (k+j) 0).toNat,by rw[<-pd,yr,h,ck]⟩
def ak3{m:Nat}(T:k<7)(K:m<(d.l.getD k 0).toNat):∃w,rB d=(mY d k++jK k m)++⟨(k:Int),(m:Int)+1⟩::w:=by obtain⟨t,h⟩:=HL d (k+1) (7-(k+1));obtain⟨w,Z⟩:=afQ (M:=k) K;refine⟨w++t,?_⟩;unfold rB;rw[show 7=k+1+(7-(k+1)) by omega,h,yr,Z];simp
def ale(d:b4):ar prog 272 [A d.c] [] (λv J=>∃q,v=.func (.func 284) #[] #[av q 0]/\J=[cells q 50 d.c]):=by refine aF func272 λW=>?_;refine aq 2 λy=>?_;exact aQ 11
def akq(x:ag):ab aj:=[A x.c]
def ajn(q:Nat)(d:b4)(n:ga d 7=true):sg prog 284 [av q 0] [cells q 50 d.c] akq (rB d) [cells q 50 d.c]:=by
 intro l u G X S z E f;refine aF func284 λW=>?_;refine aa 7 ?_;refine ah.cq [6,0,1] (λy:Nat×u=>y.1<=7/\G (mY d y.1) y.2) (λy=>[(7,I (y.1:Int))]) (λy=>[S y.2]) (λy=>7-y.1) (0,z) ⟨ac,E⟩ ?_;rintro⟨k,s⟩⟨T,Z⟩ K i;dsimp only at T Z;refine bh ?_;by_cases N:k<7
 .obtain⟨num,b⟩:∃m,d.l[k]?=some m:=⟨_,hl (by rw[b4.Wk];exact N)⟩
  have U:=b4.abd b;have R:=su.1 n k num b;simp only[j2,c1,hc,cO]at R;obtain⟨m,rfl⟩:=ru R.1.1;have p:(d.l.getD k 0).toNat=m:=by rw[List.getD,b];rfl
  refine aa 14 ?_;refine ai.v (V.Yd ad rfl rfl U N) ?_;refine aa 10 ?_;rotate_left;refine ah.cq [4,3,7,6,0,1] (λy:Nat×u=>y.1<=m/\G (mY d k++jK k y.1) y.2) (λy=>[(5,I ((y.1:Int)+1))]) (λy=>[S y.2]) (λy=>m-y.1) (0,s) ⟨ac,by simpa[jK]using Z⟩ ?_;rintro⟨j,Y⟩⟨w,t⟩ L h;dsimp only at w t;refine bh ?_;by_cases x:j<m
  .obtain⟨a,J⟩:=ak3 (d:=d) N (show j<(d.l.getD k 0).toNat by omega);have M:=f _ _ a Y J t;refine aa 19 ?_;refine ai.o (aw.WX rfl rfl (M) VH ?_);rintro D C⟨Q,r,rfl,g,P,rfl⟩;refine US (λF=>?_) λF=>?_;refine aa 10 ?_
   .exact⟨_,_,⟨_,.inr ⟨(mY d k++jK k j)++[⟨(k:Int),(j:Int)+1⟩],⟨a,by rw[J];simp⟩,L7⟩,rfl⟩,VH⟩
   refine aa 8 ?_;rotate_left;exact Out.C' h (j+1,_) ⟨EY,by show G (mY d k++jK k (j+1)) _;rw[HK,<-ck];apply_assumption;assumption⟩ (by show m-(j+1)<m-j;omega)
  .obtain rfl:j=m:=by omega
   clear h;refine aa 19 ?_;exact Out.C' i (k+1,Y) ⟨BI,by show G (mY d (k+1)) Y;rw[yr,p];exact t⟩ Mn
 .obtain rfl:k=7:=by omega
  clear i;refine aa 12 ?_
  .exact⟨_,_,⟨s,.inl Z,rfl⟩,VH⟩
def HM(Z:Nat)(L:h9)(g:bv)(h:g.ok)(x:ag):ar prog 221 [av Z 0,A x.c] [ia Z L g] (λr J=>r=B (g.is x)/\J=[ia Z L g]):=ar.ZA (NE Z L g h x)
def HN(Z:Nat)(L:h9)(g:bv)(h:g.ok)(x:ag):ar prog 222 [av Z 0,A x.c] [ia Z L g] (λr J=>r=B (g.over x)/\J=[ia Z L g]):=ar.ZA (HG Z L g h x)
def akr(Z:Nat)(L:h9)(g:bv)(h:g.ok)(x:ag):ar prog 161 [av Z 0,A x.c] [ia Z L g] (λr J=>r=.tuple #[A (g.call x).c,B (g.is x)]/\J=[ia Z L g]):=ar.ZA (ah0 Z L g h x)
def alA(Z:Nat)(L:h9)(g:bv)(h:g.ok)(x:ag)(c:aO):ar prog 106 [av Z 0,A x.c,A c.c] [ia Z L g] (λr J=>∃F,r=B (g.WE x c)/\J=[ia Z F (g.Wf x c)]):=ar.abe (ali Z L g h x c)
def aiI(Z:Nat)(L:h9)(g:bv)(h:g.ok)(x y:ag):ar prog 273 [av Z 0,A x.c,A y.c] [ia Z L g] (λr J=>r=I (g.Zz x y)/\J=[ia Z L g]):=ar.ZA (alS Z L g h x y)
def bv.waits(g:bv)(x:ag):ab ag:=(rB (g.call x).eX).filter λy=>decide (y≠x)&&!g.over y
def bv.hy(g:bv):Prop:=∀x,ga (g.call x).eX 7=true
def bv.acU(n:Int):(bv.new n).hy:=λx=>by
 unfold bv.call bv.new;dsimp only;rw[aL.W4];show ga b4.z 7=true
 decide
def bv.ys{g:bv}(h:g.ok)(G:g.hy)(x:ag)(c:aO):(g.Wf x c).hy:=by
 unfold bv.Wf;split
 .rename_i q;intro y;unfold bv.call;dsimp only;rw[aL.WN h.c];simp only[bv.WE,c1]at q;split
  .exact q.1
  .exact G y
 .exact G
def bv.acV{g:bv}(G:g.hy)(N:ab ag):(g.hL N).hy:=G
def HO{d:b4}(c:ga d 7=true):∀k,k<=7->(mY d k).length<=64*k
 |0,_=>by simp[mY]
 |k+1,h=>by
  have X:=HO c k ac;rw[yr,bQ];have:(jK k (d.l.getD k 0).toNat).length=(d.l.getD k 0).toNat:=by simp[jK]
  obtain⟨num,y⟩:∃m,d.l[k]?=some m:=⟨_,hl Ls⟩
  have G:=su.1 c k num y;simp only[j2,c1,hc,cO]at G;have e:d.l.getD k 0=num:=by rw[List.getD,y];rfl
  rw[e]at this;rw[e];omega
def HP(c:ga d 7=true):(rB d).length<=448:=HO c 7 ac
def bv.ZX{g:bv}(G:g.hy)(x:ag):(g.waits x).length<=448:=iB (rC _ _) (HP (G x))
def aje(Y Z:Nat)(L:h9)(g:bv)(h:g.ok)(G:g.hy)(x:ag)(W:jY)(j:W.graph=av Z 0):ar prog 255 [av Y 0,A x.c] (cells Y 343 W.c::i6 Z L g) (λr J=>∃v,r=v/\J=rows ag.c v 46 2 (g.waits x)::cells Y 343 W.c::i6 Z L g):=by
 obtain⟨yt,q,oE,mn,Dm,aiT,NV,afK⟩:=W;dsimp only at j;subst j;have z:=ya L.e2 L.C.iD L.C.us g.calls x h.c.towf L.C.dO L.C.hu;have R (y:ag):=HG Z L g h y;have Q:∃i:Bool,x9 (g.calls.at x)=.tuple #[A (g.call x).c,B i]:=by
  unfold bv.call;cases g.calls.at x
  .exact⟨false,rfl⟩
  .exact⟨true,rfl⟩
 obtain⟨i,ake⟩:=Q;rw[ake]at z;have b:=G x;unfold bv.waits;generalize g.call x=c at*;have lF:=ale c.eX;unfold i6 at*;refine aF func255 λW=>?_;refine aa 2 ?_;refine ai.o (O.Wz (λd=>?_));refine aq 0 λX=>?_;refine aa 3 ?_;refine ah.mt [4,3,2] (λ_:Nat=>True) (λp=>[(5,av p 0)]) (λp=>[cells p 52 c.c]) ?_ ?_
 .intro fP l;refine ah.p' ?_ aC.j.j.j.j.d'.d';refine ae 3 0 ?_;refine ae 1 7 ?_;refine af.bx 3 12 rfl rfl ?_ ?_;refine aw.z' (V.F' ad) ?_;refine au ?_;refine ae 2 4 ?_;refine af.bx 6 12 rfl rfl ?_ ?_;refine aw.z' (V.F' ad) ?_;refine au ?_;refine af.bx 8 12 rfl rfl ?_ ?_;refine aw.V0 rfl (z) VH ?_;refine Ni λm=>?_;refine au ?_;rotate_left;refine O.Q' ad (λm=>?_);refine au ?_;refine af.x' 8 rfl rfl (z) ?_;refine Tp ?_;rotate_left;refine O.Q' ad (λm=>?_);refine au ?_;refine ae 1 6 ?_;refine af.x' 8 rfl rfl (z) ?_;refine Tp ?_;rotate_left;refine O.Q' ad (λm=>?_);refine au ?_;refine ae 4 3 ?_;refine af.x' 8 rfl rfl (z) ?_;refine Tp ?_;rotate_left;all_goals exact Out.C' l _ trivial trivial
 rintro m-;refine bh ?_;refine aq 2 λu=>?_;refine aa 8 ?_;rintro _ _⟨Yg,rfl,rfl⟩;refine aa 4 ?_;refine ah.V5 ag.c 46 2 ?_;refine ah.rg (ajn _ c.eX b) (λy:aj×ab ag=>[cells u 98 [y.1],rows ag.c y.1 46 2 y.2,cells d 340 [av Y 0],cells X 46 x.c,cells Y 343 (jY.c ⟨av Z 0,q,oE,mn,Dm,aiT,NV,afK⟩),cells Z 260 (qx.c ⟨av L.e2 0,av L.kH 0⟩),Ap L.e2 L.C g.calls,yp L.kH L.D g.done])
  (λpre y=>y.2=(pre.filter λy=>decide (y≠x)&&!g.over y)/\y.1.oneCell'=true) (λ_ _ _=>False) (.slice none 0 0,[]) ⟨rfl,rfl⟩ ?_ ?_ ?_
 .rintro pre y w⟨T,P⟩ cq rec U⟨f,N⟩ c2 eK jV yu t;dsimp only at f N;have Yc:P.length<=448:=by have K:=HP b;rw[U,bQ]at K;have cd:=rC (λy=>decide (y≠x)&&!g.over y) pre;rw[f];omega
  have E:=R y;have M (k:Nat):=ag.Y' y x k;refine bh ?_;by_cases a:y=x
  .rw[iq a]at M;refine aq 1 λF=>?_;refine aa 5 ?_;refine ah.p' ?_ aC.d'.d'.j.j.d'.d'.d'.j.d'.d';refine ae 4 0 ?_;refine bK 28 ?_;refine ae 8 4 ?_;refine aa 5 ?_;exact Out.rd t (_,P) ⟨by rw[f,nA];simp[a],N⟩
  .rw[l5 a]at M;cases n:g.over y<;>rw[n]at E
   .refine SM λF=>?_;refine aq 6 λYf=>?_;refine ai.o (O.Z' ad rfl rfl Vz (cz.one ad VF ag.J') (λYe s=>?_));refine aa 3 ?_;rotate_left;refine Out.rd t (_,P++[y]) ⟨by rw[f,nA];simp[a,n],?_⟩;rfl
   .refine SM λF=>?_;refine aa 5 ?_;rotate_left;exact Out.rd t (_,P) ⟨by rw[f,nA];simp[a,n],N⟩
 .rintro⟨T,P⟩ gj⟨f,N⟩;dsimp only at f N;subst f;refine bh ?_;exact aQ 10
 exact UO
end Go.Proofs.YteogojgnkjegmaaGreatDoor
