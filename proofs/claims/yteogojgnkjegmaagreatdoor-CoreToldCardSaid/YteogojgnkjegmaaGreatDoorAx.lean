/-
 Part of the proof.
-/
import Derived.Test.YteogojgnkjegmaaGreatDoorAw
set_option linter.all false
set_option maxRecDepth 8000
set_option maxHeartbeats 8000000
namespace Go.Proofs.YteogojgnkjegmaaGreatDoor
open Go.az Go.Proofs.Tryz
variable{n:Int}
def qW(l:ab b2)(i:Int):Bool:=(iV l i).isSome&&decide (l.length<256)
def oi(l:ab b2)(i:Int):ab b2:=match iV l i with|some x=>if l.length<256 then l++[x]else l|none=>l
def ajU(b:Nat)(v:aj)(l:ab b2)(c:ab Bool)(n i:Int)(u:l.length<=256):ar prog 49 [av b 0,I i] (fC b v l c n) (λr J=>∃L,r=B (qW l i)/\J=fC b L (oi l i) c n):=by
 cases h:iV l i with
 |none=>
  have z:=y2 h;have p:qW l i=false:=by simp[qW,h]
  have Y:oi l i=l:=by simp[oi,h]
  rw[p,Y];unfold fC;refine aF func49 λW=>?_;refine RW (λo=>?_) λo=>?_;exact aQ 27;exact aQ 28
 |some x=>
  obtain⟨k,rfl,T,s⟩:=xc h;by_cases m:l.length<256
  .have p:qW l (k:Int)=true:=by simp[qW,h,m]
   have Y:oi l (k:Int)=l++[x]:=by simp[oi,h,m]
   rw[p,Y];unfold fC;refine aF func49 λW=>?_;refine ah.fact (h6 (f:=b2.c) (v:=v) (l:=l) (E:=143) (aM:=3) VF) λt=>?_;rcases t with⟨_,rfl⟩|⟨g,Q,rfl,P,d⟩
   .simp at s
   refine aa 39 ?_;refine ah.V9 [16] ?_ aC.j.d' aC.j.j;refine ae 4 0 ?_;refine ae 3 5 ?_;refine ae 1 9 ?_;refine QB ?_;refine af.n' 10 rfl (V.E' ad rfl rfl) ?_;refine af.y' 11 rfl (aw.z' (V.K' ad rfl VF (λ_=>rfl) VV) ?_);refine au ?_;refine dr 12 λK=>?_;refine af.y' 13 rfl (O.Z' ad rfl rfl Vz (cz.one ad VF b2.J') (λF X=>?_));refine au ?_;refine ae 2 14 ?_;refine af.l 16 rfl (O.O' ad ?_ (j:=ec.fx) (i:=ec.XX));exact aQ 10
  .have p:qW l (k:Int)=false:=by simp[qW,m]
   have Y:oi l (k:Int)=l:=by simp[oi,h,m]
   rw[p,Y];unfold fC;refine aF func49 λW=>?_;exact aQ 44
def lR(c:ab Bool)(a b:Int):ab Bool:=if iU a&&iU b then(c.set (a.toNat*7+b.toNat) true).set (b.toNat*7+a.toNat) true else c
def als(c a b):(lR c a b).length=c.length:=by unfold lR;split<;>simp
def ae5{v:aj}{c:ab Bool}{k:Nat}{x:Bool}(T:k<c.length):ey (1+k) [B x] (ec v c n)=ec v (c.set k x) n:=by
 have e:∀c:ab Bool,ec v c n=[v]++(ih c++[I n]):=λc=>rfl;rw[e,e,ey];have Y:([v]++(ih c++[I n])).take (1+k)=[v]++(ih c).take k:=by rw[sd,oA L1];rw[lr VK];simp
 have Z:([v]++(ih c++[I n])).drop (1+k+[B x].length)=(ih c).drop (k+1)++[I n]:=by rw[show 1+k+[B x].length=(k+1)+1 by simp;omega];simp only[tH,CN];rw[x8 L1]
 rw[Y,Z];simp only[ih,List.map_set];rw[yk,aJ Pf];simp
theorem ec.abp{v:aj}{c:ab Bool}{i j:Nat}{x:Bool}(q:c.length=49)(am:i<7)(w:j<7):bH (1+i*7+j*1) [B x] (ec v c n) (ec v (c.set (i*7+j) x) n):=⟨by rw[show 1+i*7+j*1=1+(i*7+j) by omega];exact ae5 ac⟩
def ec.abq{v:aj}{c:ab Bool}{i j:Nat}(q:c.length=49)(am:i<7)(w:j<7):Nat.blt (1+i*7+j*1) (ec v c n).length=true:=LG
def aku(b:Nat)(v:aj)(l:ab b2)(c:ab Bool)(n x y:Int)(q:c.length=49):ar prog 41 [av b 0,I x,I y] (fC b v l c n) (λr J=>r=.tuple #[]/\J=fC b v l (lR c x y) n):=by
 have w:=A8 x;have j:=A8 y;unfold fC;cases Y:iU x with
 |false=>
  rw[Y]at w;have e:lR c x y=c:=by simp[lR,Y]
  rw[e];refine aF func41 λW=>?_;exact aQ 17
 |true=>
  rw[Y]at w;cases Z:iU y with
  |false=>
   rw[Z]at j;have e:lR c x y=c:=by simp[lR,Z]
   rw[e];refine aF func41 λW=>?_;exact aQ 17
  |true=>
   rw[Z]at j;obtain⟨a,rfl,p⟩:=xb Y;obtain⟨L,rfl,m⟩:=xb Z;have e:lR c a L=(c.set (a*7+L) true).set (L*7+a) true:=by simp[lR,Y,Z]
   rw[e];have s:(c.set (a*7+L) true).length=49:=by simpa using q
   refine aF func41 λW=>?_;refine aa 15 ?_;refine ah.p' ?_ aC.d'.j;refine ae 8 0 ?_;refine af.n' 8 rfl (V.V6 ad (k:=a) rfl rfl rfl) ?_;refine af.n' 9 rfl (V.V6 ad (k:=L) rfl rfl rfl) ?_;refine ae 2 11 ?_;refine af.n' 13 rfl (V.V6 ad (k:=L) rfl rfl rfl) ?_;refine af.y' 10 rfl (O.O' ad ?_ (j:=ec.abq q p m) (i:=ec.abp q p m));refine au ?_;refine af.n' 14 rfl (V.V6 ad (k:=a) rfl rfl rfl) ?_;refine af.y' 15 rfl (O.O' ad ?_ (j:=ec.abq s m p) (i:=ec.abp s m p));exact aQ 3
def qX(i:Nat)(c:ab Bool):ab Bool:=List.replicate (i*7) false++c.drop (i*7)
def akH{i:Nat}{c:ab Bool}(q:c.length=49)(am:i<=7):(qX i c).length=49:=by simp[qX];omega
def ak7{c:ab Bool}(q:c.length=49):qX 7 c=List.replicate 49 false:=by simp[qX,sc,q]
def ahd{v:aj}{c:ab Bool}{i:Nat}(q:c.length=49)(am:i<7):ey (1+i*7) (List.replicate 7 (B false)) (ec v (qX i c) n)=ec v (qX (i+1) c) n:=by
 have e:∀c:ab Bool,ec v c n=[v]++(ih c++[I n]):=λc=>rfl;have p:ih (qX i c)=List.replicate (i*7) (B false)++ih (c.drop (i*7)):=by simp[ih,qX]
 have h:ih (qX (i+1) c)=List.replicate (i*7) (B false)++List.replicate 7 (B false)++ih (c.drop (i*7+7)):=by rw[List.replicate_append_replicate];simp[ih,qX,fK]
 rw[e,e,ey,p,h];have Y:([v]++(List.replicate (i*7) (B false)++ih (c.drop (i*7))++[I n])).take (1+i*7)=[v]++List.replicate (i*7) (B false):=by rw[Nat.add_comm 1];simp only[tH,ws,ck];rw[oA VK,lr VK]
 have Z:([v]++(List.replicate (i*7) (B false)++ih (c.drop (i*7))++[I n])).drop (1+i*7+(List.replicate 7 (B false)).length)=ih (c.drop (i*7+7))++[I n]:=by rw[show 1+i*7+(List.replicate 7 (B false)).length=(i*7+7)+1 by simp;omega];simp only[tH,CN,ck];rw[wk,sc VK];simp only[List.length_replicate,g4,Kc];rw[x8 L1];simp[ih,sa]
 rw[Y,Z];simp
def aiZ(b:Nat)(v:aj)(l:ab b2)(c:ab Bool)(n:Int)(q:c.length=49):ar prog 50 [av b 0] (fC b v l c n) (λr J=>r=.tuple #[]/\J=fC b v l (List.replicate 49 false) n):=by
 unfold fC;refine aF func50 λW=>?_;refine aa 13 ?_;refine ah.cq [0] (λi:Nat=>i<=7) (λi=>[(5,I (i:Int))]) (λi=>[cells b 126 (ec v (qX i c) n)]) (λi=>7-i) 0 (cG _) ?_;intro i am K s;refine bh ?_;by_cases w:i<7
 .refine aa 22 ?_;refine ai.v (V.V6 ad (k:=i) rfl rfl rfl) ?_;refine ai.v (V.aaW ad rfl) ?_;refine ai.o (O.acz ad rfl VJ ac (by rw[ec.len,akH q am];omega) (ahd q w) ?_);refine aa 7 ?_;rotate_left;exact Out.C' s (i+1) VU (by show 7-(i+1)<7-i;omega)
 .obtain rfl:i=7:=by omega
  rw[ak7 q];exact aQ 12
def aeY(b:Nat)(v:aj)(l:ab b2)(c:ab Bool)(n:Int)(u:l.length<=256):ar prog 40 [av b 0] (fC b v l c n) (λr J=>∃e i Q x,Rd e i l.length x 0 3 (l.map b2.c)/\r=.slice i l.length Q/\J=e::fC b v l c n):=by
 unfold fC;refine aF func40 λW=>?_;refine ah.fact (h6 (f:=b2.c) (v:=v) (l:=l) (E:=143) (aM:=3) VF) λt=>?_;rcases t with⟨rfl,rfl⟩|⟨g,Q,rfl,L,d⟩
 .refine ah.V5 b2.c 143 3 ?_;refine aa 21 ?_;refine ai.x' rfl (akD) ?_;refine aa 6 ?_
  .exact⟨_,_,⟨_,none,0,0,Rd.nil,rfl,rfl⟩,VH⟩
 .by_cases o:l=[]
  .subst o;have N:=ain g Q;refine aa 22 ?_;rintro _ _⟨P,rfl,rfl⟩;refine aa 6 ?_
   .exact⟨_,_,⟨_,some ⟨P,0,none⟩,0,0,Rd.nil,rfl,rfl⟩,(by refine ak.cons al.here (ak.cons (al.there al.here) (ak.cons al.here ak.nil)))⟩
  .have N:=agJ g Q l o ac;refine aa 22 ?_;rintro _ _⟨P,T,rfl,rfl⟩;refine aa 6 ?_
   .exact⟨_,_,⟨_,some ⟨_,0,none⟩,_,_,Rd.rows b2.len ac,rfl,rfl⟩,VH⟩
end Go.Proofs.YteogojgnkjegmaaGreatDoor
namespace Go.Proofs.YteogojgnkjegmaaGreatDoor
open Go.az Go.Proofs.Tryz
variable[Go.az.b5]
inductive cI where
 |up (b:Nat) (L:cT) (s:aA)
 |dn (bU:Nat) (dJ:Go.Value) (l:List eH) (cf:List UInt8) (safe:Int)
def cI.bU:cI->Nat
 |.up _ _ s=>s.bU
 |.dn bU _ _ _ _=>bU
def cI.ptr:cI->aj
 |.up b _ _=>av b 0
 |.dn _ _ _ _ _=>.pointer none
def cI.es:cI->ab ay
 |.up b L s=>ch b L s
 |.dn bU L l cf y=>gd bU L (cp l++cf) y
def cI.on:cI->Bool
 |.up _ _ _=>true
 |.dn _ _ _ _ _=>false
def gT(x:cI):ab aj:=[av x.bU 0]
def g3(x:cI):ab aj:=[x.ptr]
def EN(x:cI):(gT x).length=1:=rfl
def oZ(x:cI):(g3 x).length=1:=rfl
structure eZ where
 t:gf
 rep:Int
 w:Int
def eZ.full(x:eZ):wo:=⟨x.t.full,x.rep,x.w⟩
def eZ.c(x:eZ):ab aj:=x.full.c
def eZ.WO(x:eZ):x.c.length=8:=rfl
def eZ.J':jU eZ.c:=λ_=>rfl
structure fI where
 qY:Nat
 po:Nat
 nC:Nat
 mx:Nat
 j9:Nat
 dJ:aj
 bY:aj
structure bo where
 n:Int
 aE:ab cI
 bi:ab b2
 cut:ab Bool
 lost:Int
 now:Int
 told:ab eZ
def fh(Y:ab cI):ay:=aK (Y.flatMap cI.es)
def dN(L:fI)(c:bo):ab aj:=ly.c ⟨c.n,.slice (some ⟨L.qY,0,none⟩) c.aE.length L.po,.slice (some ⟨L.nC,0,none⟩) c.aE.length L.mx,av L.j9 0,c.now,L.bY⟩
def dX(L:fI)(c:bo):ay:=aK (fC L.j9 L.dJ c.bi c.cut c.lost)
def bE(b:Nat)(L:fI)(c:bo):ab ay:=
 [cells b 85 (dN L c),rows gT (.slice (some ⟨L.qY,0,none⟩) c.aE.length L.po) 112 1 c.aE,rows g3 (.slice (some ⟨L.nC,0,none⟩) c.aE.length L.mx) 36 1 c.aE,dX L c,fh c.aE,rows eZ.c L.bY 67 8 c.told,cM]
def EO{Y:ab cI}{i:Nat}(am:i<Y.length)(y:cI):aP [fh (Y.set i y)] (y.es++[fh (Y.eraseIdx i)]):=by unfold fh;refine aP.aK.trans ((aP.We (bg:=y.es++(Y.eraseIdx i).flatMap cI.es) ?_).trans ((aP.refl _).append aP.aK.symm));rw[yk,aJ am,Ix,l3,l3,fW,<-ck,<-ck];exact D3 _ oG
def vz{o:Type}{l:ab o}{i:Nat}{x:o}(h:l[i]?=some x):l.set i x=l:=by
 refine pi λj=>?_;rw[i2];split
 .rename_i e;subst e;rw[h];have:=(cF.1 h).1;simp[this]
 .rfl
def A9{Y:ab cI}{i:Nat}{x:cI}(h:Y[i]?=some x):aP [fh Y] (x.es++[fh (Y.eraseIdx i)]):=by have:=EO (cF.1 h).1 x;rwa[vz h]at this
section
variable{P:b1}{f:fb}{args:ab aj}{Y:ab cI}{i:Nat}{x:cI}{U:Type}{Q:aj->U->Prop}{T:U->ab ay}{N:U->cI}
def ar.XY(h:Y[i]?=some x)(q:ar P f args x.es (λr Z=>∃z,Q r z/\Z=T z++(N z).es)):ar P f args [fh Y] (λr Z=>∃z,Q r z/\Z=T z++[fh (Y.set i (N z))]):=by have am:=(cF.1 h).1;refine ar.eqv (A9 h) (ar.frame (bg:=[fh (Y.eraseIdx i)]) q) ?_;rintro r Z⟨_,⟨z,J,rfl⟩,rfl⟩;refine⟨_,⟨z,J,rfl⟩,?_⟩;rw[ck];exact(aP.refl (T z)).append (EO am (N z)).symm
def ar.Z9(h:Y[i]?=some x)(q:ar P f args (x.es++[cM]) (λr Z=>∃z,Q r z/\Z=(N z).es++[cM])):ar P f args [fh Y,cM] (λr Z=>∃z,Q r z/\Z=[fh (Y.set i (N z)),cM]):=by
 have am:=(cF.1 h).1;have M (y:cI) (e:ay):aP [fh (Y.set i y),e] ((y.es++[e])++[fh (Y.eraseIdx i)]):=by refine((EO am y).append (aP.refl [e])).trans (aP.We ?_);rw[ck,ck];exact AN _ (hV ..)
 have W:=M x cM;rw[vz h]at W;refine ar.eqv W (ar.frame (bg:=[fh (Y.eraseIdx i)]) q) ?_;rintro r Z⟨_,⟨z,J,rfl⟩,rfl⟩;exact⟨_,⟨z,J,rfl⟩,(M (N z) cM).symm⟩
end
def hC(c:bo)(M:Int):Int:=if M<0\/c.n<=M then 1 else if((c.aE[M.toNat]?).map cI.on).getD false then 0 else 7
structure ClN(c:bo):Prop where
 n:c.n=3\/c.n=5\/c.n=7
 len:(c.aE.length:Int)=c.n
def ClN.at{c:bo}(h:ClN c){rep:Int}(W:0<=rep)(J:rep<c.n):∃k x,rep=(k:Nat)/\k<c.aE.length/\c.aE[k]?=some x:=by
 have:=h.len;obtain⟨k,rfl⟩:∃k:Nat,rep=(k:Int):=⟨rep.toNat,ac⟩
 have u:k<c.aE.length:=ac
 exact⟨k,c.aE[k],rfl,u,hl u⟩
def Ba(b:Nat)(L:fI)(c:bo)(h:ClN c)(M:Int):ar prog 31 [av b 0,I M] (bE b L c) (λr Z=>r=I (hC c M)/\Z=bE b L c):=by
 unfold hC bE dN;by_cases g:M<0\/c.n<=M
 .rw[aJ g];refine aF func31 λW=>?_;refine aa 20 ?_;refine ai.aX (λC=>?_) (λC=>?_);exact aQ 20;exact aQ 20
 .rw[aG g];obtain⟨k,x,rfl,u,J⟩:=h.at (rep:=M) ac ac;have z:=h.len;rw[hY,J];have o:(c.aE.length:Nat)<=7:=by have:=h.n;omega
  cases x with
  |up s K r=>
   rw[show((Option.map cI.on (some (cI.up s K r))).getD false)=true from rfl,aJ rfl];refine LM λW=>?_;exact aQ 15
  |dn s K r C y=>
   rw[show((Option.map cI.on (some (cI.dn s K r C y))).getD false)=false from rfl,aG VI];refine LM λW=>?_;exact aQ 14
end Go.Proofs.YteogojgnkjegmaaGreatDoor
namespace Go.Proofs.YteogojgnkjegmaaGreatDoor
open Go.az Go.Proofs.Tryz
variable[Go.az.b5]
variable{k:Nat}{n:Int}{C:bS->Prop}{m:aD}{e:Int}{d:bF}{M:Int}
structure ClP(k:Nat)(c:bo):Prop extends ClN c where
 cut:c.cut.length=49
 bi:c.bi.length<=256
 lost:0<=c.lost/\c.lost<=k
 told:c.told.length<=k
 now:0<=c.now/\c.now<=k
def mf(i:Nat)(w:Int)(t:gf):eZ:=⟨t,(i:Int),w⟩
def bo.Wi(c:bo)(i k:Nat)(K:cT)(r:aA):bo:=
 {c with aE:=c.aE.set i (.up k K r.flush),bi:=(hs c.cut c.bi r.out).1,lost:=c.lost+(hs c.cut c.bi r.out).2,told:=c.told++r.told.map (mf i c.now)}
def kS(c:bo)(i:Nat)(d:bo):Prop:=∃k K r J,c.aE[i]?=some (.up k K r)/\d=c.Wi i k J r
def afr(e:ay)(L:fI)(l:ab b2)(c:ab Bool)(n:Int)(i:aT Go.Addr)(Q x off:Nat)(N:ab b2)(f:Rd e i N.length x off 3 (N.map b2.c))(q:c.length=49)(u:l.length<=256)(y:0<=n/\n<=1000000000000000)(U:N.length<=1000000):ar prog 63 [av L.j9 0,.slice i N.length Q] [e,aK (fC L.j9 L.dJ l c n)] (λr J=>∃t,r=I (hs c l N).2/\J=[e,aK (fC L.j9 t (hs c l N).1 c (n+(hs c l N).2))]):=by refine ar.eqv (aP.cons _ aP.aK) (aj3 e i Q x off L.j9 L.dJ l N c n f q u y U) ?_;rintro r J⟨t,rfl,rfl⟩;exact⟨_,⟨t,rfl,rfl⟩,aP.cons _ aP.aK.symm⟩
def xd{f:cI->ab aj}{v:aj}{E R:Nat}{l:ab cI}{i:Nat}{x y:cI}(h:l[i]?=some x)(k:f y=f x):rows f v E R (l.set i y)=rows f v E R l:=by
 have K:(l.set i y).map f=l.map f:=by rw[List.map_set,k];exact vz (by rw[h5,h];rfl)
 unfold rows;rw[cy,xR,xR,K]
def Bb(b:Nat)(L:fI)(c:bo){i:Nat}{x y:cI}(U:c.aE[i]?=some x)(z:y.bU=x.bU)(g:y.ptr=x.ptr):bE b L {c with aE:=c.aE.set i y}=[cells b 85 (dN L c),rows gT (.slice (some ⟨L.qY,0,none⟩) c.aE.length L.po) 112 1 c.aE,rows g3 (.slice (some ⟨L.nC,0,none⟩) c.aE.length L.mx) 36 1 c.aE,dX L c,fh (c.aE.set i y),rows eZ.c L.bY 67 8 c.told,cM]:=by unfold bE dN dX;dsimp only;rw[xd (f:=gT) U (by unfold gT;rw[z]),xd (f:=g3) U (by unfold g3;rw[g]),cy]
def Bc(b:Nat)(L:fI)(c:bo)(k i x:Nat)(u:cT)(w:aA)(h:ClP k c)(ca:k<=100000000000)(U:c.aE[i]?=some (.up x u w))(ej:w.out.length<=1000000)(cB:w.told.length<=1000000):ar prog 37 [av b 0,I (i:Int)] (bE b L c) (λr J=>∃F bs,(kS c i bs/\F.nC=L.nC/\F.mx=L.mx)/\r=.tuple #[]/\J=bE b F bs):=by
 have Yc:=h.len;have cN:=h.n;have Yg:=h.lost;have Ye:=h.told;have am:=(cF.1 U).1;have C:=ar.XY (Q:=λr (z:cT×aT Go.Addr×Nat×aT Go.Addr×Nat)=>r=.tuple #[.slice z.2.1 w.out.length z.2.2.1,.slice z.2.2.2.1 w.told.length z.2.2.2.2]) (T:=λz=>[rows b2.c (.slice z.2.1 w.out.length z.2.2.1) 143 3 w.out,rows gf.c (.slice z.2.2.2.1 w.told.length z.2.2.2.2) 65 6 w.told]) (N:=λz=>.up x z.1 w.flush) U (ar.post (ae4 x u w) (by rintro v J⟨F,o,s,p,a,rfl,rfl⟩;exact⟨_,⟨(F,o,s,p,a),rfl,rfl⟩,λ_ _ _ h=>h⟩));have q (M:cT):kS c i (c.Wi i x M w):=⟨x,u,w,M,U,rfl⟩
 unfold bE dN dX;dsimp only[List.cons_append,List.nil_append]at C;refine aF func37 λW=>?_;generalize br _=D;refine aa 7 ?_;refine ai.v (V.E' ad (k:=i) rfl rfl rfl rfl ac) ?_;refine ai.v (V.Wm ad (f:=g3) rfl VF oZ U) ?_;refine au ?_;rintro _ _⟨g,rfl,rfl⟩;refine aa 8 ?_;obtain⟨M,o,s,p,a⟩:=g;dsimp only;refine ah.fact (jc (f:=b2.c) (v:=.slice o w.out.length s) (l:=w.out) b2.len VF) λX=>?_;obtain⟨Yl,Yj,b3,P,R⟩:=X;simp only[tS]at P;obtain⟨rfl,-,rfl⟩:=P;have Yp:=afr (rows b2.c (.slice o w.out.length s) 143 3 w.out) L c.bi c.cut c.lost o s b3 0 w.out R h.cut h.bi ac ej;clear C;refine aa 8 ?_;rintro _ _⟨Z,rfl,rfl⟩;refine aa 11 ?_;refine ah.fact (jc (f:=gf.c) (v:=.slice p w.told.length a) (l:=w.told) gf.WO VF) λX=>?_;obtain⟨Ym,Yk,Yi,P,m⟩:=X;simp only[tS]at P;obtain⟨rfl,-,rfl⟩:=P;refine ah.cq [25,26,0,1] (λz:Nat×aj=>z.1<=w.told.length) (λz=>[(27,I (z.1:Int))]) (λz=>[cells b 85 (dN {L with bY:=z.2} c),rows eZ.c z.2 67 8 (c.told++(w.told.take z.1).map (mf i c.now))]) (λz=>w.told.length-z.1) (0,L.bY) (cG _) ?_ (t:=by unfold dN;rw[xU,lq,db];(repeat(first|exact ak.nil|exact al.here|apply ak.cons|apply al.there)));rintro⟨j,bY⟩ dK K cJ;dsimp only at dK;have Yh:(c.told++(w.told.take j).map (mf i c.now)).length<=200000000000:=by rw[bQ,dZ,e8];omega
 unfold dN;refine bh ?_;by_cases Y:j<w.told.length
 .obtain⟨t,y⟩:=cl Y;have G:=kk (f:=gf.c) y;have E:bb .lss (j:Int) (w.told.length:Int)=some true:=by simp[bb];omega
  have c5:c.told++(w.told.take (j+1)).map (mf i c.now)=(c.told++(w.told.take j).map (mf i c.now))++[mf i c.now t]:=by rw[oC,y,ck,hJ];rfl
  generalize Yf:c.told++(w.told.take j).map (mf i c.now)=iT at*;refine aa 2 ?_;refine ai.v (V.cmp rfl rfl E) ?_;refine aa 10 ?_;refine ai.v (V.W9 ad (k:=j) rfl rfl m (z:=ac)) ?_;refine ai.v (V.Wb ad (k:=j) rfl m G) ?_;refine aq 0 λnv=>?_;refine aa 3 ?_;refine ah.V9 [16] ?_ aC.j.j.j.j.j.j.j.j.d'.d' aC.j.j.j.j.j.j.j.j.j.d';refine ae 4 0 ?_;refine ae 5 5 ?_;refine af.t 4 rfl (V.F' ad) ?_;refine af.t 10 rfl (V.F' ad) ?_;refine af.n' 11 rfl (V.WH ad (o:=(mf i c.now t).c)) ?_;refine af.y' 12 rfl (O.V' ad eZ.c [mf i c.now t] rfl (bP.agg rfl bP.nil) rfl rfl (λYq=>?_));refine au ?_;refine af.y' 13 rfl (O.W2 ad rfl rfl Vz (cz.rows (f:=eZ.c) (l:=[mf i c.now t]) ad VF eZ.J') (λd Yn Yo=>?_));refine au ?_;refine ae 2 14 ?_;refine af.l 16 rfl (O.O' ad ?_);refine aa 8 ?_;all_goals exact Out.C' cJ (j+1,d) EY (by show w.told.length-(j+1)<w.told.length-j;omega) (g:=by unfold dN;rw[c5];(repeat(first|exact ak.nil|exact al.here|apply ak.cons|apply al.there)))
 .obtain rfl:j=w.told.length:=by omega
  clear cJ;have E:bb .lss (w.told.length:Int) (w.told.length:Int)=some false:=RD
  rw[iI];refine aa 2 ?_;refine ai.v (V.cmp rfl rfl E) ?_;refine aa 9 ?_;all_goals exact⟨_,_,⟨{L with dJ:=Z,bY:=bY},_,⟨q M,rfl,rfl⟩,rfl,rfl⟩,(by unfold bo.Wi;have e:=Bb b {L with dJ:=Z,bY:=bY} {c with bi:=(hs c.cut c.bi w.out).1,lost:=c.lost+(hs c.cut c.bi w.out).2,told:=c.told++w.told.map (mf i c.now)} (y:=.up x M w.flush) U rfl rfl;unfold bE dN dX at e;dsimp only at e⊢;rw[e];(repeat(first|exact ak.nil|exact al.here|apply ak.cons|apply al.there)))⟩
def EP{n:Int}:∀(l:ab eH) (p:aL aY) (P:p.ok) (x:ag),(∀y∈l,y.1≠x)->(hZ p l).at x=p.at x
 |[],p,P,x,_=>rfl
 |y::l,p,P,x,h=>by
  show(hZ (p.set y.1 y.2) l).at x=p.at x
  rw[EP (n:=n) l _ (aL.Xe P ..) x λz v=>h z (e0 _ v),aL.WN P,aG];rintro⟨_,e⟩;exact h y (er ..) e.symm
def Kd{n:Int}:∀(l:ab eH) (p:aL aY) (P:p.ok) (g:p.aE=n) (u:k5 n l) (c:(l.map (·.1)).Nodup) (y:eH),y∈l->(hZ p l).at y.1=some y.2
 |[],p,P,g,u,c,y,h=>VL
 |z::l,p,P,g,u,c,y,h=>by
  show(hZ (p.set z.1 z.2) l).at y.1=some y.2
  rw[eE,ki]at c;rcases cQ.1 h with rfl|h
  .have G:=(u y (er ..)).1;rw[<-g]at G;rw[EP (n:=n) l _ (aL.Xe P ..) y.1 λz v e=>c.1 (dQ.2 ⟨z,v,e⟩),aL.WN P,aJ ⟨G,rfl⟩]
  .exact Kd l _ (aL.Xe P ..) (by rw[aL.Xd];exact g) (λw s=>u w (e0 _ s)) c.2 y h
def ajH{x y:ag}(h:p5 x y):x≠y:=λe=>by subst e;unfold p5 at h;omega
def Ke{p:aL aY}(z:p.ok)(G:k5 n p.all)(g:(aL.new n:aL aY).aE=n)(x:ag):(hZ (aL.new n) p.all).at x=p.at x:=by
 cases h:p.at x with
 |some i=>
  have K:(x,i)∈p.all:=(aL.WJ z).2 h;refine Kd p.all _ (aL.Wo n) g G ?_ (x,i) K;rw[List.Nodup,List.pairwise_map];exact(aL.ZV p).imp λh=>ajH h
 |none=>
  rw[EP (n:=n) _ _ (aL.Wo n) x λy C e=>?_,aL.W4];have:=(aL.WJ z).1 C;rw[e,h]at this;cases this
def Kf(y:n=3\/n=5\/n=7):(aL.new n:aL aY).aE=n:=by
 show Min.min (Max.max n 0) 7=n
 omega
structure o0(s:bS)(iT jR:ab eH):Prop where
 ok:k5 s.n (iT++jR)
 data:s.data=cp (iT++jR)
 safe:s.safe=((cp iT).length:Int)
 p:∀x,s.p.at x=(hZ (aL.new s.n) (iT++jR)).at x
def aj0(s:bS):Prop:=∃W o,o0 s W o
def o0.add{s:bS}{W o:ab eH}(h:o0 s W o)(E:s.ok){x:ag}{i:aY}(U:bt x s.n=true)(am:ff i s.n=true):o0 (s.add x i) W (o++[(x,i)])\/o0 (s.add x i) s.p.all [(x,i)]:=by
 have g:=Kf E.size;unfold bS.add;split
 .refine .inr ⟨?_,?_,rfl,λy=>?_⟩
  .intro y C;rcases eh.1 C with C|C
   .exact E.hy y C
   .rw[fF.1 C];exact⟨U,am⟩
  .show cp s.p.all++gb x i=cp (s.p.all++[(x,i)]);rw[rF];simp[cp]
  .show(s.p.set x i).at y=(hZ (aL.new s.n) (s.p.all++[(x,i)])).at y;have X:=Ay (aL.Wo s.n:(aL.new s.n:aL aY).ok) s.p.all;rw[Dx,aL.WN E.p,aL.WN X,Ke E.p E.hy g,Dy,g,E.aE]
 .refine .inl ⟨?_,?_,h.safe,λy=>?_⟩
  .intro y C;rw[<-ck]at C;rcases eh.1 C with C|C
   .exact h.ok y C
   .rw[fF.1 C];exact⟨U,am⟩
  .show s.data++gb x i=cp (W++(o++[(x,i)]));rw[h.data,<-ck,rF (W++o)];simp[cp]
  .show(s.p.set x i).at y=(hZ (aL.new s.n) (W++(o++[(x,i)]))).at y;have X:=Ay (aL.Wo s.n:(aL.new s.n:aL aY).ok) (W++o);rw[<-ck,Dx,aL.WN E.p,aL.WN X,h.p,Dy,g,E.aE]
def Kg:∀(l:ab eH) (k:Nat),k<=(cp l).length->∃f y x j,l=f++x/\(cp l).take k=cp f++j/\((x=[]/\j=[])\/∃y t,x=y::t/\j=(gb y.1 y.2).take j.length/\j.length<(gb y.1 y.2).length)/\y=j
 |[],k,h=>⟨[],[],[],[],rfl,by simp[cp],.inl ⟨rfl,rfl⟩,rfl⟩
 |z::l,k,h=>by
  have e:cp (z::l)=gb z.1 z.2++cp l:=by simp[cp]
  by_cases T:k<(gb z.1 z.2).length
  .refine⟨[],_,z::l,(gb z.1 z.2).take k,rfl,?_,.inr ⟨z,l,rfl,?_,?_⟩,rfl⟩
   .rw[e,oA ac];simp[cp]
   .rw[e8,qw ac]
   .rw[e8];omega
  .rw[e,bQ]at h;obtain⟨f,y,x,j,Y,Z,D,m⟩:=Kg l (k-(gb z.1 z.2).length) ac;refine⟨z::f,y,x,j,by rw[Y];rfl,?_,D,m⟩;rw[e,sd,lr ac,Z,<-ck];simp[cp]
def Kh(c:n<=7){y:eH}(h:bt y.1 n=true/\ff y.2 n=true):(m0 y.1 y.2).length<=16384/\0<(m0 y.1 y.2).length:=by have:=Aw c h.1 h.2;omega
def ah6{s:bS}(E:s.ok){W L:ab eH}(h:o0 s W L)(F:Int)(Q:aS):∃o U cf,L=o++U/\(g6 cf).2=0/\vb s.data (cp W).length F Q=cp (W++o)++cf:=by
 have M:s.n<=7:=by have:=E.size;omega
 have c:s.data=cp W++cp L:=by rw[h.data,rF]
 obtain⟨N,X⟩:∃N,N=rE s.data (cp W).length F:=⟨_,rfl⟩
 have d:N<=(cp L).length:=by rw[X];unfold rE;rw[c,bQ];omega
 unfold vb;rw[<-X];by_cases w:N=0
 .rw[aJ w];refine⟨[],L,[],rfl,rfl,?_⟩;rw[c,As,db,db];rfl
 .rw[aG w];have f:s.data.take ((cp W).length+N)=cp W++(cp L).take N:=by rw[c,G3]
  obtain⟨o,_,U,j,Y,Z,D,-⟩:=Kg L N d;have z:(cp o).length+j.length=N:=by have:=c7 List.length Z;rw[bQ,e8]at this;omega
  rw[f,Z,<-ck,<-rF];have i:(cp (W++o)).length+j.length=(cp W).length+N:=by rw[rF,bQ];omega
  generalize K:(cp (W++o)++j).getD ((cp W).length+N-1) 0^^^Q=b;by_cases v:j=[]
  .subst v;simp only[gv,hj]at i z;rw[db]at K⊢;have P:o≠[]:=λe=>by subst e;simp[cp]at z;omega
   obtain⟨J,y,rfl⟩:∃J y,o=J++[y]:=⟨o.dropLast,o.getLast P,(List.dropLast_concat_getLast P).symm⟩
   have C:=h.ok y Hs;have q:=yA M C.1 C.2;have p:cp (W++(J++[y]))=cp (W++J)++gb y.1 y.2:=by rw[<-ck,rF];simp[cp]
   rw[p]at K i⊢;rw[bQ]at i;have T:(cp W).length+N-1=(cp (W++J)).length+((gb y.1 y.2).length-1):=ac
   rw[T]at K⊢;rw[List.set_append_right _ _ ac,Kc];by_cases r:(gb y.1 y.2)[(gb y.1 y.2).length-1]?=some b
   .refine⟨J++[y],U,[],Y,rfl,?_⟩;rw[vz r,p,db]
   .refine⟨J,y::U,(gb y.1 y.2).set ((gb y.1 y.2).length-1) b,Hs,?_,rfl⟩;have x:(gb y.1 y.2).set ((gb y.1 y.2).length-1) b=(gb y.1 y.2).take ((gb y.1 y.2).length-1)++[b]:=by rw[yk,aJ ac,Nat.sub_add_cancel ac,IB]
    rw[x];obtain⟨a,u⟩:=Kh M C;exact c7 Prod.snd (HY a u (k:=(gb y.1 y.2).length-1) TL b (.inr r))
  .rcases D with⟨_,D⟩|⟨y,l,rfl,m,t⟩
   .exact absurd D v
   .have f:0<j.length:=qA.2 v;have C:=h.ok y Hs;obtain⟨a,u⟩:=Kh M C;refine⟨o,y::l,j.set (j.length-1) b,Y,?_,?_⟩
    .have x:j.set (j.length-1) b=(gb y.1 y.2).take (j.length-1)++[b]:=by rw[yk,aJ ac,Nat.sub_add_cancel ac,IB];have n:=c7 (List.take (j.length-1)) m;rw[tE,qw (Nat.sub_le ..)]at n;rw[n]
     rw[x];exact c7 Prod.snd (HY a u (k:=j.length-1) TL b (.inl TL))
    .have T:(cp W).length+N-1=(cp (W++o)).length+(j.length-1):=by omega
     rw[T,List.set_append_right _ _ ac,Kc]
def ajf(n E:Int)(x:b2):Prop:=∃m,c4 m n=true/\m.bI≠E/\x=⟨E,m.bI,gP m⟩
def nN(s:aA):Prop:=∀x∈s.out,ajf s.n s.self x
def gU(s:aA)(X:ab aD)(L:aA):Prop:=L.inbox=s.inbox++fa s.self X/\L.out=s.out++g2 s.n s.self X/\L.n=s.n/\L.self=s.self
def ae0(E:Int)(a b:ab aD):fa E (a++b)=fa E a++fa E b:=by unfold fa;rw[nA]
def alC(n E:Int)(a b:ab aD):g2 n E (a++b)=g2 n E a++g2 n E b:=by unfold g2;rw[nA,hJ]
def gU.nil{s cL:aA}(Y:cL.inbox=s.inbox)(Z:cL.out=s.out)(D:cL.n=s.n)(m:cL.self=s.self):gU s [] cL:=⟨by rw[Y];simp[fa],by rw[Z];simp[g2],D,m⟩
def gU.send(s:aA)(X:ab aD):gU s X (s.send X):=⟨rfl,rfl,rfl,rfl⟩
def gU.trans{s t u:aA}{a b:ab aD}(h:gU s a t)(k:gU t b u):gU s (a++b) u:=
 ⟨by rw[k.1,h.1,h.2.2.2,ae0,ck],by rw[k.2.1,h.2.1,h.2.2.1,h.2.2.2,alC,ck],k.2.2.1.trans h.2.2.1,k.2.2.2.trans h.2.2.2⟩
def nN.WB{s L:aA}{X:ab aD}(h:nN s)(E:gU s X L):nN L:=by
 intro x U;rw[E.2.1]at U;rw[E.2.2.1,E.2.2.2];rcases eh.1 U with U|U
 .exact h x U
 .unfold g2 at U;obtain⟨m,K,rfl⟩:=dQ.1 U;have:=(mU.1 K).2;simp only[c1,kf,jW]at this;exact⟨m,this.2,this.1,rfl⟩
def EQ(s:aA)(m:aD)(X:eY):gU s (if(cH s.ax s.self m).2.2=true then[(cH s.ax s.self m).2.1]else[]) (s.U' m X):=by
 unfold aA.U';split
 .exact⟨rfl,rfl,rfl,rfl⟩
 .exact gU.nil rfl rfl rfl rfl
def aA.W6(s:aA)(m:aD):ab aD:=match aZ s.bq m.Item with
 |none=>[]
 |some e=>if(e.v.B' m).2=true then(e.v.B' m).1.H' else[]
variable{L:aA}
def aA.W7(s:aA)(m:aD):ab aD:=match aZ s.leads m.Item with
 |none=>[]
 |some e=>if(e.v.B' m).2=true then(e.v.B' m).1.H' else[]
def ER(s:aA)(m:aD)(n:Nat):gU s (s.W6 m) (s.V1 m n):=by
 cases G:aZ s.bq m.Item with
 |none=>
  have p:s.V1 m n=s:=by unfold aA.V1;rw[G]
  have h:s.W6 m=[]:=by unfold aA.W6;rw[G]
  rw[p,h];exact Vb
 |some e=>
  by_cases f:(e.v.B' m).2=true
  .have h:s.W6 m=(e.v.B' m).1.H':=by unfold aA.W6;rw[G];dsimp only;rw[aJ f]
   rw[h];unfold aA.V1;rw[G];dsimp only;rw[aJ f];split<;>exact⟨rfl,rfl,rfl,rfl⟩
  .have h:s.W6 m=[]:=by unfold aA.W6;rw[G];dsimp only;rw[aG f]
   rw[h];unfold aA.V1;rw[G];dsimp only;rw[aG f];exact Vb
def Ki(s:aA)(m:aD):gU s (s.W7 m) (s.V7 m):=by
 cases G:aZ s.leads m.Item with
 |none=>
  have p:s.V7 m=s:=by unfold aA.V7;rw[G]
  have h:s.W7 m=[]:=by unfold aA.W7;rw[G]
  rw[p,h];exact Vb
 |some e=>
  by_cases f:(e.v.B' m).2=true
  .have h:s.W7 m=(e.v.B' m).1.H':=by unfold aA.W7;rw[G];dsimp only;rw[aJ f]
   rw[h];unfold aA.V7;rw[G];dsimp only;rw[aJ f];split<;>exact⟨rfl,rfl,rfl,rfl⟩
  .have h:s.W7 m=[]:=by unfold aA.W7;rw[G];dsimp only;rw[aG f]
   rw[h];unfold aA.V7;rw[G];dsimp only;rw[aG f];exact Vb
def fs.WB{s:aA}(h:fs s m L):∃T,gU s T L:=by
 rcases h with⟨_,X,_,_,h⟩|⟨_,n,rfl⟩
 .refine⟨_++[],(EQ s m X).trans ?_⟩;rcases h with⟨_,h⟩|⟨_,h⟩
  .obtain⟨w,_,rfl⟩:=h.go;exact Vb
  .unfold je at h;subst h;exact Vb
 .refine⟨[]++(_++_),(gU.nil (cL:={s with high:=s.Wa m}) rfl rfl rfl rfl).trans ((ER _ m n).trans (Ki _ m))⟩
def fs.ax{s:aA}(h:fs s m L):L.ax=(if mF m then(cH s.ax s.self m).1 else s.ax)/\L.now=s.now:=by
 rcases h with⟨T,X,_,_,h⟩|⟨T,h⟩
 .rw[aJ T];have y:(s.U' m X).now=s.now:=by unfold aA.U';split<;>rfl
  rcases h with⟨_,h⟩|⟨_,h⟩
  .obtain⟨w,_,rfl⟩:=h.go;exact⟨ue s m X,y⟩
  .unfold je at h;subst h;exact⟨ue s m X,y⟩
 .rw[aG T];have Y:=h.core.b;have Z:=h.core.a;simp only[nV]at Y Z;exact⟨Y.1,Z.2.2.1⟩
def y3(s L:bS):Prop:=L=s\/∃x i,bt x s.n=true/\ff i s.n=true/\L=s.add x i
def Bd(s:bS){x:ag}{Z N:aY}(U:bt x s.n=true)(am:ff N s.n=true):y3 s (ma s x Z N):=by
 unfold ma;split
 .exact .inl rfl
 .exact .inr ⟨x,N,U,am,rfl⟩
def Kj{s:bS}(E:Int)(h:s.ok):y3 s (cH s E m).1:=by
 unfold cH;split
 .rename_i G;have K:=gZ.1 G.1;have am:=w2 h m.Item;unfold mb;dsimp only;split
  .exact .inl rfl
  split
  .rename_i T;have q:=qU K PS;unfold j4;dsimp only;split
   .exact Bd s K.item (w3 am K.bm (.inl rfl) (AV h q))
   .exact .inl rfl
  split
  .rename_i T;have q:=qU K PS;unfold j5;dsimp only;split
   .exact Bd s K.item (w3 am K.bm (.inr rfl) q)
   .exact .inl rfl
  split
  .unfold nb;dsimp only;split
   .exact Bd s K.item (AU am K.bm)
   .exact .inl rfl
  split
  .rename_i T;have q:=qU K PS;exact Bd s K.item (ys am q)
  .exact .inl rfl
 .exact .inl rfl
def fs.add{s:aA}(u:s.ax.ok)(h:fs s m L):y3 s.ax L.ax:=by
 rw[h.ax.1];split
 .exact Kj s.self u
 .exact .inl rfl
def lS(C:bS->Prop)(s:bS):Prop:=∃W o,o0 s W o/\∀T Y,o=T++Y->∃t,C t/\t.n=s.n/\∀x,t.p.at x=(hZ (aL.new s.n) (W++T)).at x
def lS.add{s L:bS}(h:lS C s)(E:s.ok)(K:y3 s L)(Y:C s)(Z:C L):lS C L:=by
 rcases K with rfl|⟨x,i,U,am,rfl⟩
 .exact h
 .obtain⟨W,o,P,q⟩:=h;have m:(s.add x i).n=s.n:=bS.XP ..;have k {l a b:ab eH} {y:eH} (e:l++[y]=a++b):(b=[]/\a=l++[y])\/∃M,b=M++[y]/\l=a++M:=by
   rcases I0 b with rfl|⟨M,z,rfl⟩
   .exact .inl ⟨rfl,by rw[e,db]⟩
   .rw[DZ,<-ck]at e;obtain⟨c,J⟩:=List.append_inj' e rfl;exact .inr ⟨M,by rw[DZ,(List.cons.inj J).1],c⟩
  rcases P.add E U am with aV|aV
  .refine⟨_,_,aV,λu N e=>?_⟩;rcases k e with⟨_,rfl⟩|⟨M,_,J⟩
   .exact⟨_,Z,rfl,aV.p⟩
   .obtain⟨t,r,T,v⟩:=q u M J;exact⟨t,r,by rw[T,m],by rw[m];exact v⟩
  .refine⟨_,_,aV,λu N e=>?_⟩;rcases k (l:=[]) e with⟨_,rfl⟩|⟨M,_,J⟩
   .exact⟨_,Z,rfl,aV.p⟩
   .have j:u=[]:=(List.append_eq_nil_iff.1 J.symm).1;subst j;refine⟨s,Y,m.symm,λy=>?_⟩;rw[db,m];exact(Ke E.p E.hy (Kf E.size) y).symm
def lS.of{s:bS}{W:ab eH}(h:o0 s W [])(q:C s):lS C s:=
 ⟨W,[],h,λT x e=>⟨s,q,rfl,by rw[(List.append_eq_nil_iff.1 e.symm).1];exact h.p⟩⟩
structure UpF(k:Nat)(n now:Int)(i:Nat)(s:aA):Prop where
 y:ek k s
 v:dP s
 bu:s.inbox=[]
 b3:nN s
 n:s.n=n
 self:s.self=(i:Int)
 now:s.now<=now
 pl:aj0 s.ax
 ol:s.out.length<=900000
 eO:s.told.length<=900000
structure mG(k:Nat)(n now:Int)(i:Nat)(s:aA):Prop extends UpF k n now i s where
 on:s.out=[]
 nu:s.told=[]
 o1:∃iT,o0 s.ax iT []
def UpF.flush{N:Int}{i:Nat}{s:aA}(h:UpF k n N i s):mG k n N i s.flush:=by
 obtain⟨W,o,z⟩:=h.pl;have aV:o0 s.flush.ax (W++o) []:=by
  refine⟨by rw[db];exact z.ok,by rw[db];exact z.data,?_,by rw[db];exact z.p⟩;show(s.ax.data.length:Int)=_
  rw[z.data]
 have C:=h.y;refine⟨⟨⟨C.toRepI.of rfl,⟨C.ce,C.rs,C.bu⟩,⟨C.ax.size,C.ax.p,C.ax.aE,C.ax.hy,C.ax.pr⟩,C.en,C.sp,C.dv⟩,⟨h.v.en,h.v.e6,h.v.bG,h.v.i8⟩,h.bu,λx U=>(by cases U),h.n,h.self,h.now,⟨_,_,aV⟩,cG _,cG _⟩,rfl,rfl,_,aV⟩
def GoR.adn{s L:dl}{N:ab ag}(W:hp n s)(h:GoR n s N L):N.length<=448:=W.XJ h.h1 λx U=>(h.is x U).1
def kP.told{s:aA}(h:RepI k s)(J:kP s L):L.told.length<=s.told.length+448:=by
 obtain⟨N,w,x,q,j,G,K,f,R,rfl⟩:=J.go;have Y:=c7 List.length f;have Z:=rC s.Wx N;have D:=GoR.adn h.run G.toGoR;rw[dZ]at Y;show(s.told++q).length<=_
 rw[bQ];omega
def ig.all{s r:aA}(h:ek k s)(z:dP s)(a:nN s)(P:lS C s.ax)(K:C s.ax)(E:ig s r)(q:∀t,ig s t->ig t r->C t.ax):∃i,ek (k+3*i) r/\r.R'+i<=s.R'/\dP r/\nN r/\lS C r.ax/\r.n=s.n/\r.self=s.self/\r.now=s.now/\r.told=s.told/\r.out.length<=s.out.length+14*i:=by
 induction E with
 |refl=>exact⟨0,h,cx _,z,a,P,rfl,rfl,rfl,rfl,cx _⟩
 |@step a b m x E am K X=>
  obtain⟨i,W,M,N,P,J,p,h,j,U,z⟩:=X λt Y Z=>q t Y (.step Z am K);obtain⟨f,G,Z⟩:=W.rest am;have F:=K.R' f.z.toRepW;have R:dP {a with inbox:=x}:=⟨N.en,N.e6,N.bG,λd l=>N.i8 d (by rw[am];exact e0 _ l)⟩
  obtain⟨X,Z⟩:=K.WB;have F:C a.ax:=q a E (.step (.refl a) am K);have m:C b.ax:=q b (.step E am K) (.refl b);have D:=K.out f;have r:=K.ax.2;have Y:y3 a.ax b.ax:=fs.add (s:={a with inbox:=x}) W.ax K;dsimp only at D r;refine⟨i+1,K.cu f G,ac,K.WF R W.ax (N.i8 _ Qt),nN.WB (s:={a with inbox:=x}) P Z,J.add W.ax Y F m,Z.2.2.1.trans p,Z.2.2.2.trans h,r.trans j,K.told.trans U,ac⟩
def kP.ado{s:aA}(J:kP s L)(h:nN s):nN L:=by obtain⟨p,x,j,Y,t,n,q,z,y⟩:=J.same;intro x U;rw[z]at U;rw[t,n];exact h x U
def jB.all{N:Int}{i:Nat}{s:aA}(h:ek k s)(z:dP s)(a:nN s)(r:lS C s.ax)(c:jB s L)(M:s.R'<=13900)(p:s.n=n)(U:s.self=(i:Int))(v:s.now<=N)(x:s.out.length<=700000)(D:s.told.length<=800000)(q:∀t,ig s t->C t.ax):UpF (k+42200) n N i L/\lS C L.ax:=by
 obtain⟨j,E,am,J⟩:=c;obtain⟨j,W,K,N,P,x,w,y,R,c,G⟩:=E.all h z a r (q s (.refl s)) λt Y _=>q t Y;have f:=J.abo W;have t:=J.told W.toRepI;obtain⟨d,Z,r,Q,h,z,Y,u,b,E,o,j⟩:=J.same;have X:=f.dv;have G:lS C L.ax:=by rw[d];exact x
 refine⟨⟨⟨f.toRepI.mono ac,f.toRepG,f.ax,f.en,f.sp,ac⟩,J.WF N,by rw[Y,am],J.ado P,by rw[h,w,p],by rw[z,y,U],by rw[o,R];exact v,?_,?_,?_⟩,G⟩
 .obtain⟨W,o,T,_⟩:=G;exact⟨W,o,T⟩
 .rw[u];omega
 .rw[c]at t;omega
def Be(n:Int)(x:b2):Prop:=∃m,c4 m n=true/\m.bI≠x.bc/\0<=x.bc/\x.bc<n/\x.bI=m.bI/\x.Bytes=gP m
def Be.vy(y:n<=7){x:b2}(h:Be n x):vy x=true:=by obtain⟨m,G,_,Y,Z,D,_⟩:=h;have K:=gZ.1 G;have m:=K.t1;have t:=K.t2;unfold Go.Proofs.YteogojgnkjegmaaGreatDoor.vy iU;rw[D];simp only[c1,cO];omega
def Bf(c:ab Bool):∀(N l:ab b2) (z:Int),0<=z->l.length<=256->((N.foldl (kR c) (l,z)).1.length<=256/\z<=(N.foldl (kR c) (l,z)).2/\(N.foldl (kR c) (l,z)).2<=z+N.length/\∀x∈(N.foldl (kR c) (l,z)).1,x∈l\/x∈N)
 |[],l,z,v,u=>⟨u,ge _,VK,λx U=>.inl U⟩
 |y::N,l,z,v,u=>by
  rw[pc];by_cases X:oh c l y=true
  .have e:kR c (l,z) y=(l,z+1):=by unfold kR;rw[aJ X]
   rw[e];obtain⟨Y,Z,D,m⟩:=Bf c N l (z+1) ac u;refine⟨Y,ac,by rw[df];omega,λx U=>?_⟩;rcases m x U with h|h
   .exact .inl h
   .exact .inr (e0 _ h)
  .have e:kR c (l,z) y=(l++[y],z):=by unfold kR;rw[aG X]
   rw[e];have R:(l++[y]).length<=256:=by unfold oh at X;simp only[hc,nt,cO]at X;rw[bQ,nX];omega
   obtain⟨Y,Z,D,m⟩:=Bf c N (l++[y]) z v R;refine⟨Y,ac,by rw[df];omega,λx U=>?_⟩;rcases m x U with h|h
   .rcases eh.1 h with h|h
    .exact .inl h
    .exact .inr (by rw[fF.1 h];exact er ..)
   .exact .inr (e0 _ h)
def xe(n:Int)(l:ab eH)(cf:ab aS)(y:Int):Prop:=k5 n l/\(g6 cf).2=0/\(cp l++cf).length<=65536/\y=((cp l++cf).length:Int)
structure nO(k:Nat)(tD:Nat)(c:bo):Prop extends ClP k c where
 up:∀(i b:Nat) (L:cT) (s:aA),i≠tD->c.aE[i]?=some (cI.up b L s)->mG k c.n c.now i s
 dn:∀(i bU:Nat) (dJ:aj) (l:ab eH) (cf:ab aS) (iR:Int),i≠tD->c.aE[i]?=some (cI.dn bU dJ l cf iR)->xe c.n l cf iR
 gH:∀x∈c.bi,Be c.n x
structure cC(k:Nat)(c:bo):Prop extends ClP k c where
 up:∀(i b:Nat) (L:cT) (s:aA),c.aE[i]?=some (cI.up b L s)->mG k c.n c.now i s
 dn:∀(i bU:Nat) (dJ:aj) (l:ab eH) (cf:ab aS) (iR:Int),c.aE[i]?=some (cI.dn bU dJ l cf iR)->xe c.n l cf iR
 gH:∀x∈c.bi,Be c.n x
def cC.z{c:bo}(h:cC k c)(X:Nat):nO k X c:=⟨h.toClP,λi b L s _ U=>h.up i b L s U,λi G t l cf y _ U=>h.dn i G t l cf y U,h.gH⟩
def ek.mono{u:Nat}{s:aA}(h:ek k s)(T:k<=u):ek u s:=⟨h.toRepI.mono T,h.toRepG,h.ax,h.en,h.sp,iB h.dv T⟩
def mG.mono{u:Nat}{N E:Int}{i:Nat}{s:aA}(h:mG k n N i s)(T:k<=u)(x:N<=E):mG u n E i s:=
 ⟨⟨h.y.mono T,h.v,h.bu,h.b3,h.n,h.self,nD h.now x,h.pl,h.ol,h.eO⟩,h.on,h.nu,h.o1⟩
def ClP.mono{u:Nat}{c:bo}(h:ClP k c)(T:k<=u):ClP u c:=by have Y:=h.lost;have Z:=h.told;have D:=h.now;exact⟨h.toClN,h.cut,h.bi,ac,ac,ac⟩
def nO.mono{u X:Nat}{c:bo}(h:nO k X c)(T:k<=u):nO u X c:=⟨h.toClP.mono T,λi b L s am U=>(h.up i b L s am U).mono T (ge _),h.dn,h.gH⟩
def cC.mono{u:Nat}{c:bo}(h:cC k c)(T:k<=u):cC u c:=⟨h.toClP.mono T,λi b L s U=>(h.up i b L s U).mono T (ge _),h.dn,h.gH⟩
def nO.set{X:Nat}{c:bo}(h:nO k X c)(y:cI):nO k X {c with aE:=c.aE.set X y}:=by
 refine⟨⟨⟨h.n,by show((c.aE.set X y).length:Int)=_;rw[cy];exact h.len⟩,h.cut,h.bi,h.lost,h.told,h.now⟩,λi b L s am U=>?_,λi G t l cf m am U=>?_,h.gH⟩
 .have U:(c.aE.set X y)[i]?=_:=U;rw[mH (ox am)]at U;exact h.up i b L s am U
 .have U:(c.aE.set X y)[i]?=_:=U;rw[mH (ox am)]at U;exact h.dn i G t l cf m am U
def nO.adp{X:Nat}{c:bo}(h:nO k X c){b:Nat}{L:cT}{s:aA}(U:c.aE[X]?=some (cI.up b L s))(Y:mG k c.n c.now X s):cC k c:=by
 refine⟨h.toClP,λi J F t v=>?_,λi G z l cf y v=>?_,h.gH⟩
 .by_cases e:i=X
  .subst e;rw[U]at v;cases v;exact Y
  .exact h.up i J F t e v
 .by_cases e:i=X
  .subst e;rw[U]at v;cases v
  .exact h.dn i G z l cf y e v
def nO.abr{X:Nat}{c:bo}(h:nO k X c){G:Nat}{t:aj}{l:ab eH}{cf:ab aS}{y:Int}(U:c.aE[X]?=some (cI.dn G t l cf y))(Y:xe c.n l cf y):cC k c:=by
 refine⟨h.toClP,λi J F L v=>?_,λi x D f s Z v=>?_,h.gH⟩
 .by_cases e:i=X
  .subst e;rw[U]at v;cases v
  .exact h.up i J F L e v
 .by_cases e:i=X
  .subst e;rw[U]at v;cases v;exact Y
  .exact h.dn i x D f s Z e v
def kS.cu{i:Nat}{c d:bo}(h:nO k i c)(Z:∀b L s,c.aE[i]?=some (cI.up b L s)->UpF k c.n c.now i s)(l:kS c i d):cC (k+1000000) d:=by
 obtain⟨J,K,r,N,U,rfl⟩:=l;have Y:=Z _ _ _ U;obtain⟨W,M,P,Q⟩:=Bf c.cut r.out c.bi 0 (ge _) h.bi;have u:=h.lost;have f:=h.told;have y:=h.now;have a:=Y.ol;have o:=Y.eO;have am:=(cF.1 U).1;have g:nO (k+1000000) i (c.Wi i J N r):=by
  have E:=(h.mono (ks k 1000000)).set (.up J N r.flush);refine⟨⟨⟨h.n,E.len⟩,h.cut,W,?_,?_,?_⟩,E.up,E.dn,λx v=>?_⟩
  .show 0<=c.lost+(hs c.cut c.bi r.out).2/\c.lost+(hs c.cut c.bi r.out).2<=_;unfold hs;omega
  .show(c.told++r.told.map (mf i c.now)).length<=_;rw[bQ,dZ];omega
  .show 0<=c.now/\c.now<=_;omega
  .rcases Q x v with v|v
   .exact h.gH x v
   .obtain⟨m,C,X,rfl⟩:=Y.b3 x v;have x:=Y.y.self;exact⟨m,by show c4 m c.n=true;rw[<-Y.n];exact C,X,x.1,by show r.self<c.n;rw[<-Y.n];exact x.2,rfl,rfl⟩
 refine g.adp (b:=J) (L:=N) (s:=r.flush) ?_ (mG.mono Y.flush (ks ..) (ge _));show(c.aE.set i _)[i]?=_
 rw[hD am]
def UpF.mono{u:Nat}{N:Int}{i:Nat}{s:aA}(h:UpF k n N i s)(T:k<=u):UpF u n N i s:=⟨h.y.mono T,h.v,h.bu,h.b3,h.n,h.self,h.now,h.pl,h.ol,h.eO⟩
def oX.up{N:Int}{i:Nat}{s:aA}{x:ag}(h:mG k n N i s)(E:oX s d x e L):UpF (k+42200) n N i L:=by
 rcases E with⟨_,_,_,rfl⟩|⟨_,_,_,_,rfl⟩|⟨c,b,rfl,rfl,p,g⟩
 .exact h.toUpF.mono ac
 .exact h.toUpF.mono ac
 .obtain⟨W,z⟩:=h.o1;have W:=h.y.V3 d p b;have N:=h.v.V3 d p;have x:gh (s.V3 d p).inbox<=3:=by
   show gh (s.inbox++fa s.self (s.VY d).H')<=3
   rw[h.bu,g4];exact vv ..
  have M:=W.XA N;have w:nN (s.V3 d p):=nN.WB (s:=s.WA d p) h.b3 (gU.send _ _);have a:=(ud (s.WA d p) (s.VY d).H').2;have x:(s.VY d).H'.length<=7:=a6.WT (rL ..) h.y.gF.2;have x:(s.V3 d p).out.length<=7:=by
   have Y:(s.WA d p).out.length=0:=by show s.out.length=0;rw[h.on];rfl
   have Z:((s.WA d p).send (s.VY d).H').out.length=(s.V3 d p).out.length:=rfl;omega
  exact(jB.all (C:=λ_=>True) W N w (lS.of z trivial) g ac h.n h.self h.now ac (by show s.told.length<=_;rw[h.nu];exact cG _) (λ_ _=>trivial)).1
def fs.bU{s:aA}(h:fs s m L):L.bU=s.bU:=by
 rcases h with⟨_,X,_,_,h⟩|⟨_,h⟩
 .have Y:(s.U' m X).bU=s.bU:=by unfold aA.U';split<;>rfl
  rcases h with⟨_,h⟩|⟨_,h⟩
  .obtain⟨w,_,rfl⟩:=h.go;exact Y
  .unfold je at h;subst h;exact Y
 .have:=h.core.b;simp only[nV]at this;exact this.2.2.1
def ig.bU{s:aA}(h:ig s L):L.bU=s.bU:=by
 induction h with
 |refl=>rfl
 |step _ _ K X=>exact K.bU.trans X
def jB.bU{s:aA}(h:jB s L):L.bU=s.bU:=by obtain⟨r,Y,_,Z⟩:=h;exact Z.same.2.2.2.2.2.2.2.2.2.2.2.trans Y.bU
def oX.bU{s:aA}{x:ag}(E:oX s d x e L):L.bU=s.bU:=by
 rcases E with⟨_,_,_,rfl⟩|⟨_,_,_,_,rfl⟩|⟨c,b,rfl,rfl,p,g⟩
 .rfl
 .rfl
 .exact g.bU
def lT(c:bo)(M:Int)(d:bF)(x:ag)(e:Int)(W:bo):Prop:=
 (hC c M≠0/\x=ag.z/\e=hC c M/\W=c)\/
 (hC c M=0/\∃i k K r J q,M=((i:Nat):Int)/\c.aE[i]?=some (.up k K r)/\oX r d x e q/\kS {c with aE:=c.aE.set i (.up k J q)} i W)
def Kk{c:bo}(h:ClP k c)(u:hC c M=0):∃i b L s,M=((i:Nat):Int)/\c.aE[i]?=some (.up b L s):=by
 unfold hC at u;split at u
 .cases u
 .rename_i g;obtain⟨i,x,rfl,am,U⟩:=h.at (rep:=M) ac ac;rw[hY,U]at u;cases x with
  |up b L s=>exact⟨i,b,L,s,rfl,U⟩
  |dn G t l cf y=>rw[aG (by exact Bool.false_ne_true)]at u;cases u
def lT.cu{c W:bo}{x:ag}(h:cC k c)(E:lT c M d x e W):cC (k+1042200) W:=by
 rcases E with⟨_,_,_,rfl⟩|⟨_,i,J,K,r,Z,q,_,U,E,l⟩
 .exact h.mono ac
 .have Y:=E.up (h.up _ _ _ _ U);have am:=(cF.1 U).1;refine(l.cu (k:=k+42200) (((h.z i).mono ac).set _) λb L s v=>?_).mono ac;have v:(c.aE.set i (.up J Z q))[i]?=_:=v;rw[hD am]at v;cases v;exact Y
def Kl(b:Nat)(L:fI)(c:bo)(M:Int)(d:bF)(k:Nat)(h:cC k c)(ca:k<=90000000000):ar prog 18 [av b 0,I M,A d.c] (bE b L c) (λr Z=>∃F o x e,lT c M d x e o/\r=.tuple #[A x.c,I e]/\Z=bE b F o):=by
 have t:=Ba b L c h.toClN M;by_cases u:hC c M=0
 .obtain⟨i,s,X,a,rfl,U⟩:=Kk h.toClP u;have j:=h.up _ _ _ _ U;have am:=(cF.1 U).1;have T:=h.len;have cN:=h.n;have R:=ar.Z9 (Q:=λr (z:cT×aA×ag×Int)=>oX a d z.2.2.1 z.2.2.2 z.2.1/\r=.tuple #[A z.2.2.1.c,I z.2.2.2]) (N:=λz=>.up s z.1 z.2.1) U (ar.post (agl s X a d k j.y j.v j.bu ac (by rw[j.on];exact cG _) (by rw[j.nu];exact cG _)) (by rintro v Z⟨F,cL,x,e,bf,rfl,rfl⟩;exact⟨_,⟨(F,cL,x,e),⟨bf,rfl⟩,rfl⟩,λ_ _ _ h=>h⟩));have C (J:cT) (q:aA) (x:ag) (e:Int) (E:oX a d x e q):=Bc b L {c with aE:=c.aE.set i (.up s J q)} (k+42200) i s J q (((h.z i).mono ac).set _).toClP ac (by show(c.aE.set i _)[i]?=_;rw[hD am]) (by have:=(E.up j).ol;omega) (by have:=(E.up j).eO;omega);have w (J:cT) (q:aA) (x:ag) (e:Int) (o:bo) (E:oX a d x e q) (dq:kS {c with aE:=c.aE.set i (.up s J q)} i o):lT c ((i:Nat):Int) d x e o:=.inr ⟨u,i,s,X,a,J,q,rfl,U,E,dq⟩;rw[u]at t;clear j h ca;unfold bE dN dX at t⊢;refine aF func18 λW=>?_;generalize br _=D;refine aq 2 λn2=>?_;refine aq 0 λob=>?_;refine aa 22 ?_;refine ah.mt [0,1,6] (λz:Nat×cT×aA×ag×Int=>oX a d z.2.2.2.1 z.2.2.2.2 z.2.2.1) (λz=>[(9,av z.1 0),(10,I z.2.2.2.2)]) (λz=>[cells z.1 46 z.2.2.2.1.c,fh (c.aE.set i (.up s z.2.1 z.2.2.1)),cM]) (s:=[fh c.aE,cM]) ?_ ?_
  .intro fP m;refine ah.p' ?_ aC.d'.j.j.j.j.j.j.j.d';refine ae 5 0 ?_;refine af.n' 5 rfl (V.E' ad (k:=i) rfl rfl rfl rfl ac) ?_;refine ae 1 7 ?_;refine af.bx 6 12 rfl rfl ?_ ?_;refine aw.z' (V.Wm ad (f:=g3) rfl VF oZ U) ?_;refine au ?_;refine af.bx 8 12 rfl rfl ?_ ?_;refine aw.V0 rfl (R) VH ?_;rintro hh q⟨Yi,⟨⟨G,rfl⟩,rfl⟩⟩;refine Ni λY=>?_;refine au ?_;rotate_left;refine O.Q' ad (λY=>?_);refine au ?_;refine af.x' 8 rfl rfl (R) ?_;rintro v5 I8⟨P,⟨⟨Yf,rfl⟩,rfl⟩⟩;refine Tp ?_;rotate_left;refine O.Q' ad (λY=>?_);refine au ?_;refine af.y' 6 rfl (aw.z' (V.Wm ad (f:=g3) rfl VF oZ U) ?_);refine au ?_;refine af.x' 8 rfl rfl (R) ?_;rintro v9 Yj⟨K,⟨⟨Yg,rfl⟩,rfl⟩⟩;refine Tp ?_;rotate_left;all_goals exact Out.C' m (_,_,_,_,_) VV trivial
  rintro⟨Y,J,q,x,e⟩ E;dsimp only at E;have p:=C J q x e E;have l:=λo=>w J q x e o E;have lJ:=Bb b L c (y:=.up s J q) U E.bU rfl;clear C R w t;rw[lJ]at p;unfold bE dN dX at p;dsimp only[List.cons_append,List.nil_append]at p⊢;refine aa 5 ?_;rintro v3 tU⟨g,⟨Yh,⟨⟨G,Yc,Ye⟩,rfl,rfl⟩⟩⟩;refine aa 13 ?_;all_goals exact⟨_,_,⟨_,_,x,e,l _ VV,rfl,rfl⟩,VH⟩
 .have w:lT c M d ag.z (hC c M) c:=.inl ⟨u,rfl,rfl,rfl⟩;have fE:bb .neq (hC c M) 0=some true:=by simp[bb,u]
  generalize hC c M=e at*;unfold bE dN dX at t⊢;refine aF func18 λW=>?_;generalize br _=D;refine aq 2 λn2=>?_;refine aq 0 λob=>?_;refine aa 16 ?_;refine ai.v (V.cmp rfl rfl fE) ?_;refine aa 14 ?_;all_goals exact⟨_,_,⟨L,c,ag.z,e,w,rfl,rfl⟩,VH⟩
end Go.Proofs.YteogojgnkjegmaaGreatDoor
