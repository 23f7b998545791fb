/-
 Part of the proof.
-/
import Derived.Test.YteogojgnkjegmaaGreatDoorAr
set_option linter.all false
set_option maxRecDepth 8000
set_option maxHeartbeats 8000000
namespace Go.Proofs.YteogojgnkjegmaaGreatDoor
open Go.az Go.Proofs.Tryz
variable[Go.az.b5]
variable{k:ab (ab aS)}{n:Nat}{D:ab Nat}{F:ab ay}
structure m9 where
 err:Int
 val:ab aS
 gR:Int
 keys:ab (ab aS)
def m9.z:m9:=⟨0,[],0,[]⟩
def yS.mE(x:yS):m9:=⟨x.err,x.val,x.gR,x.keys⟩
def m9.c(x:m9)(v:aj):ab aj:=h7.c ⟨x.err,x.val,x.gR,v⟩
abbrev w0:=ab (Int×(Int×m9))
structure hq where
 l:gm
 oa:w0
 h0:Int
def hq.z:hq:=⟨[],[],0⟩
def hq.get(s:hq)(k:Int):Int×m9:=(aZ s.oa k).getD (0,m9.z)
def ic(s:hq)(d:bF):m9×hq:=
 if oL d=false then(⟨1,[],0,[]⟩,s)
 else if d.c3=0 then((gS s.l d).mE,⟨(gS s.l d).l,s.oa,s.h0+1⟩)
 else if d.Number<(s.get d.c3).1 then(⟨9,[],0,[]⟩,s)
 else if(s.get d.c3).1<d.Number then((gS s.l d).mE,⟨(gS s.l d).l,bA s.oa d.c3 (d.Number,(gS s.l d).mE),s.h0+1⟩)
 else((s.get d.c3).2,s)
def jO.f(x:jO):Int×m9:=(x.num,⟨x.err,x.val,x.gR,x.keys⟩)
def ub(Y:pB):w0:=Y.map λp=>(p.1,p.2.f)
def Jq(Y:pB)(k:Int):aZ (ub Y) k=(aZ Y k).map jO.f:=by
 induction Y with
 |nil=>rfl
 |cons p Y X=>
  show aZ ((p.1,p.2.f)::ub Y) k=_
  rw[kE,kE,X];by_cases h:k=p.1<;>simp[h]
def ahc(Y:pB)(k:Int)(x:jO):ub (bA Y k x)=bA (ub Y) k x.f:=by
 induction Y with
 |nil=>rw[qC];show _=bA [] k x.f;rw[qC];rfl
 |cons p Y X=>
  show _=bA ((p.1,p.2.f)::ub Y) k x.f
  rw[lB,lB];by_cases h:k=p.1
  .simp only[aJ h];rfl
  .simp only[aG h];show(p.1,p.2.f)::ub (bA Y k x)=_
   rw[X]
def aiA(Y:pB)(k:Int):(iz Y k).f=(aZ (ub Y) k).getD (0,m9.z):=by rw[Jq];unfold iz;cases aZ Y k<;>rfl
abbrev qR:=ab (aj×ab (ab aS))
def yT(g:qR):ab ay:=g.map λp=>rows fy p.1 9 1 p.2
def oU(g:qR):ay:=aK (yT g)
def sI.adi{g:qR}{v:aj}(K:(v,k)∈g){W:a2}(G:oU g∈F):∀w,H W D F w->sI (oU g) v k:=λw s=>by
 have p:=s.mem G;unfold oU at p⊢;rw[se]at p;have d:rows fy v 9 1 k∈yT g:=dQ.2 ⟨(v,k),K,rfl⟩;have y:=p.1 _ d;have Y:(v=.slice none 0 0/\k=[])\/∃g Q,v=.slice (some ⟨g,0,none⟩) k.length Q/\k.length<=Q/\Q<=Go.maxLen:=
  h6 (f:=fy) (E:=9) (aM:=1) (W:=w) (D:=br [rows fy v 9 1 k]) (aH []) w ⟨λe P=>by
   obtain rfl:e=_:=by simpa using P
   exact y,OA,λb X=>.inl X,λ_ _ _=>rfl,cx _,rfl,rfl,rfl,cx _⟩
 rcases Y with⟨rfl,rfl⟩|⟨z,Q,rfl,_,Z⟩
 exact OT
 .have o:=Rd.rows (f:=fy) (g:=z) (E:=9) (aM:=1) (cap:=Q) (l:=k) (λ_=>rfl) UN;exact PC
def H.lay{W:a2}{w:a2}{g:qR}{v:aj}(h:H W D (rows fy v 9 1 k::oU g::F) w):H W D (oU ((v,k)::g)::F) w:=by
 have Y:H W D (oU g::(rows fy v 9 1 k::F)) w:=h.perm (hV _ _ _);unfold oU at*;have Z:=Y.Ww;have G:H W D ((rows fy v 9 1 k::yT g)++F) w:=Z.perm (by
  show(yT g++rows fy v 9 1 k::F).Perm ((rows fy v 9 1 k::yT g)++F)
  exact ow)
 exact G.toBag
def rM(b m f n:Nat)(l:gm)(Y:pB)(g:qR)(G:Int):ab ay:=
 [cells b 212 (np.c ⟨av m 0,.map (some n),G⟩),cells m 263 (mS.c ⟨.map (some f)⟩),jd f l,vo n Y,oU g]
structure oV(oa:w0)(qh:pB)(g:qR):Prop where
 gx:ub qh=oa
 mem:∀k x,aZ qh k=some x->(x.ju,x.keys)∈g/\(x.keys=[]->x.ju=.slice none 0 0)
def oV.zero:oV [] [] []:=⟨rfl,λk x h=>MD⟩
def oV.put{p:w0}{Y:pB}{g:qR}(h:oV p Y g)(k:Int)(x:jO)(W:x.keys=[]->x.ju=.slice none 0 0):oV (bA p k x.f) (bA Y k x) ((x.ju,x.keys)::g):=
 ⟨by rw[ahc,h.gx],λL y U=>by
  rw[gX]at U;by_cases e:L=k
  .rw[aJ e]at U;cases U;exact⟨er,W⟩
  .rw[aG e]at U;have:=h.mem L y U;exact⟨e0 _ this.1,this.2⟩⟩
def oV.look{p:w0}{Y:pB}{g:qR}(h:oV p Y g)(l:gm)(G:Int)(k:Int):(iz Y k).f=hq.get ⟨l,p,G⟩ k:=by rw[aiA,h.gx];rfl
structure qS(n:Nat)(s:hq):Prop where
 w1:kz n s.l
 m3:(s.oa.map (·.1)).Nodup
 len:s.oa.length<=n
 h0:0<=s.h0/\s.h0<=n
 AT:∀k x,aZ s.oa k=some x->1<=k/\k<=1099511627776/\1<=x.1/\x.1<=1099511627776/\x.2.keys.length<=n
def qS.zero:qS 0 hq.z:=⟨kz.zero,mT,cx _,⟨ge _,ge _⟩,λk x h=>by rw[show hq.z.oa=[]from rfl,mu]at h;cases h⟩
def qS.up{s:hq}(h:qS n s):qS (n+1) s:=⟨h.w1.up,h.m3,St,by have:=h.h0;omega,λk x U=>by have:=h.AT k x U;omega⟩
def Jr{l:gm}(h:kz n l)(d:bF):(gS l d).keys.length<=n:=by
 unfold gS;split
 .show(vn d.Key l).length<=n;unfold vn;rw[dZ];have:=Ea d.Key l;have:=h.len;omega
 .exact cG _
def akw{o T:Type}[DecidableEq o]{l:ab (o×T)}{k:o}{p:T}:(bA l k p).length<=l.length+1:=by
 induction l with
 |nil=>rw[qC];exact cx _
 |cons q l X=>
  rw[lB];split
  .simp
  .simp only[df];omega
def Rn{d:bF}(h:oL d=true):0<=d.c3/\d.c3<=1099511627776/\0<=d.Number/\d.Number<=1099511627776/\(d.c3=0↔d.Number=0):=by have:=(tk h).1;exact⟨this.2.2.1,this.2.2.2.1,this.2.2.2.2.1,this.2.2.2.2.2.1,this.2.2.2.2.2.2.1⟩
def qS.Z7{s:hq}(h:qS n s)(d:bF):qS (n+1) (ic s d).2:=by
 unfold ic;split
 .exact h.up
 .rename_i G;have W:oL d=true:=by simpa using G
  have y:=Rn W;split
  .exact⟨h.w1.any d,h.m3,by have:=h.len;show s.oa.length<=_;omega,Nz,λk x U=>by have:=h.AT k x U;omega⟩
  .rename_i E;split
   .exact h.up
   .split
    .rename_i i;refine⟨h.w1.any d,rq h.m3,iB akw St,Nz,λk x U=>?_⟩;have z:aZ (bA s.oa d.c3 (d.Number,(gS s.l d).mE)) k=some x:=U;rw[gX]at z;by_cases e:k=d.c3
     .rw[aJ e]at z;cases z;have:=Jr h.w1 d;refine⟨ac,ac,by show 1<=d.Number;omega,by show d.Number<=_;omega,by show(gS s.l d).keys.length<=_;omega⟩
     .rw[aG e]at z;have:=h.AT k x z;omega
    .exact h.up
end Go.Proofs.YteogojgnkjegmaaGreatDoor
namespace Go.az
open Go
variable[Go.az.b5]
section
variable{P:b1}{n:dF}{M:bJ}{U:ab ay}{C:Nat}{F:a8}{N:String}{T:Array Edge}{K:aT (Nat×Bool)}{J Z:Type}[DecidableEq J]{X:J->aj}{Y:Z->aj}{u:a8}{l:ab (J×Z)}
end
end Go.az
namespace Go.Proofs.YteogojgnkjegmaaGreatDoor
open Go.az Go.Proofs.Tryz
variable[Go.az.b5]
def alK:ar prog 76 [] [] (λr E=>∃b m f i,r=av b 0/\E=[cells b 212 (np.c ⟨av m 0,.map (some i),0⟩),cells m 263 (mS.c ⟨.map (some f)⟩),jd f [],vo i []]):=by
 have E:=QS;unfold n9 at E;refine aF func76 λW=>?_;refine aa 8 ?_;rintro _ _⟨k,E,rfl,rfl⟩;refine au ?_;refine ai.o (aw.mkMap Eg sJ rfl (λx=>?_));refine aq 1 λq=>?_;refine aa 5 ?_
 .exact⟨_,_,⟨_,_,_,_,rfl,rfl⟩,VH⟩
def oV.form{p:w0}{E:pB}{g:qR}(v:oV p E g)(k:Int){W:a2}{D:ab Nat}{U:ab ay}(G:oU g∈U):∀w,H W D U w->∃i o q,(iz E k).ju=.slice i o q/\sI (oU g) (iz E k).ju (iz E k).keys/\((iz E k).keys=[]->(iz E k).ju=.slice none 0 0):=λw s=>by
 unfold iz;cases Q:aZ E k with
 |none=>exact⟨none,0,0,rfl,⟨none,0,0,0,rfl,Rd.nil⟩,λ_=>rfl⟩
 |some x=>
  have E:=v.mem k x Q;have Q:=sI.adi E.1 G w s;have D:=Q;obtain⟨i,q,b,off,e,_⟩:=D;exact⟨i,_,q,e,Q,E.2⟩
def al6(b eu rN sm:Nat)(n:Nat)(s:hq)(G:pB)(g:qR)(d:bF)(am:qS n s)(ir:oV s.oa G g)(cN:n<=10000):ar prog 114 [av b 0,A d.c] (rM b eu rN sm s.l G g s.h0) (λr Yc=>∃cK L o Ym wj,oV (ic s d).2.oa Ym wj/\r=A ((ic s d).1.c (.slice cK L o))/\Yc=rows fy (.slice cK L o) 9 1 (ic s d).1.keys::rM b eu rN sm (ic s d).2.l Ym wj (ic s d).2.h0):=by
 have dA:=Ak d;have dd:=ai9 eu rN n s.l d am.w1 cN;have Yn:=am.h0;have Yu:=ir.look s.l s.h0 d.c3;unfold ic;cases bG:oL d with
 |false=>
  rw[aJ rfl];rw[bG]at dA;unfold rM m9.c;refine aF func114 λW=>?_;refine ah.V5 fy 9 1 ?_;refine aq 2 λgD=>?_;refine aq 0 λfO=>?_;refine aa 31 ?_
  exact Ol
 |true=>
  rw[aG VI];rw[bG]at dA;by_cases bV:d.c3=0
  .rw[aJ bV];generalize gS s.l d=y at*;unfold jd at dd;unfold rM m9.c yS.mE jd;refine aF func114 λW=>?_;refine aq 2 λgD=>?_;refine aq 0 λfO=>?_;refine aa 43 ?_;refine ah.p' ?_ aC.j.j.j.j.d'.d'.j;refine ae 5 0 ?_;refine af.x' 5 rfl rfl (dd) ?_;refine RC λYA Yy Yz Yf=>?_;refine ae 1 6 ?_;refine aa 6 ?_
   exact Re
  .rw[aG bV];obtain⟨⟨q,t,j,a,E,Yo⟩,Q⟩:∃x,(aZ G d.c3).getD jO.z=x:=⟨_,rfl⟩
   have Yl:iz G d.c3=⟨q,t,j,a,E,Yo⟩:=Q;have p {W:a2} {D:ab Nat} {U:ab ay} (bG:oU g∈U):∀w,H W D U w->∃cK L o,Yo=.slice cK L o/\sI (oU g) Yo E/\(E=[]->Yo=.slice none 0 0):=λw cE=>by have:=ir.form d.c3 bG w cE;rw[Yl]at this;exact this
   rw[Yl]at Yu;rw[show s.get d.c3=(q,(⟨t,j,a,E⟩:m9))from Yu.symm];by_cases bf:d.Number<q
   .simp only[aJ bf];unfold rM m9.c;refine aF func114 λW=>?_;refine ah.fact (p NC) λYp=>?_;obtain⟨Yk,Yr,h,rfl,Yt,Yh⟩:=Yp;refine ah.V5 fy 9 1 ?_;refine aq 2 λgD=>?_;refine aq 0 λfO=>?_;refine aa 34 ?_;refine ah.p' ?_ aC.j.j.j.j.d'.j.d'.j;refine ae 6 0 ?_;refine af.bx 6 7 rfl rfl ?_ ?_;refine aw.z' (aN.Wr (l:=G) (k:=d.c3) (aU:=sJ) jO.z Q vq vp wZ rfl rfl VF) ?_;refine au ?_;refine dr 7 λn2=>?_;refine ae 1 8 ?_;refine aa 25 ?_
    exact Ol
    refine O.Q' ad (λn2=>?_);refine au ?_;refine af.y' 6 rfl (aw.z' (aN.Wr (l:=G) (k:=d.c3) (aU:=sJ) jO.z Q vq vp wZ rfl rfl VF) ?_);refine au ?_;refine ae 1 8 ?_;refine aa 25 ?_
    exact Ol
   .simp only[aG bf];by_cases bW:q<d.Number
    .simp only[aJ bW];have Yj:=Jr am.w1 d;refine ar.Wg (R:=λr Yc=>∃cK L o v,((gS s.l d).keys=[]->v=.slice none 0 0)/\r=A ((gS s.l d).mE.c (.slice cK L o))/\Yc=[rows fy v 9 1 (gS s.l d).keys,oU g,rows fy (.slice cK L o) 9 1 (gS s.l d).keys,cells b 212 (np.c ⟨av eu 0,.map (some sm),s.h0+1⟩),cells eu 263 (mS.c ⟨.map (some rN)⟩),jd rN (gS s.l d).l,vo sm (bA G d.c3 ⟨d.Number,(gS s.l d).err,(gS s.l d).val,(gS s.l d).gR,(gS s.l d).keys,v⟩)]) ?_ ?_
     .generalize gS s.l d=y at*;unfold jd at dd;unfold rM m9.c yS.mE jd vo;dsimp only;refine aF func114 λW=>?_;refine ah.fact (p NC) λYp=>?_;obtain⟨Yk,Yr,h,rfl,Yt,Yh⟩:=Yp;refine S3 (λgD fO=>?_) λgD fO=>?_
      exact QL
      .rintro ahk _;refine bh ?_;refine aa 37 ?_;refine ah.p' ?_ aC.j.j.j.j.d'.d'.j.j;refine ae 7 0 ?_;refine af.x' 7 rfl rfl (dd) ?_;refine RC λYs m i Yg=>?_;refine af.n' 8 rfl (V.WH ad (o:=nq.c ⟨d.Number,⟨y.err,y.val,y.gR,_⟩⟩)) ?_;refine ae 1 9 ?_;refine aa 2 ?_;refine ah.p' ?_ aC.j.j.d'.d'.j.d'.j.j.j;refine ae 7 0 ?_;refine af.y' 7 rfl (aw.Wh (l:=G) (k:=d.c3) (v:=(⟨d.Number,y.err,y.val,y.gR,y.keys,.slice Ys m i⟩:jO)) (aU:=sJ) vq vp rfl rfl rfl VJ ?_);refine aq 8 λob=>?_;refine aa 3 ?_;rotate_left;refine ah.fact (sI.one (v:=.slice Ys m i) (k:=y.keys) NC) λYi=>?_;have Yq:=Jp _ _ y.keys Yi VV ac;refine aa 5 ?_;rintro _ _⟨Yx,Yv,Yw,Q,rfl,rfl⟩;refine aa 13 ?_
       .exact⟨_,_,⟨_,_,_,.slice Ys m i,VV,rfl,rfl⟩,VH⟩
     .rintro v Yc W D w⟨cK,L,o,ju,eV,rfl,rfl⟩ cr;have dz:=H.lay cr;refine⟨_,⟨cK,L,o,bA G d.c3 ⟨d.Number,(gS s.l d).err,(gS s.l d).val,(gS s.l d).gR,(gS s.l d).keys,ju⟩,(ju,(gS s.l d).keys)::g,ir.put d.c3 (⟨d.Number,(gS s.l d).err,(gS s.l d).val,(gS s.l d).gR,(gS s.l d).keys,ju⟩:jO) eV,rfl,rfl⟩,dz.perm ?_⟩;unfold rM;exact(oG (l₁:=[_]) (l₂:=[_,_,_,_,_]))
    .simp only[aG bW];have Yj:E.length<=n:=by
      have cd:=Jq G d.c3;rw[ir.gx]at cd;cases dI:aZ G d.c3 with
      |none=>rw[dI]at Q;cases Q;exact cG _
      |some x=>
       rw[dI]at Q cd;have gw:=am.AT d.c3 x.f cd;have jJ:x=⟨q,t,j,a,E,Yo⟩:=Q;rw[jJ]at gw;exact gw.2.2.2.2
     unfold rM m9.c jd vo;dsimp only;refine aF func114 λW=>?_;refine ah.fact (p NC) λYp=>?_;obtain⟨Yk,Yr,h,rfl,Yt,Yh⟩:=Yp;have Yq:=Jp _ _ E Yt Yh ac;refine S3 (λgD fO=>?_) λgD fO=>?_
     exact QL
     .rintro ahk _;refine bh ?_;refine aq 31 λob=>?_;refine aa 8 ?_;rintro _ _⟨Yx,Yv,Yw,Yg,rfl,rfl⟩;refine aa 13 ?_
      exact Re
structure oc where
 b:Nat
 eu:Nat
 rN:Nat
 sm:Nat
 s:hq
 qh:pB
 g:qR
def na(M:oc):ay:=aK (rM M.b M.eu M.rN M.sm M.s.l M.qh M.g M.s.h0)
structure kN(n:Nat)(M:oc):Prop where
 ci:qS n M.s
 am:oV M.s.oa M.qh M.g
def Rr:ar prog 76 [] [] (λr J=>∃M,(kN 0 M/\M.s=hq.z)/\r=av M.b 0/\J=[na M]):=by
 refine ar.Wg alK ?_;rintro v J W D w⟨b,n,f,i,rfl,rfl⟩ m;refine⟨_,⟨⟨b,n,f,i,hq.z,[],[]⟩,⟨⟨qS.zero,oV.zero⟩,rfl⟩,rfl,rfl⟩,?_⟩;have Z:H W D ([cells b 212 (np.c ⟨av n 0,.map (some i),0⟩),cells n 263 (mS.c ⟨.map (some f)⟩),jd f [],vo i [],oU []]) w:=
  m.eqv ((aP.refl [cells b 212 (np.c ⟨av n 0,.map (some i),0⟩),cells n 263 (mS.c ⟨.map (some f)⟩),jd f [],vo i []]).append (aP.aK (bg:=[])).symm)
 exact Z.eqv aP.aK.symm
def alM(n:Nat)(M:oc)(h:kN n M)(y:n<=10000)(d:bF):ar prog 114 [av M.b 0,A d.c] [na M] (λr J=>∃x i o Q,(kN (n+1) x/\x.b=M.b/\x.s=(ic M.s d).2)/\r=A (h7.c ⟨(ic M.s d).1.err,(ic M.s d).1.val,(ic M.s d).1.gR,.slice i o Q⟩)/\J=[na x]):=by refine ar.Wg (ar.eqv aP.aK (al6 M.b M.eu M.rN M.sm n M.s M.qh M.g d h.ci h.am y) (R:=λr J=>∃i o Q U k,oV (ic M.s d).2.oa U k/\r=A ((ic M.s d).1.c (.slice i o Q))/\J=rows fy (.slice i o Q) 9 1 (ic M.s d).1.keys::rM M.b M.eu M.rN M.sm (ic M.s d).2.l U k (ic M.s d).2.h0) λr J f=>⟨J,f,aP.refl _⟩) ?_;rintro v J W D w⟨i,o,Q,U,k,Y,rfl,rfl⟩ m;refine⟨_,⟨⟨M.b,M.eu,M.rN,M.sm,(ic M.s d).2,U,k⟩,i,o,Q,⟨⟨h.ci.Z7 d,Y⟩,rfl,rfl⟩,rfl,rfl⟩,?_⟩;have Z:=m.sub (GZ _ _);exact Z.eqv aP.aK.symm
section
variable{Y U:Type}{f:U->Y->U}
def Js(q:∀o x y,f (f o x) y=f (f o y) x)(x:Y):∀(N:ab Y) (o:U),f (N.foldl f o) x=N.foldl f (f o x)
 |[],_=>rfl
 |a::l,o=>by rw[pc,Js q x l,pc,q]
def Jt(q:∀o x y,f (f o x) y=f (f o y) x)(am:∀o x,f (f o x) x=f o x){x:Y}:∀(N:ab Y) (o:U),x∈N->f (N.foldl f o) x=N.foldl f o
 |a::l,o,h=>by
  rw[pc];rcases cQ.1 h with rfl|h
  .rw[Js q,am]
  .exact Jt q am l _ h
def Eh(q:∀o x y,f (f o x) y=f (f o y) x)(am:∀o x,f (f o x) x=f o x)(N:ab Y)(o:U):∀D:ab Y,(∀y,y∈D->y∈N\/∀o,f o y=o)->D.foldl f (N.foldl f o)=N.foldl f o
 |[],_=>rfl
 |y::D,h=>by
  have e:f (N.foldl f o) y=N.foldl f o:=by
   rcases h y VK with J|J
   .exact Jt q am N o J
   .exact J _
  rw[pc,e];exact Eh q am N o D λz v=>h z (by simp[v])
def agO(q:∀o x y,f (f o x) y=f (f o y) x)(am:∀o x,f (f o x) x=f o x){N D:ab Y}(J:∀y,y∈D->y∈N\/∀o,f o y=o)(Z:∀y,y∈N->y∈D\/∀o,f o y=o)(o:U):N.foldl f o=D.foldl f o:=by have p:=Eh q am N o D J;have h:=Eh q am D o N Z;rw[<-wC]at p h;rw[<-p,<-h];exact List.Perm.foldl_eq' oG (λx _ y _ z=>q z x y) o
end
def jP(p:aL aY)(d:bF)(J:ag)(o:b4×Int)(x:ag):b4×Int:=
 if x≠J/\p9 (bn p x).Call.cv d=true then(k6 o.1 x,Max.max o.2 (Min.min ((bn p x).Call.Seq+1) 1099511627776))else o
def qi(p:aL aY)(d:bF)(x:ag)(N:ab ag):b4×Int:=N.foldl (jP p d x) (b4.z,0)
def fH(p:aL aY)(d:bF)(x:ag):b4×Int:=qi p d x (p.all.map (·.1))
def Ru(p:aL aY)(d:bF)(J:ag)(N:ab ag)(x:ag):qi p d J (N++[x])=jP p d J (qi p d J N) x:=by simp[qi]
def aeD(d:b4)(x y:ag):k6 (k6 d x) y=k6 (k6 d y) x:=by unfold k6;dsimp only;congr 1<;>(split<;>split<;>omega)
def akn(d:b4)(x:ag):k6 (k6 d x) x=k6 d x:=by unfold k6;dsimp only;congr 1<;>(split<;>omega)
def ag3(p:aL aY)(d:bF)(N:ag)(o:b4×Int)(x y:ag):jP p d N (jP p d N o x) y=jP p d N (jP p d N o y) x:=by
 unfold jP;by_cases J:x≠N/\p9 (bn p x).Call.cv d=true<;>by_cases Z:y≠N/\p9 (bn p y).Call.cv d=true
 .simp only[aJ J,aJ Z];rw[aeD];congr 1;omega
 .simp only[aJ J,aG Z]
 .simp only[aG J,aJ Z]
 .simp only[aG J,aG Z]
def akv(p:aL aY)(d:bF)(Z:ag)(o:b4×Int)(x:ag):jP p d Z (jP p d Z o x) x=jP p d Z o x:=by
 unfold jP;by_cases J:x≠Z/\p9 (bn p x).Call.cv d=true
 .simp only[aJ J];rw[akn];congr 1;omega
 .simp only[aG J]
def agf{L:g1}{x:ag}{e d:bF}{N:ab ag}(u:Loc L x e)(X:AB L d N)(q:p9 e d=true):x∈N:=by
 obtain⟨R,k,p,c⟩:=X x;simp only[p9,c1,hc,kf,jW,cO]at q;obtain⟨W,o,q⟩:=q;obtain⟨L,N,K⟩:=u W;rcases q with⟨J,Z⟩|h|h
 .exact k (by rw[<-Z];exact K J)
 .simp only[wN,yB,c1,hc,kf,jW,cO]at h;obtain⟨s,_,o⟩:=h;have g:d.Kind≠5:=by omega
  by_cases t:e.Kind=5
  .exact R (L t)
  .rw[aG t,cO]at o;exact p g (by rw[<-o];exact N t)
 .simp only[wN,yB,c1,hc,kf,jW,cO]at h;obtain⟨s,_,o⟩:=h;have h:e.Kind≠5:=by omega
  by_cases t:d.Kind=5
  .rw[aJ t]at o;exact c t e.Key o (N h)
  .rw[aG t,cO]at o;exact p t (by rw[o];exact N h)
def ail{L:g1}{p:aL aY}{d:bF}{x:ag}{N:ab ag}(z:p.ok)(c:iw L p)(X:AB L d N):qi p d x N=fH p d x:=by
 refine agO (ag3 p d x) (akv p d x) ?_ ?_ _
 .intro y C;obtain⟨⟨Z,i⟩,o,rfl⟩:=dQ.1 C;have Q:=(aL.WJ z).1 o;dsimp only at Q⊢;by_cases q:p9 i.Call.cv d=true
  .exact .inl (agf (c.1 Z i Q) X q)
  .refine .inr λo=>?_;unfold jP;rw[aG];intro h;rw[bn,Q]at h;exact q h.2
 .intro y C;cases Q:p.at y with
  |some i=>exact .inl (dQ.2 ⟨(y,i),(aL.WJ z).2 Q,rfl⟩)
  |none=>
   refine .inr λo=>?_;unfold jP;rw[aG];intro h;rw[bn,Q]at h;simp[p9,aY.z,aO.z,bF.z]at h
end Go.Proofs.YteogojgnkjegmaaGreatDoor
namespace Go.Proofs.YteogojgnkjegmaaGreatDoor
open Go.az Go.Proofs.Tryz
variable[Go.az.b5]
variable{n:Int}
def Ju{s:bS}(h:s.ok)(x:ag):(bn s.p x).Call.cv.Key.length<=16/\0<=(bn s.p x).Call.Seq/\(bn s.p x).Call.Seq<=1099511627776:=by
 unfold bn;cases Q:s.p.at x with
 |none=>exact⟨VI,VI,VI⟩
 |some i=>
  have:=((wO h.p).1 h.hy x i Q).2;have q:=pt (nB this).2.2.2.2.1;exact⟨(tO q.1).2.2.1,q.2.2.1,q.2.2.2⟩
def agM(P G:Nat)(X:eY)(s:bS)(d:bF)(Y:ag)(h:s.ok)(b:iw X.L s.p)(n:d.Key.length<=16)(T:X.L.dv<=1000000000000):ar prog 56 [av P 0,A d.c,A Y.c] (hM P G X s) (λr J=>r=.tuple #[A (fH s.p d Y).1.c,I (fH s.p d Y).2]/\J=hM P G X s):=by
 obtain⟨U,D,N,m,C⟩:=X;dsimp only at b T;have l (q Z:Nat):=alt q Z P U N d (λk u=>by have:=b.2 k u;omega) ac (by unfold g1.dv at T;omega);have v (x:ag):=DB U D G m C s x h.p.towf;have E:=aem (av P 0) rfl d;unfold hM i9 g0 at*;unfold DD at l;refine bh ?_;refine aF func56 λW=>?_;refine aa 2 ?_;refine ai.o (O.Wz (λJ=>?_));refine aq 0 λq=>?_;refine aq 0 λa=>?_;refine aq 0 λy=>?_;refine aq 5 λX=>?_;refine aq 4 λi=>?_;refine aa 19 ?_;rintro _ _⟨K,F,rfl,rfl⟩;refine aa 4 ?_;refine ah.acX (l _ _) (λy:b4×Int=>[cells U 120 (mR.c ⟨av G 0,s.n,av D 0⟩),lI D m s.p,cells G 156 (mr.c ⟨C,s.safe⟩),eB dL C 5 1 s.data,cells J 35 [av P 0],cells q 29 d.c,cells a 46 Y.c,cells X 50 y.1.c,cells i 3 [I y.2]])
  (λpre y=>y=qi s.p d Y pre) (λ_ _ _=>False) (b4.z,0) rfl ?_ ?_ ?_
 .rintro pre x w⟨z,k⟩ y rec U C g i l P L;have F:=Ju h x;have K:=OL (bn s.p x).Call.cv d ac ac;have j:=alj z x;have W:=v x;have Z:=Ru s.p d Y pre x;rw[<-C]at Z;refine bh ?_;by_cases v:p9 (bn s.p x).Call.cv d=true
  .rw[v]at K;refine Vl (λQ P=>?_) (λQ=>?_) λQ=>?_;refine NI (λt=>?_) λt=>?_;refine ae 5 4 ?_;refine af.t 3 rfl (V.F' ad) ?_;refine ae 1 9 ?_;refine PM ?_;refine U5 ?_;rotate_left;refine aa 11 ?_;rotate_left;refine O.Q' ad (λP=>?_);refine au ?_;refine af.x' 5 rfl rfl (W) ?_;refine aa 2 ?_;refine NI (λr=>?_) λr=>?_;refine ae 2 4 ?_;refine af.t 3 rfl (V.F' ad) ?_;refine af.bx 0 6 rfl rfl ?_ ?_;refine NG ?_ ?_ ?_;refine U5 ?_;rotate_left;refine O.XD ad ?_;refine au ?_;refine ae 4 6 ?_;refine U5 ?_;rotate_left;refine Np ?_;refine ae 1 2 ?_;refine ae 1 10 ?_;refine U5 ?_;rotate_left;refine Np ?_;refine PM ?_;refine U5 ?_;rotate_left;refine aa 11 ?_;rotate_left;refine MU λP=>?_;refine af.x' 5 rfl rfl (W) ?_;refine aa 2 ?_;refine NI (λr=>?_) λr=>?_;refine ae 2 4 ?_;refine af.t 3 rfl (V.F' ad) ?_;refine af.bx 0 6 rfl rfl ?_ ?_;refine NG ?_ ?_ ?_;refine U5 ?_;rotate_left;refine O.XD ad ?_;refine au ?_;refine ae 4 6 ?_;refine U5 ?_;rotate_left;refine Np ?_;refine ae 1 2 ?_;refine ae 1 10 ?_;refine U5 ?_;rotate_left;refine Np ?_;refine PM ?_;refine U5 ?_;rotate_left;refine aa 11 ?_;rotate_left;all_goals first
    |exact Out.rd L (k6 z x,Max.max k (Min.min ((bn s.p x).Call.Seq+1) 1099511627776)) (by show _=qi s.p d Y (pre++[x]);rw[Z];unfold jP;rw[aJ ⟨VV,v⟩])
    |exact Out.rd L (z,k) (by show _=qi s.p d Y (pre++[x]);rw[Z];unfold jP;rw[aG (λw=>w.1 VV)])
  .rw[show p9 (bn s.p x).Call.cv d=false by simpa using v]at K;refine Vl (λQ P=>?_) (λQ=>?_) λQ=>?_;refine ae 1 7 ?_;refine aa 8 ?_;refine M2 (λr=>?_) λr=>?_;rotate_left;refine aa 11 ?_;rotate_left;refine O.Q' ad (λP=>?_);refine au ?_;refine af.x' 5 rfl rfl (W) ?_;refine aa 2 ?_;refine ae 1 7 ?_;refine aa 8 ?_;refine M2 (λr=>?_) λr=>?_;rotate_left;refine aa 11 ?_;rotate_left;refine MU λP=>?_;refine af.x' 5 rfl rfl (W) ?_;refine aa 2 ?_;refine ae 1 7 ?_;refine aa 8 ?_;refine M2 (λj=>?_) λj=>?_;rotate_left;refine aa 11 ?_;rotate_left;all_goals exact Out.rd L (z,k) (by show _=qi s.p d Y (pre++[x]);rw[Z];unfold jP;rw[aG (λw=>v w.2)])
 .rintro N⟨z,k⟩ c a C;rw[ail h.p b a]at C;refine bh ?_;rw[<-C];refine aa 3 ?_;refine ah.p' ?_ aC.j.j.j.j.j.j.j.d'.d'.j.j.j.j.j.j.j.j;refine ae 4 0 ?_;exact aQ 4
 exact UO
def hr(n:Int)(l:ab eH)(cf:ab aS)(g:Int):bS:=⟨n,hZ (aL.new n) l,cp l,if cf=[]then g else((cp l).length:Int)⟩
def ajJ{p:aL aY}(z:p.ok)(h:k5 n p.all){l:ab eH}(u:k5 n l):k5 n (hZ p l).all:=by
 induction l generalizing p with
 |nil=>exact h
 |cons y l X=>
  refine X (aL.Xe z y.1 y.2) ?_ λx U=>u x Ti;rw[wO (aL.Xe z y.1 y.2)];intro x i am;rw[aL.WN z]at am;split at am
  .rename_i q;cases am;rw[q.2];exact u y VK
  .exact(wO z).1 h x i am
def aeB(n:Int):(aL.new n:aL aY).all=[]:=by
 cases h:(aL.new n:aL aY).all with
 |nil=>rfl
 |cons y l=>
  have:y∈(aL.new n:aL aY).all:=by rw[h];simp
  have:=(aL.WJ (aL.Wo n)).1 this;rw[aL.W4]at this;cases this
def Ei{l:ab eH}{cf:ab aS}{g:Int}(c:n=3\/n=5\/n=7)(u:k5 n l)(b:(cp l++cf).length<=65536):(hr n l cf g).ok:=by
 have z:=Ay (aL.Wo n:(aL.new n:aL aY).ok) l;refine⟨c,z,?_,?_,?_⟩
 .show(hZ (aL.new n) l).aE=n;rw[Dy];show Min.min (Max.max n 0) 7=n
  omega
 .exact ajJ (aL.Wo n) (by rw[aeB];intro y C;cases C) u
 .show(cp l).length<=65536;rw[bQ]at b;omega
def g1.new(N F:Nat):g1:=⟨N,F,.slice none 0 0,[],[],[],[cY.z],hI _⟩
def ah.adj{P:b1}{r:aT Nat}{W:a2}{D:ab Nat}{n:dF}{Q:da}{M:bJ}{F:ab ay}{c:Go.Code}(h:ah P r W D n Q c M (dt [cY.z]::F)):ah P r W D n Q c M F:=by refine ah.V5 ag.c 46 2 ?_;refine ah.eqv (bg:=dt [cY.z]::F) ?_ h;exact((dt.cons cY.z []).trans ((aP.refl [yD cY.z]).append aP.aK)).symm.append (aP.refl F)
def alx(G:Nat)(v:aj)(n:Int)(l:ab eH)(cf:ab aS)(d:Int)(f:n=3\/n=5\/n=7)(D:k5 n l)(dK:(g6 cf).2=0)(du:(cp l++cf).length<=65536):ar prog 73 [av G 0,I n] (gd G v (cp l++cf) d) (λr J=>∃ef X,iw (eY.L X) (hr n l cf d).p/\X.L.dv<=1345/\r=.tuple #[av ef 0,I 0]/\J=hM ef G X (hr n l cf d)):=by
 have mX:=alN G v n l cf d f D dK du;have P:=Ei (g:=d) f D du;generalize bV:hr n l cf d=s at*;have u:ar prog 101 [av G 0,I n] (gd G v (cp l++cf) d) (λr J=>∃N b j L,r=.tuple #[av N 0,I 0]/\J=g0 N b G L j s):=by refine ar.post mX ?_;rintro r J⟨N,b,j,L,rfl,rfl⟩;exact⟨_,⟨N,b,j,L,rfl,by rw[<-bV];rfl⟩,λ_ _ _ h=>h⟩
 unfold gd at*;unfold g0 at u;have dd (N b:Nat) (L:lH) (dJ:aj):=H9 N b G L dJ s;unfold g0 at dd;refine aF func73 λW=>?_;refine aa 11 ?_;rintro _ _⟨t,U,R,Z,rfl,rfl⟩;refine aa 21 ?_;refine ai.o (aw.mkMap m2 fo rfl (λF=>?_));refine ai.o (aw.mkMap m2 fo rfl (λK=>?_));refine aq 1 λY=>?_;refine aq 0 λsy=>?_;refine aa 7 ?_;refine ai.x' rfl (dd _ _ _ _) ?_;rintro _ _⟨Q,rfl,rfl⟩;refine aa 4 ?_;refine ah.adj ?_;refine ah.rg (sz Q U Z s.p P.p.towf) (λy:g1=>[cells sy 35 [av Y 0],cells Y 101 (kp.c ⟨av t 0,.map (some y.iv),y.gW,.map (some y.dW)⟩),bz m2 fo y.iv y.keys,bz rH fo y.dW y.e3,dt y.g])
  (λpre y=>(∀z∈pre,Loc y z.1 z.2.Call.cv)/\(∀k∈y.keys.map (·.1),k.length<=16)/\y.dv<=1+3*pre.length) (λ_ _ _=>False) (g1.new F K) ⟨VK,by simp[g1.new],by simp[g1.new,g1.dv,k7,cY.z]⟩ ?_ ?_ ?_
 .rintro pre⟨x,i⟩ a y cq rec q⟨M,C,cd⟩ c2 eK jV yu m;have E:=aL.Xc P.p.towf;have Yg:pre.length+(a.length+1)=s.p.all.length:=by rw[q];simp
  have c0:=Ih Y t y x i.Call.cv ac;have bG:=P.hy (x,i) (by rw[q];simp);have ca:=(tO (pt (nB bG.2).2.2.2.2.1).1).2.2.1;unfold i9 at c0;refine bh ?_;refine aq 2 λD9=>?_;refine aq 4 λYf=>?_;refine aa 11 ?_;refine SY λYi Yc Ye=>?_;have T:=(by assumption:Found y _ x i.Call.cv)
  have Yh:=(by assumption:g1.dv _<=y.dv+3)
  refine Out.rd m _ ⟨?_,T.If 16 C ca,?_⟩
  .intro z w;rcases eh.1 w with w|w
   .exact T.cu (M z w)
   .obtain rfl:z=(x,i):=by simpa using w
    exact T.here
  exact L0
 .rintro y c⟨M,C,cd⟩;have E:=aL.Xc P.p.towf;refine bh ?_;refine aa 11 ?_;exact⟨_,_,⟨Y,⟨t,U,y,Z,R⟩,⟨λx i am=>M (x,i) ((aL.WJ P.p).2 am),C⟩,by show y.dv<=1345;omega,rfl,rfl⟩,VH⟩
 exact UO
def pC(m:aD)(b:Int):aD:={aD.z with Kind:=b,bc:=m.bI,bI:=m.bc,Item:=m.Item,bC:=m.bC}
def l9(m:aD)(i:aY):aD×Bool:=if ip m.bC i.bO then({pC m 8 with bC:=i.bO},true)else(aD.z,false)
def ma(s:bS)(x:ag)(Z N:aY):bS:=if Z=N then s else s.add x N
def rO(s:bS)(m:aD):aO:=n4 m.Call [⟨bF.z,(fH s.p m.Call.cv m.Item).1,(fH s.p m.Call.cv m.Item).2⟩]
def kO(s:bS)(m:aD):Bool:=decide (rO s m=m.Call)&&decide (m.bC=⟨0,m.Item.a1⟩)
def j4(s:bS)(m:aD)(i:aY):bS×aD×Bool:=
 let r:=i3 i m.bC 1 (rO s m) (kO s m)
 if r.2 then(ma s m.Item i r.1,{pC m 2 with cZ:=r.1.cZ,Call:=r.1.Call},true)else(s,l9 m i)
def j5(s:bS)(m:aD)(i:aY):bS×aD×Bool:=
 let r:=i3 i m.bC 2 m.Call false
 if r.2 then(ma s m.Item i r.1,pC m 4,true)else(s,l9 m i)
def nb(s:bS)(m:aD)(i:aY):bS×aD×Bool:=
 let r:=promise i m.bC
 if r.2 then(ma s m.Item i r.1,{pC m 7 with bZ:=r.1.bZ,Status:=r.1.Status,cZ:=r.1.cZ,Call:=r.1.Call},true)else(s,l9 m i)
def mb(s:bS)(m:aD):bS×aD×Bool:=
 let i:=bn s.p m.Item
 if(m.Kind=1\/m.Kind=3\/m.Kind=6)/\i.Status=3 then(s,{pC m 5 with Call:=i.Call},true)
 else if m.Kind=1 then j4 s m i
 else if m.Kind=3 then j5 s m i
 else if m.Kind=6 then nb s m i
 else if m.Kind=5 then(ma s m.Item i (p6 i m.Call).1,aD.z,false)
 else(s,aD.z,false)
def Ej:ga b4.z n=true:=by rw[su];intro k m K;rw[akm UC]at K;cases K;simp[j2]
def Ek:e1 aO.z n=true:=by simp only[e1,c1,cO];exact⟨VI,Ej,VI,VI⟩
def Jv(y:1<=n):ff aY.z n=true:=by
 simp only[ff,c1,hc,cO];have X:cX aY.z.bO n=true:=by simp only[cX,cO];exact⟨VI,VI,VI,by show(0:Int)<n;omega⟩
 exact⟨X,X,VI,VI,Ek,.inr trivial⟩
def w2{s:bS}(h:s.ok)(x:ag):ff (bn s.p x) s.n=true:=by
 unfold bn;cases Q:s.p.at x with
 |none=>exact Jv T6
 |some i=>exact((wO h.p).1 h.hy x i Q).2
def vr{i:aY}(Y:cX i.bO n=true)(Z:cX i.bZ n=true)(D:1<=i.Status)(m:i.Status<=3)(t:e1 i.Call n=true):ff i n=true:=by simp only[ff,c1,hc,cO];exact⟨Y,Z,ac,m,t,.inl ac⟩
def AU{i:aY}{b:bp}(am:ff i n=true)(X:cX b n=true):ff (promise i b).1 n=true:=by
 unfold promise;split
 .exact am
 .obtain⟨Y,Z,D,m,t,b⟩:=nB am;simp only[ff,c1,hc,cO];refine⟨X,Z,D,m,t,?_⟩;by_cases W:i.Status=0
  .right;have:=b W;rw[this]
  .exact .inl W
def ys{i:aY}{c:aO}(am:ff i n=true)(q:e1 c n=true):ff (p6 i c).1 n=true:=by
 unfold p6;split
 .exact am
 .obtain⟨Y,Z,D,m,t,b⟩:=nB am;exact vr Y Z (by show(1:Int)<=3;decide) (by show(3:Int)<=3;decide) q
def w3{i:aY}{b:bp}{st:Int}{c:aO}{same:Bool}(am:ff i n=true)(X:cX b n=true)(E:st=1\/st=2)(q:e1 c n=true):ff (i3 i b st c same).1 n=true:=by
 have z:=AU (b:=b) am X;unfold i3;split
 .exact am
 .rename_i y;rw[promise,aG (λh=>y (.inl h))]at z;split
  .exact z
  .exact vr X X Mm Mm q
def ajE{k:Nat}{a b:Int}(J:j2 n k a=true)(X:j2 n k b=true):j2 n k (Max.max a b)=true:=by simp only[j2,c1,hc,cO]at*;omega
def Jw{a b:b4}(J:ga a n=true)(X:ga b n=true):ga (lA a b) n=true:=by
 rw[su]at*;intro k m K;have T:k<7:=UC
 obtain⟨x,y,Y,Z,D⟩:=Hx a b T;rw[D]at K;cases K;exact ajE (J k x Y) (X k y Z)
def Jx{a b:b4}(J:ga a n=true)(X:ga b n=true):ga (oM [a,b]) n=true:=Jw (Jw Ej J) X
def aeX{c d:aO}(q:e1 c n=true)(b:ga d.eX n=true)(W:d.Seq<=1099511627776):e1 (wG c d) n=true:=by
 simp only[e1,c1,cO]at q⊢;refine⟨q.1,Jx q.2.1 b,?_,?_⟩
 .show 0<=Max.max c.Seq d.Seq;omega
 .show Max.max c.Seq d.Seq<=_;omega
def Jy{c d:aO}(q:e1 c n=true)(b:ga d.eX n=true)(W:d.Seq<=1099511627776):e1 (n4 c [d]) n=true:=by refine aeX ?_ b W;simp only[e1,c1,cO]at q⊢;exact⟨q.1,Jx q.2.1 q.2.1,q.2.2⟩
def ajT{d:b4}{x:ag}(c:ga d n=true)(U:bt x n=true)(y:n<=7):ga (k6 d x) n=true:=by obtain⟨Y,Z,D,m⟩:=u9 U;simp only[ga,c1,j2,hc,cO]at c⊢;simp only[k6];refine⟨⟨⟨⟨⟨⟨?_,?_⟩,?_⟩,?_⟩,?_⟩,?_⟩,?_⟩<;>(split<;>omega)
def El{s:bS}(h:s.ok)(d:bF)(J:ag):ga (fH s.p d J).1 s.n=true/\0<=(fH s.p d J).2/\(fH s.p d J).2<=1099511627776:=by
 have k:s.n<=7:=T6
 unfold fH qi;have Y:∀(N:ab ag) (o:b4×Int),(∀x∈N,bt x s.n=true)->ga o.1 s.n=true/\0<=o.2/\o.2<=1099511627776->
   ga (N.foldl (jP s.p d J) o).1 s.n=true/\0<=(N.foldl (jP s.p d J) o).2/\(N.foldl (jP s.p d J) o).2<=1099511627776:=by
  intro N
  induction N with
  |nil=>exactλo _ a=>a
  |cons x N X=>
   intro o U a;refine X _ (λy C=>U y (by simp[C])) ?_;unfold jP;split
   .have T:=Ju h x;refine⟨ajT a.1 (U x VK) k,?_,?_⟩<;>dsimp only<;>omega
   .exact a
 refine Y _ _ ?_ ⟨Ej,VI,VI⟩;intro x U;obtain⟨y,C,rfl⟩:=dQ.1 U;exact(h.hy y C).1
def AV{s:bS}(h:s.ok){m:aD}(q:e1 m.Call s.n=true):e1 (rO s m) s.n=true:=by obtain⟨Y,Z,D⟩:=El h m.Call.cv m.Item;exact Jy q Y D
def fR(r G:Nat)(X:eY)(s:bS):ay:=aK (hM r G X s)
section
variable{P:b1}{f:fb}{args:ab aj}{Y:ab ay}
def ar.ZD{F:Type}{Q:aj->F->Prop}{T:F->ab ay}(h:ar P f args Y (λr J=>∃z,Q r z/\J=T z)):ar P f args [aK Y] (λr J=>∃z,Q r z/\J=[aK (T z)]):=
 ar.eqv aP.aK h Ta
def ar.Xq{Q:aj->Prop}{T:ab ay}(h:ar P f args Y (λr J=>Q r/\J=T)):ar P f args [aK Y] (λr J=>Q r/\J=[aK T]):=
 ar.eqv aP.aK h (by rintro r J⟨U,rfl⟩;exact⟨_,⟨U,rfl⟩,aP.aK.symm⟩)
end
def Jz(j G:Nat)(X:eY)(s:bS)(d:bF)(x:ag)(h:s.ok)(y:iw X.L s.p)(b:d.Key.length<=16)(T:X.L.dv<=1000000000000):ar prog 56 [av j 0,A d.c,A x.c] [fR j G X s] (λr J=>r=.tuple #[A (fH s.p d x).1.c,I (fH s.p d x).2]/\J=[fR j G X s]):=ar.Xq (agM j G X s d x h y b T)
def yU(j G:Nat)(X:eY)(s:bS)(x:ag)(h:s.p.wf):ar prog 16 [av j 0,A x.c] [fR j G X s] (λr J=>r=A (bn s.p x).c/\J=[fR j G X s]):=ar.Xq (afk j G X s x h)
def JA(j G:Nat)(X:eY)(s:bS):ar prog 84 [av j 0] [fR j G X s] (λr J=>r=I s.n/\J=[fR j G X s]):=ar.Xq (Ii j G X s)
def ajB(j G:Nat)(X:eY)(s:bS)(M:Int)(h:s.p.wf)(W:0<=M)(U:M<s.n):ar prog 55 [av j 0,I M] [fR j G X s] (λr J=>r=.tuple #[A (fz s M).c,B (decide ((s.p.top M:Int)+1<=64))]/\J=[fR j G X s]):=ar.Xq (agn j G X s M h W U)
def aiE(j G:Nat)(X:eY)(s:bS):ar prog 91 [av j 0] [fR j G X s] (λr J=>r=I 0/\J=[fR j G X {s with safe:=(s.data.length:Int)}]):=ar.Xq (amf j G X s)
def alo(j G:Nat)(X:eY)(s:bS)(x:ag)(i:aY)(h:s.ok)(J:bt x s.n=true)(am:ff i s.n=true)(y:iw X.L s.p)(u:X.L.dv<=1000000000000):ar prog 236 [av j 0,A x.c,A i.c] [fR j G X s] (λr Z=>∃E:eY,((E.L.dv<=X.L.dv+3/\iw E.L (s.add x i).p)/\r=I 0)/\Z=[fR j G E (s.add x i)]):=by refine ar.ZD (Q:=λr E=>(E.L.dv<=X.L.dv+3/\iw E.L (s.add x i).p)/\r=I 0) (T:=λE=>hM j G E (s.add x i)) ?_;refine ar.post (OO j G X s x i h J am y u) ?_;rintro r Z⟨E,U,N,rfl,rfl⟩;exact⟨_,⟨E,⟨⟨U,N⟩,rfl⟩,rfl⟩,λ_ _ _ h=>h⟩
def AW(v G:Nat)(X:eY)(s:bS)(x:ag)(Z N:aY)(h:s.ok)(U:bt x s.n=true)(am:ff N s.n=true)(y:iw X.L s.p)(T:X.L.dv<=1000000000000):ar prog 183 [av v 0,A x.c,A Z.c,A N.c] [fR v G X s] (λr J=>∃u:eY,(u.L.dv<=X.L.dv+3/\iw u.L (ma s x Z N).p)/\r=B true/\J=[fR v G u (ma s x Z N)]):=by
 have i:=alo v G X s x N h U am y T;unfold ma;by_cases j:Z=N
 .subst j;simp only[ik];refine aF func183 λW=>?_;refine VN λa p o=>?_;refine aa 7 ?_;refine ai.v (V.eq (aY.Y' _ _ _)) ?_;refine au ?_;refine ai.dS (λs=>?_) (λs=>?_);replace s:=g5 s;refine aa 11 ?_;rotate_left;exact mq s;exact⟨_,_,⟨X,⟨ks _ _,y⟩,rfl,rfl⟩,VH⟩
 .simp only[aG j];refine aF func183 λW=>?_;refine VN λa p o=>?_;refine aa 7 ?_;refine ai.v (V.eq (aY.Y' _ _ _)) ?_;refine aa 6 ?_;rintro q U⟨T,⟨⟨⟨g,z⟩,rfl⟩,rfl⟩⟩;refine aa 8 ?_;exact⟨_,_,⟨_,⟨VV,VV⟩,rfl,rfl⟩,VH⟩
def qT(m:aD)(b:Int):dH prog 178 [A m.c,I b] (A (pC m b).c):=by refine aF func178 λW=>?_;refine aq 2 λx=>?_;refine aq 0 λq=>?_;exact aQ 19
def Em(m:aD)(i:aY):dH prog 233 [A m.c,A i.c] (.tuple #[A (l9 m i).1.c,B (l9 m i).2]):=by
 have u:=C2 m.bC i.bO;unfold l9;cases g:ip m.bC i.bO<;>rw[g]at u
 .simp only[h8,iH];refine aF func233 λW=>?_;refine VN λU x q=>?_;exact aQ 25
 .simp only[ik];refine aF func233 λW=>?_;refine VN λU x q=>?_;refine aa 20 ?_;refine NT λp=>?_;exact aQ 20
end Go.Proofs.YteogojgnkjegmaaGreatDoor
namespace Go.Proofs.YteogojgnkjegmaaGreatDoor
open Go.az Go.Proofs.Tryz
variable[Go.az.b5]
def agX(c d:aO)(g:Nat):ar prog 202 [A c.c,.slice (some ⟨g,0,none⟩) 1 1] [rows aO.c (.slice (some ⟨g,0,none⟩) 1 1) 52 14 [d]] (λr J=>r=A (n4 c [d]).c/\J=[rows aO.c (.slice (some ⟨g,0,none⟩) 1 1) 52 14 [d]]):=
 wH _ _ 1 _ _ c [d] (Rd.rows (l:=[d]) aO.len VK)
def qU{m:aD}{n:Int}(h:hz m n)(T:jL m.Kind.toNat=true):e1 m.Call n=true:=by have:=h.call;rwa[aJ T]at this
def amn(y G:Nat)(X:eY)(s:bS)(m:aD)(i:aY)(h:s.ok)(K:hz m s.n)(ca:m.Kind=1)(am:ff i s.n=true)(Y:iw X.L s.p)(bN:X.L.dv<=1000000000000):ar prog 179 [av y 0,A m.c,A i.c] [fR y G X s] (λr J=>∃E:eY,(E.L.dv<=X.L.dv+3/\iw E.L (j4 s m i).1.p)/\r=.tuple #[A (j4 s m i).2.1.c,B (j4 s m i).2.2]/\J=[fR y G E (j4 s m i).1]):=by
 have dT:=qU K (by rw[ca];rfl);have Yf:=pt dT;have ie:=Jz y G X s m.Call.cv m.Item h Y (tO Yf.1).2.2.1 bN;have R (g:Nat):=agX m.Call ⟨bF.z,(fH s.p m.Call.cv m.Item).1,(fH s.p m.Call.cv m.Item).2⟩ g;have Yg:=AV (m:=m) h dT;have Z:=afH i m.bC (rO s m) (kO s m);have bG:=w3 (st:=1) (same:=kO s m) am K.bm (.inl rfl) Yg;have l:=AW y G X s m.Item i (i3 i m.bC 1 (rO s m) (kO s m)).1 h K.item bG Y bN;have ep:=Em m i;have c0:=z8 m.Item.a1;unfold j4;have C:n4 m.Call [⟨bF.z,(fH s.p m.Call.cv m.Item).1,(fH s.p m.Call.cv m.Item).2⟩]=rO s m:=rfl;rw[C]at R;have D:kO s m=(decide (rO s m=m.Call)&&decide (m.bC=⟨0,m.Item.a1⟩)):=rfl;generalize rO s m=c at*;generalize fH s.p m.Call.cv m.Item=w at*;generalize kO s m=sm at*;generalize i3 i m.bC 1 c sm=v at*;obtain⟨hh,lL⟩:=v;unfold ct at Z;dsimp only at*;generalize Yh:decide (m.bC=⟨0,m.Item.a1⟩)=jN at*;generalize f:decide (c=m.Call)=hN at*;have j (k:Nat):=aO.Y' c m.Call k;have t (k:Nat):=bp.Y' m.bC ⟨0,m.Item.a1⟩ k;simp only[f]at j;simp only[Yh]at t;subst D;cases hN
 .rw[tP]at Z;cases lL<;>simp only[ik,h8,iH]
  .refine SX λW q U N F a Q=>?_;refine ae 9 8 ?_;refine QM (λP=>?_) ?_;refine ae 2 22 ?_;refine aa 24 ?_;rotate_left;refine Ue λP=>?_;refine ae 2 22 ?_;refine aa 24 ?_;rotate_left;all_goals exact⟨_,_,⟨X,⟨ks _ _,Y⟩,rfl,rfl⟩,VH⟩
  .refine SX λW q U N F a Q=>?_;refine ae 9 8 ?_;refine QM (λP=>?_) ?_;refine QQ λu=>?_;rintro oW En⟨x,⟨⟨d,M⟩,rfl,rfl⟩⟩;refine PT ?_;rotate_left;refine Ue λP=>?_;refine QQ λu=>?_;rintro Yc Yi⟨b,⟨⟨Ye,T⟩,rfl,rfl⟩⟩;refine PT ?_;rotate_left;all_goals exact⟨_,_,⟨_,⟨VV,VV⟩,rfl,rfl⟩,VH⟩
 .rw[qB]at Z;cases lL<;>simp only[ik,h8,iH]
  .refine SX λW q U N F a Q=>?_;refine ae 6 8 ?_;refine af.bx 14 21 rfl rfl ?_ ?_;refine aw.fn rfl (c0) ?_;refine au ?_;refine af.n' 15 rfl (V.eq (t _)) ?_;refine ae 1 16 ?_;refine QM (λP=>?_) ?_;refine ae 2 22 ?_;refine aa 24 ?_;rotate_left;refine Ue λP=>?_;refine ae 2 22 ?_;refine aa 24 ?_;rotate_left;refine O.Q' ad (λP=>?_);refine au ?_;refine ae 1 14 ?_;refine af.n' 15 rfl (V.eq (t _)) ?_;refine ae 5 16 ?_;refine ae 2 22 ?_;refine aa 24 ?_;rotate_left;all_goals exact⟨_,_,⟨X,⟨ks _ _,Y⟩,rfl,rfl⟩,VH⟩
  .refine SX λW q U N F a Q=>?_;refine ae 6 8 ?_;refine af.bx 14 21 rfl rfl ?_ ?_;refine aw.fn rfl (c0) ?_;refine au ?_;refine af.n' 15 rfl (V.eq (t _)) ?_;refine ae 1 16 ?_;refine QM (λP=>?_) ?_;refine QQ λu=>?_;rintro oW En⟨x,⟨⟨d,M⟩,rfl,rfl⟩⟩;refine PT ?_;rotate_left;refine Ue λP=>?_;refine QQ λu=>?_;rintro Yc Yi⟨b,⟨⟨Ye,T⟩,rfl,rfl⟩⟩;refine PT ?_;rotate_left;refine O.Q' ad (λP=>?_);refine au ?_;refine ae 1 14 ?_;refine af.n' 15 rfl (V.eq (t _)) ?_;refine ae 5 16 ?_;refine QQ λu=>?_;rintro D U⟨u,⟨⟨L,t⟩,rfl,rfl⟩⟩;refine PT ?_;rotate_left;all_goals exact⟨_,_,⟨_,⟨VV,VV⟩,rfl,rfl⟩,VH⟩
def agz(P R:Nat)(X:eY)(s:bS)(m:aD)(i:aY)(h:s.ok)(K:hz m s.n)(u:m.Kind=3)(am:ff i s.n=true)(y:iw X.L s.p)(T:X.L.dv<=1000000000000):ar prog 180 [av P 0,A m.c,A i.c] [fR P R X s] (λr J=>∃E:eY,(E.L.dv<=X.L.dv+3/\iw E.L (j5 s m i).1.p)/\r=.tuple #[A (j5 s m i).2.1.c,B (j5 s m i).2.2]/\J=[fR P R E (j5 s m i).1]):=by
 have q:=qU K (by rw[u];rfl);have Z:=al9 i m.bC m.Call;have G:=w3 (st:=2) (same:=false) am K.bm (.inr rfl) q;have l:=AW P R X s m.Item i (i3 i m.bC 2 m.Call false).1 h K.item G y T;have f:=Em m i;unfold j5;generalize i3 i m.bC 2 m.Call false=v at*;obtain⟨M,F⟩:=v;unfold ct at Z;dsimp only at*;cases F<;>simp only[ik,h8,iH]
 .refine aF func180 λW=>?_;refine VN λq a p=>?_;refine aq 14 λT=>?_;refine aa 26 ?_;all_goals exact⟨_,_,⟨X,⟨ks _ _,y⟩,rfl,rfl⟩,VH⟩
 .refine aF func180 λW=>?_;refine VN λq a p=>?_;refine aq 14 λT=>?_;refine aa 15 ?_;refine ah.p' ?_ aC.j.d'.d'.j.d';refine ae 1 0 ?_;refine ae 5 2 ?_;refine af.y' 1 rfl (aw.fn rfl (qT _ _) ?_);refine au ?_;refine af.x' 7 rfl rfl (l) ?_;rintro F C⟨Q,⟨⟨E,g⟩,rfl,rfl⟩⟩;refine aa 2 ?_;refine ae 2 8 ?_;refine aa 4 ?_;all_goals exact⟨_,_,⟨_,⟨VV,VV⟩,rfl,rfl⟩,VH⟩
def afF(P R:Nat)(X:eY)(s:bS)(m:aD)(i:aY)(h:s.ok)(K:hz m s.n)(am:ff i s.n=true)(y:iw X.L s.p)(T:X.L.dv<=1000000000000):ar prog 181 [av P 0,A m.c,A i.c] [fR P R X s] (λr J=>∃u:eY,(u.L.dv<=X.L.dv+3/\iw u.L (nb s m i).1.p)/\r=.tuple #[A (nb s m i).2.1.c,B (nb s m i).2.2]/\J=[fR P R u (nb s m i).1]):=by
 have Z:=Hc i m.bC;have G:=AU (b:=m.bC) am K.bm;have l:=AW P R X s m.Item i (promise i m.bC).1 h K.item G y T;have f:=Em m i;unfold nb;generalize promise i m.bC=v at*;obtain⟨M,F⟩:=v;unfold ct at Z;dsimp only at*;cases F<;>simp only[ik,h8,iH]
 .refine aF func181 λW=>?_;refine VN λq a p=>?_;refine aq 12 λT=>?_;refine aa 26 ?_;all_goals exact⟨_,_,⟨X,⟨ks _ _,y⟩,rfl,rfl⟩,VH⟩
 .refine aF func181 λW=>?_;refine VN λq a p=>?_;refine aq 12 λT=>?_;refine aa 17 ?_;refine NT λQ=>?_;refine aa 4 ?_;refine ah.p' ?_ aC.j.j.j.j.d'.j;refine ae 16 0 ?_;refine aa 3 ?_;refine ah.p' ?_ aC.j.d'.d'.j.d'.d';refine ae 6 0 ?_;refine af.x' 6 rfl rfl (l) ?_;rintro F C⟨Q,⟨⟨E,g⟩,rfl,rfl⟩⟩;refine PT ?_;all_goals exact⟨_,_,⟨_,⟨VV,VV⟩,rfl,rfl⟩,VH⟩
def al5(m:aD)(i:aY)(h:(l9 m i).2=false):(l9 m i).1=aD.z:=by
 unfold l9 at*;split at h
 .cases h
 .rename_i v;rw[aG v]
def ait(s:bS)(m:aD)(i:aY)(h:(j4 s m i).2.2=false):(j4 s m i).2.1=aD.z:=by
 unfold j4 at*;dsimp only at*;split at h
 .cases h
 exact RN
def ald(s:bS)(m:aD)(i:aY)(h:(j5 s m i).2.2=false):(j5 s m i).2.1=aD.z:=by
 unfold j5 at*;dsimp only at*;split at h
 .cases h
 exact RN
def RR(s:bS)(m:aD)(i:aY)(h:(nb s m i).2.2=false):(nb s m i).2.1=aD.z:=by
 unfold nb at*;dsimp only at*;split at h
 .cases h
 exact RN
def ajp(j G:Nat)(X:eY)(s:bS)(E:Int)(m:aD)(h:s.ok)(K:hz m s.n)(cB:m.bI=E)(b:iw X.L s.p)(d:X.L.dv<=1000000000000):ar prog 125 [av j 0,I E,A m.c] [fR j G X s,cM] (λr C=>∃f:eY,(f.L.dv<=X.L.dv+3/\iw f.L (mb s m).1.p)/\r=.tuple #[A (mb s m).2.1.c,B (mb s m).2.2]/\C=[fR j G f (mb s m).1,cM]):=by
 have am:=w2 h m.Item;have dd:=yU j G X s m.Item h.p.towf;have g:=JA j G X s;have T:=Aq m s.n;rw[gZ.2 K]at T;have gY:=K.gY;have hf:=K.hf;unfold mb;generalize bn s.p m.Item=i at*;dsimp only;have Yc:m.Kind=1\/m.Kind=3\/m.Kind=6\/m.Kind=5\/(m.Kind≠1/\m.Kind≠3/\m.Kind≠6/\m.Kind≠5):=ac
 rcases Yc with Y|Y|Y|Y|⟨w4,j6,RT,agp⟩
 .have gQ:=amn j G X s m i h K Y am b d;have w:=ait s m i;by_cases D:i.Status=3
  .rw[aJ ⟨.inl Y,D⟩];refine QA λW a y=>?_;refine aq 12 λF=>?_;refine aa 37 ?_;refine NT λQ=>?_;refine aa 21 ?_;rotate_left;all_goals exact⟨_,_,⟨X,⟨ks _ _,b⟩,rfl,rfl⟩,VH⟩
  .rw[aG (λl=>D l.2),aJ Y];generalize j4 s m i=v at*;obtain⟨s1,ku,k⟩:=v;dsimp only at*;cases k
   .obtain rfl:=w rfl;refine QA λW a y=>?_;refine aq 12 λF=>?_;refine aq 38 λP=>?_;refine aa 27 ?_;rintro Yg Yh⟨Z,⟨⟨u,q⟩,rfl,rfl⟩⟩;refine aa 27 ?_;rotate_left;all_goals exact⟨_,_,⟨_,⟨VV,VV⟩,rfl,rfl⟩,VH⟩
   .refine QA λW a y=>?_;refine aq 12 λF=>?_;refine aq 38 λP=>?_;refine aa 27 ?_;rintro Yg Yh⟨Z,⟨⟨u,q⟩,rfl,rfl⟩⟩;refine aa 28 ?_;rotate_left;all_goals exact⟨_,_,⟨_,⟨VV,VV⟩,rfl,rfl⟩,VH⟩
 .have gQ:=agz j G X s m i h K Y am b d;have w:=ald s m i;by_cases D:i.Status=3
  .rw[aJ ⟨.inr (.inl Y),D⟩];refine QA λW a y=>?_;refine aq 12 λF=>?_;refine aa 38 ?_;refine NT λQ=>?_;refine aa 21 ?_;rotate_left;all_goals exact⟨_,_,⟨X,⟨ks _ _,b⟩,rfl,rfl⟩,VH⟩
  .rw[aG (λl=>D l.2),aG ac,aJ Y];generalize j5 s m i=v at*;obtain⟨s1,ku,k⟩:=v;dsimp only at*;cases k
   .obtain rfl:=w rfl;refine QA λW a y=>?_;refine aq 12 λF=>?_;refine aq 39 λP=>?_;refine aa 34 ?_;rintro Ye Yf⟨N,⟨⟨J,x⟩,rfl,rfl⟩⟩;refine aa 27 ?_;rotate_left;all_goals exact⟨_,_,⟨_,⟨VV,VV⟩,rfl,rfl⟩,VH⟩
   .refine QA λW a y=>?_;refine aq 12 λF=>?_;refine aq 39 λP=>?_;refine aa 34 ?_;rintro Ye Yf⟨N,⟨⟨J,x⟩,rfl,rfl⟩⟩;refine aa 28 ?_;rotate_left;all_goals exact⟨_,_,⟨_,⟨VV,VV⟩,rfl,rfl⟩,VH⟩
 .have gQ:=afF j G X s m i h K am b d;have w:=RR s m i;by_cases D:i.Status=3
  .rw[aJ ⟨.inr (.inr Y),D⟩];refine QA λW a y=>?_;refine aq 12 λF=>?_;refine aa 39 ?_;refine NT λQ=>?_;refine aa 21 ?_;rotate_left;all_goals exact⟨_,_,⟨X,⟨ks _ _,b⟩,rfl,rfl⟩,VH⟩
  .rw[aG (λl=>D l.2),aG ac,aG ac,aJ Y];generalize nb s m i=v at*;obtain⟨s1,ku,k⟩:=v;dsimp only at*;cases k
   .obtain rfl:=w rfl;refine QA λW a y=>?_;refine aq 12 λF=>?_;refine aq 40 λP=>?_;refine aa 41 ?_;rintro R U⟨M,⟨⟨t,z⟩,rfl,rfl⟩⟩;refine aa 27 ?_;rotate_left;all_goals exact⟨_,_,⟨_,⟨VV,VV⟩,rfl,rfl⟩,VH⟩
   .refine QA λW a y=>?_;refine aq 12 λF=>?_;refine aq 40 λP=>?_;refine aa 41 ?_;rintro R U⟨M,⟨⟨t,z⟩,rfl,rfl⟩⟩;refine aa 28 ?_;rotate_left;all_goals exact⟨_,_,⟨_,⟨VV,VV⟩,rfl,rfl⟩,VH⟩
 .rw[aG ac,aG ac,aG ac,aG ac,aJ Y];have dT:=qU K (by rw[Y];rfl);have cJ:=AW j G X s m.Item i (p6 i m.Call).1 h K.item (ys am dT) b d;have nG:=aha i m.Call;unfold ct at nG;generalize p6 i m.Call=v at*;obtain⟨hh,lL⟩:=v;dsimp only at*;refine QA λW a y=>?_;refine aq 12 λF=>?_;refine aq 40 λP=>?_;refine aq 52 λu=>?_;refine aa 11 ?_;rintro R U⟨q,⟨⟨t,z⟩,rfl,rfl⟩⟩;refine aa 22 ?_;rotate_left;all_goals exact⟨_,_,⟨_,⟨VV,VV⟩,rfl,rfl⟩,VH⟩
 .rw[aG ac,aG w4,aG j6,aG RT,aG agp];refine QA λW a y=>?_;refine aq 12 λF=>?_;refine aq 40 λP=>?_;refine aa 64 ?_;all_goals exact⟨_,_,⟨X,⟨ks _ _,b⟩,rfl,rfl⟩,VH⟩
end Go.Proofs.YteogojgnkjegmaaGreatDoor
namespace Go.Proofs.YteogojgnkjegmaaGreatDoor
open Go.az Go.Proofs.Tryz
def afn(b:Nat)(n q:Int)(p m:Nat)(v:aj)(t:Int)(l:ab bw)(z:n7)(N:Int)(x:ag) (Y:mz t l) (u:l.length<=900) (f:t<=100000000000000) (U:-1048576<=x.a1/\x.a1<=1048576) (y:n<=1048576) (E:-1048576<=q/\q<=1048576) (W:-1152921504606846976<=N/\N<=1152921504606846976) (M:0<=bY z x/\bY z x<=100000000000000):ar prog 95 [av b 0,I N,A x.c] (jx b n q p m v t l z) (λr J=>∃g Q,r=.tuple #[]/\J=jx b n q p m (.slice (some ⟨g,0,none⟩) (jw ⟨x,N+oS n q x.a1 (bY z x+1),t⟩ (iN x l)).length Q) (t+1) (jw ⟨x,N+oS n q x.a1 (bY z x+1),t⟩ (iN x l)) (bA z x (bY z x+1))):=by
 have Z:=Y.t0;have D:0<=(aZ z x).getD 0/\(aZ z x).getD 0<=100000000000000:=M;have L:dH prog 112 [I n,I q,A x.c,I (bY (bA z x (bY z x+1)) x)] (I (oS n q x.a1 (bY z x+1))):=by have h:=Iq n q x (bY (bA z x (bY z x+1)) x) y E U;rw[IH,aJ rfl]at h⊢;exact h
 have C:=Io n q x.a1 (bY z x+1) y;generalize oS n q x.a1 (bY z x+1)=w at*;have y:=IC p v t l x (N+w) (Y.del x).sorted ac ac;unfold fQ at y;unfold jx;refine aF func95 λW=>?_;refine aq 2 λa=>?_;refine aa 13 ?_;refine ah.p' ?_ aC.j.j.j.d'.d';refine ae 5 0 ?_;refine af.bx 5 7 rfl rfl ?_ ?_;refine aw.z' (aN.Wj (l:=z) (k:=x) (aU:=λn:Int=>I n) 0 cw g8 ja rfl rfl VF) ?_;refine au ?_;refine ae 1 6 ?_;refine af.y' 7 rfl (aw.Xb (l:=z) (k:=x) (aU:=λn:Int=>I n) 0 cw g8 ja rfl rfl Vz (λQ=>?_));refine au ?_;refine ae 1 8 ?_;refine OY λh s=>?_
 exact Mx
 refine aw.Xb (l:=z) (k:=x) (aU:=λn:Int=>I n) 0 cw g8 ja rfl rfl Vz (λQ=>?_);refine au ?_;refine ae 1 8 ?_;refine af.y' 5 rfl (aw.z' (aN.acB (l:=z) (k:=x) (aU:=λn:Int=>I n) cw g8 rfl rfl VF) ?_);refine au ?_;refine ae 1 6 ?_;refine OY λG R=>?_
 exact Mx
end Go.Proofs.YteogojgnkjegmaaGreatDoor
