/-
 Part of the proof.
-/
import Derived.Test.YteogojgnkjegmaaGreatDoorAo
set_option linter.all false
set_option maxRecDepth 8000
set_option maxHeartbeats 8000000
namespace Go.Proofs.YteogojgnkjegmaaGreatDoor
open Go.az Go.Proofs.Tryz
variable{it:ag}{Y:bp}
def jz(p:Int):Int:=if p=1 then 1 else if p=2 then 3 else 5
def mD(M:Int)(x:a6)(i:Nat):aD:={aD.z with Kind:=M,bc:=x.self,bI:=(i:Int),Item:=x.item,bC:=x.bm,Call:=x.call}
def qf(x:a6)(i:Nat):aD:=mD (jz x.phase) x i
def a6.Wc(x:a6)(k:Nat):ab aD:=(List.range k).map (qf x)
def a6.Z2(x:a6)(k:Nat):x.Wc (k+1)=x.Wc k++[qf x k]:=by simp[a6.Wc,sk]
def a6.XQ(x:a6)(k:Nat):(x.Wc k).length=k:=by simp[a6.Wc]
def a6.H'(x:a6):ab aD:=if x.phase=1\/x.phase=2\/x.phase=3 then x.Wc x.n.toNat else[]
def AM(b:Nat)(x:a6)(i:0<=x.n/\x.n<=1000):ar prog 60 [av b 0] [cells b 183 x.c] (λr J=>∃v,r=v/\J=[rows aD.c v 176 25 x.H',cells b 183 x.c]):=by
 have z:=DV b x;obtain⟨Y,X⟩:∃k:Nat,x.n=(k:Int):=⟨x.n.toNat,ac⟩
 by_cases h:x.phase=1\/x.phase=2\/x.phase=3
 .rw[show x.H'=x.Wc Y by rw[a6.H',aJ h,X];rfl];rcases h with h|h|h
  .have T:jz x.phase=1:=by unfold jz;rw[h];rfl
   refine S5 λW=>?_;refine aa 47 ?_;rotate_left;refine NJ λk v w K l=>?_;dsimp only at w;refine bh ?_;have U:=x.XQ k;by_cases s:k<Y
   .have j:x.Wc (k+1)=x.Wc k++[mD 1 x k]:=by rw[a6.Z2,qf,T]
    refine aa 17 ?_;refine ah.p' ?_ aC.d'.j;refine ae 19 0 ?_;refine af.n' 19 rfl (V.WH ad (o:=(mD 1 x k).c)) ?_;refine dr 20 λu=>?_;refine af.y' 21 rfl (O.Z' (m:=[mD 1 x k]) ad rfl rfl Vz (cz.one (f:=aD.c) (a:=mD 1 x k) ad VF aD.J') (λM C=>?_));refine au ?_;refine ae 1 22 ?_;refine aa 7 ?_;rotate_left;exact Out.C' l (k+1,.slice (some ⟨M,0,none⟩) (x.Wc k++[mD 1 x k]).length C) Rh Ub (j:=Vd) (g:=U4)
   .obtain rfl:k=Y:=by omega
    exact aQ 20
  .have T:jz x.phase=3:=by unfold jz;rw[h];rfl
   refine S5 λW=>?_;refine aa 54 ?_;rotate_left;refine NJ λk v w K l=>?_;dsimp only at w;refine bh ?_;have U:=x.XQ k;by_cases s:k<Y
   .have j:x.Wc (k+1)=x.Wc k++[mD 3 x k]:=by rw[a6.Z2,qf,T]
    refine aa 17 ?_;refine ah.p' ?_ aC.d'.j;refine ae 19 0 ?_;refine af.n' 19 rfl (V.WH ad (o:=(mD 3 x k).c)) ?_;refine dr 20 λu=>?_;refine af.y' 21 rfl (O.Z' (m:=[mD 3 x k]) ad rfl rfl Vz (cz.one (f:=aD.c) (a:=mD 3 x k) ad VF aD.J') (λM C=>?_));refine au ?_;refine ae 1 22 ?_;refine aa 7 ?_;rotate_left;exact Out.C' l (k+1,.slice (some ⟨M,0,none⟩) (x.Wc k++[mD 3 x k]).length C) Rh Ub (j:=Vd) (g:=U4)
   .obtain rfl:k=Y:=by omega
    exact aQ 20
  .have T:jz x.phase=5:=by unfold jz;rw[h];rfl
   refine S5 λW=>?_;refine aa 61 ?_;rotate_left;refine NJ λk v w K l=>?_;dsimp only at w;refine bh ?_;have U:=x.XQ k;by_cases s:k<Y
   .have j:x.Wc (k+1)=x.Wc k++[mD 5 x k]:=by rw[a6.Z2,qf,T]
    refine aa 17 ?_;refine ah.p' ?_ aC.d'.j;refine ae 19 0 ?_;refine af.n' 19 rfl (V.WH ad (o:=(mD 5 x k).c)) ?_;refine dr 20 λu=>?_;refine af.y' 21 rfl (O.Z' (m:=[mD 5 x k]) ad rfl rfl Vz (cz.one (f:=aD.c) (a:=mD 5 x k) ad VF aD.J') (λM C=>?_));refine au ?_;refine ae 1 22 ?_;refine aa 7 ?_;rotate_left;exact Out.C' l (k+1,.slice (some ⟨M,0,none⟩) (x.Wc k++[mD 5 x k]).length C) Rh Ub (j:=Vd) (g:=U4)
   .obtain rfl:k=Y:=by omega
    exact aQ 20
 .rw[show x.H'=[] by rw[a6.H',aG h]];refine S5 λW=>?_;exact aQ 49
def a6.wf.phase{x:a6}(w:x.wf)(p:Int):({x with phase:=p}:a6).wf:=⟨w.pl,w.dj,w.ol,w.fN,w.eA,w.gz⟩
structure hU(x:a6)(n iR:Int)(it:ag)(sB:bp):Prop where
 wf:x.wf
 n:x.n=n
 self:x.self=iR
 item:x.item=it
 bm:x.bm=sB
 phase:x.phase=1\/x.phase=2\/x.phase=3\/x.phase=4
def a6.Z3{x:a6}(w:x.wf):x.kw.wf:=⟨w.pl,w.dj,w.ol,w.fN,w.eA,w.gz⟩
def ahi{x:a6}{n y:Int}(k:hU x n y it Y)(m:aD):hU (x.Ws m).1 n y it Y:=by
 unfold a6.Ws;split
 .rename_i q;have i:=k.wf.put q m;split
  exact Sl
  .split
   exact Pr
   .split
    .exact⟨a6.Z3 i,k.n,k.self,k.item,k.bm,.inr (.inl rfl)⟩
    exact Pr
 .exact k
def vk{x:a6}{n y:Int}(k:hU x n y it Y)(m:aD):hU (x.B' m).1 n y it Y:=by
 unfold a6.B';split
 .exact k
 split
 .exact⟨(k.wf.call m.Call).phase 3,k.n,k.self,k.item,k.bm,.inr (.inr (.inl rfl))⟩
 split
 .exact⟨k.wf.phase 4,k.n,k.self,k.item,k.bm,.inr (.inr (.inr rfl))⟩
 split
 .exact k
 split
 .exact ahi k m
 split
 .split
  .rename_i q;have i:=k.wf.WM q;split
   exact Sl
   exact Pr
  .exact k
 .exact k
def yL{x:a6}{n y:Int}(k:hU x n y it Y):hU x.late.1 n y it Y:=by
 unfold a6.late;split
 .exact⟨a6.Z3 k.wf,k.n,k.self,k.item,k.bm,.inr (.inl rfl)⟩
 .exact k
def IY{x:a6}(h:x.phase=4):x.H'=[]:=by unfold a6.H';rw[aG ac]
def ajK{x:a6}(h:x.phase=1\/x.phase=2\/x.phase=3):x.H'=x.Wc x.n.toNat:=by unfold a6.H';rw[aJ h]
def jc{o:Type}{f:o->ab aj}{W:a2}{D:ab Nat}{F:ab ay}{v:aj}{E R:Nat}{l:ab o}(a:∀x,(f x).length=R)(K:rows f v E R l∈F):∀w,H W D F w->∃n Q b,v=.slice n l.length Q/\Rd (rows f (.slice n l.length Q) E R l) n l.length b 0 R (l.map f):=λw s=>by
 rcases h6 K w s with⟨rfl,rfl⟩|⟨g,Q,rfl,Y,Z⟩
 .exact⟨none,0,0,rfl,Rd.nil⟩
 .exact⟨some ⟨g,0,none⟩,Q,g,rfl,Rd.rows a UN⟩
end Go.Proofs.YteogojgnkjegmaaGreatDoor
namespace Go.Proofs.YteogojgnkjegmaaGreatDoor
open Go.az Go.Proofs.Tryz
variable[Go.az.b5]
variable{n:aT Go.Addr}{N:ab (ab aj)}
structure dC where
 item:ag
 cK:aT Go.Addr
 cap:Nat
 l:ab ag
def dC.c(y:dC):ab aj:=rk.c ⟨y.item,.slice y.cK y.l.length y.cap⟩
def dC.len(y:dC):y.c.length=3:=rfl
def dC.J':jU dC.c:=λ_=>rfl
structure el where
 idx:ab (ag×Int)
 low:ab (ag×Int)
 on:ab (ag×Bool)
 stack:ab ag
 gk:ab dC
 parts:ab hg
 missing:ab ag
 g:ab cY
structure sC where
 bu:Nat
 et:Nat
 b3:Nat
 cU:aj
 qc:aj
 dJ:aj
 fV:aj
abbrev b9:ag->aj:=λx=>A x.c
abbrev fg:Int->aj:=λn=>I n
abbrev hA:Bool->aj:=λb=>B b
def m7(Z:Nat)(X:sC):ab aj:=jY.c ⟨av Z 0,.map (some X.bu),.map (some X.et),.map (some X.b3),X.cU,X.qc,X.dJ,X.fV⟩
def qM:hX prog 57 46 4=true:=rfl
def ix(Y Z:Nat)(L:h9)(X:sC)(g:bv)(s:el):ab ay:=[cells Y 343 (m7 Z X),ia Z L g,bz b9 fg X.bu s.idx,bz b9 fg X.et s.low,bz b9 hA X.b3 s.on,rows ag.c X.cU 46 2 s.stack,rows dC.c X.qc 375 3 s.gk,rows hg.c X.dJ 98 1 s.parts,rows ag.c X.fV 46 2 s.missing,dt s.g]
def aff(Y Z:Nat)(L:h9)(g:bv)(h:g.ok)(G:g.hy)(x:ag)(X:sC):ar prog 255 [av Y 0,A x.c] [cells Y 343 (m7 Z X),ia Z L g] (λr J=>∃v,r=v/\J=[rows ag.c v 46 2 (g.waits x),cells Y 343 (m7 Z X),ia Z L g]):=by have N:aP [cells Y 343 (m7 Z X),ia Z L g] (cells Y 343 (m7 Z X)::i6 Z L g):=aP.cons _ aP.aK;refine ar.eqv N (aje Y Z L g h G x ⟨av Z 0,.map (some X.bu),.map (some X.et),.map (some X.b3),X.cU,X.qc,X.dJ,X.fV⟩ rfl) ?_;rintro r J⟨_,rfl,rfl⟩;exact⟨_,⟨_,rfl,rfl⟩,aP.cons _ N.symm⟩
def ar.Wg{P:b1}{f:fb}{args:ab aj}{F:ab ay}{R a:aj->ab ay->Prop}(h:ar P f args F R)(g:∀v J W D w,R v J->H W D J w->∃r,a v r/\H W D r w):ar P f args F a:=
 ar.of λw W=>(ar.get h w W).mono λe D ⟨v,J,P,f,b⟩=>by obtain⟨r,Y,Z⟩:=g v J _ _ _ f b;exact⟨v,r,P,Y,Z⟩
def agc(U Z:Nat)(L:h9)(g:bv)(h:g.ok)(G:g.hy)(x:ag)(X:sC):ar prog 255 [av U 0,A x.c] [cells U 343 (m7 Z X),ia Z L g] (λr J=>∃n Q,(g.waits x).length<=Q/\r=.slice n (g.waits x).length Q/\J=[rows ag.c (.slice n (g.waits x).length Q) 46 2 (g.waits x),cells U 343 (m7 Z X),ia Z L g]):=by
 refine ar.Wg (aff U Z L g h G x X) ?_;rintro v J W D w⟨_,rfl,rfl⟩ b;rcases h6 (aH _) w b with⟨rfl,Y⟩|⟨T,Q,rfl,Y,_⟩
 .have Z:(g.waits x).length=0:=by rw[Y];rfl
  exact⟨_,⟨none,0,ac,by rw[Z],by rw[Z]⟩,b⟩
 .exact⟨_,⟨_,Q,Y,rfl,rfl⟩,b⟩
def lO(e:ay)(n:aT Go.Addr)(l:ab ag):Prop:=∃b off,Rd e n l.length b off 2 (l.map ag.c)
def dt.holds{g:ab cY}{y:cY}{w:a2}(h:(dt (y::g)).holds w):(dt g).holds w:=by unfold dt at*;rw[se]at*;refine⟨λe P=>h.1 e (by simp only[eE,cQ];exact .inr P),?_⟩;have:=h.2;rw[eE,jl,gr]at this;exact this.2.1
def lO.more{g:ab cY}{l:ab ag}(h:lO (dt g) n l)(y:cY):lO (dt (y::g)) n l:=by obtain⟨b,off,f⟩:=h;exact⟨b,off,f.length,f.small,f.addr,λw s=>f.reads w (dt.holds s)⟩
def lO.here{g:ab cY}{Q:Nat}{l:ab ag}{W:a2}{D:ab Nat}{ao:ab ay}(K:dt ((.slice n l.length Q,l)::g)∈ao):∀w,H W D ao w->lO (dt ((.slice n l.length Q,l)::g)) n l:=λw s=>by obtain⟨C,i,b,off,P,f⟩:=qK.of (er ..) K w s;simp only[tS]at P;obtain⟨rfl,-,rfl⟩:=P;exact⟨b,off,f⟩
def el.push(s:el)(x:ag)(h:dC):el:={s with idx:=bA s.idx x (s.idx.length:Int),low:=bA s.low x (s.idx.length:Int),on:=bA s.on x true,stack:=s.stack++[x],gk:=s.gk++[h],g:=(.slice h.cK h.l.length h.cap,h.l)::s.g}
def IZ(F M:Nat)(L:h9)(X:sC)(g:bv)(h:g.ok)(R:g.hy)(x:ag)(s:el)(Y:s.idx.length<=1000)(Z:s.stack.length<=1000)(G:s.gk.length<=1000):ar prog 223 [av F 0,A x.c] (ix F M L X g s) (λr J=>∃T u,u.item=x/\u.l=g.waits x/\u.l.length<=u.cap/\lO (dt (s.push x u).g) u.cK u.l/\r=.tuple #[]/\J=ix F M L T g (s.push x u)):=by
 have Yl (d C b3:Nat) (o K z fV:aj):=agc F M L g h R x ⟨d,C,b3,o,K,z,fV⟩;have Yp:=g.ZX R x;generalize g.waits x=i at*;obtain⟨d,C,b3,o,K,z,fV⟩:=X;obtain⟨f,P,on,j,y,q,m,p⟩:=s;dsimp only at Y Z G;have U:ar prog 223 [av F 0,A x.c] (ix F M L ⟨d,C,b3,o,K,z,fV⟩ g ⟨f,P,on,j,y,q,m,p⟩)
   (λr J=>∃Yc Yh n Q,i.length<=Q/\r=.tuple #[]/\J=rows ag.c (.slice n i.length Q) 46 2 i::ix F M L ⟨d,C,b3,Yc,Yh,z,fV⟩ g ⟨bA f x (f.length:Int),bA P x (f.length:Int),bA on x true,j++[x],y++[⟨x,n,Q,i⟩],q,m,p⟩):=by
  unfold ix m7 at*
  dsimp only at*
  refine aF func223 λW=>?_
  refine aq 2 λN=>?_
  refine aa 3 ?_
  refine ah.p' ?_ aC.j.j.j.j.j.j.j.j.j.d'.d'
  refine ae 14 0 ?_
  refine ae 4 15 ?_
  refine af.y' 14 rfl (aw.z' (aN.aaQ (l:=f) (b8:=b9) (aU:=fg) g8 rfl VF) ?_)
  refine au ?_
  refine af.y' 19 rfl (aw.z' (aN.aaQ (l:=f) (b8:=b9) (aU:=fg) g8 rfl VF) ?_)
  refine au ?_
  refine af.y' 20 rfl (aw.Xb (b8:=b9) (aU:=fg) (l:=f) (k:=x) 0 cw g8 ja rfl rfl Vz (λYm=>?_))
  refine au ?_
  refine ae 1 21 ?_
  refine af.y' 22 rfl (aw.XG (b8:=b9) (aU:=fg) (l:=f) (v:=(f.length:Int)) rfl rfl rfl VS ?_)
  refine au ?_
  refine af.y' 23 rfl (aw.Xb (b8:=b9) (aU:=fg) (l:=P) (k:=x) 0 cw g8 ja rfl rfl Vz (λYq=>?_))
  refine au ?_
  refine ae 1 24 ?_
  refine af.y' 25 rfl (aw.XG (b8:=b9) (aU:=fg) (l:=P) (v:=(f.length:Int)) rfl rfl rfl VS ?_)
  refine aa 4 ?_
  refine ah.p' ?_ aC.j.j.j.j.j.j.j.j.j.d'.d'
  refine ae 5 0 ?_
  refine af.y' 5 rfl (aw.Wh (l:=on) (k:=x) (v:=true) (b8:=b9) (aU:=hA) cw qM rfl rfl rfl VS ?_)
  refine aa 4 ?_
  refine ah.V9 [10] ?_ aC.j.j.j.j.j.j.j.j.j.d'.d' aC.j.j.j.j.j.j.j.j.j.j.d'
  refine ae 4 0 ?_
  refine ae 1 5 ?_
  refine af.t 4 rfl (V.F' ad) ?_
  refine dr 6 λYk=>?_
  refine af.y' 7 rfl (O.Z' ad rfl rfl Vz (cz.one ad VF ag.J') (λYj Yi=>?_))
  refine au ?_
  refine ae 2 8 ?_
  refine af.l 10 rfl (O.O' ad ?_)
  refine aa 3 ?_
  refine ah.V9 [14] ?_ aC.j.j.j.j.j.j.j.j.j.d'.d'.j aC.j.j.j.j.j.j.j.j.j.j.d'.j
  refine ae 4 0 ?_
  refine ae 3 5 ?_
  refine af.t 4 rfl (V.F' ad) ?_
  dsimp only
  refine af.x' 8 rfl rfl (Yl _ _ _ _ _ _ _) ?_
  rintro _ _⟨Yo,Yn,E,rfl,rfl⟩
  refine aa 2 ?_
  refine af.n' 9 rfl (V.WH ad) ?_
  refine af.y' 10 rfl (O.V' ad dC.c [⟨x,_,_,i⟩] rfl (bP.agg rfl bP.nil) rfl rfl (λYf=>?_))
  refine au ?_
  refine af.y' 11 rfl (O.Z' ad rfl rfl Vz (cz.rows ad VF dC.J') (λYg a=>?_))
  refine au ?_
  refine ae 2 12 ?_
  refine af.l 14 rfl (O.O' ad ?_)
  refine aa 3 ?_
  all_goals exact⟨_,_,⟨_,_,_,_,VV,rfl,rfl⟩,VH⟩
 refine ar.Wg U ?_;rintro v J W D w⟨Yc,Yh,n,Q,Ye,rfl,rfl⟩ b;have N:H W D (ix F M L ⟨d,C,b3,Yc,Yh,z,fV⟩ g (el.push ⟨f,P,on,j,y,q,m,p⟩ x ⟨x,n,Q,i⟩)) w:=by
  unfold ix at b⊢;have Z:=b.perm (a7:=[cells F 343 (m7 M ⟨d,C,b3,Yc,Yh,z,fV⟩),ia M L g,bz b9 fg d (bA f x (f.length:Int)),bz b9 fg C (bA P x (f.length:Int)),bz b9 hA b3 (bA on x true),rows ag.c Yc 46 2 (j++[x]),rows dC.c Yh 375 3 (y++[⟨x,n,Q,i⟩]),rows hg.c z 98 1 q,rows ag.c fV 46 2 m]++[rows ag.c (.slice n i.length Q) 46 2 i,dt p]) (by simp only[mQ,g4];exact mW (ow (l₁:=[_,_,_,_,_,_,_,_,_]) (a:=rows ag.c (.slice n i.length Q) 46 2 i) (l₂:=[dt p])).symm (hI _))
  have G:=Z.eqv ((aP.refl _).append (dt.cons (.slice n i.length Q,i) p).symm);exact G
 refine⟨_,⟨⟨d,C,b3,Yc,Yh,z,fV⟩,⟨x,n,Q,i⟩,rfl,rfl,Ye,?_,rfl,rfl⟩,N⟩;exact lO.here (ao:=ix F M L ⟨d,C,b3,Yc,Yh,z,fV⟩ g (el.push ⟨f,P,on,j,y,q,m,p⟩ x ⟨x,n,Q,i⟩)) Uf w N
def Rd.suffix{e:ay}{len b off R i Q:Nat}(h:Rd e n len b off R N)(am:i<=len)(q:len<=Q):Rd e (Go.az.partAt n Q i R) (len-i) b (off+i*R) R (N.drop i):=by
 refine⟨by rw[jn,h.length],iB (Nat.sub_le _ _) h.small,λz=>?_,λw s j x U=>?_⟩
 .rw[h.addr ac];unfold Go.az.partAt;rw[aG ac];simp[Go.Addr.add_mid]
 .rw[l0]at U;obtain⟨Y,Z⟩:=h.reads w s (i+j) x U;refine⟨Y,λk u U=>?_⟩;have:=Z k u U;rw[fK]at this;rwa[show off+i*R+j*R+k=off+(i*R+j*R)+k by omega]
def ahl(e:ay)(n:aT Go.Addr)(Q F off:Nat)(l:ab ag)(o:Rd e n l.length F off 2 (l.map ag.c))(u:l.length<=1000000)(f:0<l.length):ar prog 158 [.slice n l.length Q] [e] (λr J=>∃g c,r=.slice (some ⟨g,0,none⟩) l.length c/\J=[rows ag.c (.slice (some ⟨g,0,none⟩) l.length c) 46 2 l,e]):=by
 refine ar.Wg (HH e n Q F off l o u) ?_;rintro v J W D w⟨_,rfl,rfl⟩ b;rcases h6 (aH _) w b with⟨_,Y⟩|⟨g,c,rfl,_⟩
 .subst Y;simp at f
 .exact⟨_,⟨g,c,rfl,rfl⟩,b⟩
def Qd(Z:Nat)(L:h9)(g:bv)(h:g.ok):m4 (.func (.func 273) #[av Z 0] #[]) (ia Z L g) g.Zz:=λx y=>
 ⟨273,[av Z 0],[],rfl,Vw,aiI Z L g h x y⟩
def el.part(s:el)(k:Nat)(j:hg)(on:ab (ag×Bool)):el:={s with stack:=s.stack.take k,on:=on,parts:=s.parts++[j],g:=(.slice j.cK j.l.length j.cap,j.l)::s.g}
def ahO{x:ag}{l:ab ag}(h:x∈l):∃k,rA x l=((k:Nat):Int)/\l[k]?=some x:=by
 unfold rA;cases k:l.findIdx? (λy=>decide (y=x))with
 |none=>
  rw[yq]at k;have:=k x h;simp at this
 |some i=>
  obtain⟨Y,Z,_⟩:=wJ.1 k;have:l[i]=x:=by simpa using Z
  exact⟨i,rfl,by rw[<-this];exact hl Y⟩
def ahU(C N:Nat)(L:h9)(X:sC)(g:bv)(h:g.ok)(x:ag)(s:el)(b6:x∈s.stack)(bW:s.stack.length<=1000)(cd:s.parts.length<=1000):ar prog 256 [av C 0,A x.c] (ix C N L X g s) (λr M=>∃wW k dS on,s.stack[k]?=some x/\dS.l.Perm (s.stack.drop k)/\lO (dt (s.part k dS on).g) dS.cK dS.l/\r=.tuple #[]/\M=ix C N L wW g (s.part k dS on)):=by
 have nE:=Qd N L g h;obtain⟨z,u,b3,cU,R,dJ,fV⟩:=X;obtain⟨Z,P,on,d,p,U,Y,m⟩:=s;dsimp only at b6 bW cd;obtain⟨k,ca,Yr⟩:=ahO b6;have Yj:k<d.length:=(cF.1 Yr).1;have Yc:ar prog 256 [av C 0,A x.c] (ix C N L ⟨z,u,b3,cU,R,dJ,fV⟩ g ⟨Z,P,on,d,p,U,Y,m⟩)
   (λr M=>∃q G n Q t E,t.Perm (d.drop k)/\r=.tuple #[]/\M=rows ag.c (.slice n t.length Q) 46 2 t::ix C N L ⟨z,u,b3,q,R,G,fV⟩ g ⟨Z,P,E,d.take k,p,U++[⟨n,Q,t⟩],Y,m⟩):=by
  unfold ix m7 at*
  dsimp only at*
  refine aF func256 λW=>?_
  refine ah.fact (h6 (f:=ag.c) (v:=cU) (l:=d) VF) λb=>?_
  rcases b with⟨_,bf⟩|⟨pz,T,rfl,Yi,Yg⟩
  .subst bf;simp at Yj
  have ep:Rd (rows ag.c (.slice (some ⟨pz,0,none⟩) d.length T) 46 2 d) (some ⟨pz,0,none⟩) d.length pz 0 2 (d.map ag.c):=Rd.rows ag.len ac
  have iG:=HI _ _ T _ _ d x ep ac
  rw[ca]at iG
  have Yn:(d.drop k).length=d.length-k:=jn
  have Yl:=Rd.suffix (i:=k) ep ac Yi
  rw[<-List.map_drop,<-Yn]at Yl
  have Yp:=ahl _ _ (T-k) _ _ (d.drop k) Yl ac ac
  rw[Yn]at Yp
  refine aq 2 λgD=>?_
  refine aa 3 ?_
  refine ah.p' ?_ aC.d'.d'.d'.d'.d'.d'.d'.d'.d'.d'.d'
  refine ae 5 0 ?_
  refine af.x' 5 rfl rfl (iG) ?_
  refine aa 2 ?_
  refine ae 1 6 ?_
  refine aa 9 ?_
  refine ai.v (V.WD ad (i:=k) rfl rfl ac) ?_
  refine au ?_
  rintro _ _⟨Yq,Ys,rfl,rfl⟩
  refine aa 12 ?_
  refine ai.v (V.Xm ad (j:=k) rfl rfl ac) ?_
  refine aa 6 ?_
  refine ah.cut (f:=ag.c) (l:=d) (cap:=T) k ag.len ac ?_
  have Yh:(d.take k).length=k:=Pq
  have Ye:0<(d.drop k).length:=ac
  generalize Ym:d.drop k=J at*
  dsimp only
  rw[<-Yn]
  refine aa 8 ?_
  refine ah.cq [30,31,5,0] (λy:Nat×ab (ag×Bool)=>y.1<=J.length) (λy=>[(32,I (y.1:Int))]) (λy=>[bz b9 hA b3 y.2]) (λy=>J.length-y.1) (0,on) (cG _) ?_
  rintro⟨j,Yt⟩ dK K cJ
  dsimp only at dK
  refine bh ?_
  by_cases Yk:j<J.length
  .obtain⟨y,fX⟩:=cl Yk
   refine aa 13 ?_
   refine ai.v (V.E' ad (k:=j) rfl rfl rfl rfl ac) ?_
   refine ai.v (V.K' ad rfl VF ag.len fX) ?_
   refine aq 0 λnv=>?_
   refine aa 3 ?_
   refine ah.p' ?_ aC.j.j.j.j.j.j.j.d'.j.j.j.j.d'
   refine ae 5 0 ?_
   refine af.y' 5 rfl (aw.Wh (l:=Yt) (k:=y) (v:=false) (b8:=b9) (aU:=hA) cw qM rfl rfl rfl VS ?_)
   refine aa 8 ?_
   rotate_left
   all_goals exact Out.C' cJ (j+1,_) EY (by show J.length-(j+1)<J.length-j;omega)
  .clear cJ
   have gy:=DL Yq Ys J ac (ia N L g) _ _ nE
   unfold eS at gy
   refine aa 21 ?_
   rintro _ _⟨Yu,Yf,rfl,rfl⟩
   refine aq 10 λYo=>?_
   have F:=(by assumption:List.Perm _ J)
   rw[<-F.length_eq]
   dsimp only
   refine ai.o (O.W2 ad rfl rfl Vz (cz.one (a:=(⟨some ⟨Yq,0,none⟩,Ys,_⟩:hg)) ad VF hg.J') (λYx Yv Yw=>?_))
   refine aa 5 ?_
   exact⟨_,_,⟨_,_,_,_,_,_,F,rfl,rfl⟩,VH⟩
 refine ar.Wg Yc ?_;rintro v M W D w⟨q,G,n,Q,t,E,F,rfl,rfl⟩ cr;have M:H W D (ix C N L ⟨z,u,b3,q,R,G,fV⟩ g (el.part ⟨Z,P,on,d,p,U,Y,m⟩ k ⟨n,Q,t⟩ E)) w:=by
  unfold ix at cr⊢;have bW:=cr.perm (a7:=[cells C 343 (m7 N ⟨z,u,b3,q,R,G,fV⟩),ia N L g,bz b9 fg z Z,bz b9 fg u P,bz b9 hA b3 E,rows ag.c q 46 2 (d.take k),rows dC.c R 375 3 p,rows hg.c G 98 1 (U++[⟨n,Q,t⟩]),rows ag.c fV 46 2 Y]++[rows ag.c (.slice n t.length Q) 46 2 t,dt m]) (by simp only[mQ,g4];exact mW (ow (l₁:=[_,_,_,_,_,_,_,_,_]) (a:=rows ag.c (.slice n t.length Q) 46 2 t) (l₂:=[dt m])).symm (hI _))
  exact bW.eqv ((aP.refl _).append (dt.cons (.slice n t.length Q,t) m).symm)
 refine⟨_,⟨⟨z,u,b3,q,R,G,fV⟩,k,⟨n,Q,t⟩,E,Yr,F,?_,rfl,rfl⟩,M⟩;exact lO.here (ao:=ix C N L ⟨z,u,b3,q,R,G,fV⟩ g (el.part ⟨Z,P,on,d,p,U,Y,m⟩ k ⟨n,Q,t⟩ E)) Uf w M
def sD(P:ab (ag×Int))(a:ab dC)(x:ag):ab (ag×Int):=match a.getLast? with|none=>P|some up=>bA P up.item (Min.min (bY P up.item) (bY P x))
def wX(s:el)(a:ab dC)(f:dC)(L:el):Prop:=
 (bY (sD s.low a f.item) f.item≠bY s.idx f.item/\L={s with gk:=a,low:=sD s.low a f.item})\/
 (bY (sD s.low a f.item) f.item=bY s.idx f.item/\∃k j on,s.stack[k]?=some f.item/\j.l.Perm (s.stack.drop k)/\lO (dt ((.slice j.cK j.l.length j.cap,j.l)::s.g)) j.cK j.l/\L=({s with gk:=a,low:=sD s.low a f.item}:el).part k j on)
def akV(M T:Nat)(L:h9)(X:sC)(g:bv)(h:g.ok)(s:el)(a:ab dC)(f:dC)(dq:s.gk=a++[f])(dz:f.l=[])(K:f.item∈s.stack)(C:s.gk.length<=1000)(bW:s.stack.length<=1000)(cd:s.parts.length<=1000):ar prog 224 [av M 0] (ix M T L X g s) (λr F=>∃wW cL,wX s a f cL/\r=.tuple #[]/\F=ix M T L wW g cL):=by
 obtain⟨bu,N,b3,cU,u,dJ,fV⟩:=X;obtain⟨U,P,on,z,p,J,x,DY⟩:=s;dsimp only at dq K C bW cd;subst dq;obtain⟨d,y,G,sE⟩:=f;dsimp only at dz K;subst dz;have R:(a++[(⟨d,y,G,[]⟩:dC)]).length=a.length+1:=VK
 have m:(a++[(⟨d,y,G,[]⟩:dC)])[a.length]?=some ⟨d,y,G,[]⟩:=VK
 have i:(a++[(⟨d,y,G,[]⟩:dC)]).take a.length=a:=VK
 have Y:(((a.length+1:Nat):Int)-1)=((a.length:Nat):Int):=ac
 have Yg (Q:ab (ag×Int)) (u:aj):=ahU M T L ⟨bu,N,b3,cU,u,dJ,fV⟩ g h d ⟨U,Q,on,z,a,J,x,DY⟩ K bW cd;unfold wX;unfold ix m7 at*;dsimp only at*;refine aF func224 λW=>?_;refine ah.fact (h6 (f:=dC.c) (v:=u) (l:=a++[⟨d,y,G,[]⟩]) VF) λZ=>?_;rcases Z with⟨_,C⟩|⟨w,m5,rfl,Ye,Yc⟩
 .simp at C
 rw[R]at Ye⊢;refine au ?_;refine ah.p' ?_ aC.d'.d'.d'.d'.d'.d'.d'.d'.d'.d';refine ae 9 0 ?_;refine af.n' 9 rfl (V.VX Y rfl rfl ac) ?_;refine af.n' 10 rfl (V.E' ad (k:=a.length) rfl rfl rfl rfl ac) ?_;refine ae 1 11 ?_;refine aa 8 ?_;refine ai.v (V.Xa ad (k:=a.length) (o:=2) rfl VF dC.len m) ?_;refine aa 10 ?_;refine ai.v (V.WY ad (k:=a.length) (o:=0) (show some (av w (a.length*3))=some (av w (0+a.length*3+0)) by rw[h4,hj]) VF dC.len m (c:=d.c) (t:=⟨rfl⟩)) ?_;refine aq 0 λgD=>?_;refine aa 4 ?_;refine ah.V9 [14] ?_ aC.j.j.j.j.j.j.j.j.j.d'.j aC.j.j.j.j.j.j.j.j.j.j.j;refine ae 4 0 ?_;refine ae 3 5 ?_;refine QB ?_;refine ae 1 9 ?_;refine af.n' 10 rfl (V.VX Y rfl rfl ac) ?_;refine af.n' 11 rfl (V.Xm ad (j:=a.length) rfl rfl ac) ?_;refine ae 2 12 ?_;refine af.l 14 rfl (O.O' ad ?_);refine aa 3 ?_;rotate_left;refine ah.cut (f:=dC.c) (l:=a++[⟨d,y,G,[]⟩]) (cap:=m5) a.length dC.len ac ?_ (bV:=U9);rw[i];dsimp only;refine ah.mt [0,3] (λ_:Unit=>True) (λ_=>[]) (λ_=>[bz b9 fg N (sD P a d)]) (s:=[bz b9 fg N P]) ?_ ?_
 .intro fP b;rcases I0 a with rfl|⟨D,up,rfl⟩
  .refine aa 12 ?_;exact Out.C' b () trivial trivial
  .rw[DZ]at*;have n:(D++[up])[D.length]?=some up:=by simp
   have E:(D++[up]).length=D.length+1:=VK
   have q:(((D.length+1:Nat):Int)-1)=((D.length:Nat):Int):=ac
   have Yf:sD P (D++[up]) d=bA P up.item (Min.min (bY P up.item) (bY P d)):=by unfold sD;rw[List.getLast?_concat]
   rw[Yf]at b;rw[E]at b⊢;refine aa 12 ?_;refine ah.p' ?_ aC.d'.d'.d'.d'.d'.d'.d'.d'.d'.j.d';refine ae 9 0 ?_;refine af.n' 9 rfl (V.VX q rfl rfl ac) ?_;refine af.n' 10 rfl (V.E' ad (k:=D.length) rfl rfl rfl rfl ac) ?_;refine ae 1 11 ?_;refine af.n' 12 rfl (V.WY ad (k:=D.length) (o:=0) (show some (av w (D.length*3))=some (av w (0+D.length*3+0)) by rw[h4,hj]) VF dC.len n (c:=up.item.c) (t:=⟨rfl⟩)) ?_;refine dr 13 λfO=>?_;refine ae 1 14 ?_;refine aa 2 ?_;refine ah.p' ?_ aC.j.j.j.j.j.j.j.j.d'.d'.j.d';refine ae 10 0 ?_;refine ae 5 11 ?_;refine af.bx 10 16 rfl rfl ?_ ?_;refine aw.z' (aN.Wj (l:=P) (k:=up.item) (aU:=fg) 0 cw g8 ja rfl rfl VF) ?_;refine au ?_;refine af.y' 16 rfl (aw.z' (aN.Wj (l:=P) (k:=d) (aU:=fg) 0 cw g8 ja rfl rfl VF) ?_);refine SI ?_;rotate_left;refine aw.z' (aN.Wj (l:=P) (k:=d) (aU:=fg) 0 cw g8 ja rfl rfl VF) ?_;refine au ?_;refine af.y' 10 rfl (aw.z' (aN.Wj (l:=P) (k:=up.item) (aU:=fg) 0 cw g8 ja rfl rfl VF) ?_);refine SI ?_;rotate_left;all_goals exact Out.C' b () trivial trivial
 rintro⟨⟩-;refine bh ?_;generalize sD P a d=Q at*;by_cases G:bY Q d=bY U d
 .have R:=Yg Q (.slice (some ⟨w,0,none⟩) a.length m5);refine P9 ?_ ?_;refine aa 7 ?_;rintro _ _⟨P,r,j,v,g,z,K,rfl,rfl⟩;refine aa 6 ?_;rotate_left;refine Rw ?_;refine aa 7 ?_;rintro _ _⟨w,a,p,y,T,o,s,rfl,rfl⟩;refine aa 6 ?_;rotate_left;all_goals exact⟨_,_,⟨_,_,.inr ⟨G,_,_,_,VV,VV,VV,rfl⟩,rfl,rfl⟩,VH⟩
 .refine P9 ?_ ?_;refine aa 8 ?_;rotate_left;refine Rw ?_;refine aa 8 ?_;rotate_left;all_goals exact⟨_,_,⟨⟨bu,N,b3,cU,_,dJ,fV⟩,_,.inl ⟨G,rfl⟩,rfl,rfl⟩,VH⟩
end Go.Proofs.YteogojgnkjegmaaGreatDoor
namespace Go.az
open Go
variable[Go.az.b5]
section
variable{P:b1}{r:aT Nat}{W:a2}{D:ab Nat}{n:dF}{Q:da}{Y:bJ}{N:ab ay}{J:Nat}{F:a8}{U:String}{X:Array Edge}{K:aT (Nat×Bool)}{C M:Type}[DecidableEq C]{Z:C->aj}{aU:M->aj}{T:a8}{l:ab (C×M)}
def aN.Wp{t e:a8}{x y:bj}{b:Nat}{k:C}(p:M)(i:hW P T Z)(f:hX P t T e=true)(v:∀w,(zeroValue e).run P w=.ok (aU p) w) (u:aR Y x=some (.map (some b))) (E:aR Y y=some (Z k)) (q:bz Z aU b l∈N):aN P n Y N ⟨some J,.lookup t x y true,F,U,X,K⟩ (.tuple #[aU ((aZ l k).getD p),.bool (aZ l k).isSome]):=by
 have h:=aN.acy (P:=P) (n:=n) (an:=Y) (ao:=N) (dst:=J) (ba:=F) (bd:=U) (be:=X) (aW:=K) (l:=l) (k:=k) i f v u E q;cases G:aZ l k with
 |none=>rw[G]at h;exact h
 |some v=>rw[G]at h;exact h
def aN.WZ{t e:a8}{x y:bj}{b:Nat}{k:C}(p:M){o:aT M}(a:aZ l k=o)(i:hW P T Z)(f:hX P t T e=true)(v:∀w,(zeroValue e).run P w=.ok (aU p) w) (u:aR Y x=some (.map (some b))) (E:aR Y y=some (Z k)) (q:bz Z aU b l∈N):aN P n Y N ⟨some J,.lookup t x y true,F,U,X,K⟩ (.tuple #[aU (o.getD p),.bool o.isSome]):=by subst a;exact aN.Wp p i f v u E q
end
end Go.az
namespace Go.Proofs.YteogojgnkjegmaaGreatDoor
open Go.az Go.Proofs.Tryz
variable[Go.az.b5]
variable{low P:ab (ag×Int)}{n:aT Go.Addr}
def dC.next(f:dC)(x:ab ag):dC:=⟨f.item,Go.az.partAt f.cK f.cap 1 2,f.cap-1,x⟩
variable{a:ab dC}
def yM(g:bv)(s:el)(a:ab dC)(f:dC)(y:ag)(x:ab ag)(L:el):Prop:=
 (g.is y=false/\L={s with gk:=a++[f.next x],missing:=if y∈s.missing then s.missing else s.missing++[y]})\/
 (g.is y=true/\aZ s.idx y=none/\∃h,h.item=y/\h.l=g.waits y/\h.l.length<=h.cap/\lO (dt ((.slice h.cK h.l.length h.cap,h.l)::s.g)) h.cK h.l/\L=({s with gk:=a++[f.next x]}:el).push y h)\/
 (g.is y=true/\aZ s.idx y≠none/\∃q,L={s with gk:=a++[f.next x],low:=q})
def alX(kv qg:Nat)(L:h9)(X:sC)(g:bv)(h:g.ok)(bG:g.hy)(s:el)(p:ab dC)(f:dC)(y:ag)(x:ab ag)(dq:s.gk=p++[f])(dz:f.l=y::x)(Ym:f.l.length<=f.cap)(Yn:lO (dt s.g) f.cK f.l)(eV:s.idx.length<=1000)(bf:s.gk.length<=1000)(bW:s.stack.length<=1000)(cd:s.missing.length<=1000):ar prog 224 [av kv 0] (ix kv qg L X g s) (λr Yc=>∃wW cL,yM g s p f y x cL/\r=.tuple #[]/\Yc=ix kv qg L wW g cL):=by
 obtain⟨bu,et,b3,cU,qc,dJ,fV⟩:=X;obtain⟨q,j,on,Yj,Yl,w,u,DY⟩:=s;dsimp only at dq eV bf bW cd Yn;subst dq;obtain⟨d,b,G,sE⟩:=f;dsimp only at dz Ym Yn;subst dz;obtain⟨eu,adM,ep⟩:=Yn;have Yk:(p++[(⟨d,b,G,y::x⟩:dC)]).length=p.length+1:=VK
 rw[Yk]at bf;have m:(p++[(⟨d,b,G,y::x⟩:dC)])[p.length]?=some ⟨d,b,G,y::x⟩:=VK
 have Yi:(p++[(⟨d,b,G,y::x⟩:dC)]).set p.length ⟨d,Go.az.partAt b G 1 2,G-1,x⟩=p++[⟨d,Go.az.partAt b G 1 2,G-1,x⟩]:=VK
 have E:(p++[(⟨d,Go.az.partAt b G 1 2,G-1,x⟩:dC)])[p.length]?=some ⟨d,Go.az.partAt b G 1 2,G-1,x⟩:=VK
 have Yh:(((p.length+1:Nat):Int)-1)=((p.length:Nat):Int):=ac
 have Yo:((y::x).map ag.c)[0]?=some y.c:=rfl;have R:=HM qg L g h y;have Yt (qc:aj):=IZ kv qg L ⟨bu,et,b3,cU,qc,dJ,fV⟩ g h bG y ⟨q,j,on,Yj,p++[⟨d,Go.az.partAt b G 1 2,G-1,x⟩],w,u,DY⟩ eV bW (by rw[bQ];exact bf);unfold yM dC.next;unfold ix m7 at*;dsimp only at*;refine aF func224 λW=>?_;refine ah.fact (h6 (f:=dC.c) (v:=qc) (l:=p++[⟨d,b,G,y::x⟩]) VF) λYg=>?_;rcases Yg with⟨_,lN⟩|⟨z,m5,rfl,Yf,Ye⟩
 .simp at lN
 rw[Yk]at Yf⊢;refine ah.fact (jc (f:=ag.c) (v:=fV) (l:=u) ag.len VF) λdI=>?_;obtain⟨Yr,Yq,dW,rfl,Yp⟩:=dI;have t:=HJ _ _ Yq _ _ u y Yp ac;have fE:bb .eql (((y::x).length:Nat):Int) 0=some false:=by simp only[bb,df];congr 1
 refine au ?_;refine ah.p' ?_ aC.d'.d'.d'.d'.d'.d'.d'.d'.d'.d';refine ae 9 0 ?_;refine af.n' 9 rfl (V.VX Yh rfl rfl ac) ?_;refine af.n' 10 rfl (V.E' ad (k:=p.length) rfl rfl rfl rfl ac) ?_;refine ae 1 11 ?_;refine aa 8 ?_;refine ai.v (V.Xa ad (k:=p.length) (o:=2) rfl VF dC.len m) ?_;refine au ?_;refine ai.v (V.cmp rfl rfl fE) ?_;refine aa 10 ?_;refine ai.v (V.Xa ad (k:=p.length) (o:=2) rfl VF dC.len m) ?_;refine ai.v (V.W9 ad (k:=0) rfl rfl ep (z:=VK)) ?_;refine ai.v (V.Wb ad rfl ep Yo) ?_;refine aq 0 λn2=>?_;refine aa 9 ?_;refine ai.v (V.Xa ad (k:=p.length) (o:=2) rfl VF dC.len m) ?_;refine ai.v (V.WD ad (i:=1) rfl rfl VK) ?_;refine aa 2 ?_;refine ai.o (O.acA ad (k:=p.length) (o:=2) (a:=(⟨d,b,G,y::x⟩:dC)) (hb:=(⟨d,Go.az.partAt b G 1 2,G-1,x⟩:dC)) rfl rfl rfl m ⟨rfl⟩ VS Yk dC.len rfl ?_);refine aa 2 ?_;rw[Yi];dsimp only;cases Ys:g.is y<;>rw[Ys]at R
 .by_cases w:y∈u
  .rw[iq w]at t;rw[aJ w];refine UX ?_;refine aa 6 ?_;all_goals exact⟨_,_,⟨⟨bu,et,b3,cU,_,dJ,_⟩,_,.inl ⟨rfl,rfl⟩,rfl,rfl⟩,VH⟩
  .rw[l5 w]at t;rw[aG w];refine UX ?_;refine aa 3 ?_;refine ah.V9 [10] ?_ aC.j.j.j.j.j.j.j.d'.d'.j.j aC.j.j.j.j.j.j.j.j.d'.j.j;refine Py ?_;refine dr 6 λb=>?_;refine af.y' 7 rfl (O.Z' ad rfl rfl Vz (cz.one ad VF ag.J') (λm i=>?_));refine au ?_;refine ae 2 8 ?_;refine af.l 10 rfl (O.O' ad ?_);refine aa 4 ?_;all_goals exact⟨_,_,⟨⟨bu,et,b3,cU,_,dJ,_⟩,_,.inl ⟨rfl,rfl⟩,rfl,rfl⟩,VH⟩
 .have G:=Yt (.slice (some ⟨z,0,none⟩) (p.length+1) m5);cases u:aZ q y with
  |none=>
   refine R8 ?_;refine aa 15 ?_;rintro _ _⟨i,s,w,G,g,f,rfl,rfl⟩;refine aa 4 ?_;all_goals exact⟨_,_,⟨_,_,.inr (.inl ⟨rfl,rfl,_,VV,VV,VV,VV,rfl⟩),rfl,rfl⟩,VH⟩
  |some G=>
   refine R8 ?_;refine aa 12 ?_;refine ah.p' ?_ aC.j.j.j.j.j.j.j.j.d'.d'.j;refine ae 5 0 ?_;refine af.y' 5 rfl (aw.z' (aN.Wj (l:=on) (k:=y) (aU:=hA) false cw qM wT rfl rfl VF) ?_);refine au ?_;refine ae 1 6 ?_;refine UR (λq=>?_) λq=>?_;refine ah.p' ?_ aC.j.j.j.j.j.j.j.j.d'.j.j;refine ae 7 0 ?_;refine ae 7 8 ?_;refine ae 1 17 ?_;refine af.bx 7 15 rfl rfl ?_ ?_;refine M5 ?_;refine af.y' 15 rfl (aw.z' (V.WY ad (k:=p.length) (o:=0) (show some (av z (p.length*3))=some (av z (0+p.length*3+0)) by rw[h4,hj]) VF dC.len E (c:=d.c) (t:=⟨rfl⟩)) ?_);refine au ?_;refine Tv ?_;rotate_left;refine M5 ?_;refine af.bx 7 16 rfl rfl ?_ ?_;refine M5 ?_;refine Tv ?_;rotate_left;refine aw.z' (aN.Wj (l:=j) (k:=d) (aU:=fg) 0 cw g8 ja rfl rfl VF) ?_;refine au ?_;refine ae 1 18 ?_;refine af.y' 7 rfl (aw.z' (V.WY ad (k:=p.length) (o:=0) (show some (av z (p.length*3))=some (av z (0+p.length*3+0)) by rw[h4,hj]) VF dC.len E (c:=d.c) (t:=⟨rfl⟩)) ?_);refine au ?_;refine af.y' 19 rfl (aw.Wh (l:=j) (k:=d) (v:=Min.min (bY j d) G) (b8:=b9) (aU:=fg) cw g8 rfl rfl rfl VS ?_);refine aa 4 ?_;rotate_left;refine aa 3 ?_;rotate_left;all_goals exact⟨_,_,⟨⟨bu,et,b3,cU,_,dJ,_⟩,_,.inr (.inr ⟨rfl,VK,_,rfl⟩),rfl,rfl⟩,VH⟩
def D0:ab ag:=(List.range 7).flatMap λ(k:Nat)=>(List.range 64).map λ(m:Nat)=>⟨((k:Nat):Int),((m:Nat):Int)+1⟩
def ak2:D0.length=448:=aei
def Qj{x:ag}(h:bt x 7=true):x∈D0:=by obtain⟨Y,Z,D,n⟩:=mV h;unfold D0;refine wB.2 ⟨x.a1.toNat,mi.2 ac,dQ.2 ⟨(x.bX-1).toNat,mi.2 ac,?_⟩⟩;obtain⟨r,m⟩:=x;dsimp only at*;congr 1<;>omega
def D1{o:Type}[DecidableEq o]:∀{l m:ab o},l.Nodup->l⊆m->l.length<=m.length
 |[],m,_,_=>cG _
 |a::l,m,h,E=>by rw[ki]at h;have J:a∈m:=E (er ..);have Y:l⊆m.erase a:=λx U=>(List.mem_erase_of_ne (λe:x=a=>h.1 (e▸U))).2 (E (e0 _ U));have Z:=D1 h.2 Y;rw[List.length_erase_of_mem J]at Z;have:0<m.length:=List.length_pos_of_mem J;rw[df];omega
def sF{l:ab ag}(y:l.Nodup)(h:∀x∈l,bt x 7=true):l.length<=448:=by rw[<-ak2];exact D1 y λx U=>Qj (h x U)
def bv.abi{g:bv}(d:g.calls.aE<=7){x:ag}(h:g.is x=true):bt x 7=true:=by unfold bv.is at h;obtain⟨t,f⟩:=uK.1 h;exact n5 (aL.Zx f) d
def I1{d:b4}(b:ga d 7=true):∀k,k<=7->∀y∈mY d k,bt y 7=true
 |0,_=>by simp[mY]
 |k+1,h=>by
  have X:=I1 b k ac;rw[yr];intro y C;rcases eh.1 C with C|C
  .exact X y C
  .obtain⟨num,c⟩:∃m,d.l[k]?=some m:=⟨_,hl Ls⟩
   have G:=su.1 b k num c;simp only[j2,c1,hc,cO]at G;have e:d.l.getD k 0=num:=by rw[List.getD,c];rfl
   rw[e]at C;unfold jK at C;obtain⟨j,v,rfl⟩:=dQ.1 C;have v:=mi.1 v;simp only[bt,c1,cO];omega
def bv.ac5{g:bv}(G:g.hy){x y:ag}(h:y∈g.waits x):g.over y=false/\bt y 7=true:=by unfold bv.waits at h;obtain⟨Y,Z⟩:=mU.1 h;simp only[c1,kf,cO]at Z;exact⟨Z.2,I1 (G x) 7 (cx _) y Y⟩
def I2{o T:Type}[DecidableEq o]{l:ab (o×T)}{k:o}(h:aZ l k=none)(v:T):bA l k v=l++[(k,v)]:=by unfold aZ at h;rw[Option.map_eq_none_iff]at h;unfold bA;rw[h]
def Qk{o T:Type}[DecidableEq o]{l:ab (o×T)}{k:o}(h:k∈l.map (·.1)):aZ l k≠none:=by
 induction l with
 |nil=>cases h
 |cons p l X=>
  rw[kE];split
  .simp
  .rename_i Z;rcases cQ.1 h with h|h
   .exact absurd h Z
   .exact X h
def lO.next{e:ay}{Q:Nat}{y:ag}{x:ab ag}(h:lO e n (y::x))(q:(y::x).length<=Q):lO e (Go.az.partAt n Q 1 2) x:=by obtain⟨b,off,f⟩:=h;have:=Rd.suffix (i:=1) f VK q;refine⟨b,off+1*2,?_⟩;rw[df,Nat.add_sub_cancel,eE,List.drop_one,List.tail_cons]at this;exact this
structure hB(g:bv)(s:el):Prop where
 h1:(s.idx.map (·.1)).Nodup
 eA:(s.parts.flatMap (·.l)++s.stack).Nodup
 sub:∀y∈s.parts.flatMap (·.l)++s.stack,y∈s.idx.map (·.1)
 is:∀y∈s.idx.map (·.1),g.is y=true/\g.over y=false
 kx:(s.gk.map (·.item)).Sublist s.stack
 sE:∀f∈s.gk,f.l.length<=f.cap/\f.l.length<=448/\lO (dt s.g) f.cK f.l/\∀y∈f.l,g.over y=false/\bt y 7=true
 dS:∀p∈s.parts,lO (dt s.g) p.cK p.l/\p.l≠[]
 qN:s.missing.Nodup
 ms:∀y∈s.missing,g.is y=false/\g.over y=false/\bt y 7=true
def hB.ac6{g:bv}{s:el}(h:hB g s)(d:g.calls.aE<=7):s.idx.length<=448:=by have:=sF h.h1 λx U=>bv.abi d (h.is x U).1;rwa[dZ]at this
def hB.abj{g:bv}{s:el}(h:hB g s)(d:g.calls.aE<=7):(s.parts.flatMap (·.l)++s.stack).length<=448:=sF h.eA λx U=>bv.abi d (h.is x (h.sub x U)).1
def hB.abk{g:bv}{s:el}(h:hB g s)(d:g.calls.aE<=7):s.stack.length<=448:=by have:=h.abj d;rw[bQ]at this;omega
def hB.ac7{g:bv}{s:el}(h:hB g s)(d:g.calls.aE<=7):s.gk.length<=448:=by have:=h.kx.length_le;rw[dZ]at this;exact iB this (h.abk d)
def D2:∀(l:ab hg),(∀p∈l,p.l≠[])->l.length<=(l.flatMap (·.l)).length
 |[],_=>cG _
 |p::l,h=>by have X:=D2 l λq aV=>h q (e0 _ aV);have Y:0<p.l.length:=qA.2 (h p (er ..));rw[fW,bQ,df];omega
def hB.ac8{g:bv}{s:el}(h:hB g s)(d:g.calls.aE<=7):s.parts.length<=448:=by have Y:=h.abj d;have Z:=D2 s.parts λp z=>(h.dS p z).2;rw[bQ]at Y;omega
def hB.ac9{g:bv}{s:el}(h:hB g s):s.missing.length<=448:=sF h.qN λx U=>(h.ms x U).2.2
def el.init:el:=⟨[],[],[],[],[],[],[],[]⟩
def hB.init(g:bv):hB g el.init:=by constructor<;>simp[el.init]
def hB.push{g:bv}{s:el}{y:ag}{x:dC}(h:hB g s)(G:g.hy)(C:aZ s.idx y=none)(am:g.is y=true)(p:g.over y=false)(Y:x.item=y)(Z:x.l=g.waits y)(D:x.l.length<=x.cap)(o:lO (dt (s.push y x).g) x.cK x.l):hB g (s.push y x):=by
 have T:((s.push y x).idx.map (·.1))=s.idx.map (·.1)++[y]:=by
  show(bA s.idx y _).map (·.1)=_
  rw[I2 C,hJ];rfl
 have R:y∉s.idx.map (·.1):=λq=>Qk q C;have d:(s.push y x).parts.flatMap (·.l)++(s.push y x).stack=(s.parts.flatMap (·.l)++s.stack)++[y]:=by
  show s.parts.flatMap (·.l)++(s.stack++[y])=_
  rw[ck]
 refine⟨?_,?_,?_,?_,?_,?_,?_,h.qN,h.ms⟩
 .rw[T,gr];exact⟨h.h1,VK,λa J b X=>by rw[fF]at X;subst X;exactλe=>R (e▸J)⟩
 .rw[d,gr];exact⟨h.eA,VK,λa J b X=>by rw[fF]at X;subst X;exactλe=>R (e▸h.sub a J)⟩
 .rw[d,T];intro z v;rcases eh.1 v with v|v
  .exact eh.2 (.inl (h.sub z v))
  .exact eh.2 (.inr v)
 .rw[T];intro z v;rcases eh.1 v with v|v
  .exact h.is z v
  .rw[fF]at v;subst v;exact⟨am,p⟩
 .show((s.gk++[x]).map (·.item)).Sublist (s.stack++[y]);rw[hJ];exact h.kx.append (by rw[I3,Y];exact vR _)
 .intro f k;have k:f∈s.gk++[x]:=k;rcases eh.1 k with k|k
  .obtain⟨i,M,u,r⟩:=h.sE f k;exact⟨i,M,u.more _,r⟩
  .rw[fF]at k;subst k;exact⟨D,by rw[Z];exact bv.ZX G y,o,λz v=>bv.ac5 G (by rw[<-Z];exact v)⟩
 .intro p z;exact⟨(h.dS p z).1.more _,(h.dS p z).2⟩
def af5{o:Type}{l st:ab o}{x:o}{k:Nat}(h:(l++[x]).Sublist st)(y:st.Nodup)(T:st[k]?=some x):l.Sublist (st.take k):=by
 obtain⟨a,b,rfl,Y,Z⟩:=List.append_sublist_iff.1 h;have U:x∈b:=Z.subset (fF.2 rfl);obtain⟨J,R⟩:=cF.1 T;by_cases g:k<a.length
 .exfalso;rw[gr]at y;rw[List.getElem_append_left g]at R;exact y.2.2 x (R▸Gg g) x U rfl
 .rw[sd,lr ac];exact Y.trans (Cu _ _)
def hB.up{g:bv}{s:el}{f:dC}(h:hB g s)(l:s.gk=a++[f]):hB g {s with gk:=a,low:=P}:=by refine⟨h.h1,h.eA,h.sub,h.is,?_,λv o=>h.sE v (by rw[l];exact eh.2 (.inl o)),h.dS,h.qN,h.ms⟩;have:=h.kx;rw[l,hJ]at this;exact(Cu _ _).trans this
def hB.Z4{g:bv}{s L:el}{f:dC}(h:hB g s)(x:s.gk=a++[f])(E:wX s a f L):hB g L:=by
 rcases E with⟨_,rfl⟩|⟨_,k,j,on,T,z,o,rfl⟩
 .exact h.up x
 .have X:s.stack.take k++s.stack.drop k=s.stack:=nU ..;have U:k<s.stack.length:=(cF.1 T).1;have q:((s.parts++[j]).flatMap (·.l)++s.stack.take k).Perm (s.parts.flatMap (·.l)++s.stack):=by rw[l3,ck];refine AN _ ?_;rw[fW,nY,db];refine(D3 _ z).trans ?_;refine oG.trans ?_;rw[X]
  refine⟨h.h1,?_,?_,h.is,?_,?_,?_,h.qN,h.ms⟩
  .exact q.nodup_iff.2 h.eA
  .intro y C;exact h.sub y (q.mem_iff.1 C)
  .have Y:=h.kx;rw[x,hJ,I3]at Y;exact af5 Y (gr.1 h.eA).2.1 T
  .intro v t;obtain⟨i,M,u,r⟩:=h.sE v (by rw[x];exact eh.2 (.inl t));exact⟨i,M,u.more _,r⟩
  .intro p Q;have Q:p∈s.parts++[j]:=Q;rcases eh.1 Q with Q|Q
   .exact⟨(h.dS p Q).1.more _,(h.dS p Q).2⟩
   .rw[fF]at Q;subst Q;refine⟨o,λe=>?_⟩;have:=z.length_eq;rw[e,jn]at this;simp at this;omega
def hB.next{g:bv}{s:el}{f:dC}{y:ag}{x:ab ag}{j:ab ag}(h:hB g s)(k:s.gk=a++[f])(u:f.l=y::x)(E:j.Nodup)(Z:∀y∈j,g.is y=false/\g.over y=false/\bt y 7=true):hB g {s with gk:=a++[f.next x],low:=low,missing:=j}:=by
 refine⟨h.h1,h.eA,h.sub,h.is,?_,?_,h.dS,E,Z⟩
 .have:=h.kx;rw[k]at this;show((a++[f.next x]).map (·.item)).Sublist s.stack
  rw[hJ]at this⊢;exact this
 .intro v o;have o:v∈a++[f.next x]:=o;rcases eh.1 o with o|o
  .exact h.sE v (by rw[k];exact eh.2 (.inl o))
  .rw[fF]at o;subst o;obtain⟨i,M,E,r⟩:=h.sE f Pm;rw[u]at i M E r;have G:=i;have R:=M;rw[df]at G R;exact⟨by show x.length<=f.cap-1;omega,by show x.length<=448;omega,E.next i,λz v=>r z (e0 _ v)⟩
def hB.ny{g:bv}{s L:el}{p:ab dC}{f:dC}{y:ag}{x:ab ag}(h:hB g s)(G:g.hy)(k:s.gk=p++[f])(u:f.l=y::x)(E:yM g s p f y x L):hB g L:=by
 have C:=(h.sE f Pm).2.2.2 y (by rw[u];exact er ..);rcases E with⟨am,rfl⟩|⟨am,c,U,Y,Z,D,m,rfl⟩|⟨am,c,P,rfl⟩
 .by_cases K:y∈s.missing
  .rw[aJ K];exact h.next (low:=s.low) k u h.qN h.ms
  .rw[aG K];refine h.next (low:=s.low) k u ?_ ?_
   .rw[gr];exact⟨h.qN,VK,λa J b X=>by rw[fF]at X;subst X;exactλe=>K (e▸J)⟩
   .intro z v;rcases eh.1 v with v|v
    .exact h.ms z v
    .rw[fF]at v;subst v;exact⟨am,C.1,C.2⟩
 .exact(h.next (low:=s.low) k u h.qN h.ms).push G c am C.1 Y Z D m
 .exact h.next k u h.qN h.ms
def el.R'(s:el):Nat:=(449-s.idx.length)*450+(s.gk.map λf=>f.l.length+1).sum
def el.ada{s L:el}{f:dC}(h:s.gk=a++[f])(E:wX s a f L):L.R'<s.R':=by
 have e:s.R'=(449-s.idx.length)*450+((a.map λf=>f.l.length+1).sum+(f.l.length+1)):=by unfold el.R';rw[h,hJ,AO];simp
 rw[e];rcases E with⟨_,rfl⟩|⟨_,k,j,on,_,_,_,rfl⟩
 exact Q5
 exact Q5
def el.adb{g:bv}{s L:el}{f:dC}{y:ag}{x:ab ag}(G:g.hy)(am:s.idx.length<=448)(k:s.gk=a++[f])(u:f.l=y::x)(E:yM g s a f y x L):L.R'<s.R':=by
 have e:s.R'=(449-s.idx.length)*450+((a.map λf=>f.l.length+1).sum+(x.length+1+1)):=by unfold el.R';rw[k,hJ,AO];simp[u]
 have h:((a++[f.next x]).map λf=>f.l.length+1).sum=(a.map λf=>f.l.length+1).sum+(x.length+1):=by rw[hJ,AO];simp[dC.next]
 rw[e];rcases E with⟨_,rfl⟩|⟨_,c,Y,_,Z,_,_,rfl⟩|⟨_,_,P,rfl⟩
 exact MH
 .show(449-(bA s.idx y _).length)*450+(((a++[f.next x])++[Y]).map λf=>f.l.length+1).sum<_;have D:=bv.ZX G y;rw[<-Z]at D;rw[I2 c,bQ,hJ,AO,h];simp only[df,gv,eE,lq,sG,List.sum_nil];omega
 exact MH
def One(x:ag)(s:el):Prop:=
 (s.parts=[]/\(∃h,s.gk=[h]/\h.item=x/\h.l=[])/\s.stack=[x]/\s.missing=[]/\bY s.low x=bY s.idx x)\/
 ((∃p,s.parts=[p]/\p.l=[x])/\s.gk=[]/\s.missing=[])
def One.push{x:ag}{h:dC}(Y:h.item=x)(Z:h.l=[]):One x (el.init.push x h):=
 .inl ⟨rfl,⟨h,rfl,Y,Z⟩,rfl,rfl,rfl⟩
def One.Z4{x:ag}{s L:el}{f:dC}(h:One x s)(l:s.gk=a++[f])(E:wX s a f L):One x L:=by
 rcases h with⟨Y,⟨U,Z,D,m⟩,t,b,w⟩|⟨_,Z,_⟩
 .rw[Z]at l;have n:a=[]:=by have:=c7 List.length l;simp at this;exact this
  subst n;rw[g4,q9]at l;obtain⟨rfl,-⟩:=l;have N:sD s.low [] U.item=s.low:=rfl;rcases E with⟨p,rfl⟩|⟨_,k,j,on,T,z,_,rfl⟩
  .rw[N,D]at p;exact absurd w p
  .rw[t]at T z;have G:k=0:=by have:=(cF.1 T).1;simp at this;exact this
   subst G;refine .inr ⟨⟨j,?_,List.perm_singleton.1 z⟩,rfl,b⟩;show s.parts++[j]=[j]
   rw[Y];rfl
 .rw[Z]at l;have:=c7 List.length l;simp at this
def One.ny{x y:ag}{U:ab ag}{s L:el}{f:dC}(h:One x s)(k:s.gk=a++[f])(u:f.l=y::U):One x L:=by
 exfalso;rcases h with⟨Y,⟨J,Z,D,m⟩,_⟩|⟨_,Z,_⟩
 .rw[Z]at k;have b:a=[]:=by have:=c7 List.length k;simp at this;exact this
  subst b;rw[g4,q9]at k;obtain⟨rfl,-⟩:=k;rw[m]at u;cases u
 .rw[Z]at k;have:=c7 List.length k;simp at this
structure n8(g:bv)(x:ag)(parts:ab hg)(rJ:ab ag)(G:ab cY):Prop where
 h1:(parts.flatMap (·.l)).Nodup
 is:∀y∈parts.flatMap (·.l),g.is y=true/\g.over y=false
 dS:∀p∈parts,lO (dt G) p.cK p.l/\p.l≠[]
 qN:rJ.Nodup
 ms:∀y∈rJ,g.is y=false/\g.over y=false/\bt y 7=true
 no:g.is x=false\/g.over x=true->parts=[]/\rJ=[]
 one:g.is x=true->g.over x=false->g.waits x=[]->parts.map (·.l)=[[x]]/\rJ=[]
def n8.none(g:bv)(x:ag)(G:ab cY)(h:g.is x=false\/g.over x=true):n8 g x [] [] G:=by refine⟨VK,VK,VK,VK,VK,λ_=>⟨rfl,rfl⟩,λY Z _=>?_⟩;rw[Y,Z]at h;simp at h
def n8.of{g:bv}{x:ag}{s:el}(am:g.is x=true)(a:g.over x=false)(h:hB g s)(K:s.missing=[])(l:s.gk=[])(Y:g.waits x=[]->One x s):n8 g x s.parts [] s.g:=by
 refine⟨(gr.1 h.eA).1,λy C=>h.is y (h.sub y (eh.2 (.inl C))),h.dS,VK,VK,λq=>by rw[am,a]at q;simp at q,λ_ _ U=>?_⟩;rcases Y U with⟨_,⟨J,Z,_⟩,_⟩|⟨⟨p,Z,D⟩,_⟩
 .rw[l]at Z;cases Z
 .rw[Z,I3,D];exact⟨rfl,rfl⟩
def n8.rJ{g:bv}{x:ag}{s:el}(am:g.is x=true)(a:g.over x=false)(h:hB g s)(K:s.missing≠[])(Y:g.waits x=[]->One x s):n8 g x [] s.missing s.g:=by refine⟨VK,VK,VK,h.qN,h.ms,λq=>by rw[am,a]at q;simp at q,λ_ _ s=>?_⟩;rcases Y s with⟨_,_,_,Z,_⟩|⟨_,_,Z⟩<;>exact absurd Z K
def I4(Z:Nat)(L:h9)(g:bv)(h:g.ok)(t:g.hy)(m:g.calls.aE<=7)(x:ag):ar prog 159 [av Z 0,A x.c] [ia Z L g] (λr C=>∃P fV U j G,n8 g x U j G/\r=.tuple #[P,fV]/\C=[rows hg.c P 98 1 U,rows ag.c fV 46 2 j,dt G,ia Z L g]):=by
 have u:=HM Z L g h x;have q:=HN Z L g h x;refine aF func159 λW=>?_;refine ah.V5 hg.c 98 1 ?_;refine ah.V5 ag.c 46 2 ?_;refine ah.eqv (bg:=dt []::_) (aP.aK (bg:=[])|>.symm.append (aP.refl _)) ?_;cases am:g.is x<;>rw[am]at u
 .refine aq 2 λgD=>?_;refine aa 29 ?_;all_goals exact⟨_,_,⟨_,_,[],[],[],n8.none g x [] (.inl am),rfl,rfl⟩,VH⟩
 cases a:g.over x<;>rw[a]at q
 .refine ah.V5 dC.c 375 3 ?_;refine ah.V5 ag.c 46 2 ?_;refine ah.V5 ag.c 46 2 ?_;refine aq 2 λgD=>?_;refine aa 26 ?_;refine ai.o (aw.mkMap b9 fg rfl (λE=>?_));refine ai.o (aw.mkMap b9 fg rfl (λQ=>?_));refine ai.o (aw.mkMap b9 fg rfl (λD=>?_));refine aq 1 λF=>?_;refine aa 3 ?_;have gQ:=IZ F Z L ⟨E,Q,D,.slice none 0 0,.slice none 0 0,.slice none 0 0,.slice none 0 0⟩ g h t x el.init (by simp[el.init]) (by simp[el.init]) (by simp[el.init]);unfold ix m7 el.init at gQ;dsimp only at gQ⊢;refine aa 5 ?_;rintro _ _⟨y,d,Yc,w,Ye,Yf,rfl,rfl⟩;refine aa 5 ?_;have M:d.item=x:=by assumption
  have p:d.l=g.waits x:=VV
  have Yj:d.l.length<=d.cap:=VV
  have T:lO (dt (el.init.push x d).g) d.cK d.l:=VV
  refine ah.cq [6] (λz:sC×el=>hB g z.2/\(g.waits x=[]->One x z.2)) (λz=>[]) (λz=>ix F Z L z.1 g z.2) (λz=>z.2.R') (y,el.init.push x d) ⟨(hB.init g).push t rfl am a M p Yj T,λN=>One.push M (p.trans N)⟩ ?_;rintro⟨⟨bu,et,b3,cU,qc,P,fV⟩,s⟩⟨Y,J⟩ K i;dsimp only at Y J;have hN:=Y.ac7 m;have jN:=Y.abk m;have iS:=Y.ac8 m;have k9:=Y.ac6 m;have tZ:=Y.ac9;dsimp only[ix,m7,List.cons_append,List.nil_append];refine ah.fact (jc (f:=dC.c) (v:=qc) (l:=s.gk) dC.len VF) λX=>?_;obtain⟨b,R,adO,rfl,Yk⟩:=X;rcases I0 s.gk with k|⟨n,f,k⟩
  .clear i;refine ah.fact (jc (f:=ag.c) (v:=fV) (l:=s.missing) ag.len VF) λX=>?_;obtain⟨Yi,Yh,dW,rfl,Yg⟩:=X;have p:(s.gk.length:Int)=0:=by rw[k];rfl
   rw[k];cases U:s.missing with
   |nil=>
    refine ah.V5 ag.c 46 2 ?_;refine aa 43 ?_;all_goals exact⟨_,_,⟨_,_,_,_,_,n8.of am a Y U k J,rfl,rfl⟩,VH⟩
   |cons o X=>
    refine ah.V5 hg.c 98 1 ?_;have M:bb .gtr (((o::X).length:Nat):Int) 0=some true:=by simp only[bb,df];congr 1;rw[cO];omega
    refine aa 25 ?_;refine ai.v (V.cmp rfl rfl M) ?_;refine aa 4 ?_;refine ah.p' ?_ aC.j.j.j.j.j.j.j.j.j.j.j.d'.j;refine ae 6 0 ?_;refine aa 5 ?_;all_goals exact⟨_,_,⟨_,_,_,_,_,n8.rJ (s:=s) am a Y MN J,rfl,(by rw[U])⟩,VH⟩
  .rw[DZ]at k;have q:0<s.gk.length:=by rw[k];simp
   cases u:f.l with
   |nil=>
    have c:=akV F Z L ⟨bu,et,b3,cU,.slice b s.gk.length R,P,fV⟩ g h s n f k u (Y.kx.subset Pm) ac ac ac;unfold ix m7 at c;dsimp only at c;refine aa 18 ?_;refine SY λM T w=>?_;rotate_left;have E:=(by assumption:wX s n f T)
    all_goals exact Out.C' i (M,T) ⟨Y.Z4 k E,λN=>(J N).Z4 k E⟩ (el.ada k E)
   |cons y U=>
    obtain⟨l,C,Q,r⟩:=Y.sE f Pm;have c:=alX F Z L ⟨bu,et,b3,cU,.slice b s.gk.length R,P,fV⟩ g h t s n f y U k u l Q ac ac ac ac;unfold ix m7 at c;dsimp only at c;refine aa 18 ?_;refine SY λM T w=>?_;rotate_left;have E:=(by assumption:yM g s n f y U T)
    all_goals exact Out.C' i (M,T) ⟨Y.ny t k u E,λN=>(J N).ny k u⟩ (el.adb t k9 k u E)
 .refine aq 2 λgD=>?_;refine aa 30 ?_;all_goals exact⟨_,_,⟨_,_,[],[],[],n8.none g x [] (.inr a),rfl,rfl⟩,VH⟩
end Go.Proofs.YteogojgnkjegmaaGreatDoor
