/-
 Part of the proof.
-/
import Derived.Test.YteogojgnkjegmaaGreatDoorXo
set_option linter.all false
set_option maxRecDepth 8000
set_option maxHeartbeats 8000000
namespace Go.Proofs.YteogojgnkjegmaaGreatDoor
open Go.ay Go.Proofs.Tryz
variable[Go.ay.bR]
def Rd.suffix{e:ax}{c:aQ Go.Addr}{len b off X i C:Nat}{Z:ab (ab aj)}(h:Rd e c len b off X Z)(ao:i<=len)(u:len<=C):Rd e (Go.ay.partAt c C i X) (len-i) b (off+i*X) X (Z.drop i):=by
 refine⟨by rw[j6,h.length],jk (Nat.sub_le _ _) h.small,λr=>?_,λw m j x U=>?_⟩
 .rw[h.addr ac];unfold Go.ay.partAt;rw[aN ac];simp[Go.Addr.add_mid]
 .rw[lL]at U;obtain⟨F,M⟩:=h.reads w m (i+j) x U;refine⟨F,λk u R=>?_⟩;have:=M k u R;rw[eZ]at this;rwa[show off+i*X+j*X+k=off+(i*X+j*X)+k by omega]
def afM(e:ax)(m:aQ Go.Addr)(C U off:Nat)(l:ab ag)(T:Rd e m l.length U off 2 (l.map ag.c))(E:l.length<=1000000)(j:0<l.length):ar prog 158 [.slice m l.length C] [e] (λr Y=>∃g c,r=.slice (some ⟨g,0,none⟩) l.length c/\Y=[rows ag.c (.slice (some ⟨g,0,none⟩) l.length c) 46 2 l,e]):=by
 refine ar.RR (DH e m C U off l T E) ?_;rintro v Y W D w⟨_,rfl,rfl⟩ f;rcases hc (aE _) w f with⟨_,F⟩|⟨g,c,rfl,_⟩
 .subst F;simp at j
 .exact⟨_,⟨g,c,rfl,rfl⟩,f⟩
def afN(w:Nat)(L:g3)(g:bj)(h:g.ok):kW (.func (.func 273) #[au w 0] #[]) (g4 w L g) g.TL:=λx y=>
 ⟨273,[au w 0],[],rfl,XD,JK w L g h x y⟩
def dx.part(s:dx)(k:Nat)(X:gd)(on:ab (ag×Bool)):dx:={s with stack:=s.stack.take k,on:=on,parts:=s.parts++[X],g:=(.slice X.cG X.l.length X.cap,X.l)::s.g}
def abW{x:ag}{l:ab ag}(h:x∈l):∃k,pi x l=((k:Nat):Int)/\l[k]?=some x:=by
 unfold pi;cases s:l.findIdx? (λy=>decide (y=x))with
 |none=>
  rw[vt]at s;have:=s x h;simp at this
 |some i=>
  obtain⟨F,M,_⟩:=tD.1 s;have:l[i]=x:=Io
  exact⟨i,rfl,by rw[<-this];exact gM F⟩
def afW(u n:Nat)(L:g3)(X:qe)(g:bj)(h:g.ok)(x:ag)(s:dx)(cr:x∈s.stack)(dd:s.stack.length<=1000)(cp:s.parts.length<=1000):ar prog 256 [au u 0,A x.c] (hh u n L X g s) (λr Z=>∃tS k de on,s.stack[k]?=some x/\de.l.Perm (s.stack.drop k)/\jV (cR (s.part k de on).g) de.cG de.l/\r=.tuple #[]/\Z=hh u n L tS g (s.part k de on)):=by
 have ly:=afN n L g h;obtain⟨P,T,bG,ij,p,du,e5⟩:=X;obtain⟨J,U,on,N,Y,M,G,z⟩:=s;dsimp only at cr dd cp;obtain⟨k,cc,Yr⟩:=abW cr;have Yj:k<N.length:=(cI.1 Yr).1;have Yc:ar prog 256 [au u 0,A x.c] (hh u n L ⟨P,T,bG,ij,p,du,e5⟩ g ⟨J,U,on,N,Y,M,G,z⟩)
   (λr Z=>∃R Q m C E b,E.Perm (N.drop k)/\r=.tuple #[]/\Z=rows ag.c (.slice m E.length C) 46 2 E::hh u n L ⟨P,T,bG,R,p,Q,e5⟩ g ⟨J,U,b,N.take k,Y,M++[⟨m,C,E⟩],G,z⟩):=by
  unfold hh kZ at*
  dsimp only at*
  refine aB func256 λW=>?_
  refine ah.fact (hc (f:=ag.c) (v:=ij) (l:=N) XB) λq=>?_
  rcases q with⟨_,cm⟩|⟨vQ,t,rfl,Yh,Yf⟩
  .subst cm;simp at Yj
  have eU:Rd (rows ag.c (.slice (some ⟨vQ,0,none⟩) N.length t) 46 2 N) (some ⟨vQ,0,none⟩) N.length vQ 0 2 (N.map ag.c):=Rd.rows ag.len ac
  have hV:=DI _ _ t _ _ N x eU ac
  rw[cc]at hV
  have Ym:(N.drop k).length=N.length-k:=j6
  have Yl:=Rd.suffix (i:=k) eU ac Yh
  rw[<-List.map_drop,<-Ym]at Yl
  have Yp:=afM _ _ (t-k) _ _ (N.drop k) Yl ac ac
  rw[Ym]at Yp
  refine aq 2 λfI=>?_
  refine aa 3 ?_
  refine ah.n' ?_ aA.d'.d'.d'.d'.d'.d'.d'.d'.d'.d'.d'
  refine ae 5 0 ?_
  refine af.o' 5 rfl rfl (hV) ?_
  refine aa 2 ?_
  refine ae 1 6 ?_
  refine aa 9 ?_
  refine ai.v (V.Sf ad (i:=k) rfl rfl ac) ?_
  refine av ?_
  rintro _ _⟨Yq,Ys,rfl,rfl⟩
  refine aa 12 ?_
  refine ai.v (V.SW ad (j:=k) rfl rfl ac) ?_
  refine aa 6 ?_
  refine ah.cut (f:=ag.c) (l:=N) (cap:=t) k ag.len ac ?_
  have Yi:(N.take k).length=k:=X4
  have Ye:0<(N.drop k).length:=ac
  generalize Yn:N.drop k=F at*
  dsimp only
  rw[<-Ym]
  refine aa 8 ?_
  refine ah.cb [30,31,5,0] (λy:Nat×ab (ag×Bool)=>y.1<=F.length) (λy=>[(32,I (y.1:Int))]) (λy=>[bn bW h6 bG y.2]) (λy=>F.length-y.1) (0,on) (cw _) ?_
  rintro⟨j,Yt⟩ eB K cu
  dsimp only at eB
  refine bh ?_
  by_cases Yk:j<F.length
  .obtain⟨y,e7⟩:=b8 Yk
   refine aa 13 ?_
   refine ai.v (V.x' ad (k:=j) rfl rfl rfl rfl ac) ?_
   refine ai.v (V.E' ad rfl XB ag.len e7) ?_
   refine aq 0 λom=>?_
   refine aa 3 ?_
   refine ah.n' ?_ aA.j.j.j.j.j.j.j.d'.j.j.j.j.d'
   refine ae 5 0 ?_
   refine af.p' 5 rfl (aw.R1 (l:=Yt) (k:=y) (v:=false) (bN:=bW) (aR:=h6) cq tR rfl rfl rfl XH ?_)
   refine aa 8 ?_
   rotate_left
   all_goals exact Out.t' cu (j+1,_) Zw (by show F.length-(j+1)<F.length-j;omega)
  .clear cu
   have hB:=z2 Yq Ys F ac (g4 n L g) _ _ ly
   unfold dV at hB
   refine aa 21 ?_
   rintro _ _⟨Yu,Yg,rfl,rfl⟩
   refine aq 10 λYo=>?_
   have d:=(by assumption:List.Perm _ F)
   rw[<-d.length_eq]
   dsimp only
   refine ai.o (O.SC ad rfl rfl XJ (ce.one (a:=(⟨some ⟨Yq,0,none⟩,Ys,_⟩:gd)) ad XB gd.B') (λYx Yv Yw=>?_))
   refine aa 5 ?_
   exact⟨_,_,⟨_,_,_,_,_,_,d,rfl,rfl⟩,XC⟩
 refine ar.RR Yc ?_;rintro v Z W D w⟨R,Q,m,C,E,b,d,rfl,rfl⟩ cM;have i:H W D (hh u n L ⟨P,T,bG,R,p,Q,e5⟩ g (dx.part ⟨J,U,on,N,Y,M,G,z⟩ k ⟨m,C,E⟩ b)) w:=by
  unfold hh at cM⊢;have dd:=cM.perm (aX:=[cells u 343 (kZ n ⟨P,T,bG,R,p,Q,e5⟩),g4 n L g,bn bW ew P J,bn bW ew T U,bn bW h6 bG b,rows ag.c R 46 2 (N.take k),rows cW.c p 375 3 Y,rows gd.c Q 98 1 (M++[⟨m,C,E⟩]),rows ag.c e5 46 2 G]++[rows ag.c (.slice m E.length C) 46 2 E,cR z]) (by simp only[kn,gi];exact kO (mO (l₁:=[_,_,_,_,_,_,_,_,_]) (a:=rows ag.c (.slice m E.length C) 46 2 E) (l₂:=[cR z])).symm (gA _))
  exact dd.eqv ((aL.refl _).append (cR.cons (.slice m E.length C,E) z).symm)
 refine⟨_,⟨⟨P,T,bG,R,p,Q,e5⟩,k,⟨m,C,E⟩,b,Yr,d,?_,rfl,rfl⟩,i⟩;exact jV.here (an:=hh u n L ⟨P,T,bG,R,p,Q,e5⟩ g (dx.part ⟨J,U,on,N,Y,M,G,z⟩ k ⟨m,C,E⟩ b)) Ng w i
def qf(s:ab (ag×Int))(z:ab cW)(x:ag):ab (ag×Int):=match z.getLast? with|none=>s|some up=>bw s up.item (Min.min (bC s up.item) (bC s x))
def tT(s:dx)(W:ab cW)(f:cW)(z:dx):Prop:=
 (bC (qf s.low W f.item) f.item≠bC s.idx f.item/\z={s with fj:=W,low:=qf s.low W f.item})\/
 (bC (qf s.low W f.item) f.item=bC s.idx f.item/\∃k X on,s.stack[k]?=some f.item/\X.l.Perm (s.stack.drop k)/\jV (cR ((.slice X.cG X.l.length X.cap,X.l)::s.g)) X.cG X.l/\z=({s with fj:=W,low:=qf s.low W f.item}:dx).part k X on)
def agm(Q E:Nat)(L:g3)(X:qe)(g:bj)(h:g.ok)(s:dx)(a:ab cW)(f:cW)(dK:s.fj=a++[f])(fE:f.l=[])(u:f.item∈s.stack)(R:s.fj.length<=1000)(dd:s.stack.length<=1000)(cp:s.parts.length<=1000):ar prog 224 [au Q 0] (hh Q E L X g s) (λr K=>∃tS cn,tT s a f cn/\r=.tuple #[]/\K=hh Q E L tS g cn):=by
 obtain⟨dy,J,bG,ij,q,du,e5⟩:=X;obtain⟨i,x,on,M,Z,G,N,Ah⟩:=s;dsimp only at dK u R dd cp;subst dK;obtain⟨z,Y,F,qg⟩:=f;dsimp only at fE u;subst fE;have C:(a++[(⟨z,Y,F,[]⟩:cW)]).length=a.length+1:=XE
 have w:(a++[(⟨z,Y,F,[]⟩:cW)])[a.length]?=some ⟨z,Y,F,[]⟩:=XE
 have Ye:(a++[(⟨z,Y,F,[]⟩:cW)]).take a.length=a:=XE
 have T:(((a.length+1:Nat):Int)-1)=((a.length:Nat):Int):=ac
 have Yg (P:ab (ag×Int)) (q:aj):=afW Q E L ⟨dy,J,bG,ij,q,du,e5⟩ g h z ⟨i,P,on,M,a,G,N,Ah⟩ u dd cp;unfold tT;unfold hh kZ at*;dsimp only at*;refine aB func224 λW=>?_;refine ah.fact (hc (f:=cW.c) (v:=q) (l:=a++[⟨z,Y,F,[]⟩]) XB) λn=>?_;rcases n with⟨_,R⟩|⟨b,kX,rfl,d,Yc⟩
 .simp at R
 rw[C]at d⊢;refine av ?_;refine ah.n' ?_ aA.d'.d'.d'.d'.d'.d'.d'.d'.d'.d';refine ae 9 0 ?_;refine af.i' 9 rfl (V.Q' T rfl rfl ac) ?_;refine af.i' 10 rfl (V.x' ad (k:=a.length) rfl rfl rfl rfl ac) ?_;refine ae 1 11 ?_;refine aa 8 ?_;refine ai.v (V.SX ad (k:=a.length) (o:=2) rfl XB cW.len w) ?_;refine aa 10 ?_;refine ai.v (V.SH ad (k:=a.length) (o:=0) (show some (au b (a.length*3))=some (au b (0+a.length*3+0)) by rw[hm,gJ]) XB cW.len w (c:=z.c) (L:=⟨rfl⟩)) ?_;refine aq 0 λfI=>?_;refine aa 4 ?_;refine ah.RN [14] ?_ aA.j.j.j.j.j.j.j.j.j.d'.j aA.j.j.j.j.j.j.j.j.j.j.j;refine ae 4 0 ?_;refine ae 3 5 ?_;refine Pw ?_;refine ae 1 9 ?_;refine af.i' 10 rfl (V.Q' T rfl rfl ac) ?_;refine af.i' 11 rfl (V.SW ad (j:=a.length) rfl rfl ac) ?_;refine ae 2 12 ?_;refine af.l 14 rfl (O.G' ad ?_);refine aa 3 ?_;rotate_left;refine ah.cut (f:=cW.c) (l:=a++[⟨z,Y,F,[]⟩]) (cap:=kX) a.length cW.len ac ?_ (cf:=by rw[C];(repeat(first|exact ak.nil|exact al.here|apply ak.cons|apply al.there)));rw[Ye];dsimp only;refine ah.mt [0,3] (λ_:Unit=>True) (λ_=>[]) (λ_=>[bn bW ew J (qf x a z)]) (b:=[bn bW ew J x]) ?_ ?_
 .intro fa p;rcases E1 a with rfl|⟨y,up,rfl⟩
  .refine aa 12 ?_;exact Out.t' p () trivial trivial
  .rw[L9]at*;have D:(y++[up])[y.length]?=some up:=by simp
   have U:(y++[up]).length=y.length+1:=XE
   have m:(((y.length+1:Nat):Int)-1)=((y.length:Nat):Int):=ac
   have Yf:qf x (y++[up]) z=bw x up.item (Min.min (bC x up.item) (bC x z)):=by unfold qf;rw[List.getLast?_concat]
   rw[Yf]at p;rw[U]at p⊢;refine aa 12 ?_;refine ah.n' ?_ aA.d'.d'.d'.d'.d'.d'.d'.d'.d'.j.d';refine ae 9 0 ?_;refine af.i' 9 rfl (V.Q' m rfl rfl ac) ?_;refine af.i' 10 rfl (V.x' ad (k:=y.length) rfl rfl rfl rfl ac) ?_;refine ae 1 11 ?_;refine af.i' 12 rfl (V.SH ad (k:=y.length) (o:=0) (show some (au b (y.length*3))=some (au b (0+y.length*3+0)) by rw[hm,gJ]) XB cW.len D (c:=up.item.c) (L:=⟨rfl⟩)) ?_;refine c1 13 λfp=>?_;refine ae 1 14 ?_;refine aa 2 ?_;refine ah.n' ?_ aA.j.j.j.j.j.j.j.j.d'.d'.j.d';refine ae 10 0 ?_;refine ae 5 11 ?_;refine af.bu 10 16 rfl rfl ?_ ?_;refine aw.q' (aK.RW (l:=x) (k:=up.item) (aR:=ew) 0 cq fW hL rfl rfl XB) ?_;refine av ?_;refine af.p' 16 rfl (aw.q' (aK.RW (l:=x) (k:=z) (aR:=ew) 0 cq fW hL rfl rfl XB) ?_);refine LY ?_;rotate_left;refine aw.q' (aK.RW (l:=x) (k:=z) (aR:=ew) 0 cq fW hL rfl rfl XB) ?_;refine av ?_;refine af.p' 10 rfl (aw.q' (aK.RW (l:=x) (k:=up.item) (aR:=ew) 0 cq fW hL rfl rfl XB) ?_);refine LY ?_;rotate_left;all_goals exact Out.t' p () trivial trivial
 rintro⟨⟩-;refine bh ?_;generalize qf x a z=P at*;by_cases w:bC P z=bC i z
 .have r:=Yg P (.slice (some ⟨b,0,none⟩) a.length kX);refine Jj ?_ ?_;refine aa 7 ?_;rintro _ _⟨Q,u,T,E,p,s,x,rfl,rfl⟩;refine aa 6 ?_;rotate_left;refine ON ?_;refine aa 7 ?_;rintro _ _⟨q,D,o,t,m,f,L,rfl,rfl⟩;refine aa 6 ?_;rotate_left;all_goals exact⟨_,_,⟨_,_,.inr ⟨w,_,_,_,XF,XF,XF,rfl⟩,rfl,rfl⟩,XC⟩
 .refine Jj ?_ ?_;refine aa 8 ?_;rotate_left;refine ON ?_;refine aa 8 ?_;rotate_left;all_goals exact⟨_,_,⟨⟨dy,J,bG,ij,_,du,e5⟩,_,.inl ⟨w,rfl⟩,rfl,rfl⟩,XC⟩
end Go.Proofs.YteogojgnkjegmaaGreatDoor
namespace Go.ay
open Go
variable[Go.ay.bR]
section
variable{P:bF}{r:aQ Nat}{W:aY}{D:ab Nat}{n:c7}{Q:cE}{Y:bv}{Z:ab ax}{J:Nat}{R:aZ}{F:String}{C:Array Edge}{M:aQ (Nat×Bool)}{G N:Type}[DecidableEq G]{U:G->aj}{aR:N->aj}{K:aZ}{l:ab (G×N)}
def aK.R4{t e:aZ}{x y:bd}{b:Nat}{k:G}(E:N)(a:gO P K U)(j:g1 P t K e=true)(c:∀w,(zeroValue e).run P w=.ok (aR E) w) (X:aO Y x=some (.map (some b))) (u:aO Y y=some (U k)) (T:bn U aR b l∈Z):aK P n Y Z ⟨some J,.lookup t x y true,R,F,C,M⟩ (.tuple #[aR ((br l k).getD E),.bool (br l k).isSome]):=by
 have h:=aK.Wy (P:=P) (n:=n) (am:=Y) (an:=Z) (dst:=J) (a1:=R) (a6:=F) (a7:=C) (aW:=M) (l:=l) (k:=k) a j c X u T;cases q:br l k with
 |none=>rw[q]at h;exact h
 |some v=>rw[q]at h;exact h
def aK.Vr{t e:aZ}{x y:bd}{b:Nat}{k:G}(q:N){o:aQ N}(E:br l k=o)(a:gO P K U)(j:g1 P t K e=true)(c:∀w,(zeroValue e).run P w=.ok (aR q) w) (X:aO Y x=some (.map (some b))) (u:aO Y y=some (U k)) (T:bn U aR b l∈Z):aK P n Y Z ⟨some J,.lookup t x y true,R,F,C,M⟩ (.tuple #[aR (o.getD q),.bool o.isSome]):=by subst E;exact aK.R4 q a j c X u T
end
end Go.ay
namespace Go.Proofs.YteogojgnkjegmaaGreatDoor
open Go.ay Go.Proofs.Tryz
variable[Go.ay.bR]
variable{n:ab ag}{D:Type}{low k:ab (ag×Int)}
def cW.next(f:cW)(i:ab ag):cW:=⟨f.item,Go.ay.partAt f.cG f.cap 1 2,f.cap-1,i⟩
variable{W:ab cW}
def vR(g:bj)(s:dx)(j:ab cW)(f:cW)(y:ag)(i:ab ag)(z:dx):Prop:=
 (g.is y=false/\z={s with fj:=j++[f.next i],missing:=if y∈s.missing then s.missing else s.missing++[y]})\/
 (g.is y=true/\br s.idx y=none/\∃X,X.item=y/\X.l=g.waits y/\X.l.length<=X.cap/\jV (cR ((.slice X.cG X.l.length X.cap,X.l)::s.g)) X.cG X.l/\z=({s with fj:=j++[f.next i]}:dx).push y X)\/
 (g.is y=true/\br s.idx y≠none/\∃v,z={s with fj:=j++[f.next i],low:=v})
def af9(jT nX:Nat)(L:g3)(X:qe)(g:bj)(h:g.ok)(bU:g.gE)(s:dx)(z:ab cW)(f:cW)(y:ag)(x:ab ag)(dK:s.fj=z++[f])(fE:f.l=y::x)(Yn:f.l.length<=f.cap)(Yo:jV (cR s.g) f.cG f.l)(ep:s.idx.length<=1000)(cm:s.fj.length<=1000)(dd:s.stack.length<=1000)(cp:s.missing.length<=1000):ar prog 224 [au jT 0] (hh jT nX L X g s) (λr Yc=>∃tS cn,vR g s z f y x cn/\r=.tuple #[]/\Yc=hh jT nX L tS g cn):=by
 obtain⟨dy,eE,bG,ij,nV,du,e5⟩:=X;obtain⟨d,q,on,Yi,Ym,Yf,T,Ah⟩:=s;dsimp only at dK ep cm dd cp Yo;subst dK;obtain⟨j,E,u,qg⟩:=f;dsimp only at fE Yn Yo;subst fE;obtain⟨dG,adQ,eU⟩:=Yo;have Yk:(z++[(⟨j,E,u,y::x⟩:cW)]).length=z.length+1:=XE
 rw[Yk]at cm;have w:(z++[(⟨j,E,u,y::x⟩:cW)])[z.length]?=some ⟨j,E,u,y::x⟩:=XE
 have Yj:(z++[(⟨j,E,u,y::x⟩:cW)]).set z.length ⟨j,Go.ay.partAt E u 1 2,u-1,x⟩=z++[⟨j,Go.ay.partAt E u 1 2,u-1,x⟩]:=XE
 have p:(z++[(⟨j,Go.ay.partAt E u 1 2,u-1,x⟩:cW)])[z.length]?=some ⟨j,Go.ay.partAt E u 1 2,u-1,x⟩:=XE
 have Yl:(((z.length+1:Nat):Int)-1)=((z.length:Nat):Int):=ac
 have Yp:((y::x).map ag.c)[0]?=some y.c:=rfl;have m:=DM nX L g h y;have Yu (nV:aj):=E0 jT nX L ⟨dy,eE,bG,ij,nV,du,e5⟩ g h bU y ⟨d,q,on,Yi,z++[⟨j,Go.ay.partAt E u 1 2,u-1,x⟩],Yf,T,Ah⟩ ep dd (by rw[bM];exact cm);unfold vR cW.next;unfold hh kZ at*;dsimp only at*;refine aB func224 λW=>?_;refine ah.fact (hc (f:=cW.c) (v:=nV) (l:=z++[⟨j,E,u,y::x⟩]) XB) λYh=>?_;rcases Yh with⟨_,vO⟩|⟨b,kX,rfl,Yg,Ye⟩
 .simp at vO
 rw[Yk]at Yg⊢;refine ah.fact (hM (f:=ag.c) (v:=e5) (l:=T) ag.len XB) λfF=>?_;obtain⟨Ys,Yr,dA,rfl,Yq⟩:=fF;have t:=DJ _ _ Yr _ _ T y Yq ac;have fS:a8 .eql (((y::x).length:Nat):Int) 0=some false:=by simp only[a8,dp];congr 1
 refine av ?_;refine ah.n' ?_ aA.d'.d'.d'.d'.d'.d'.d'.d'.d'.d';refine ae 9 0 ?_;refine af.i' 9 rfl (V.Q' Yl rfl rfl ac) ?_;refine af.i' 10 rfl (V.x' ad (k:=z.length) rfl rfl rfl rfl ac) ?_;refine ae 1 11 ?_;refine aa 8 ?_;refine ai.v (V.SX ad (k:=z.length) (o:=2) rfl XB cW.len w) ?_;refine av ?_;refine ai.v (V.cmp rfl rfl fS) ?_;refine aa 10 ?_;refine ai.v (V.SX ad (k:=z.length) (o:=2) rfl XB cW.len w) ?_;refine ai.v (V.SG ad (k:=0) rfl rfl eU (z:=XE)) ?_;refine ai.v (V.RP ad rfl eU Yp) ?_;refine aq 0 λlV=>?_;refine aa 9 ?_;refine ai.v (V.SX ad (k:=z.length) (o:=2) rfl XB cW.len w) ?_;refine ai.v (V.Sf ad (i:=1) rfl rfl XE) ?_;refine aa 2 ?_;refine ai.o (O.WA ad (k:=z.length) (o:=2) (a:=(⟨j,E,u,y::x⟩:cW)) (gq:=(⟨j,Go.ay.partAt E u 1 2,u-1,x⟩:cW)) rfl rfl rfl w ⟨rfl⟩ XH Yk cW.len rfl ?_);refine aa 2 ?_;rw[Yj];dsimp only;cases Yt:g.is y<;>rw[Yt]at m
 .by_cases i:y∈T
  .rw[iE i]at t;rw[aT i];refine Mr ?_;refine aa 6 ?_;all_goals exact⟨_,_,⟨⟨dy,eE,bG,ij,_,du,_⟩,_,.inl ⟨rfl,rfl⟩,rfl,rfl⟩,XC⟩
  .rw[kc i]at t;rw[aN i];refine Mr ?_;refine aa 3 ?_;refine ah.RN [10] ?_ aA.j.j.j.j.j.j.j.d'.d'.j.j aA.j.j.j.j.j.j.j.j.d'.j.j;refine P2 ?_;refine c1 6 λg=>?_;refine af.p' 7 rfl (O.O' ad rfl rfl XJ (ce.one ad XB ag.B') (λg f=>?_));refine av ?_;refine ae 2 8 ?_;refine af.l 10 rfl (O.G' ad ?_);refine aa 4 ?_;all_goals exact⟨_,_,⟨⟨dy,eE,bG,ij,_,du,_⟩,_,.inl ⟨rfl,rfl⟩,rfl,rfl⟩,XC⟩
 .have a:=Yu (.slice (some ⟨b,0,none⟩) (z.length+1) kX);cases f:br d y with
  |none=>
   refine Lb ?_;refine aa 15 ?_;rintro _ _⟨a,w,s,x,X,i,rfl,rfl⟩;refine aa 4 ?_;all_goals exact⟨_,_,⟨_,_,.inr (.inl ⟨rfl,rfl,_,XF,XF,XF,XF,rfl⟩),rfl,rfl⟩,XC⟩
  |some a=>
   refine Lb ?_;refine aa 12 ?_;refine ah.n' ?_ aA.j.j.j.j.j.j.j.j.d'.d'.j;refine ae 5 0 ?_;refine af.p' 5 rfl (aw.q' (aK.RW (l:=on) (k:=y) (aR:=h6) false cq tR xD rfl rfl XB) ?_);refine av ?_;refine ae 1 6 ?_;refine Rh (λX=>?_) λX=>?_;refine ah.n' ?_ aA.j.j.j.j.j.j.j.j.d'.j.j;refine ae 7 0 ?_;refine ae 7 8 ?_;refine ae 1 17 ?_;refine af.bu 7 15 rfl rfl ?_ ?_;refine Km ?_;refine af.p' 15 rfl (aw.q' (V.SH ad (k:=z.length) (o:=0) (show some (au b (z.length*3))=some (au b (0+z.length*3+0)) by rw[hm,gJ]) XB cW.len p (c:=j.c) (L:=⟨rfl⟩)) ?_);refine av ?_;refine HR ?_;rotate_left;refine Km ?_;refine af.bu 7 16 rfl rfl ?_ ?_;refine Km ?_;refine HR ?_;rotate_left;refine aw.q' (aK.RW (l:=q) (k:=j) (aR:=ew) 0 cq fW hL rfl rfl XB) ?_;refine av ?_;refine ae 1 18 ?_;refine af.p' 7 rfl (aw.q' (V.SH ad (k:=z.length) (o:=0) (show some (au b (z.length*3))=some (au b (0+z.length*3+0)) by rw[hm,gJ]) XB cW.len p (c:=j.c) (L:=⟨rfl⟩)) ?_);refine av ?_;refine af.p' 19 rfl (aw.R1 (l:=q) (k:=j) (v:=Min.min (bC q j) a) (bN:=bW) (aR:=ew) cq fW rfl rfl rfl XH ?_);refine aa 4 ?_;rotate_left;refine aa 3 ?_;rotate_left;all_goals exact⟨_,_,⟨⟨dy,eE,bG,ij,_,du,_⟩,_,.inr (.inr ⟨rfl,XE,_,rfl⟩),rfl,rfl⟩,XC⟩
def Ai:ab ag:=(List.range 7).flatMap λ(k:Nat)=>(List.range 64).map λ(m:Nat)=>⟨((k:Nat):Int),((m:Nat):Int)+1⟩
def Mb:Ai.length=448:=by decide+kernel
def adv{x:ag}(h:bB x 7=true):x∈Ai:=by obtain⟨F,M,g,z⟩:=kN h;unfold Ai;refine vd.2 ⟨x.be.toNat,qD.2 ac,fh.2 ⟨(x.bH-1).toNat,qD.2 ac,?_⟩⟩;obtain⟨r,m⟩:=x;grind
def Aj{D:Type}[DecidableEq D]:∀{l m:ab D},l.Nodup->l⊆m->l.length<=m.length
 |[],m,_,_=>cw _
 |a::l,m,h,Q=>by rw[lf]at h;have o:a∈m:=Q (iT ..);have F:l⊆m.erase a:=λx U=>(List.mem_erase_of_ne (λe:x=a=>h.1 (e▸U))).2 (Q (hn _ U));have M:=Aj h.2 F;grind
theorem qh{l:ab ag}(v:l.Nodup)(h:∀x∈l,bB x 7=true):l.length<=448:=by rw[<-Mb];exact Aj v λx U=>adv (h x U)
def bj.Vs{g:bj}(o:g.calls.aS<=7){x:ag}(h:g.is x=true):bB x 7=true:=by unfold bj.is at h;obtain⟨t,j⟩:=sZ.1 h;exact ov (aJ.TK j) o
def E2{d:bI}(b:e9 d 7=true):∀k,k<=7->∀y∈kQ d k,bB y 7=true
 |0,_=>by simp[kQ]
 |k+1,h=>by
  have u:=E2 b k ac;rw[vu];intro y G;rcases eN.1 G with G|G
  .exact u y G
  .obtain⟨num,v⟩:∃m,d.l[k]?=some m:=⟨_,gM P4⟩
   have q:=p8.1 b k num v;simp only[iW,cZ,ib,da]at q;grind [List.getD,il,List.mem_map.1,List.mem_range.1,bB]
def bj.W6{g:bj}(q:g.gE){x y:ag}(h:y∈g.waits x):g.over y=false/\bB y 7=true:=by unfold bj.waits at h;obtain⟨F,M⟩:=r3.1 h;simp only[cZ,j3,da]at M;exact⟨M.2,E2 (q x) 7 (cl _) y F⟩
theorem E3{o:Type}[DecidableEq D]{l:ab (D×o)}{k:D}(h:br l k=none)(v:o):bw l k v=l++[(k,v)]:=by grind [br,Option.map_eq_none_iff,bw]
def afI{o:Type}[DecidableEq D]{l:ab (D×o)}{k:D}(h:k∈l.map (·.1)):br l k≠none:=by
 induction l with
 |nil=>cases h
 |cons p l u=>
  rw[jp];grind
def jV.next{e:ax}{c:aQ Go.Addr}{C:Nat}{y:ag}(h:jV e c (y::n))(u:(y::n).length<=C):jV e (Go.ay.partAt c C 1 2) n:=by obtain⟨b,off,T⟩:=h;have:=Rd.suffix (i:=1) T XE u;refine⟨b,off+1*2,?_⟩;grind
structure gv(g:bj)(s:dx):Prop where
 jW:(s.idx.map (·.1)).Nodup
 dL:(s.parts.flatMap (·.l)++s.stack).Nodup
 sub:∀y∈s.parts.flatMap (·.l)++s.stack,y∈s.idx.map (·.1)
 is:∀y∈s.idx.map (·.1),g.is y=true/\g.over y=false
 rr:(s.fj.map (·.item)).Sublist s.stack
 qg:∀f∈s.fj,f.l.length<=f.cap/\f.l.length<=448/\jV (cR s.g) f.cG f.l/\∀y∈f.l,g.over y=false/\bB y 7=true
 de:∀p∈s.parts,jV (cR s.g) p.cG p.l/\p.l≠[]
 oA:s.missing.Nodup
 ms:∀y∈s.missing,g.is y=false/\g.over y=false/\bB y 7=true
def gv.W7{g:bj}{s:dx}(h:gv g s)(o:g.calls.aS<=7):s.idx.length<=448:=by have:=qh h.jW λx U=>bj.Vs o (h.is x U).1;grind
def gv.Vt{g:bj}{s:dx}(h:gv g s)(o:g.calls.aS<=7):(s.parts.flatMap (·.l)++s.stack).length<=448:=qh h.dL λx U=>bj.Vs o (h.is x (h.sub x U)).1
def gv.Vu{g:bj}{s:dx}(h:gv g s)(o:g.calls.aS<=7):s.stack.length<=448:=by have:=h.Vt o;grind
def gv.W8{g:bj}{s:dx}(h:gv g s)(o:g.calls.aS<=7):s.fj.length<=448:=by have:=h.rr.length_le;rw[ev]at this;exact jk this (h.Vu o)
def Ak:∀(l:ab gd),(∀p∈l,p.l≠[])->l.length<=(l.flatMap (·.l)).length
 |[],_=>cw _
 |p::l,h=>by have u:=Ak l λq bb=>h q (hn _ bb);have F:0<p.l.length:=od.2 (h p (iT ..));grind
def gv.W9{g:bj}{s:dx}(h:gv g s)(o:g.calls.aS<=7):s.parts.length<=448:=by have F:=h.Vt o;have M:=Ak s.parts λp r=>(h.de p r).2;grind
def gv.Xa{g:bj}{s:dx}(h:gv g s):s.missing.length<=448:=qh h.oA λx U=>(h.ms x U).2.2
def dx.init:dx:=⟨[],[],[],[],[],[],[],[]⟩
def gv.init(g:bj):gv g dx.init:=by constructor<;>simp[dx.init]
def gv.push{g:bj}{s:dx}{y:ag}{N:cW}(h:gv g s)(q:g.gE)(G:br s.idx y=none)(ao:g.is y=true)(Z:g.over y=false)(F:N.item=y)(M:N.l=g.waits y)(W:N.l.length<=N.cap)(E:jV (cR (s.push y N).g) N.cG N.l):gv g (s.push y N):=by
 have T:((s.push y N).idx.map (·.1))=s.idx.map (·.1)++[y]:=by
  show(bw s.idx y _).map (·.1)=_
  rw[E3 G,iA];rfl
 have i:y∉s.idx.map (·.1):=λu=>afI u G;have K:(s.push y N).parts.flatMap (·.l)++(s.push y N).stack=(s.parts.flatMap (·.l)++s.stack)++[y]:=by
  show s.parts.flatMap (·.l)++(s.stack++[y])=_
  rw[cd]
 refine⟨?_,?_,?_,?_,?_,?_,?_,h.oA,h.ms⟩
 .rw[T,gV];exact⟨h.jW,XE,λa o b R=>XK⟩
 .rw[K,gV];exact⟨h.dL,XE,λa o b R=>by rw[iz]at R;subst R;exactλe=>i (e▸h.sub a o)⟩
 .rw[K,T];intro z w;rcases eN.1 w with w|w
  .exact eN.2 (.inl (h.sub z w))
  .grind
 .rw[T];intro z w;rcases eN.1 w with w|w
  .exact h.is z w
  .grind
 .show((s.fj++[N]).map (·.item)).Sublist (s.stack++[y]);rw[iA];exact h.rr.append XK
 .intro f k;have k:f∈s.fj++[N]:=k;rcases eN.1 k with k|k
  .obtain⟨m,C,j,n⟩:=h.qg f k;exact⟨m,C,j.more _,n⟩
  .rw[iz]at k;subst k;exact⟨W,by grind [bj.T8],E,λz w=>bj.W6 q (by rw[<-M];exact w)⟩
 .intro p r;exact⟨(h.de p r).1.more _,(h.de p r).2⟩
def ac4{l st:ab D}{x:D}{k:Nat}(h:(l++[x]).Sublist st)(v:st.Nodup)(T:st[k]?=some x):l.Sublist (st.take k):=by
 obtain⟨a,b,rfl,F,M⟩:=List.append_sublist_iff.1 h;have U:x∈b:=M.subset (iz.2 rfl);obtain⟨K,j⟩:=cI.1 T;by_cases P:k<a.length
 .grind
 .rw[qO,j4 ac];grind
def gv.up{g:bj}{s:dx}{z:ab cW}{f:cW}(h:gv g s)(l:s.fj=z++[f]):gv g {s with fj:=z,low:=k}:=by refine⟨h.jW,h.dL,h.sub,h.is,?_,λx L=>h.qg x XK,h.de,h.oA,h.ms⟩;have:=h.rr;rw[l,iA]at this;exact(Cr _ _).trans this
def gv.Uf{g:bj}{s z:dx}{f:cW}(h:gv g s)(x:s.fj=W++[f])(Q:tT s W f z):gv g z:=by
 rcases Q with⟨_,rfl⟩|⟨_,k,X,on,T,r,E,rfl⟩
 .exact h.up x
 .have Y:s.stack.take k++s.stack.drop k=s.stack:=mU ..;have K:k<s.stack.length:=(cI.1 T).1;have n:((s.parts++[X]).flatMap (·.l)++s.stack.take k).Perm (s.parts.flatMap (·.l)++s.stack):=by grind
  refine⟨h.jW,?_,?_,h.is,?_,?_,?_,h.oA,h.ms⟩
  .exact n.nodup_iff.2 h.dL
  .intro y G;exact h.sub y (n.mem_iff.1 G)
  .have F:=h.rr;rw[x,iA,List.map_singleton]at F;exact ac4 F (gV.1 h.dL).2.1 T
  .intro U L;obtain⟨m,Z,j,b⟩:=h.qg U (by rw[x];exact eN.2 (.inl L));exact⟨m,Z,j.more _,b⟩
  .intro p u;have u:p∈s.parts++[X]:=u;rcases eN.1 u with u|u
   .exact⟨(h.de p u).1.more _,(h.de p u).2⟩
   .rw[iz]at u;subst u;refine⟨E,λe=>?_⟩;have:=r.length_eq;grind
def gv.next{g:bj}{s:dx}{z:ab cW}{f:cW}{y:ag}{Z:ab ag}(h:gv g s)(k:s.fj=z++[f])(E:f.l=y::n)(Q:Z.Nodup)(b:∀y∈Z,g.is y=false/\g.over y=false/\bB y 7=true):gv g {s with fj:=z++[f.next n],low:=low,missing:=Z}:=by
 refine⟨h.jW,h.dL,h.sub,h.is,?_,?_,h.de,Q,b⟩
 .have:=h.rr;rw[k]at this;show((z++[f.next n]).map (·.item)).Sublist s.stack
  rw[iA]at this⊢;exact this
 .intro x L;have L:x∈z++[f.next n]:=L;rcases eN.1 L with L|L
  .exact h.qg x XK
  .rw[iz]at L;subst L;obtain⟨m,Z,W,b⟩:=h.qg f P3;rw[E]at m Z W b;have i:=m;have l:=Z;rw[dp]at i l;exact⟨by show n.length<=f.cap-1;omega,by show n.length<=448;omega,W.next m,λz w=>b z (hn _ w)⟩
def gv.lp{g:bj}{s z:dx}{P:ab cW}{f:cW}{y:ag}(h:gv g s)(q:g.gE)(k:s.fj=P++[f])(E:f.l=y::n)(Q:vR g s P f y n z):gv g z:=by
 have G:=(h.qg f P3).2.2.2 y XK;rcases Q with⟨ao,rfl⟩|⟨ao,v,N,F,M,W,j,rfl⟩|⟨ao,v,x,rfl⟩
 .by_cases K:y∈s.missing
  .rw[aT K];exact h.next (low:=s.low) k E h.oA h.ms
  .rw[aN K];refine h.next (low:=s.low) k E ?_ ?_
   .rw[gV];exact⟨h.oA,XE,λa o b R=>XK⟩
   .intro z w;rcases eN.1 w with w|w
    .exact h.ms z w
    .grind
 .exact(h.next (low:=s.low) k E h.oA h.ms).push q v ao G.1 F M W j
 .exact h.next k E h.oA h.ms
def dx.J'(s:dx):Nat:=(449-s.idx.length)*450+(s.fj.map λf=>f.l.length+1).sum
def dx.Xb{s z:dx}{f:cW}(h:s.fj=W++[f])(Q:tT s W f z):z.J'<s.J':=by
 have e:s.J'=(449-s.idx.length)*450+((W.map λf=>f.l.length+1).sum+(f.l.length+1)):=by grind [dx.J']
 rw[e];rcases Q with⟨_,rfl⟩|⟨_,k,X,on,_,_,_,rfl⟩
 exact QM
 exact QM
def dx.Xc{g:bj}{s z:dx}{f:cW}{y:ag}(q:g.gE)(ao:s.idx.length<=448)(k:s.fj=W++[f])(E:f.l=y::n)(Q:vR g s W f y n z):z.J'<s.J':=by
 have e:s.J'=(449-s.idx.length)*450+((W.map λf=>f.l.length+1).sum+(n.length+1+1)):=by grind [dx.J']
 have J:((W++[f.next n]).map λf=>f.l.length+1).sum=(W.map λf=>f.l.length+1).sum+(n.length+1):=by rw[iA,List.sum_append];simp[cW.next]
 rw[e];rcases Q with⟨_,rfl⟩|⟨_,v,N,_,M,_,_,rfl⟩|⟨_,_,h,rfl⟩
 exact NH
 .show(449-(bw s.idx y _).length)*450+(((W++[f.next n])++[N]).map λf=>f.l.length+1).sum<_;grind [bj.T8,E3,List.length_append]
 exact NH
def One(x:ag)(s:dx):Prop:=
 (s.parts=[]/\(∃N,s.fj=[N]/\N.item=x/\N.l=[])/\s.stack=[x]/\s.missing=[]/\bC s.low x=bC s.idx x)\/
 ((∃p,s.parts=[p]/\p.l=[x])/\s.fj=[]/\s.missing=[])
def One.push{x:ag}{N:cW}(F:N.item=x)(M:N.l=[]):One x (dx.init.push x N):=
 .inl ⟨rfl,⟨N,rfl,F,M⟩,rfl,rfl,rfl⟩
def One.Uf{x:ag}{s z:dx}{j:ab cW}{f:cW}(h:One x s)(l:s.fj=j++[f])(Q:tT s j f z):One x z:=by
 rcases h with⟨F,⟨G,M,g,W⟩,N,E,Y⟩|⟨_,M,_⟩
 .rw[M]at l;have m:j=[]:=by have:=db List.length l;simp at this;exact this
  subst m;rw[gi,pP]at l;obtain⟨rfl,-⟩:=l;have J:qf s.low [] G.item=s.low:=rfl;rcases Q with⟨v,rfl⟩|⟨_,k,X,on,T,r,_,rfl⟩
  .grind
  .rw[N]at T r;have R:k=0:=by grind
   subst R;refine .inr ⟨⟨X,?_,List.perm_singleton.1 r⟩,rfl,E⟩;show s.parts++[X]=[X]
   rw[F];rfl
 .rw[M]at l;have:=db List.length l;simp at this
def One.lp{x y:ag}{s z:dx}{f:cW}(h:One x s)(k:s.fj=W++[f])(E:f.l=y::n):One x z:=by
 exfalso;rcases h with⟨F,⟨N,M,g,z⟩,_⟩|⟨_,M,_⟩
 .rw[M]at k;have m:W=[]:=by have:=db List.length k;simp at this;exact this
  grind
 .rw[M]at k;have:=db List.length k;simp at this
structure lZ(g:bj)(x:ag)(parts:ab gd)(pt:ab ag)(G:ab co):Prop where
 jW:(parts.flatMap (·.l)).Nodup
 is:∀y∈parts.flatMap (·.l),g.is y=true/\g.over y=false
 de:∀p∈parts,jV (cR G) p.cG p.l/\p.l≠[]
 oA:pt.Nodup
 ms:∀y∈pt,g.is y=false/\g.over y=false/\bB y 7=true
 no:g.is x=false\/g.over x=true->parts=[]/\pt=[]
 one:g.is x=true->g.over x=false->g.waits x=[]->parts.map (·.l)=[[x]]/\pt=[]
def lZ.none(g:bj)(x:ag)(G:ab co)(h:g.is x=false\/g.over x=true):lZ g x [] [] G:=by refine⟨XE,XE,XE,XE,XE,λ_=>⟨rfl,rfl⟩,λF M _=>?_⟩;grind
def lZ.of{g:bj}{x:ag}{s:dx}(ao:g.is x=true)(Z:g.over x=false)(h:gv g s)(K:s.missing=[])(l:s.fj=[])(F:g.waits x=[]->One x s):lZ g x s.parts [] s.g:=by
 refine⟨(gV.1 h.dL).1,λy G=>h.is y (h.sub y (eN.2 (.inl G))),h.de,XE,XE,λu=>by rw[ao,Z]at u;simp at u,λ_ _ m=>?_⟩;rcases F m with⟨_,⟨N,M,_⟩,_⟩|⟨⟨p,M,z⟩,_⟩
 .rw[l]at M;cases M
 .rw[M,List.map_singleton,z];exact⟨rfl,rfl⟩
def lZ.pt{g:bj}{x:ag}{s:dx}(ao:g.is x=true)(Z:g.over x=false)(h:gv g s)(K:s.missing≠[])(F:g.waits x=[]->One x s):lZ g x [] s.missing s.g:=by refine⟨XE,XE,XE,h.oA,h.ms,λu=>by rw[ao,Z]at u;simp at u,λ_ _ m=>?_⟩;rcases F m with⟨_,_,_,M,_⟩|⟨_,_,M⟩<;>exact absurd M K
def E4(w:Nat)(L:g3)(g:bj)(h:g.ok)(t:g.gE)(d:g.calls.aS<=7)(x:ag):ar prog 159 [au w 0,A x.c] [g4 w L g] (λr Q=>∃u e5 M Z G,lZ g x M Z G/\r=.tuple #[u,e5]/\Q=[rows gd.c u 98 1 M,rows ag.c e5 46 2 Z,cR G,g4 w L g]):=by
 have P:=DM w L g h x;have y:=DN w L g h x;refine aB func159 λW=>?_;refine ah.RK gd.c 98 1 ?_;refine ah.RK ag.c 46 2 ?_;refine ah.eqv (bc:=cR []::_) (aL.aI (bc:=[])|>.symm.append (aL.refl _)) ?_;cases ao:g.is x<;>rw[ao]at P
 .refine aq 2 λfI=>?_;refine aa 29 ?_;all_goals exact⟨_,_,⟨_,_,[],[],[],lZ.none g x [] (.inl ao),rfl,rfl⟩,XC⟩
 cases N:g.over x<;>rw[N]at y
 .refine ah.RK cW.c 375 3 ?_;refine ah.RK ag.c 46 2 ?_;refine ah.RK ag.c 46 2 ?_;refine aq 2 λfI=>?_;refine aa 26 ?_;refine ai.o (aw.mkMap bW ew rfl (λa=>?_));refine ai.o (aw.mkMap bW ew rfl (λE=>?_));refine ai.o (aw.mkMap bW ew rfl (λn=>?_));refine aq 1 λC=>?_;refine aa 3 ?_;have jv:=E0 C w L ⟨a,E,n,.slice none 0 0,.slice none 0 0,.slice none 0 0,.slice none 0 0⟩ g h t x dx.init (by simp[dx.init]) (by simp[dx.init]) (by simp[dx.init]);unfold hh kZ dx.init at jv;dsimp only at jv⊢;refine aa 5 ?_;rintro _ _⟨X,D,Yc,p,Ye,Yf,rfl,rfl⟩;refine aa 5 ?_;have J:D.item=x:=by assumption
  have R:D.l=g.waits x:=XF
  have Yj:D.l.length<=D.cap:=XF
  have q:jV (cR (dx.init.push x D).g) D.cG D.l:=XF
  refine ah.cb [6] (λz:qe×dx=>gv g z.2/\(g.waits x=[]->One x z.2)) (λz=>[]) (λz=>hh C w L z.1 g z.2) (λz=>z.2.J') (X,dx.init.push x D) ⟨(gv.init g).push t rfl ao N J R Yj q,λm=>One.push J (R.trans m)⟩ ?_;rintro⟨⟨dy,eE,bG,ij,nV,u,e5⟩,s⟩⟨j,U⟩ K i;dsimp only at j U;have nk:=j.W8 d;have vS:=j.Vu d;have qb:=j.W9 d;have zE:=j.W7 d;have adS:=j.Xa;dsimp only[hh,kZ,List.cons_append,List.nil_append];refine ah.fact (hM (f:=cW.c) (v:=nV) (l:=s.fj) cW.len XB) λT=>?_;obtain⟨Y,F,afJ,rfl,Yk⟩:=T;rcases E1 s.fj with k|⟨b,f,k⟩
  .clear i;refine ah.fact (hM (f:=ag.c) (v:=e5) (l:=s.missing) ag.len XB) λT=>?_;obtain⟨Yi,Yh,dA,rfl,Yg⟩:=T;have y:(s.fj.length:Int)=0:=by rw[k];rfl
   rw[k];cases P:s.missing with
   |nil=>
    refine ah.RK ag.c 46 2 ?_;refine aa 43 ?_;all_goals exact⟨_,_,⟨_,_,_,_,_,lZ.of ao N j P k U,rfl,rfl⟩,XC⟩
   |cons n y=>
    refine ah.RK gd.c 98 1 ?_;have J:a8 .gtr (((n::y).length:Nat):Int) 0=some true:=by simp only[a8,dp];congr 1;rw[da];omega
    refine aa 25 ?_;refine ai.v (V.cmp rfl rfl J) ?_;refine aa 4 ?_;refine ah.n' ?_ aA.j.j.j.j.j.j.j.j.j.j.j.d'.j;refine ae 6 0 ?_;refine aa 5 ?_;all_goals exact⟨_,_,⟨_,_,_,_,_,lZ.pt (s:=s) ao N j (by rw[P];simp) U,rfl,(by rw[P])⟩,XC⟩
  .rw[L9]at k;have K:0<s.fj.length:=by rw[k];simp
   cases q:f.l with
   |nil=>
    have r:=agm C w L ⟨dy,eE,bG,ij,.slice Y s.fj.length F,u,e5⟩ g h s b f k q (j.rr.subset P3) ac ac ac;unfold hh kZ at r;dsimp only at r;refine aa 18 ?_;refine Rf λE a p=>?_;rotate_left;have Q:=(by assumption:tT s b f a)
    all_goals exact Out.t' i (E,a) ⟨j.Uf k Q,λm=>(U m).Uf k Q⟩ (dx.Xb k Q)
   |cons y n=>
    obtain⟨l,Z,z,J⟩:=j.qg f P3;have r:=af9 C w L ⟨dy,eE,bG,ij,.slice Y s.fj.length F,u,e5⟩ g h t s b f y n k q l z ac ac ac ac;unfold hh kZ at r;dsimp only at r;refine aa 18 ?_;refine Rf λE a p=>?_;rotate_left;have Q:=(by assumption:vR g s b f y n a)
    all_goals exact Out.t' i (E,a) ⟨j.lp t k q Q,λm=>(U m).lp k q⟩ (dx.Xc t zE k q Q)
 .refine aq 2 λfI=>?_;refine aa 30 ?_;all_goals exact⟨_,_,⟨_,_,[],[],[],lZ.none g x [] (.inr N),rfl,rfl⟩,XC⟩
end Go.Proofs.YteogojgnkjegmaaGreatDoor
namespace Go.Proofs.YteogojgnkjegmaaGreatDoor
open Go.ay Go.Proofs.Tryz
def Al(a:aj)(E:ax)(p:ag->Bool):Prop:=∀x:ag,zY prog a [A x.c] [E] (λr Y=>r=B (p x)/\Y=[E])
def qi(p:ag->Bool)(l:ab ag):Int:=match l.findIdx? p with|some i=>(i:Int)|none=>-1
def Mf{p:ag->Bool}{x:ag}{l:ab ag}{i:Nat}(U:l[i]?=some x)(r:p x=true)(h:∀(j:Nat) (y:ag),j<i->l[j]?=some y->p y=false):qi p l=i:=by obtain⟨F,rfl⟩:=cI.1 U;unfold qi;rw[tD.2 ⟨F,r,λj p=>by rw[h j _ p (gM ac)];decide⟩]
def Mg{p:ag->Bool}{l:ab ag}(h:∀(j:Nat) (y:ag),l[j]?=some y->p y=false):qi p l=-1:=by unfold qi;rw[vt.2];intro y G;obtain⟨j,p⟩:=qZ G;exact h j y p
def Mh(e:ax)(b:aQ Go.Addr)(C F off:Nat)(l:ab ag)(D:Rd e b l.length F off 2 (l.map ag.c))(q:l.length<=1000000)(s:aj)(E:ax)(p:ag->Bool)(u:Al s E p):ar prog 258 [.slice b l.length C,s] [e,E] (λr Y=>r=I (qi p l)/\Y=[e,E]):=by
 refine aB func258 λW=>?_;refine aa 14 ?_;refine ah.cb [7,1,0] (λi:Nat=>i<=l.length/\∀(j:Nat) (y:ag),j<i->l[j]?=some y->p y=false) (λi=>[(8,I (i:Int))]) (λ_=>[]) (λi=>l.length-i) 0 ⟨cw _,λj y h=>absurd h (vr _)⟩ ?_;rintro i⟨ao,M⟩ K a;refine bh ?_;by_cases n:i<l.length
 .obtain⟨y,G⟩:=b8 n;have R:=u y;cases T:p y<;>rw[T]at R
  .refine aa 23 ?_;refine ai.v (V.RP ad rfl D (iM G)) ?_;refine ai.o (aw.RY R rfl rfl XC ?_);refine aa 10 ?_;rotate_left;refine Out.t' a (i+1) ?_ OB;exact ⟨ac,λj z w m=>by
    by_cases t:j=i
    .subst t;rw[G]at m;rw[<-gW m];exact T
    .exact M j z ac m⟩
  .rw[Mf G T M];refine aa 23 ?_;refine ai.v (V.RP ad rfl D (iM G)) ?_;refine ai.o (aw.RY R rfl rfl XC ?_);exact aM 16
 .rw[Mg λj y G=>M j y Z3 G];clear a;exact aM 19
def Am{p:ag->Bool}{l:ab ag}{j:Nat}{y:ag}(h:l[j]?=some y):(l.take (j+1)).filter p=(l.take j).filter p++(if p y then[y]else[]):=by rw[mY,h,mq];congr 1;simp only[u9,wX,List.filter_nil]
def Mi(v:aj)(l:ab ag)(q:l.length<=1000000)(t:aj)(E:ax)(p:ag->Bool)(u:Al t E p):ar prog 226 [v,t] [rows ag.c v 46 2 l,E] (λr Y=>∃n C,r=.slice n (l.filter λx=>!p x).length C/\Y=[rows ag.c (.slice n (l.filter λx=>!p x).length C) 46 2 (l.filter λx=>!p x),E]):=by
 refine aB func226 λW=>?_;refine ah.fact (hM (f:=ag.c) (v:=v) (l:=l) ag.len XB) λR=>?_;obtain⟨n,C,dA,rfl,D⟩:=R;have Q:=Mh _ _ C _ _ l D ac t E p u;cases h:l.findIdx? p with
 |none=>
  have s:qi p l=-1:=by unfold qi;rw[h]
  have J:(l.filter λx=>!p x)=l:=by rw[wW];intro x U;rw[vt.1 h x U];rfl
  rw[s]at Q;rw[J];refine aa 31 ?_;all_goals exact⟨_,_,⟨_,_,rfl,rfl⟩,XC⟩
 |some i=>
  have s:qi p l=(i:Int):=by unfold qi;rw[h]
  obtain⟨ao,Yo,Ye⟩:=tD.1 h;rw[s]at Q;refine ah.fact (hc (f:=ag.c) (v:=.slice n l.length C) (l:=l) XB) λYi=>?_;rcases Yi with⟨_,F⟩|⟨g,jH,d,Yf,Yc⟩
  .subst F;simp at ao
  simp only[rk,true_and]at d;obtain⟨rfl,rfl⟩:=d;clear D;have fS:a8 .eql (i:Int) (-1)=some false:=by simp only[a8];congr 1
  refine aa 18 ?_;refine ai.v (V.cmp rfl rfl fS) ?_;refine aa 14 ?_;have P:l.take i=(l.take (i+1)).filter λx=>!p x:=by
   rw[Am (gM ao),Yo];simp only[yy,hr,ii,dk];rw[wW.2];intro x U;obtain⟨j,b⟩:=qZ U;rw[kC]at b;split at b
   .rename_i Yh;have:=Ye j Yh;rw[gM ac,er]at b;rw[b]at this;simp[this]
   .cases b
  refine ah.cb [1,0] (λz:Nat×Nat×ab ag=>z.2.1+1<=z.1/\z.1<=l.length/\z.2.2.length=l.length/\z.2.2.take z.2.1=((l.take z.1).filter λx=>!p x)/\z.2.2.drop z.1=l.drop z.1) (λz=>[(6,I (z.1:Int)),(5,I (z.2.1:Int))]) (λz=>[rows ag.c (.slice (some ⟨g,0,none⟩) l.length C) 46 2 z.2.2]) (λz=>l.length-z.1) (i+1,i,l) ⟨cl _,ao,rfl,P,rfl⟩ ?_;rintro⟨j,i,N⟩⟨Yn,b,M,Yg,Yj⟩ K w;dsimp only at Yn b M Yg Yj;refine bh ?_;by_cases Z:j<l.length
  .obtain⟨y,G⟩:=b8 Z;have Ym:N[j]?=some y:=by have:=db (λm=>m[0]?) Yj;simp only[lL,gJ]at this;rw[this,G]
   have X:=u y;cases T:p y<;>rw[T]at X
   .refine HP λL=>?_;refine aa 9 ?_;refine ai.v (V.x' ad (k:=i) rfl rfl rfl rfl ac) ?_;refine ai.o (O.F' ad (f:=ag.c) (a:=y) rfl rfl XH M ac ag.len ag.B' ?_);refine aa 14 ?_;rotate_left;refine Out.t' w (j+1,i+1,N.set i y) ?_ NY;exact ⟨by show i+1+1<=j+1;omega,by show j+1<=l.length;omega,XP,by
     rw[Am G,T,<-Yg];simp only[Bool.not_false,hA];rw[mY,List.take_set,kq,aT rfl,aT ac];rw[List.set_eq_of_length_le X4];rfl,by
     show(N.set i y).drop (j+1)=l.drop (j+1)
     rw[List.drop_set,aT ac,<-pO,<-pO,Yj]⟩
   .refine HP λL=>?_;refine aa 12 ?_;rotate_left;refine Out.t' w (j+1,i,N) ?_ NY;exact ⟨by show i+1<=j+1;omega,by show j+1<=l.length;omega,M,by
     show N.take i=_
     rw[Am G,T,<-Yg];simp,by
     show N.drop (j+1)=l.drop (j+1)
     rw[<-pO,<-pO,Yj]⟩
  .clear w;have Yk:j=l.length:=by omega
   subst Yk;rw[hE]at Yg;refine aa 15 ?_;refine ah.cut (f:=ag.c) (l:=N) (cap:=C) i ag.len ac ?_ (cf:=by rw[M];(repeat(first|exact ak.nil|exact al.here|apply ak.cons|apply al.there)));rw[<-Yg];have Yl:(N.take i).length=i:=X4
   generalize N.take i=jS at*;subst Yl;refine aa 4 ?_;refine ai.v (V.Sf ad (i:=jS.length) rfl rfl ac) ?_;refine ai.o (O.T0 ad rfl XQ ac ac ac ?_);refine aa 6 ?_;refine ai.v (V.SW ad (j:=jS.length) rfl rfl ac) ?_;refine aa 5 ?_;all_goals exact⟨_,_,⟨_,_,rfl,rfl⟩,XC⟩
end Go.Proofs.YteogojgnkjegmaaGreatDoor
namespace Go.Proofs.YteogojgnkjegmaaGreatDoor
open Go.ay Go.Proofs.Tryz
variable[Go.ay.bR]
abbrev vT:aJ Bool->ag->aJ Bool:=λp x=>p.set x true
def ace{p:aJ Bool}(h:p.ok)(Z:ab ag):(Z.foldl vT p).ok:=(bj.T7 (g:=⟨aJ.new 0,p⟩) ⟨aJ.R8 0,h⟩ Z).d
def ae6{p:aJ Bool}{l:ab ag}{k:Nat}{y:ag}(h:l[k]?=some y):(l.take (k+1)).foldl vT p=((l.take k).foldl vT p).set y true:=by rw[mY,h,tx];rfl
def Ml(w:Nat)(L:g3)(g:bj)(h:g.ok)(e:ax)(m:aQ Go.Addr)(R F off:Nat)(l:ab ag)(q:Rd e m l.length F off 2 (l.map ag.c))(E:l.length<=1000000):ar prog 225 [au w 0,.slice m l.length R] (hH w L g++[e]) (λr Y=>∃n:g3,r=.tuple #[]/\Y=hH w n (g.gD l)++[e]):=by
 obtain⟨i,f,C,D⟩:=L;unfold hH bj.gD;refine bh ?_;refine aB func225 λW=>?_;refine aa 8 ?_;refine ah.cb [7,6,0] (λz:Nat×nb=>z.1<=l.length) (λz=>[(8,I (z.1:Int))]) (λz=>[vs f z.2 ((l.take z.1).foldl vT g.done)]) (λz=>l.length-z.1) (0,D) (cw _) ?_;rintro⟨k,Q⟩ T K a;dsimp only at T;refine bh ?_;by_cases b:k<l.length
 .obtain⟨y,G⟩:=b8 b;have p:=Ju f Q ((l.take k).foldl vT g.done) y true (ace h.d _).towf;rw[<-ae6 G]at p;refine aa 14 ?_;refine ai.v (V.RP ad rfl q (iM G)) ?_;refine aq 0 λX=>?_;refine aa 10 ?_;refine ah.n' ?_ aA.j.j.d'.j.d';refine ae 5 0 ?_;refine af.o' 5 rfl rfl (p) ?_;rintro _ _⟨U,rfl,rfl⟩;refine aa 9 ?_;rotate_left;refine Out.t' a (k+1,U) ?_ Ht;exact (by show k+1<=l.length;omega)
 .obtain rfl:k=l.length:=by omega
  clear a;rw[hE];refine aa 12 ?_;all_goals exact⟨_,_,⟨⟨i,f,C,Q⟩,rfl,rfl⟩,XC⟩
def Mm(w:Nat)(L:g3)(g:bj)(h:g.ok)(e:ax)(m:aQ Go.Addr)(C U off:Nat)(l:ab ag)(T:Rd e m l.length U off 2 (l.map ag.c))(E:l.length<=1000000):ar prog 225 [au w 0,.slice m l.length C] [g4 w L g,e] (λr Y=>∃b:g3,r=.tuple #[]/\Y=[g4 w b (g.gD l),e]):=by refine ar.eqv (aL.aI.append (aL.refl [e])) (Ml w L g h e m C U off l T E) ?_;rintro r Y⟨b,F,rfl⟩;exact⟨_,⟨b,F,rfl⟩,(aL.aI.append (aL.refl [e])).symm⟩
def An(x y:ag):Int:=if pd x y=true then-1 else if x=y then 0 else 1
def Ao(x y:ag):Int:=if pd x y=true then-1 else 1
def ad2(x y:ag):ar prog 108 [A x.c,A y.c] [] (λr Y=>r=I (An x y)/\Y=[]):=by
 have b (k:Nat):=ag.P' x y k;have o:=zd x y;unfold An;cases E:pd x y<;>rw[E]at o
 .by_cases p:x=y
  .rw[iE p]at b;rw[aT p];refine aB func108 λW=>?_;refine aq 2 λo=>?_;refine aq 0 λa=>?_;refine aa 18 ?_;refine ai.v (V.eq (b _)) ?_;exact aM 13
  .rw[kc p]at b;rw[aN p];refine aB func108 λW=>?_;refine aq 2 λo=>?_;refine aq 0 λa=>?_;refine aa 18 ?_;refine ai.v (V.eq (b _)) ?_;exact aM 14
 .refine aB func108 λW=>?_;refine aq 2 λo=>?_;refine aq 0 λa=>?_;exact aM 23
def agp(x y:ag):ar prog 165 [A x.c,A y.c] [] (λr Y=>r=I (Ao x y)/\Y=[]):=by
 have o:=zd x y;unfold Ao;cases E:pd x y<;>rw[E]at o
 .refine aB func165 λW=>?_;refine aq 2 λo=>?_;refine aq 0 λa=>?_;exact aM 21
 .refine aB func165 λW=>?_;refine aq 2 λo=>?_;refine aq 0 λa=>?_;exact aM 20
def ae7(E:ax):kW (.func (.func 108) #[] #[]) E An:=λx y=>⟨108,[],[],rfl,XD,ar.post (ar.frame (bc:=[E]) (ad2 x y)) Kw⟩
def Mq(E:ax):kW (.func (.func 165) #[] #[]) E Ao:=λx y=>⟨165,[],[],rfl,XD,ar.post (ar.frame (bc:=[E]) (agp x y)) Kw⟩
def afV(w:Nat)(L:g3)(g:bj)(h:g.ok):Al (.func (.func 222) #[au w 0] #[]) (g4 w L g) g.over:=λx=>
 ⟨222,[au w 0],[],rfl,XD,DN w L g h x⟩
structure cQ where
 g:bj
 done:ab ag
 cF:ab ag
structure ke where
 nX:Nat
 L:g3
 vU:aj
 dH:aj
def jw(f:Nat)(X:ke)(s:cQ):ab ax:=[cells f 207 (nG.c ⟨au X.nX 0,X.vU,X.dH⟩),g4 X.nX X.L s.g,rows ag.c X.vU 46 2 s.done,rows ag.c X.dH 46 2 s.cF]
def i0(f:Nat)(X:ke)(s:cQ):ax:=aI (jw f X s)
def cQ.new(n:Int):cQ:=⟨bj.new n,[],[]⟩
def Ms(n:Int):ar prog 75 [I n] [] (λr Y=>∃f X,r=au f 0/\Y=[i0 f X (cQ.new n)]):=by
 have a:=aci n;have h:ar prog 75 [I n] [] (λr Y=>∃z:Nat×ke,r=au z.1 0/\Y=jw z.1 z.2 (cQ.new n)):=by unfold jw cQ.new;refine aB func75 λW=>?_;refine ah.RK ag.c 46 2 ?_;refine ah.RK ag.c 46 2 ?_;refine aa 9 ?_;rintro _ _⟨p,j,rfl,rfl⟩;refine aq 2 λC=>?_;refine aa 5 ?_;all_goals exact⟨_,_,⟨(_,⟨_,_,_,_⟩),rfl,rfl⟩,XC⟩
 refine ar.post h ?_;rintro r Y⟨⟨f,X⟩,rfl,rfl⟩;exact⟨_,⟨f,X,rfl,rfl⟩,λ_ _ _ h=>h.toBag⟩
def cQ.S8(s:cQ)(x:ag)(c:aV)(z:cQ):Prop:=z.g=s.g.R2 x c/\z.done=s.done/\(if s.g.Sm x c then z.cF.Perm (s.cF++[x])else z.cF=s.cF)
def E5(j:Nat)(X:ke)(s:cQ)(h:s.g.ok)(E:s.cF.length<=1000)(x:ag)(c:aV):ar prog 77 [au j 0,A x.c,A c.c] [i0 j X s] (λr Y=>∃z:ke×cQ,(r=B (s.g.Sm x c)/\s.S8 x c z.2)/\Y=[i0 j z.1 z.2]):=by
 refine ar.Vm (T:=λz:ke×cQ=>jw j z.1 z.2) ?_;obtain⟨w,L,i,P⟩:=X;obtain⟨g,done,o⟩:=s;dsimp only at h E;have K:=JJ w L g h x c;unfold jw cQ.S8;dsimp only;refine aB func77 λW=>?_;cases U:g.Sm x c<;>rw[U]at K
 .refine KD λF C=>?_;refine M5 λq=>?_;refine aa 11 ?_;all_goals exact⟨_,_,⟨(⟨w,_,i,P⟩,⟨_,done,o⟩),⟨rfl,rfl,rfl,XE⟩,rfl⟩,XC⟩
 .refine KD λF C=>?_;refine M5 λq=>?_;refine aa 6 ?_;refine ah.RN [10] ?_ aA.j.j.d'.d'.j.j aA.j.j.j.d'.j.j;refine P2 ?_;refine af.p' 6 rfl (O.N' ad ag.c [x] rfl (bx.agg rfl bx.nil) rfl rfl (λp=>?_));refine av ?_;refine af.p' 7 rfl (O.SC ad rfl rfl XJ (ce.rows (l:=[x]) ad XB ag.B') (λN m y=>?_));refine av ?_;refine ae 2 8 ?_;refine af.l 10 rfl (O.G' ad ?_);refine aa 3 ?_;have d:(o++[x]).length=o.length+1:=by simp
  refine ah.fact (hc (f:=ag.c) (v:=N) (l:=o++[x]) XB) λn=>?_;rcases n with⟨_,k⟩|⟨M,Z,rfl,R,J⟩
  .simp at k
  have r:=z2 M Z (o++[x]) ac (g4 w q (g.R2 x c)) _ _ (ae7 _);unfold dV at r;dsimp only;refine aa 7 ?_;rintro _ _⟨U,R,rfl,rfl⟩;refine aa 10 ?_;all_goals exact⟨_,_,⟨(⟨w,q,i,.slice (some ⟨M,0,none⟩) (o++[x]).length Z⟩,⟨g.R2 x c,done,U⟩),⟨rfl,rfl,rfl,XF⟩,rfl⟩,XC⟩
def cQ.fin(s:cQ)(l:ab ag):cQ:=⟨s.g.gD l,s.done++l,s.cF.filter λx=>!(s.g.gD l).over x⟩
def afb(f:Nat)(X:ke)(s:cQ)(h:s.g.ok)(Z:s.cF.length<=1000)(b:s.done.length<=1000)(e:ax)(m:aQ Go.Addr)(C F off:Nat)(l:ab ag)(T:Rd e m l.length F off 2 (l.map ag.c))(E:l.length<=1000000)(y:0<l.length):ar prog 160 [au f 0,.slice m l.length C] (jw f X s++[e]) (λr Y=>∃G,r=.tuple #[]/\Y=jw f G (s.fin l)++[e]):=by obtain⟨w,L,i,P⟩:=X;obtain⟨g,done,o⟩:=s;dsimp only at h Z b;have x:=Mm w L g h e m C F off l T E;have z:=bj.T7 h l;unfold jw cQ.fin;refine bh ?_;refine aB func160 λW=>?_;have L (b:g3):=Mi P o ac (.func (.func 222) #[au w 0] #[]) (g4 w b (g.gD l)) (g.gD l).over (afV w b _ z);refine aa 8 ?_;rintro _ _⟨J,rfl,rfl⟩;refine aa 11 ?_;refine ai.o (O.SC ad rfl rfl XJ (ce.rd ad T XB ag.B' ag.len y) (λs m b=>?_));refine aa 5 ?_;refine ah.RN [13] ?_ aA.j.j.d'.j.j aA.j.j.j.j.j;refine ae 4 0 ?_;refine ae 3 5 ?_;refine af.t 4 rfl (V.y' ad) ?_;refine af.t 8 rfl (V.y' ad) ?_;refine af.i' 9 rfl (V.qL) ?_;refine af.o' 10 rfl rfl (L _) ?_;rintro _ _⟨b,n,rfl,rfl⟩;refine aa 2 ?_;refine ae 2 11 ?_;refine af.l 13 rfl (O.G' ad ?_);refine aa 3 ?_;all_goals exact⟨_,_,⟨⟨w,J,_,_⟩,rfl,rfl⟩,XC⟩
end Go.Proofs.YteogojgnkjegmaaGreatDoor
