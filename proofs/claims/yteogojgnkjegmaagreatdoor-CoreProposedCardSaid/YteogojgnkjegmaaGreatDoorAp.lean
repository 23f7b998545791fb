/-
 Part of the proof.
-/
import Derived.Test.YteogojgnkjegmaaGreatDoorAo
set_option linter.all false
set_option maxRecDepth 8000
set_option maxHeartbeats 8000000
namespace Go.Proofs.YteogojgnkjegmaaGreatDoor
open Go.ay Go.Proofs.Tryz
variable[Go.ay.b4]
def Rd.suffix{e:ax}{m:aT Go.Addr}{len b off D i E:Nat}{Z:ab (ab aj)}(h:Rd e m len b off D Z)(ao:i<=len)(q:len<=E):Rd e (Go.ay.partAt m E i D) (len-i) b (off+i*D) D (Z.drop i):=by
 refine⟨by rw[k9,h.length],jy (Nat.sub_le _ _) h.small,λz=>?_,λw n j x U=>?_⟩
 .rw[h.addr ac];unfold Go.ay.partAt;rw[aM ac];simp[Go.Addr.add_mid]
 .rw[mY]at U;obtain⟨Y,N⟩:=h.reads w n (i+j) x U;refine⟨Y,λk u R=>?_⟩;have:=N k u R;rw[fr]at this;rwa[show off+i*D+j*D+k=off+(i*D+j*D)+k by omega]
def acI(e:ax)(m:aT Go.Addr)(E K off:Nat)(l:ab ag)(f:Rd e m l.length K off 2 (l.map ag.c))(T:l.length<=1000000)(o:0<l.length):ar prog 158 [.slice m l.length E] [e] (λr J=>∃g c,r=.slice (some ⟨g,0,none⟩) l.length c/\J=[rows ag.c (.slice (some ⟨g,0,none⟩) l.length c) 46 2 l,e]):=by
 refine ar.UB (F3 e m E K off l f T) ?_;rintro v J W D w⟨_,rfl,rfl⟩ a;rcases hW (aF _) w a with⟨_,Y⟩|⟨g,c,rfl,_⟩
 .subst Y;simp at o
 .exact⟨_,⟨g,c,rfl,rfl⟩,a⟩
def aib(s:Nat)(L:hN)(g:bs)(h:g.ok):mc (.func (.func 273) #[aw s 0] #[]) (hO s L g) g.Ww:=λx y=>
 ⟨273,[aw s 0],[],rfl,T7,agZ s L g h x y⟩
def dY.part(s:dY)(k:Nat)(C:gN)(on:ab (ag×Bool)):dY:={s with stack:=s.stack.take k,on:=on,parts:=s.parts++[C],g:=(.slice C.cV C.l.length C.cap,C.l)::s.g}
def aiu{x:ag}{l:ab ag}(h:x∈l):∃k,qG x l=((k:Nat):Int)/\l[k]?=some x:=by
 unfold qG;cases k:l.findIdx? (λy=>decide (y=x))with
 |none=>
  rw[xp]at k;have:=k x h;simp at this
 |some i=>
  obtain⟨Y,N,_⟩:=vv.1 k;have:l[i]=x:=by simpa using N
  exact⟨i,rfl,by rw[<-this];exact hs Y⟩
def ON(M J:Nat)(L:hN)(X:rG)(g:bs)(h:g.ok)(x:ag)(s:dY)(b3:x∈s.stack)(bY:s.stack.length<=1000)(cd:s.parts.length<=1000):ar prog 256 [aw M 0,A x.c] (h2 M J L X g s) (λr Z=>∃vK k dA on,s.stack[k]?=some x/\dA.l.Perm (s.stack.drop k)/\kZ (c8 (s.part k dA on).g) dA.cV dA.l/\r=.tuple #[]/\Z=h2 M J L vK g (s.part k dA on)):=by
 have mN:=aib J L g h;obtain⟨R,u,bW,cF,q,dH,fx⟩:=X;obtain⟨b,F,on,Y,n,P,N,d⟩:=s;dsimp only at b3 bY cd;obtain⟨k,cc,Yr⟩:=aiu b3;have Yj:k<Y.length:=(cT.1 Yr).1;have Yc:ar prog 256 [aw M 0,A x.c] (h2 M J L ⟨R,u,bW,cF,q,dH,fx⟩ g ⟨b,F,on,Y,n,P,N,d⟩)
   (λr Z=>∃G Q U E T p,T.Perm (Y.drop k)/\r=.tuple #[]/\Z=rows ag.c (.slice U T.length E) 46 2 T::h2 M J L ⟨R,u,bW,G,q,Q,fx⟩ g ⟨b,F,p,Y.take k,n,P++[⟨U,E,T⟩],N,d⟩):=by
  unfold h2 me at*
  dsimp only at*
  refine aE func256 λW=>?_
  refine ah.fact (hW (f:=ag.c) (v:=cF) (l:=Y) T1) λt=>?_
  rcases t with⟨_,bg⟩|⟨ua,m,rfl,Yh,Yf⟩
  .subst bg;simp at Yj
  have ew:Rd (rows ag.c (.slice (some ⟨ua,0,none⟩) Y.length m) 46 2 Y) (some ⟨ua,0,none⟩) Y.length ua 0 2 (Y.map ag.c):=Rd.rows ag.len ac
  have ib:=F4 _ _ m _ _ Y x ew ac
  rw[cc]at ib
  have Ym:(Y.drop k).length=Y.length-k:=k9
  have Yl:=Rd.suffix (i:=k) ew ac Yh
  rw[<-List.map_drop,<-Ym]at Yl
  have Yp:=acI _ _ (m-k) _ _ (Y.drop k) Yl ac ac
  rw[Ym]at Yp
  refine aq 2 λgq=>?_
  refine aa 3 ?_
  refine ah.n' ?_ aB.d'.d'.d'.d'.d'.d'.d'.d'.d'.d'.d'
  refine ae 5 0 ?_
  refine af.p' 5 rfl rfl (ib) ?_
  refine aa 2 ?_
  refine ae 1 6 ?_
  refine aa 9 ?_
  refine ai.v (V.UU ad (i:=k) rfl rfl ac) ?_
  refine au ?_
  rintro _ _⟨Yq,Ys,rfl,rfl⟩
  refine aa 12 ?_
  refine ai.v (V.VE ad (j:=k) rfl rfl ac) ?_
  refine aa 6 ?_
  refine ah.cut (f:=ag.c) (l:=Y) (cap:=m) k ag.len ac ?_
  have Yi:(Y.take k).length=k:=Mt
  have Ye:0<(Y.drop k).length:=ac
  generalize Yn:Y.drop k=z at*
  dsimp only
  rw[<-Ym]
  refine aa 8 ?_
  refine ah.cp [30,31,5,0] (λy:Nat×ab (ag×Bool)=>y.1<=z.length) (λy=>[(32,I (y.1:Int))]) (λy=>[bz cg iX bW y.2]) (λy=>z.length-y.1) (0,on) (cO _) ?_
  rintro⟨j,Yt⟩ dR K cA
  dsimp only at dR
  refine bl ?_
  by_cases Yk:j<z.length
  .obtain⟨y,fy⟩:=cl Yk
   refine aa 13 ?_
   refine ai.v (V.B' ad (k:=j) rfl rfl rfl rfl ac) ?_
   refine ai.v (V.H' ad rfl T1 ag.len fy) ?_
   refine aq 0 λmE=>?_
   refine aa 3 ?_
   refine ah.n' ?_ aB.j.j.j.j.j.j.j.d'.j.j.j.j.d'
   refine ae 5 0 ?_
   refine af.q' 5 rfl (av.UC (l:=Yt) (k:=y) (v:=false) (b1:=cg) (aU:=iX) ct vJ rfl rfl rfl T2 ?_)
   refine aa 8 ?_
   rotate_left
   all_goals exact Out.z' cA (j+1,_) SB (by show z.length-(j+1)<z.length-j;omega)
  .clear cA
   have hJ:=Ca Yq Ys z ac (hO J L g) _ _ mN
   unfold eB at hJ
   refine aa 21 ?_
   rintro _ _⟨Yu,Yg,rfl,rfl⟩
   refine aq 10 λYo=>?_
   have C:=(by assumption:List.Perm _ z)
   rw[<-C.length_eq]
   dsimp only
   refine ai.o (O.Vj ad rfl rfl T8 (cq.one (a:=(⟨some ⟨Yq,0,none⟩,Ys,_⟩:gN)) ad T1 gN.F') (λYx Yv Yw=>?_))
   refine aa 5 ?_
   exact⟨_,_,⟨_,_,_,_,_,_,C,rfl,rfl⟩,Uc⟩
 refine ar.UB Yc ?_;rintro v Z W D w⟨G,Q,U,E,T,p,C,rfl,rfl⟩ cy;have h:H W D (h2 M J L ⟨R,u,bW,G,q,Q,fx⟩ g (dY.part ⟨b,F,on,Y,n,P,N,d⟩ k ⟨U,E,T⟩ p)) w:=by
  unfold h2 at cy⊢;have bY:=cy.perm (a2:=[cells M 343 (me J ⟨R,u,bW,G,q,Q,fx⟩),hO J L g,bz cg fl R b,bz cg fl u F,bz cg iX bW p,rows ag.c G 46 2 (Y.take k),rows dh.c q 375 3 n,rows gN.c Q 98 1 (P++[⟨U,E,T⟩]),rows ag.c fx 46 2 N]++[rows ag.c (.slice U T.length E) 46 2 T,c8 d]) (by simp only[ly,gJ];exact l3 (n8 (l₁:=[_,_,_,_,_,_,_,_,_]) (a:=rows ag.c (.slice U T.length E) 46 2 T) (l₂:=[c8 d])).symm (he _))
  exact bY.eqv ((aO.refl _).append (c8.cons (.slice U T.length E,T) d).symm)
 refine⟨_,⟨⟨R,u,bW,G,q,Q,fx⟩,k,⟨U,E,T⟩,p,Yr,C,?_,rfl,rfl⟩,h⟩;exact kZ.here (an:=h2 M J L ⟨R,u,bW,G,q,Q,fx⟩ g (dY.part ⟨b,F,on,Y,n,P,N,d⟩ k ⟨U,E,T⟩ p)) KN w h
def rH(F:ab (ag×Int))(P:ab dh)(x:ag):ab (ag×Int):=match P.getLast? with|none=>F|some up=>bx F up.item (Min.min (bS F up.item) (bS F x))
def vL(s:dY)(P:ab dh)(f:dh)(d:dY):Prop:=
 (bS (rH s.low P f.item) f.item≠bS s.idx f.item/\d={s with fK:=P,low:=rH s.low P f.item})\/
 (bS (rH s.low P f.item) f.item=bS s.idx f.item/\∃k C on,s.stack[k]?=some f.item/\C.l.Perm (s.stack.drop k)/\kZ (c8 ((.slice C.cV C.l.length C.cap,C.l)::s.g)) C.cV C.l/\d=({s with fK:=P,low:=rH s.low P f.item}:dY).part k C on)
def ajw(y D:Nat)(L:hN)(X:rG)(g:bs)(h:g.ok)(s:dY)(P:ab dh)(f:dh)(eh:s.fK=P++[f])(dz:f.l=[])(Q:f.item∈s.stack)(E:s.fK.length<=1000)(bY:s.stack.length<=1000)(cd:s.parts.length<=1000):ar prog 224 [aw y 0] (h2 y D L X g s) (λr q=>∃vK cE,vL s P f cE/\r=.tuple #[]/\q=h2 y D L vK g cE):=by
 obtain⟨bt,Z,bW,cF,G,dH,fx⟩:=X;obtain⟨w,F,on,i,n,p,N,Cn⟩:=s;dsimp only at eh Q E bY cd;subst eh;obtain⟨U,J,Y,rI⟩:=f;dsimp only at dz Q;subst dz;have u:(P++[(⟨U,J,Y,[]⟩:dh)]).length=P.length+1:=T3
 have T:(P++[(⟨U,J,Y,[]⟩:dh)])[P.length]?=some ⟨U,J,Y,[]⟩:=T3
 have Ye:(P++[(⟨U,J,Y,[]⟩:dh)]).take P.length=P:=T3
 have M:(((P.length+1:Nat):Int)-1)=((P.length:Nat):Int):=ac
 have Yg (x:ab (ag×Int)) (G:aj):=ON y D L ⟨bt,Z,bW,cF,G,dH,fx⟩ g h U ⟨w,x,on,i,P,p,N,Cn⟩ Q bY cd;unfold vL;unfold h2 me at*;dsimp only at*;refine aE func224 λW=>?_;refine ah.fact (hW (f:=dh.c) (v:=G) (l:=P++[⟨U,J,Y,[]⟩]) T1) λz=>?_;rcases z with⟨_,E⟩|⟨K,md,rfl,m,Yc⟩
 .simp at E
 rw[u]at m⊢;refine au ?_;refine ah.n' ?_ aB.d'.d'.d'.d'.d'.d'.d'.d'.d'.d';refine ae 9 0 ?_;refine af.i' 9 rfl (V.Y' M rfl rfl ac) ?_;refine af.i' 10 rfl (V.B' ad (k:=P.length) rfl rfl rfl rfl ac) ?_;refine ae 1 11 ?_;refine aa 8 ?_;refine ai.v (V.VF ad (k:=P.length) (o:=2) rfl T1 dh.len T) ?_;refine aa 10 ?_;refine ai.v (V.Vn ad (k:=P.length) (o:=0) (show some (aw K (P.length*3))=some (aw K (0+P.length*3+0)) by rw[h8,ho]) T1 dh.len T (c:=U.c) (z:=⟨rfl⟩)) ?_;refine aq 0 λgq=>?_;refine aa 4 ?_;refine ah.Uv [14] ?_ aB.j.j.j.j.j.j.j.j.j.d'.j aB.j.j.j.j.j.j.j.j.j.j.j;refine ae 4 0 ?_;refine ae 3 5 ?_;refine NI ?_;refine ae 1 9 ?_;refine af.i' 10 rfl (V.Y' M rfl rfl ac) ?_;refine af.i' 11 rfl (V.VE ad (j:=P.length) rfl rfl ac) ?_;refine ae 2 12 ?_;refine af.l 14 rfl (O.K' ad ?_);refine aa 3 ?_;rotate_left;refine ah.cut (f:=dh.c) (l:=P++[⟨U,J,Y,[]⟩]) (cap:=md) P.length dh.len ac ?_ (b7:=by rw[u];(repeat(first|exact ak.nil|exact al.here|apply ak.cons|apply al.there)));rw[Ye];dsimp only;refine ah.mt [0,3] (λ_:Unit=>True) (λ_=>[]) (λ_=>[bz cg fl Z (rH F P U)]) (i:=[bz cg fl Z F]) ?_ ?_
 .intro fM a;rcases Hp P with rfl|⟨C,up,rfl⟩
  .refine aa 12 ?_;exact Out.z' a () trivial trivial
  .rw[OP]at*;have b:(C++[up])[C.length]?=some up:=by simp
   have R:(C++[up]).length=C.length+1:=T3
   have d:(((C.length+1:Nat):Int)-1)=((C.length:Nat):Int):=ac
   have Yf:rH F (C++[up]) U=bx F up.item (Min.min (bS F up.item) (bS F U)):=by unfold rH;rw[List.getLast?_concat]
   rw[Yf]at a;rw[R]at a⊢;refine aa 12 ?_;refine ah.n' ?_ aB.d'.d'.d'.d'.d'.d'.d'.d'.d'.j.d';refine ae 9 0 ?_;refine af.i' 9 rfl (V.Y' d rfl rfl ac) ?_;refine af.i' 10 rfl (V.B' ad (k:=C.length) rfl rfl rfl rfl ac) ?_;refine ae 1 11 ?_;refine af.i' 12 rfl (V.Vn ad (k:=C.length) (o:=0) (show some (aw K (C.length*3))=some (aw K (0+C.length*3+0)) by rw[h8,ho]) T1 dh.len b (c:=up.item.c) (z:=⟨rfl⟩)) ?_;refine df 13 λfT=>?_;refine ae 1 14 ?_;refine aa 2 ?_;refine ah.n' ?_ aB.j.j.j.j.j.j.j.j.d'.d'.j.d';refine ae 10 0 ?_;refine ae 5 11 ?_;refine af.bv 10 16 rfl rfl ?_ ?_;refine av.x' (aK.UD (l:=F) (k:=up.item) (aU:=fl) 0 ct gG iB rfl rfl T1) ?_;refine au ?_;refine af.q' 16 rfl (av.x' (aK.UD (l:=F) (k:=U) (aU:=fl) 0 ct gG iB rfl rfl T1) ?_);refine MW ?_;rotate_left;refine av.x' (aK.UD (l:=F) (k:=U) (aU:=fl) 0 ct gG iB rfl rfl T1) ?_;refine au ?_;refine af.q' 10 rfl (av.x' (aK.UD (l:=F) (k:=up.item) (aU:=fl) 0 ct gG iB rfl rfl T1) ?_);refine MW ?_;rotate_left;all_goals exact Out.z' a () trivial trivial
 rintro⟨⟩-;refine bl ?_;generalize rH F P U=x at*;by_cases q:bS x U=bS w U
 .have T:=Yg x (.slice (some ⟨K,0,none⟩) P.length md);refine Qv ?_ ?_;refine aa 7 ?_;rintro _ _⟨D,G,R,f,r,s,u,rfl,rfl⟩;refine aa 6 ?_;rotate_left;refine Tg ?_;refine aa 7 ?_;rintro _ _⟨t,g,d,o,W,z,J,rfl,rfl⟩;refine aa 6 ?_;rotate_left;all_goals exact⟨_,_,⟨_,_,.inr ⟨q,_,_,_,TX,TX,TX,rfl⟩,rfl,rfl⟩,Uc⟩
 .refine Qv ?_ ?_;refine aa 8 ?_;rotate_left;refine Tg ?_;refine aa 8 ?_;rotate_left;all_goals exact⟨_,_,⟨⟨bt,Z,bW,cF,_,dH,fx⟩,_,.inl ⟨q,rfl⟩,rfl,rfl⟩,Uc⟩
end Go.Proofs.YteogojgnkjegmaaGreatDoor
namespace Go.ay
open Go
variable[Go.ay.b4]
section
variable{P:bU}{r:aT Nat}{W:aZ}{D:ab Nat}{n:dq}{Q:cU}{Y:bC}{N:ab ax}{Z:Nat}{F:a7}{J:String}{K:Array Edge}{X:aT (Nat×Bool)}{M C:Type}[DecidableEq M]{U:M->aj}{aU:C->aj}{T:a7}{l:ab (M×C)}
def aK.UK{t e:a7}{x y:bf}{b:Nat}{k:M}(L:C)(m:ht P T U)(j:hv P t T e=true)(v:∀w,(zeroValue e).run P w=.ok (aU L) w) (u:aR Y x=some (.map (some b))) (q:aR Y y=some (U k)) (E:bz U aU b l∈N):aK P n Y N ⟨some Z,.lookup t x y true,F,J,K,X⟩ (.tuple #[aU ((a8 l k).getD L),.bool (a8 l k).isSome]):=by
 have h:=aK.aaO (P:=P) (n:=n) (am:=Y) (an:=N) (dst:=Z) (ba:=F) (bb:=J) (bc:=K) (aV:=X) (l:=l) (k:=k) m j v u q E;cases G:a8 l k with
 |none=>rw[G]at h;exact h
 |some v=>rw[G]at h;exact h
def aK.Vs{t e:a7}{x y:bf}{b:Nat}{k:M}(L:C){o:aT C}(p:a8 l k=o)(m:ht P T U)(j:hv P t T e=true)(v:∀w,(zeroValue e).run P w=.ok (aU L) w) (u:aR Y x=some (.map (some b))) (q:aR Y y=some (U k)) (E:bz U aU b l∈N):aK P n Y N ⟨some Z,.lookup t x y true,F,J,K,X⟩ (.tuple #[aU (o.getD L),.bool o.isSome]):=by subst p;exact aK.UK L m j v u q E
end
end Go.ay
namespace Go.Proofs.YteogojgnkjegmaaGreatDoor
open Go.ay Go.Proofs.Tryz
variable[Go.ay.b4]
variable{low F:ab (ag×Int)}{m:aT Go.Addr}
def dh.next(f:dh)(i:ab ag):dh:=⟨f.item,Go.ay.partAt f.cV f.cap 1 2,f.cap-1,i⟩
variable{P:ab dh}
def xJ(g:bs)(s:dY)(j:ab dh)(f:dh)(y:ag)(i:ab ag)(d:dY):Prop:=
 (g.is y=false/\d={s with fK:=j++[f.next i],missing:=if y∈s.missing then s.missing else s.missing++[y]})\/
 (g.is y=true/\a8 s.idx y=none/\∃z,z.item=y/\z.l=g.waits y/\z.l.length<=z.cap/\kZ (c8 ((.slice z.cV z.l.length z.cap,z.l)::s.g)) z.cV z.l/\d=({s with fK:=j++[f.next i]}:dY).push y z)\/
 (g.is y=true/\a8 s.idx y≠none/\∃x,d={s with fK:=j++[f.next i],low:=x})
def ad8(pW pp:Nat)(L:hN)(X:rG)(g:bs)(h:g.ok)(bF:g.g1)(s:dY)(j:ab dh)(f:dh)(y:ag)(u:ab ag)(eh:s.fK=j++[f])(dz:f.l=y::u)(Ym:f.l.length<=f.cap)(Yn:kZ (c8 s.g) f.cV f.l)(eE:s.idx.length<=1000)(bg:s.fK.length<=1000)(bY:s.stack.length<=1000)(cd:s.missing.length<=1000):ar prog 224 [aw pW 0] (h2 pW pp L X g s) (λr Yc=>∃vK cE,xJ g s j f y u cE/\r=.tuple #[]/\Yc=h2 pW pp L vK g cE):=by
 obtain⟨bt,e3,bW,cF,pk,dH,fx⟩:=X;obtain⟨w,d,on,Yh,Yl,m,E,Cn⟩:=s;dsimp only at eh eE bg bY cd Yn;subst eh;obtain⟨q,G,x,rI⟩:=f;dsimp only at dz Ym Yn;subst dz;obtain⟨ee,aca,ew⟩:=Yn;have Yk:(j++[(⟨q,G,x,y::u⟩:dh)]).length=j.length+1:=T3
 rw[Yk]at bg;have t:(j++[(⟨q,G,x,y::u⟩:dh)])[j.length]?=some ⟨q,G,x,y::u⟩:=T3
 have Yj:(j++[(⟨q,G,x,y::u⟩:dh)]).set j.length ⟨q,Go.ay.partAt G x 1 2,x-1,u⟩=j++[⟨q,Go.ay.partAt G x 1 2,x-1,u⟩]:=T3
 have R:(j++[(⟨q,Go.ay.partAt G x 1 2,x-1,u⟩:dh)])[j.length]?=some ⟨q,Go.ay.partAt G x 1 2,x-1,u⟩:=T3
 have Yi:(((j.length+1:Nat):Int)-1)=((j.length:Nat):Int):=ac
 have Yo:((y::u).map ag.c)[0]?=some y.c:=rfl;have p:=F8 pp L g h y;have Yt (pk:aj):=Ho pW pp L ⟨bt,e3,bW,cF,pk,dH,fx⟩ g h bF y ⟨w,d,on,Yh,j++[⟨q,Go.ay.partAt G x 1 2,x-1,u⟩],m,E,Cn⟩ eE bY (by rw[b2];exact bg);unfold xJ dh.next;unfold h2 me at*;dsimp only at*;refine aE func224 λW=>?_;refine ah.fact (hW (f:=dh.c) (v:=pk) (l:=j++[⟨q,G,x,y::u⟩]) T1) λYg=>?_;rcases Yg with⟨_,mP⟩|⟨z,md,rfl,Yf,Ye⟩
 .simp at mP
 rw[Yk]at Yf⊢;refine ah.fact (iD (f:=ag.c) (v:=fx) (l:=E) ag.len T1) λdO=>?_;obtain⟨Yr,Yq,eb,rfl,Yp⟩:=dO;have b:=F5 _ _ Yq _ _ E y Yp ac;have gC:bd .eql (((y::u).length:Nat):Int) 0=some false:=by simp only[bd,dD];congr 1
 refine au ?_;refine ah.n' ?_ aB.d'.d'.d'.d'.d'.d'.d'.d'.d'.d';refine ae 9 0 ?_;refine af.i' 9 rfl (V.Y' Yi rfl rfl ac) ?_;refine af.i' 10 rfl (V.B' ad (k:=j.length) rfl rfl rfl rfl ac) ?_;refine ae 1 11 ?_;refine aa 8 ?_;refine ai.v (V.VF ad (k:=j.length) (o:=2) rfl T1 dh.len t) ?_;refine au ?_;refine ai.v (V.cmp rfl rfl gC) ?_;refine aa 10 ?_;refine ai.v (V.VF ad (k:=j.length) (o:=2) rfl T1 dh.len t) ?_;refine ai.v (V.Vm ad (k:=0) rfl rfl ew (z:=T3)) ?_;refine ai.v (V.Ux ad rfl ew Yo) ?_;refine aq 0 λl5=>?_;refine aa 9 ?_;refine ai.v (V.VF ad (k:=j.length) (o:=2) rfl T1 dh.len t) ?_;refine ai.v (V.UU ad (i:=1) rfl rfl T3) ?_;refine aa 2 ?_;refine ai.o (O.aaQ ad (k:=j.length) (o:=2) (a:=(⟨q,G,x,y::u⟩:dh)) (gR:=(⟨q,Go.ay.partAt G x 1 2,x-1,u⟩:dh)) rfl rfl rfl t ⟨rfl⟩ T2 Yk dh.len rfl ?_);refine aa 2 ?_;rw[Yj];dsimp only;cases Ys:g.is y<;>rw[Ys]at p
 .by_cases m:y∈E
  .rw[ic m]at b;rw[aQ m];refine Te ?_;refine aa 6 ?_;all_goals exact⟨_,_,⟨⟨bt,e3,bW,cF,_,dH,_⟩,_,.inl ⟨rfl,rfl⟩,rfl,rfl⟩,Uc⟩
  .rw[lg m]at b;rw[aM m];refine Te ?_;refine aa 3 ?_;refine ah.Uv [10] ?_ aB.j.j.j.j.j.j.j.d'.d'.j.j aB.j.j.j.j.j.j.j.j.d'.j.j;refine Rg ?_;refine df 6 λL=>?_;refine af.q' 7 rfl (O.U' ad rfl rfl T8 (cq.one ad T1 ag.F') (λb a=>?_));refine au ?_;refine ae 2 8 ?_;refine af.l 10 rfl (O.K' ad ?_);refine aa 4 ?_;all_goals exact⟨_,_,⟨⟨bt,e3,bW,cF,_,dH,_⟩,_,.inl ⟨rfl,rfl⟩,rfl,rfl⟩,Uc⟩
 .have u:=Yt (.slice (some ⟨z,0,none⟩) (j.length+1) md);cases s:a8 w y with
  |none=>
   refine NU ?_;refine aa 15 ?_;rintro _ _⟨a,b,h,u,G,x,rfl,rfl⟩;refine aa 4 ?_;all_goals exact⟨_,_,⟨_,_,.inr (.inl ⟨rfl,rfl,_,TX,TX,TX,TX,rfl⟩),rfl,rfl⟩,Uc⟩
  |some u=>
   refine NU ?_;refine aa 12 ?_;refine ah.n' ?_ aB.j.j.j.j.j.j.j.j.d'.d'.j;refine ae 5 0 ?_;refine af.q' 5 rfl (av.x' (aK.UD (l:=on) (k:=y) (aU:=iX) false ct vJ zu rfl rfl T1) ?_);refine au ?_;refine ae 1 6 ?_;refine OV (λw=>?_) λw=>?_;refine ah.n' ?_ aB.j.j.j.j.j.j.j.j.d'.j.j;refine ae 7 0 ?_;refine ae 7 8 ?_;refine ae 1 17 ?_;refine af.bv 7 15 rfl rfl ?_ ?_;refine Rv ?_;refine af.q' 15 rfl (av.x' (V.Vn ad (k:=j.length) (o:=0) (show some (aw z (j.length*3))=some (aw z (0+j.length*3+0)) by rw[h8,ho]) T1 dh.len R (c:=q.c) (z:=⟨rfl⟩)) ?_);refine au ?_;refine L3 ?_;rotate_left;refine Rv ?_;refine af.bv 7 16 rfl rfl ?_ ?_;refine Rv ?_;refine L3 ?_;rotate_left;refine av.x' (aK.UD (l:=d) (k:=q) (aU:=fl) 0 ct gG iB rfl rfl T1) ?_;refine au ?_;refine ae 1 18 ?_;refine af.q' 7 rfl (av.x' (V.Vn ad (k:=j.length) (o:=0) (show some (aw z (j.length*3))=some (aw z (0+j.length*3+0)) by rw[h8,ho]) T1 dh.len R (c:=q.c) (z:=⟨rfl⟩)) ?_);refine au ?_;refine af.q' 19 rfl (av.UC (l:=d) (k:=q) (v:=Min.min (bS d q) u) (b1:=cg) (aU:=fl) ct gG rfl rfl rfl T2 ?_);refine aa 4 ?_;rotate_left;refine aa 3 ?_;rotate_left;all_goals exact⟨_,_,⟨⟨bt,e3,bW,cF,_,dH,_⟩,_,.inr (.inr ⟨rfl,T3,_,rfl⟩),rfl,rfl⟩,Uc⟩
def Co:ab ag:=(List.range 7).flatMap λ(k:Nat)=>(List.range 64).map λ(m:Nat)=>⟨((k:Nat):Int),((m:Nat):Int)+1⟩
def acv:Co.length=448:=adi
def OS{x:ag}(h:bq x 7=true):x∈Co:=by obtain⟨Y,N,R,Z⟩:=l2 h;unfold Co;refine w8.2 ⟨x.a1.toNat,pC.2 ac,eS.2 ⟨(x.bT-1).toNat,pC.2 ac,?_⟩⟩;obtain⟨r,m⟩:=x;grind
def Cp{t:Type}[DecidableEq t]:∀{l m:ab t},l.Nodup->l⊆m->l.length<=m.length
 |[],m,_,_=>cO _
 |a::l,m,h,Q=>by rw[la]at h;have K:a∈m:=Q (gS ..);have Y:l⊆m.erase a:=λx U=>(List.mem_erase_of_ne (λe:x=a=>h.1 (e▸U))).2 (Q (hI _ U));have N:=Cp h.2 Y;grind
theorem rJ{l:ab ag}(a:l.Nodup)(h:∀x∈l,bq x 7=true):l.length<=448:=by rw[<-acv];exact Cp a λx U=>OS (h x U)
def bs.Zy{g:bs}(f:g.calls.aH<=7){x:ag}(h:g.is x=true):bq x 7=true:=by unfold bs.is at h;obtain⟨t,j⟩:=uT.1 h;exact pS (aJ.Wv j) f
def Hq{d:bX}(w:fB d 7=true):∀k,k<=7->∀y∈l6 d k,bq y 7=true
 |0,_=>by simp[l6]
 |k+1,h=>by
  have o:=Hq w k ac;rw[xq];intro y F;rcases fd.1 F with F|F
  .exact o y F
  .obtain⟨num,a⟩:∃m,d.l[k]?=some m:=⟨_,hs TD⟩
   have G:=rA.1 w k num a;simp only[jK,c5,iL,dl]at G;grind [List.getD,i5,List.mem_map.1,List.mem_range.1,bq]
def bs.abl{g:bs}(G:g.g1){x y:ag}(h:y∈g.waits x):g.over y=false/\bq y 7=true:=by unfold bs.waits at h;obtain⟨Y,N⟩:=oz.1 h;simp only[c5,ke,dl]at N;exact⟨N.2,Hq (G x) 7 (cD _) y Y⟩
theorem Hr{t M:Type}[DecidableEq t]{l:ab (t×M)}{k:t}(h:a8 l k=none)(v:M):bx l k v=l++[(k,v)]:=by grind [a8,Option.map_eq_none_iff,bx]
def afq{t M:Type}[DecidableEq t]{l:ab (t×M)}{k:t}(h:k∈l.map (·.1)):a8 l k≠none:=by
 induction l with
 |nil=>cases h
 |cons p l d=>
  rw[kk];grind
def kZ.next{e:ax}{E:Nat}{y:ag}{i:ab ag}(h:kZ e m (y::i))(q:(y::i).length<=E):kZ e (Go.ay.partAt m E 1 2) i:=by obtain⟨b,off,f⟩:=h;have:=Rd.suffix (i:=1) f T3 q;refine⟨b,off+1*2,?_⟩;grind
structure g3(g:bs)(s:dY):Prop where
 jN:(s.idx.map (·.1)).Nodup
 eQ:(s.parts.flatMap (·.l)++s.stack).Nodup
 sub:∀y∈s.parts.flatMap (·.l)++s.stack,y∈s.idx.map (·.1)
 is:∀y∈s.idx.map (·.1),g.is y=true/\g.over y=false
 jO:(s.fK.map (·.item)).Sublist s.stack
 rI:∀f∈s.fK,f.l.length<=f.cap/\f.l.length<=448/\kZ (c8 s.g) f.cV f.l/\∀y∈f.l,g.over y=false/\bq y 7=true
 dA:∀p∈s.parts,kZ (c8 s.g) p.cV p.l/\p.l≠[]
 pX:s.missing.Nodup
 ms:∀y∈s.missing,g.is y=false/\g.over y=false/\bq y 7=true
def g3.abm{g:bs}{s:dY}(h:g3 g s)(f:g.calls.aH<=7):s.idx.length<=448:=by have:=rJ h.jN λx U=>bs.Zy f (h.is x U).1;grind
def g3.Zz{g:bs}{s:dY}(h:g3 g s)(f:g.calls.aH<=7):(s.parts.flatMap (·.l)++s.stack).length<=448:=rJ h.eQ λx U=>bs.Zy f (h.is x (h.sub x U)).1
def g3.ZA{g:bs}{s:dY}(h:g3 g s)(f:g.calls.aH<=7):s.stack.length<=448:=by have:=h.Zz f;grind
def g3.abn{g:bs}{s:dY}(h:g3 g s)(f:g.calls.aH<=7):s.fK.length<=448:=by have:=h.jO.length_le;rw[eT]at this;exact jy this (h.ZA f)
def Cq:∀(l:ab gN),(∀p∈l,p.l≠[])->l.length<=(l.flatMap (·.l)).length
 |[],_=>cO _
 |p::l,h=>by have d:=Cq l λq aW=>h q (hI _ aW);have Y:0<p.l.length:=pH.2 (h p (gS ..));grind
def g3.abo{g:bs}{s:dY}(h:g3 g s)(f:g.calls.aH<=7):s.parts.length<=448:=by have Y:=h.Zz f;have N:=Cq s.parts λp z=>(h.dA p z).2;grind
def g3.abp{g:bs}{s:dY}(h:g3 g s):s.missing.length<=448:=rJ h.pX λx U=>(h.ms x U).2.2
def dY.init:dY:=⟨[],[],[],[],[],[],[],[]⟩
def g3.init(g:bs):g3 g dY.init:=by constructor<;>simp[dY.init]
def g3.push{g:bs}{s:dY}{y:ag}{P:dh}(h:g3 g s)(G:g.g1)(F:a8 s.idx y=none)(ao:g.is y=true)(p:g.over y=false)(Y:P.item=y)(N:P.l=g.waits y)(R:P.l.length<=P.cap)(t:kZ (c8 (s.push y P).g) P.cV P.l):g3 g (s.push y P):=by
 have u:((s.push y P).idx.map (·.1))=s.idx.map (·.1)++[y]:=by
  show(bx s.idx y _).map (·.1)=_
  rw[Hr F,jo];rfl
 have o:y∉s.idx.map (·.1):=λq=>afq q F;have r:(s.push y P).parts.flatMap (·.l)++(s.push y P).stack=(s.parts.flatMap (·.l)++s.stack)++[y]:=by
  show s.parts.flatMap (·.l)++(s.stack++[y])=_
  rw[cn]
 refine⟨?_,?_,?_,?_,?_,?_,?_,h.pX,h.ms⟩
 .rw[u,hH];exact⟨h.jN,T3,λa K b X=>Uh⟩
 .rw[r,hH];exact⟨h.eQ,T3,λa K b X=>by rw[i2]at X;subst X;exactλe=>o (e▸h.sub a K)⟩
 .rw[r,u];intro z v;rcases fd.1 v with v|v
  .exact fd.2 (.inl (h.sub z v))
  .grind
 .rw[u];intro z v;rcases fd.1 v with v|v
  .exact h.is z v
  .grind
 .show((s.fK++[P]).map (·.item)).Sublist (s.stack++[y]);rw[jo];exact h.jO.append Uh
 .intro f k;have k:f∈s.fK++[P]:=k;rcases fd.1 k with k|k
  .obtain⟨x,Q,d,D⟩:=h.rI f k;exact⟨x,Q,d.more _,D⟩
  .rw[i2]at k;subst k;exact⟨R,by grind [bs.WU],t,λz v=>bs.abl G (by rw[<-N];exact v)⟩
 .intro p z;exact⟨(h.dA p z).1.more _,(h.dA p z).2⟩
def ahm{t:Type}{l st:ab t}{x:t}{k:Nat}(h:(l++[x]).Sublist st)(p:st.Nodup)(u:st[k]?=some x):l.Sublist (st.take k):=by
 obtain⟨a,b,rfl,Y,N⟩:=List.append_sublist_iff.1 h;have U:x∈b:=N.subset (i2.2 rfl);obtain⟨F,v⟩:=cT.1 u;by_cases w:k<a.length
 .grind
 .rw[sj,k8 ac];grind
def g3.up{g:bs}{s:dY}{f:dh}(h:g3 g s)(k:s.fK=P++[f]):g3 g {s with fK:=P,low:=F}:=by refine⟨h.jN,h.eQ,h.sub,h.is,?_,λf m=>h.rI f Uh,h.dA,h.pX,h.ms⟩;have:=h.jO;rw[k,jo]at this;exact(EI _ _).trans this
def g3.W1{g:bs}{s d:dY}{f:dh}(h:g3 g s)(x:s.fK=P++[f])(Q:vL s P f d):g3 g d:=by
 rcases Q with⟨_,rfl⟩|⟨_,k,C,on,u,z,t,rfl⟩
 .exact h.up x
 .have J:s.stack.take k++s.stack.drop k=s.stack:=oe ..;have X:k<s.stack.length:=(cT.1 u).1;have j:((s.parts++[C]).flatMap (·.l)++s.stack.take k).Perm (s.parts.flatMap (·.l)++s.stack):=by grind
  refine⟨h.jN,?_,?_,h.is,?_,?_,?_,h.pX,h.ms⟩
  .exact j.nodup_iff.2 h.eQ
  .intro y F;exact h.sub y (j.mem_iff.1 F)
  .have Y:=h.jO;rw[x,jo,List.map_singleton]at Y;exact ahm Y (hH.1 h.eQ).2.1 u
  .intro o m;obtain⟨U,q,R,D⟩:=h.rI o (by rw[x];exact fd.2 (.inl m));exact⟨U,q,R.more _,D⟩
  .intro p Z;have Z:p∈s.parts++[C]:=Z;rcases fd.1 Z with Z|Z
   .exact⟨(h.dA p Z).1.more _,(h.dA p Z).2⟩
   .rw[i2]at Z;subst Z;refine⟨t,λe=>?_⟩;have:=z.length_eq;grind
def g3.next{g:bs}{s:dY}{f:dh}{y:ag}{i:ab ag}{X:ab ag}(h:g3 g s)(k:s.fK=P++[f])(T:f.l=y::i)(G:X.Nodup)(x:∀y∈X,g.is y=false/\g.over y=false/\bq y 7=true):g3 g {s with fK:=P++[f.next i],low:=low,missing:=X}:=by
 refine⟨h.jN,h.eQ,h.sub,h.is,?_,?_,h.dA,G,x⟩
 .have:=h.jO;rw[k]at this;show((P++[f.next i]).map (·.item)).Sublist s.stack
  rw[jo]at this⊢;exact this
 .intro t m;have m:t∈P++[f.next i]:=m;rcases fd.1 m with m|m
  .exact h.rI t Uh
  .rw[i2]at m;subst m;obtain⟨l,Q,R,D⟩:=h.rI f RR;rw[T]at l Q R D;have o:=l;have W:=Q;rw[dD]at o W;exact⟨by show i.length<=f.cap-1;omega,by show i.length<=448;omega,R.next l,λz v=>D z (hI _ v)⟩
def g3.mH{g:bs}{s d:dY}{f:dh}{y:ag}{i:ab ag}(h:g3 g s)(G:g.g1)(k:s.fK=P++[f])(T:f.l=y::i)(Q:xJ g s P f y i d):g3 g d:=by
 have F:=(h.rI f RR).2.2.2 y Uh;rcases Q with⟨ao,rfl⟩|⟨ao,p,z,Y,N,R,Z,rfl⟩|⟨ao,p,X,rfl⟩
 .by_cases K:y∈s.missing
  .rw[aQ K];exact h.next (low:=s.low) k T h.pX h.ms
  .rw[aM K];refine h.next (low:=s.low) k T ?_ ?_
   .rw[hH];exact⟨h.pX,T3,λa K b X=>Uh⟩
   .intro z v;rcases fd.1 v with v|v
    .exact h.ms z v
    .grind
 .exact(h.next (low:=s.low) k T h.pX h.ms).push G p ao F.1 Y N R Z
 .exact h.next k T h.pX h.ms
def dY.O'(s:dY):Nat:=(449-s.idx.length)*450+(s.fK.map λf=>f.l.length+1).sum
def dY.abq{s d:dY}{f:dh}(h:s.fK=P++[f])(Q:vL s P f d):d.O'<s.O':=by
 have e:s.O'=(449-s.idx.length)*450+((P.map λf=>f.l.length+1).sum+(f.l.length+1)):=by grind [dY.O']
 rw[e];rcases Q with⟨_,rfl⟩|⟨_,k,C,on,_,_,_,rfl⟩
 exact Rc
 exact Rc
def dY.abr{g:bs}{s d:dY}{f:dh}{y:ag}{i:ab ag}(G:g.g1)(ao:s.idx.length<=448)(k:s.fK=P++[f])(T:f.l=y::i)(Q:xJ g s P f y i d):d.O'<s.O':=by
 have e:s.O'=(449-s.idx.length)*450+((P.map λf=>f.l.length+1).sum+(i.length+1+1)):=by grind [dY.O']
 have Y:((P++[f.next i]).map λf=>f.l.length+1).sum=(P.map λf=>f.l.length+1).sum+(i.length+1):=by rw[jo,List.sum_append];simp[dh.next]
 rw[e];rcases Q with⟨_,rfl⟩|⟨_,a,z,_,N,_,_,rfl⟩|⟨_,_,F,rfl⟩
 exact OI
 .show(449-(bx s.idx y _).length)*450+(((P++[f.next i])++[z]).map λf=>f.l.length+1).sum<_;grind [bs.WU,Hr,List.length_append]
 exact OI
def One(x:ag)(s:dY):Prop:=
 (s.parts=[]/\(∃z,s.fK=[z]/\z.item=x/\z.l=[])/\s.stack=[x]/\s.missing=[]/\bS s.low x=bS s.idx x)\/
 ((∃p,s.parts=[p]/\p.l=[x])/\s.fK=[]/\s.missing=[])
def One.push{x:ag}{z:dh}(Y:z.item=x)(N:z.l=[]):One x (dY.init.push x z):=
 .inl ⟨rfl,⟨z,rfl,Y,N⟩,rfl,rfl,rfl⟩
def One.W1{x:ag}{s d:dY}{f:dh}(h:One x s)(U:s.fK=P++[f])(Q:vL s P f d):One x d:=by
 rcases h with⟨Y,⟨j,N,R,Z⟩,a,M,y⟩|⟨_,N,_⟩
 .rw[N]at U;have b:P=[]:=by have:=dp List.length U;simp at this;exact this
  subst b;rw[gJ,re]at U;obtain⟨rfl,-⟩:=U;have r:rH s.low [] j.item=s.low:=rfl;rcases Q with⟨J,rfl⟩|⟨_,k,C,on,u,z,_,rfl⟩
  .grind
  .rw[a]at u z;have p:k=0:=by grind
   subst p;refine .inr ⟨⟨C,?_,List.perm_singleton.1 z⟩,rfl,M⟩;show s.parts++[C]=[C]
   rw[Y];rfl
 .rw[N]at U;have:=dp List.length U;simp at this
def One.mH{x y:ag}{i:ab ag}{s d:dY}{f:dh}(h:One x s)(k:s.fK=P++[f])(T:f.l=y::i):One x d:=by
 exfalso;rcases h with⟨Y,⟨z,N,R,Z⟩,_⟩|⟨_,N,_⟩
 .rw[N]at k;have b:P=[]:=by have:=dp List.length k;simp at this;exact this
  grind
 .rw[N]at k;have:=dp List.length k;simp at this
structure ng(g:bs)(x:ag)(parts:ab gN)(qO:ab ag)(G:ab cI):Prop where
 jN:(parts.flatMap (·.l)).Nodup
 is:∀y∈parts.flatMap (·.l),g.is y=true/\g.over y=false
 dA:∀p∈parts,kZ (c8 G) p.cV p.l/\p.l≠[]
 pX:qO.Nodup
 ms:∀y∈qO,g.is y=false/\g.over y=false/\bq y 7=true
 no:g.is x=false\/g.over x=true->parts=[]/\qO=[]
 one:g.is x=true->g.over x=false->g.waits x=[]->parts.map (·.l)=[[x]]/\qO=[]
def ng.none(g:bs)(x:ag)(G:ab cI)(h:g.is x=false\/g.over x=true):ng g x [] [] G:=by refine⟨T3,T3,T3,T3,T3,λ_=>⟨rfl,rfl⟩,λY N _=>?_⟩;grind
def ng.of{g:bs}{x:ag}{s:dY}(ao:g.is x=true)(c:g.over x=false)(h:g3 g s)(K:s.missing=[])(k:s.fK=[])(Y:g.waits x=[]->One x s):ng g x s.parts [] s.g:=by
 refine⟨(hH.1 h.eQ).1,λy F=>h.is y (h.sub y (fd.2 (.inl F))),h.dA,T3,T3,λq=>by rw[ao,c]at q;simp at q,λ_ _ n=>?_⟩;rcases Y n with⟨_,⟨z,N,_⟩,_⟩|⟨⟨p,N,R⟩,_⟩
 .rw[k]at N;cases N
 .rw[N,List.map_singleton,R];exact⟨rfl,rfl⟩
def ng.qO{g:bs}{x:ag}{s:dY}(ao:g.is x=true)(p:g.over x=false)(h:g3 g s)(K:s.missing≠[])(Y:g.waits x=[]->One x s):ng g x [] s.missing s.g:=by refine⟨T3,T3,T3,h.pX,h.ms,λq=>by rw[ao,p]at q;simp at q,λ_ _ n=>?_⟩;rcases Y n with⟨_,_,_,N,_⟩|⟨_,_,N⟩<;>exact absurd N K
def Hs(U:Nat)(L:hN)(g:bs)(h:g.ok)(R:g.g1)(t:g.calls.aH<=7)(x:ag):ar prog 159 [aw U 0,A x.c] [hO U L g] (λr M=>∃j fx P X G,ng g x P X G/\r=.tuple #[j,fx]/\M=[rows gN.c j 98 1 P,rows ag.c fx 46 2 X,c8 G,hO U L g]):=by
 have T:=F8 U L g h x;have q:=F9 U L g h x;refine aE func159 λW=>?_;refine ah.Ur gN.c 98 1 ?_;refine ah.Ur ag.c 46 2 ?_;refine ah.eqv (be:=c8 []::_) (aO.aL (be:=[])|>.symm.append (aO.refl _)) ?_;cases ao:g.is x<;>rw[ao]at T
 .refine aq 2 λgq=>?_;refine aa 29 ?_;all_goals exact⟨_,_,⟨_,_,[],[],[],ng.none g x [] (.inl ao),rfl,rfl⟩,Uc⟩
 cases p:g.over x<;>rw[p]at q
 .refine ah.Ur dh.c 375 3 ?_;refine ah.Ur ag.c 46 2 ?_;refine ah.Ur ag.c 46 2 ?_;refine aq 2 λgq=>?_;refine aa 26 ?_;refine ai.o (av.mkMap cg fl rfl (λu=>?_));refine ai.o (av.mkMap cg fl rfl (λQ=>?_));refine ai.o (av.mkMap cg fl rfl (λD=>?_));refine aq 1 λm=>?_;refine aa 3 ?_;have hz:=Ho m U L ⟨u,Q,D,.slice none 0 0,.slice none 0 0,.slice none 0 0,.slice none 0 0⟩ g h R x dY.init (by simp[dY.init]) (by simp[dY.init]) (by simp[dY.init]);unfold h2 me dY.init at hz;dsimp only at hz⊢;refine aa 5 ?_;rintro _ _⟨i,Y,Yc,w,Ye,Yf,rfl,rfl⟩;refine aa 5 ?_;have a:Y.item=x:=by assumption
  have y:Y.l=g.waits x:=TX
  have Yj:Y.l.length<=Y.cap:=TX
  have d:kZ (c8 (dY.init.push x Y).g) Y.cV Y.l:=TX
  refine ah.cp [6] (λz:rG×dY=>g3 g z.2/\(g.waits x=[]->One x z.2)) (λz=>[]) (λz=>h2 m U L z.1 g z.2) (λz=>z.2.O') (i,dY.init.push x Y) ⟨(g3.init g).push R rfl ao p a y Yj d,λn=>One.push a (y.trans n)⟩ ?_;rintro⟨⟨bt,e3,bW,cF,pk,j,fx⟩,s⟩⟨b,Z⟩ K E;dsimp only at b Z;have hB:=b.abn t;have kr:=b.ZA t;have ik:=b.abo t;have ks:=b.abm t;have sZ:=b.abp;dsimp only[h2,me,List.cons_append,List.nil_append];refine ah.fact (iD (f:=dh.c) (v:=pk) (l:=s.fK) dh.len T1) λF=>?_;obtain⟨N,J,acb,rfl,Yk⟩:=F;rcases Hp s.fK with k|⟨C,f,k⟩
  .clear E;refine ah.fact (iD (f:=ag.c) (v:=fx) (l:=s.missing) ag.len T1) λF=>?_;obtain⟨Yi,Yh,eb,rfl,Yg⟩:=F;have i:(s.fK.length:Int)=0:=by rw[k];rfl
   rw[k];cases M:s.missing with
   |nil=>
    refine ah.Ur ag.c 46 2 ?_;refine aa 43 ?_;all_goals exact⟨_,_,⟨_,_,_,_,_,ng.of ao p b M k Z,rfl,rfl⟩,Uc⟩
   |cons a X=>
    refine ah.Ur gN.c 98 1 ?_;have Y:bd .gtr (((a::X).length:Nat):Int) 0=some true:=by simp only[bd,dD];congr 1;rw[dl];omega
    refine aa 25 ?_;refine ai.v (V.cmp rfl rfl Y) ?_;refine aa 4 ?_;refine ah.n' ?_ aB.j.j.j.j.j.j.j.j.j.j.j.d'.j;refine ae 6 0 ?_;refine aa 5 ?_;all_goals exact⟨_,_,⟨_,_,_,_,_,ng.qO (s:=s) ao p b (by rw[M];simp) Z,rfl,(by rw[M])⟩,Uc⟩
  .rw[OP]at k;have M:0<s.fK.length:=by rw[k];simp
   cases u:f.l with
   |nil=>
    have v:=ajw m U L ⟨bt,e3,bW,cF,.slice N s.fK.length J,j,fx⟩ g h s C f k u (b.jO.subset RR) ac ac ac;unfold h2 me at v;dsimp only at v;refine aa 18 ?_;refine Tq λT G w=>?_;rotate_left;have Q:=(by assumption:vL s C f G)
    all_goals exact Out.z' E (T,G) ⟨b.W1 k Q,λn=>(Z n).W1 k Q⟩ (dY.abq k Q)
   |cons y i=>
    obtain⟨l,q,t,D⟩:=b.rI f RR;have v:=ad8 m U L ⟨bt,e3,bW,cF,.slice N s.fK.length J,j,fx⟩ g h R s C f y i k u l t ac ac ac ac;unfold h2 me at v;dsimp only at v;refine aa 18 ?_;refine Tq λT G w=>?_;rotate_left;have Q:=(by assumption:xJ g s C f y i G)
    all_goals exact Out.z' E (T,G) ⟨b.mH R k u Q,λn=>(Z n).mH k u⟩ (dY.abr R ks k u Q)
 .refine aq 2 λgq=>?_;refine aa 30 ?_;all_goals exact⟨_,_,⟨_,_,[],[],[],ng.none g x [] (.inr p),rfl,rfl⟩,Uc⟩
end Go.Proofs.YteogojgnkjegmaaGreatDoor
namespace Go.Proofs.YteogojgnkjegmaaGreatDoor
open Go.ay Go.Proofs.Tryz
def Cr(s:aj)(E:ax)(p:ag->Bool):Prop:=∀x:ag,B7 prog s [A x.c] [E] (λr J=>r=B (p x)/\J=[E])
def rK(p:ag->Bool)(l:ab ag):Int:=match l.findIdx? p with|some i=>(i:Int)|none=>-1
def ahX{p:ag->Bool}{x:ag}{l:ab ag}{i:Nat}(U:l[i]?=some x)(z:p x=true)(h:∀(j:Nat) (y:ag),j<i->l[j]?=some y->p y=false):rK p l=i:=by obtain⟨Y,rfl⟩:=cT.1 U;unfold rK;rw[vv.2 ⟨Y,z,λj y=>by rw[h j _ y (hs ac)];decide⟩]
def aih{p:ag->Bool}{l:ab ag}(h:∀(j:Nat) (y:ag),l[j]?=some y->p y=false):rK p l=-1:=by unfold rK;rw[xp.2];intro y F;obtain⟨j,c⟩:=sx F;exact h j y c
def ah1(e:ax)(n:aT Go.Addr)(Q X off:Nat)(l:ab ag)(f:Rd e n l.length X off 2 (l.map ag.c))(T:l.length<=1000000)(k:aj)(E:ax)(p:ag->Bool)(q:Cr k E p):ar prog 258 [.slice n l.length Q,k] [e,E] (λr J=>r=I (rK p l)/\J=[e,E]):=by
 refine aE func258 λW=>?_;refine aa 14 ?_;refine ah.cp [7,1,0] (λi:Nat=>i<=l.length/\∀(j:Nat) (y:ag),j<i->l[j]?=some y->p y=false) (λi=>[(8,I (i:Int))]) (λ_=>[]) (λi=>l.length-i) 0 ⟨cO _,λj y h=>absurd h (xn _)⟩ ?_;rintro i⟨ao,a⟩ K m;refine bl ?_;by_cases s:i<l.length
 .obtain⟨y,F⟩:=cl s;have Z:=q y;cases u:p y<;>rw[u]at Z
  .refine aa 23 ?_;refine ai.v (V.Ux ad rfl f (jB F)) ?_;refine ai.o (av.UG Z rfl rfl Uc ?_);refine aa 10 ?_;rotate_left;refine Out.z' m (i+1) ?_ FM;exact ⟨ac,λj z b w=>by
    by_cases Y:j=i
    .subst Y;rw[F]at w;rw[<-hc w];exact u
    .exact a j z ac w⟩
  .rw[ahX F u a];refine aa 23 ?_;refine ai.v (V.Ux ad rfl f (jB F)) ?_;refine ai.o (av.UG Z rfl rfl Uc ?_);exact aP 16
 .rw[aih λj y F=>a j y (by have:=(cT.1 F).1;omega) F];clear m;exact aP 19
def Cs{p:ag->Bool}{l:ab ag}{j:Nat}{y:ag}(h:l[j]?=some y):(l.take (j+1)).filter p=(l.take j).filter p++(if p y then[y]else[]):=by rw[oj,h,nH];congr 1;simp only[w4,vj,List.filter_nil]
def OY(v:aj)(l:ab ag)(T:l.length<=1000000)(w:aj)(E:ax)(p:ag->Bool)(q:Cr w E p):ar prog 226 [v,w] [rows ag.c v 46 2 l,E] (λr J=>∃h Q,r=.slice h (l.filter λx=>!p x).length Q/\J=[rows ag.c (.slice h (l.filter λx=>!p x).length Q) 46 2 (l.filter λx=>!p x),E]):=by
 refine aE func226 λW=>?_;refine ah.fact (iD (f:=ag.c) (v:=v) (l:=l) ag.len T1) λF=>?_;obtain⟨h,Q,eb,rfl,t⟩:=F;have R:=ah1 _ _ Q _ _ l t ac w E p q;cases Z:l.findIdx? p with
 |none=>
  have n:rK p l=-1:=by unfold rK;rw[Z]
  have N:(l.filter λx=>!p x)=l:=by rw[w1];intro x U;rw[xp.1 Z x U];rfl
  rw[n]at R;rw[N];refine aa 31 ?_;all_goals exact⟨_,_,⟨_,_,rfl,rfl⟩,Uc⟩
 |some i=>
  have n:rK p l=(i:Int):=by unfold rK;rw[Z]
  obtain⟨ao,Ym,Yc⟩:=vv.1 Z;rw[n]at R;refine ah.fact (hW (f:=ag.c) (v:=.slice h l.length Q) (l:=l) T1) λYi=>?_;rcases Yi with⟨_,Y⟩|⟨g,d,P,Yf,Ye⟩
  .subst Y;simp at ao
  simp only[sQ,true_and]at P;obtain⟨rfl,rfl⟩:=P;clear t;have gC:bd .eql (i:Int) (-1)=some false:=by simp only[bd];congr 1
  refine aa 18 ?_;refine ai.v (V.cmp rfl rfl gC) ?_;refine aa 14 ?_;have L:l.take i=(l.take (i+1)).filter λx=>!p x:=by
   rw[Cs (hs ao),Ym];simp only[AI,hM,iq,dT];rw[w1.2];intro x U;obtain⟨j,b⟩:=sx U;rw[lS]at b;split at b
   .rename_i Yh;have:=Yc j Yh;rw[hs ac,eY]at b;rw[b]at this;simp[this]
   .cases b
  refine ah.cp [1,0] (λz:Nat×Nat×ab ag=>z.2.1+1<=z.1/\z.1<=l.length/\z.2.2.length=l.length/\z.2.2.take z.2.1=((l.take z.1).filter λx=>!p x)/\z.2.2.drop z.1=l.drop z.1) (λz=>[(6,I (z.1:Int)),(5,I (z.2.1:Int))]) (λz=>[rows ag.c (.slice (some ⟨g,0,none⟩) l.length Q) 46 2 z.2.2]) (λz=>l.length-z.1) (i+1,i,l) ⟨cD _,ao,rfl,L,rfl⟩ ?_;rintro⟨j,i,D⟩⟨Yn,b,G,Yg,Yj⟩ K s;dsimp only at Yn b G Yg Yj;refine bl ?_;by_cases C:j<l.length
  .obtain⟨y,X⟩:=cl C;have Yo:D[j]?=some y:=by have:=dp (λm=>m[0]?) Yj;simp only[mY,ho]at this;rw[this,X]
   have M:=q y;cases u:p y<;>rw[u]at M
   .refine Py λmE=>?_;refine aa 9 ?_;refine ai.v (V.B' ad (k:=i) rfl rfl rfl rfl ac) ?_;refine ai.o (O.J' ad (f:=ag.c) (a:=y) rfl rfl T2 G ac ag.len ag.F' ?_);refine aa 14 ?_;rotate_left;refine Out.z' s (j+1,i+1,D.set i y) ?_ OT;exact ⟨by show i+1+1<=j+1;omega,by show j+1<=l.length;omega,by rw[co];exact G,by
     rw[Cs X,u,<-Yg];simp only[Bool.not_false,h7];rw[oj,List.take_set,l0,aQ rfl,aQ ac];rw[List.set_eq_of_length_le Mt];rfl,by
     show(D.set i y).drop (j+1)=l.drop (j+1)
     rw[List.drop_set,aQ ac,<-rb,<-rb,Yj]⟩
   .refine Py λmE=>?_;refine aa 12 ?_;rotate_left;refine Out.z' s (j+1,i,D) ?_ OT;exact ⟨by show i+1<=j+1;omega,by show j+1<=l.length;omega,G,by
     show D.take i=_
     rw[Cs X,u,<-Yg];simp,by
     show D.drop (j+1)=l.drop (j+1)
     rw[<-rb,<-rb,Yj]⟩
  .clear s;have Yk:j=l.length:=by omega
   subst Yk;rw[ir]at Yg;refine aa 15 ?_;refine ah.cut (f:=ag.c) (l:=D) (cap:=Q) i ag.len ac ?_ (b7:=by rw[G];(repeat(first|exact ak.nil|exact al.here|apply ak.cons|apply al.there)));rw[<-Yg];have Yl:(D.take i).length=i:=Mt
   generalize D.take i=eM at*;subst Yl;refine aa 4 ?_;refine ai.v (V.UU ad (i:=eM.length) rfl rfl ac) ?_;refine ai.o (O.WL ad rfl T4 ac ac ac ?_);refine aa 6 ?_;refine ai.v (V.VE ad (j:=eM.length) rfl rfl ac) ?_;refine aa 5 ?_;all_goals exact⟨_,_,⟨_,_,rfl,rfl⟩,Uc⟩
end Go.Proofs.YteogojgnkjegmaaGreatDoor
namespace Go.Proofs.YteogojgnkjegmaaGreatDoor
open Go.ay Go.Proofs.Tryz
variable[Go.ay.b4]
abbrev xK:aJ Bool->ag->aJ Bool:=λp x=>p.set x true
def adK{p:aJ Bool}(h:p.ok)(Z:ab ag):(Z.foldl xK p).ok:=(bs.WT (g:=⟨aJ.new 0,p⟩) ⟨aJ.UL 0,h⟩ Z).d
def agU{p:aJ Bool}{l:ab ag}{k:Nat}{y:ag}(h:l[k]?=some y):(l.take (k+1)).foldl xK p=((l.take k).foldl xK p).set y true:=by rw[oj,h,vp];rfl
def ahd(s:Nat)(L:hN)(g:bs)(h:g.ok)(e:ax)(m:aT Go.Addr)(E X off:Nat)(l:ab ag)(f:Rd e m l.length X off 2 (l.map ag.c))(T:l.length<=1000000):ar prog 225 [aw s 0,.slice m l.length E] (iw s L g++[e]) (λr J=>∃Q:hN,r=.tuple #[]/\J=iw s Q (g.hg l)++[e]):=by
 obtain⟨q,t,C,D⟩:=L;unfold iw bs.hg;refine bl ?_;refine aE func225 λW=>?_;refine aa 8 ?_;refine ah.cp [7,6,0] (λz:Nat×oE=>z.1<=l.length) (λz=>[(8,I (z.1:Int))]) (λz=>[xo t z.2 ((l.take z.1).foldl xK g.done)]) (λz=>l.length-z.1) (0,D) (cO _) ?_;rintro⟨k,a⟩ u K b;dsimp only at u;refine bl ?_;by_cases n:k<l.length
 .obtain⟨y,F⟩:=cl n;have w:=aeM t a ((l.take k).foldl xK g.done) y true (adK h.d _).towf;rw[<-agU F]at w;refine aa 14 ?_;refine ai.v (V.Ux ad rfl f (jB F)) ?_;refine aq 0 λo=>?_;refine aa 10 ?_;refine ah.n' ?_ aB.j.j.d'.j.d';refine ae 5 0 ?_;refine af.p' 5 rfl rfl (w) ?_;rintro _ _⟨p,rfl,rfl⟩;refine aa 9 ?_;rotate_left;refine Out.z' b (k+1,p) ?_ Nb;exact (by show k+1<=l.length;omega)
 .obtain rfl:k=l.length:=by omega
  clear b;rw[ir];refine aa 12 ?_;all_goals exact⟨_,_,⟨⟨q,t,C,a⟩,rfl,rfl⟩,Uc⟩
def adl(s:Nat)(L:hN)(g:bs)(h:g.ok)(e:ax)(m:aT Go.Addr)(E K off:Nat)(l:ab ag)(f:Rd e m l.length K off 2 (l.map ag.c))(T:l.length<=1000000):ar prog 225 [aw s 0,.slice m l.length E] [hO s L g,e] (λr J=>∃u:hN,r=.tuple #[]/\J=[hO s u (g.hg l),e]):=by refine ar.eqv (aO.aL.append (aO.refl [e])) (ahd s L g h e m E K off l f T) ?_;rintro r J⟨u,Y,rfl⟩;exact⟨_,⟨u,Y,rfl⟩,(aO.aL.append (aO.refl [e])).symm⟩
def Ct(x y:ag):Int:=if qA x y=true then-1 else if x=y then 0 else 1
def Cu(x y:ag):Int:=if qA x y=true then-1 else 1
def aeD(x y:ag):ar prog 108 [A x.c,A y.c] [] (λr J=>r=I (Ct x y)/\J=[]):=by
 have h (k:Nat):=ag.R' x y k;have v:=Bo x y;unfold Ct;cases T:qA x y<;>rw[T]at v
 .by_cases N:x=y
  .rw[ic N]at h;rw[aQ N];refine aE func108 λW=>?_;refine aq 2 λp=>?_;refine aq 0 λm=>?_;refine aa 18 ?_;refine ai.v (V.eq (h _)) ?_;exact aP 13
  .rw[lg N]at h;rw[aM N];refine aE func108 λW=>?_;refine aq 2 λp=>?_;refine aq 0 λm=>?_;refine aa 18 ?_;refine ai.v (V.eq (h _)) ?_;exact aP 14
 .refine aE func108 λW=>?_;refine aq 2 λp=>?_;refine aq 0 λm=>?_;exact aP 23
def ahv(x y:ag):ar prog 165 [A x.c,A y.c] [] (λr J=>r=I (Cu x y)/\J=[]):=by
 have v:=Bo x y;unfold Cu;cases T:qA x y<;>rw[T]at v
 .refine aE func165 λW=>?_;refine aq 2 λp=>?_;refine aq 0 λm=>?_;exact aP 21
 .refine aE func165 λW=>?_;refine aq 2 λp=>?_;refine aq 0 λm=>?_;exact aP 20
def agY(E:ax):mc (.func (.func 108) #[] #[]) E Ct:=λx y=>⟨108,[],[],rfl,T7,ar.post (ar.frame (be:=[E]) (aeD x y)) Mx⟩
def aiH(E:ax):mc (.func (.func 165) #[] #[]) E Cu:=λx y=>⟨165,[],[],rfl,T7,ar.post (ar.frame (be:=[E]) (ahv x y)) Mx⟩
def aiR(s:Nat)(L:hN)(g:bs)(h:g.ok):Cr (.func (.func 222) #[aw s 0] #[]) (hO s L g) g.over:=λx=>
 ⟨222,[aw s 0],[],rfl,T7,F9 s L g h x⟩
structure db where
 g:bs
 done:ab ag
 ea:ab ag
structure lk where
 pp:Nat
 L:hN
 xL:aj
 dN:aj
def kt(p:Nat)(X:lk)(s:db):ab ax:=[cells p 207 (pa.c ⟨aw X.pp 0,X.xL,X.dN⟩),hO X.pp X.L s.g,rows ag.c X.xL 46 2 s.done,rows ag.c X.dN 46 2 s.ea]
def jP(p:Nat)(X:lk)(s:db):ax:=aL (kt p X s)
def db.new(n:Int):db:=⟨bs.new n,[],[]⟩
def adq(n:Int):ar prog 75 [I n] [] (λr J=>∃p X,r=aw p 0/\J=[jP p X (db.new n)]):=by
 have u:=aeq n;have h:ar prog 75 [I n] [] (λr J=>∃z:Nat×lk,r=aw z.1 0/\J=kt z.1 z.2 (db.new n)):=by unfold kt db.new;refine aE func75 λW=>?_;refine ah.Ur ag.c 46 2 ?_;refine ah.Ur ag.c 46 2 ?_;refine aa 9 ?_;rintro _ _⟨y,E,rfl,rfl⟩;refine aq 2 λg=>?_;refine aa 5 ?_;all_goals exact⟨_,_,⟨(_,⟨_,_,_,_⟩),rfl,rfl⟩,Uc⟩
 refine ar.post h ?_;rintro r J⟨⟨p,X⟩,rfl,rfl⟩;exact⟨_,⟨p,X,rfl,rfl⟩,λ_ _ _ h=>h.toBag⟩
def db.VS(s:db)(x:ag)(c:aN)(d:db):Prop:=d.g=s.g.UF x c/\d.done=s.done/\(if s.g.U3 x c then d.ea.Perm (s.ea++[x])else d.ea=s.ea)
def Ht(p:Nat)(X:lk)(s:db)(h:s.g.ok)(u:s.ea.length<=1000)(x:ag)(c:aN):ar prog 77 [aw p 0,A x.c,A c.c] [jP p X s] (λr J=>∃z:lk×db,(r=B (s.g.U3 x c)/\s.VS x c z.2)/\J=[jP p z.1 z.2]):=by
 refine ar.Zu (T:=λz:lk×db=>kt p z.1 z.2) ?_;obtain⟨k,L,j,Y⟩:=X;obtain⟨g,done,U⟩:=s;dsimp only at h u;have Z:=ahC k L g h x c;unfold kt db.VS;dsimp only;refine aE func77 λW=>?_;cases D:g.U3 x c<;>rw[D]at Z
 .refine MK λN d=>?_;refine Ov λQ=>?_;refine aa 11 ?_;all_goals exact⟨_,_,⟨(⟨k,_,j,Y⟩,⟨_,done,U⟩),⟨rfl,rfl,rfl,T3⟩,rfl⟩,Uc⟩
 .refine MK λN d=>?_;refine Ov λQ=>?_;refine aa 6 ?_;refine ah.Uv [10] ?_ aB.j.j.d'.d'.j.j aB.j.j.j.d'.j.j;refine Rg ?_;refine af.q' 6 rfl (O.Q' ad ag.c [x] rfl (bI.agg rfl bI.nil) rfl rfl (λM=>?_));refine au ?_;refine af.q' 7 rfl (O.Vj ad rfl rfl T8 (cq.rows (l:=[x]) ad T1 ag.F') (λa m i=>?_));refine au ?_;refine ae 2 8 ?_;refine af.l 10 rfl (O.K' ad ?_);refine aa 3 ?_;have w:(U++[x]).length=U.length+1:=by simp
  refine ah.fact (hW (f:=ag.c) (v:=a) (l:=U++[x]) T1) λP=>?_;rcases P with⟨_,K⟩|⟨C,n,rfl,b,q⟩
  .simp at K
  have v:=Ca C n (U++[x]) ac (hO k Q (g.UF x c)) _ _ (agY _);unfold eB at v;dsimp only;refine aa 7 ?_;rintro _ _⟨w,E,rfl,rfl⟩;refine aa 10 ?_;all_goals exact⟨_,_,⟨(⟨k,Q,j,.slice (some ⟨C,0,none⟩) (U++[x]).length n⟩,⟨g.UF x c,done,w⟩),⟨rfl,rfl,rfl,TX⟩,rfl⟩,Uc⟩
def db.fin(s:db)(l:ab ag):db:=⟨s.g.hg l,s.done++l,s.ea.filter λx=>!(s.g.hg l).over x⟩
def aeY(y:Nat)(X:lk)(s:db)(h:s.g.ok)(p:s.ea.length<=1000)(w:s.done.length<=1000)(e:ax)(m:aT Go.Addr)(E K off:Nat)(l:ab ag)(f:Rd e m l.length K off 2 (l.map ag.c))(T:l.length<=1000000)(Q:0<l.length):ar prog 160 [aw y 0,.slice m l.length E] (kt y X s++[e]) (λr J=>∃d,r=.tuple #[]/\J=kt y d (s.fin l)++[e]):=by obtain⟨k,L,j,x⟩:=X;obtain⟨g,done,Y⟩:=s;dsimp only at h p w;have N:=adl k L g h e m E K off l f T;have r:=bs.WT h l;unfold kt db.fin;refine bl ?_;refine aE func160 λW=>?_;have P (T:hN):=OY x Y ac (.func (.func 222) #[aw k 0] #[]) (hO k T (g.hg l)) (g.hg l).over (aiR k T _ r);refine aa 8 ?_;rintro _ _⟨a,rfl,rfl⟩;refine aa 11 ?_;refine ai.o (O.Vj ad rfl rfl T8 (cq.rd ad f T1 ag.F' ag.len Q) (λr n i=>?_));refine aa 5 ?_;refine ah.Uv [13] ?_ aB.j.j.d'.j.j aB.j.j.j.j.j;refine ae 4 0 ?_;refine ae 3 5 ?_;refine af.t 4 rfl (V.C' ad) ?_;refine af.t 8 rfl (V.C' ad) ?_;refine af.i' 9 rfl (V.ki) ?_;refine af.p' 10 rfl rfl (P _) ?_;rintro _ _⟨h,s,rfl,rfl⟩;refine aa 2 ?_;refine ae 2 11 ?_;refine af.l 13 rfl (O.K' ad ?_);refine aa 3 ?_;all_goals exact⟨_,_,⟨⟨k,a,_,_⟩,rfl,rfl⟩,Uc⟩
end Go.Proofs.YteogojgnkjegmaaGreatDoor
