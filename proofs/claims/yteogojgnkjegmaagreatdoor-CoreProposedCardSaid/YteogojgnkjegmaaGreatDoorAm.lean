/-
 Part of the proof.
-/
import Derived.Test.YteogojgnkjegmaaGreatDoorAl
set_option linter.all false
set_option maxRecDepth 8000
set_option maxHeartbeats 8000000
namespace Go.Proofs.YteogojgnkjegmaaGreatDoor
open Go.ay Go.Proofs.Tryz
def iB(w:aZ):(Go.zeroValue 3).run prog w=.ok (I 0) w:=rfl
def gG:hv prog 39 46 3=true:=rfl
def ct:ht prog 46 (λx:ag=>A x.c):=
 ht.struct (c:=ag.c) rfl (λa b=>ag.R' a b 9998) (λa=>qt.struct (n:=9999) (l:=[(3,0),(3,1)]) T7 ⟨⟨_,.inl ⟨T7,rfl⟩,qt.int (r8:=.i64) rfl⟩,⟨_,.inl ⟨T7,rfl⟩,qt.int (r8:=.i64) rfl⟩,trivial⟩) (λa=>rfl)
abbrev nd:=ab (ag×Int)
def bS(m:nd)(x:ag):Int:=(a8 m x).getD 0
theorem G7(m:nd)(x y:ag)(n:Int):bS (bx m x n) y=if y=x then n else bS m y:=by unfold bS;rw[hw];split<;>rfl
def iV(b:Nat)(n X:Int)(p m:Nat)(v:aj)(t:Int)(l:ab br)(u:nd):ab ax:=[cells b 194 (mz.c ⟨n,X,aw p 0,.map (some m)⟩),cells p 254 (kL.c ⟨v,t⟩),rows br.c v 271 4 l,bz (λx:ag=>A x.c) (λn:Int=>I n) m u]
def adD(n X:Int):ar prog 74 [I n,I X] [] (λr J=>∃b p m,r=aw b 0/\J=iV b n X p m (.slice none 0 0) 0 [] []):=by
 have u:=aiE;unfold fu at u;unfold iV;refine aE func74 λW=>?_;refine aa 10 ?_;rintro _ _⟨u,rfl,rfl⟩;refine au ?_;refine ai.o (av.mkMap (λx:ag=>A x.c) (λn:Int=>I n) rfl (λi=>?_));refine aq 1 λl=>?_;refine aa 5 ?_
 exact PV
def afD(b:Nat)(n X:Int)(p m:Nat)(v:aj)(t:Int)(l:ab br)(u:nd)(N:Int):ar prog 71 [aw b 0,I N] (iV b n X p m v t l u) (λr J=>∃a c,r=.func (.func 133) #[] #[aw a 0,aw c 0]/\J=[cells a 192 [aw p 0],cells c 3 [I N]]++iV b n X p m v t l u):=by
 have D:=NQ p (aw p 0) rfl N;unfold iV;refine aE func71 λW=>?_;refine aa 23 ?_;rintro _ _⟨v,U,rfl,rfl⟩;refine aa 6 ?_
 exact R7
def pj(n X N:Int)(u:nd)(st:Int×ab br)(x:ag):Int×ab br:=
 if(sV x st.2).2=true then st else(st.1+1,iU ⟨x,N+nK n X x.a1 (bS u x),st.1⟩ (ii x st.2))
def hP(n X N:Int)(u:nd)(Z:ab ag)(st:Int×ab br):Int×ab br:=Z.foldl (pj n X N u) st
def ahz(n X N:Int)(u:nd)(Z:ab ag)(x:ag)(st:Int×ab br):hP n X N u (Z++[x]) st=pj n X N u (hP n X N u Z st) x:=by simp[hP]
def G8{n X N:Int}{u:nd}{st:Int×ab br}{x:ag}(h:lH st.1 st.2):lH (pj n X N u st x).1 (pj n X N u st x).2/\(pj n X N u st x).2.length<=st.2.length+1/\(pj n X N u st x).1<=st.1+1:=by
 unfold pj;split
 .exact⟨h,ac,ac⟩
 .exact⟨h.set x _,acS (t:=st.1) (l:=st.2) x _,gg _⟩
def B6{n X M:Int}{u:nd}:∀(Z:ab ag) (st:Int×ab br),lH st.1 st.2->lH (hP n X M u Z st).1 (hP n X M u Z st).2/\(hP n X M u Z st).2.length<=st.2.length+Z.length/\(hP n X M u Z st).1<=st.1+Z.length
 |[],st,h=>⟨h,cD _,by simp[hP]⟩
 |x::Z,st,h=>by obtain⟨Y,N,R⟩:=G8 (n:=n) (X:=X) (N:=M) (u:=u) (x:=x) h;obtain⟨N,a,C⟩:=B6 Z (pj n X M u st x) Y;refine⟨N,jy a (by simp only[dD];omega),mM C (by simp only[dD];omega)⟩
def afZ(b:Nat)(n X:Int)(p m:Nat)(v:aj)(t:Int)(l:ab br)(u:nd)(N:Int)(e:ax)(Y:aT Go.Addr)(E R off:Nat)(Z:ab ag)(f:Rd e Y Z.length R off 2 (Z.map ag.c)) (Yc:lH t l) (T:l.length+Z.length<=900) (j:t+Z.length<=100000000000000) (U:∀x∈Z,-1048576<=x.a1/\x.a1<=1048576) (a:n<=1048576) (Q:-1048576<=X/\X<=1048576) (z:-1152921504606846976<=N/\N<=1152921504606846976):ar prog 78 [aw b 0,I N,.slice Y Z.length E] (iV b n X p m v t l u++[e]) (λr J=>∃g,r=.tuple #[]/\J=iV b n X p m g (hP n X N u Z (t,l)).1 (hP n X N u Z (t,l)).2 u++[e]):=by
 unfold iV;refine bl ?_;refine aE func78 λW=>?_;refine aa 8 ?_;refine ah.cp [11,10,1,0] (λy:Nat×aj=>y.1<=Z.length) (λy=>[(12,I (y.1:Int))]) (λy=>[cells p 254 (kL.c ⟨y.2,(hP n X N u (Z.take y.1) (t,l)).1⟩),rows br.c y.2 271 4 (hP n X N u (Z.take y.1) (t,l)).2]) (λy=>Z.length-y.1) (0,v) (cO _) ?_;rintro⟨i,v⟩ ao K h;dsimp only at ao;refine bl ?_;by_cases C:i<Z.length
 .obtain⟨x,P⟩:=cl C;have s:hP n X N u (Z.take (i+1)) (t,l)=pj n X N u (hP n X N u (Z.take i) (t,l)) x:=by rw[lw P,ahz]
  obtain⟨vG,o,zv⟩:=B6 (n:=n) (X:=X) (M:=N) (u:=u) (Z.take i) (t,l) Yc;simp only[fp]at o zv;have Ye:=U x (jX P);generalize hP n X N u (Z.take i) (t,l)=st at*;obtain⟨d,L⟩:=st;dsimp only at s vG o zv⊢;have Yf:=vG.t0;have F:=NJ p v d L x ac;unfold fu at F;unfold pj at s;cases D:(sV x L).2 with
  |true=>
   rw[D]at F;simp only[D,h7]at s;refine LN λq=>?_;refine aa 16 ?_;rotate_left;all_goals exact Out.z' h (i+1,v) Uk TY (t:=Le)
  |false=>
   rw[D]at F;simp only[D,hM,iq]at s;have G:=GP n X x (bS u x) a Q Ye;have Yg:=GO n X x.a1 (bS u x) a;generalize nK n X x.a1 (bS u x)=w at*;have M:=G2 p v d L x (N+w) (vG.del x).sorted ac ac;unfold fu at M;refine LN λq=>?_;refine aa 9 ?_;refine ah.n' ?_ aB.j.j.d'.d'.j.j;refine ae 20 0 ?_;refine af.q' 20 rfl (av.x' (aK.UD (l:=u) (k:=x) (aU:=λn:Int=>I n) 0 ct gG iB rfl rfl T1) ?_);refine au ?_;refine ae 2 21 ?_;refine af.p' 23 rfl rfl (M) ?_;rintro _ _⟨Yi,Yh,rfl,rfl⟩;refine aa 9 ?_;rotate_left;all_goals exact Out.z' h (i+1,_) Uk TY (t:=Le)
 .obtain rfl:i=Z.length:=by omega
  rw[ir];clear h;exact aP 12
end Go.Proofs.YteogojgnkjegmaaGreatDoor
namespace Go.ay
open Go
section
variable{P:bU}{r:aT Nat}{W:aZ}{D:ab Nat}{n:dq}{Y:bC}{J:ab ax}{U:Type}{f:U->ab aj}
def rows.to{m:aT Addr}{Q j E G:Nat}{l:ab U}(v:∀x,(f x).length=G)(y:j<=l.length)(w:aZ)(h:(rows f (.slice m l.length Q) E G l).holds w):(rows f (.slice m j Q) E G (l.take j)).holds w:=by
 have e:(l.take j).length=j:=Mt
 have Z:=sy v l j y;have T:((l.take j).flatMap f).length=j*G:=by rw[kI v,e]
 rw[fs,io]at*;rw[e];refine⟨T,?_⟩;rcases h.2 with⟨N,t⟩|⟨g,a,C,N,L,R,d,K,p,c⟩
 .simp only[rf]at N;obtain⟨rfl,M,rfl⟩:=N;have:j=0:=by omega
  subst this;exact .inl ⟨rfl,T3⟩
 .simp only[rf]at N;obtain⟨rfl,-,rfl⟩:=N;refine .inr ⟨g,Q,C,rfl,L,R,ac,K,p,?_⟩;have t:j*G<=l.length*G:=kh _ y;rw[<-Z,<-c,tG];congr 1;omega
def ah.cut{c:Code}{Q:cU}{m:aT Addr}{cap E G:Nat}{l:ab U}{R:ab ax}(j:Nat)(v:∀x,(f x).length=G)(y:j<=l.length)(h:ah P r W D n Q c Y (rows f (.slice m j cap) E G (l.take j)::R))(b7:ak J [rows f (.slice m l.length cap) E G l] R:=by(repeat(first|exact ak.nil|exact al.here|apply ak.cons|apply al.there))):ah P r W D n Q c Y J:=
 ah.iN (λ_ i=>i.imp b7 (by rw[fs,fs,h6,h6];cases m<;>rfl) (rows.to v y)) h
end
end Go.ay
namespace Go.ay
open Go
section
variable{P:bU}{r:aT Nat}{W:aZ}{D:ab Nat}{n:dq}{Q:cU}{Y:bC}{U be:ab ax}{J:Nat}{M:a7}{Z:String}{N:Array Edge}{F:aT (Nat×Bool)}{C:bC->ab ax->Prop}
def B7(P:bU)(s:aj)(args:ab aj)(U:ab ax)(R:aj->ab ax->Prop):Prop:=
 ∃f o m,s=.func (.func f) (List.toArray o) (List.toArray m)/\kF P f=true/\ar P f (o++args++m) U R
def ar.frame{f:eR}{args:ab aj}{R:aj->ab ax->Prop}(h:ar P f args U R):ar P f args (U++be) (λv K=>∃z,R v z/\K=z++be):=ar.of λw o=>by have x:=o.nodup;rw[jx,hH]at x;refine(h.get w ⟨λe L=>o.fQ e (by simp[L]),x.1⟩).mono ?_;rintro e X⟨v,K,rfl,t,a⟩;exact⟨v,K++be,rfl,⟨K,t,rfl⟩,o.start.call a⟩
def av.UG{x:bf}{u:ab bf}{l:Array a7}{s:aj}{args:ab aj}{R c:ab ax}{v:aj}(j:B7 P s args R (λr T=>r=v/\T=R))(L:aR Y x=some s)(X:ay.hU Y u=some args)(G:ak U R c) (E:C ((J,v)::Y) U) (y:Nat.blt J n.n=true:=by exact rfl):av P r W D n ⟨some J,.call ⟨.value x,u.toArray,l⟩,M,Z,N,F⟩ Y U C:=av.of λK Q b a w Yc p=>by
 obtain⟨f,d,i,rfl,m,k⟩:=j;have g:=p.perm G.perm;have o:u.toArray.map a.eval=args.toArray:=by rw[<-Yc.hU X];simp
 refine ys (f:=f) (args:=(d++args++i).toArray) (b:=w) rfl ?_ ?_
 .simp only[execOp,resolve,cK,o,Yc.eval L];simp[Deferred.ofValue,invoke,wD m]
 .refine(k.get w ⟨λe z=>g.fQ e Of,?_⟩).mono ?_
  .have:=g.nodup;exact LD
  .rintro e q⟨t,T,rfl,⟨rfl,rfl⟩,h⟩;refine⟨_,rfl,b _ _ E _ _ (Yc.put y _) ?_⟩;exact(g.call h).perm G.perm.symm
end
end Go.ay
namespace Go.Proofs.YteogojgnkjegmaaGreatDoor
open Go.ay Go.Proofs.Tryz
def lI{l:ab ag}{i j:Nat}{x y:ag}(ao:l[i]?=some x)(c:l[j]?=some y):((l.set i y).set j x).Perm l:=by obtain⟨Y,rfl⟩:=cT.1 ao;obtain⟨N,rfl⟩:=cT.1 c;exact List.set_set_perm Y N
def mc(s:aj)(E:ax)(w:ag->ag->Int):Prop:=∀x y:ag,B7 prog s [A x.c,A y.c] [E] (λr J=>r=I (w x y)/\J=[E])
abbrev eB(g n E:Nat)(l:ab ag):ax:=rows ag.c (.slice (some ⟨g,0,none⟩) n E) 46 2 l
def ahw(g n Q:Nat)(l:ab ag)(T:l.length=n)(a b:Nat)(t:a<=b)(X:b<=n)(p:n<=1000000)(E:ax)(h:aj)(Y:ag->ag->Int)(q:mc h E Y):ar prog 207 [.slice (some ⟨g,0,none⟩) n Q,I (a:Int),I (b:Int),h] [eB g n Q l,E] (λr J=>∃u:ab ag,u.Perm l/\r=.tuple #[]/\J=[eB g n Q u,E]):=by
 unfold eB;refine aE func207 λW=>?_;refine aa 8 ?_;refine ah.cp [0,1,2,3] (λy:Nat×ab ag=>a<y.1/\y.2.Perm l) (λy=>[(8,I (y.1:Int))]) (λy=>[rows ag.c (.slice (some ⟨g,0,none⟩) n Q) 46 2 y.2]) (λy=>b-y.1) (a+1,l) ⟨ac,he _⟩ ?_;rintro⟨i,D⟩⟨ao,z⟩ K m;dsimp only at ao z;refine bl ?_;by_cases G:i<b
 .refine aa 20 ?_;rotate_left;refine ah.cp [0,1,2,3,8] (λy:Nat×ab ag=>a<=y.1/\y.1<=i/\y.2.Perm l) (λy=>[(9,I (y.1:Int))]) (λy=>[rows ag.c (.slice (some ⟨g,0,none⟩) n Q) 46 2 y.2]) (λy=>y.1) (i,D) ⟨ac,cD _,z⟩ ?_;rintro⟨j,s⟩⟨N,o,d⟩ R w;dsimp only at N o d;refine bl ?_;have Z:s.length=n:=by rw[d.length_eq,T]
  by_cases P:a<j
  .obtain⟨x,U⟩:=cl (t:=s) (k:=j) ac;obtain⟨y,F⟩:=cl (t:=s) (k:=j-1) ac;have M:((j:Int)-1)=((j-1:Nat):Int):=by omega
   have L:=q x y;refine Uf ?_;refine bE 21 ?_;refine ae 3 4 ?_;refine af.i' 7 rfl (V.B' ad (k:=j) rfl rfl rfl rfl ac) ?_;refine af.i' 8 rfl (V.H' ad rfl T1 ag.len U) ?_;refine ae 2 9 ?_;refine af.i' 11 rfl (V.Y' M rfl rfl ac) ?_;refine af.i' 12 rfl (V.B' ad (k:=j-1) rfl rfl rfl rfl ac) ?_;refine af.i' 13 rfl (V.H' ad rfl T1 ag.len F) ?_;refine af.q' 14 rfl (av.UG L rfl rfl Uc ?_);refine au ?_;refine ae 2 15 ?_;refine OV (λC=>?_) λC=>?_;refine aa 4 ?_;refine ah.n' ?_ aB.j.j;refine ae 4 0 ?_;refine af.i' 4 rfl (V.Y' M rfl rfl ac) ?_;refine ae 2 5 ?_;refine af.i' 7 rfl (V.Y' M rfl rfl ac) ?_;refine af.i' 8 rfl (V.B' ad (k:=j-1) rfl rfl rfl rfl ac) ?_;refine ae 2 10 ?_;refine af.i' 12 rfl (V.B' ad (k:=j) rfl rfl rfl rfl ac) ?_;refine LS ?_ ?_;refine SJ ?_;rotate_left;refine S3 ?_;refine au ?_;refine SJ ?_;rotate_left;refine aa 11 ?_;rotate_left;all_goals(first|exact Out.z' w (j-1,(s.set j y).set (j-1) x) ⟨ac,ac,(lI U F).trans d⟩ (by show j-1<j;omega)|exact Out.z' m (i+1,s) ⟨ac,d⟩ (by show b-(i+1)<b-i;omega))
  .obtain rfl:j=a:=by omega
   refine Uf ?_;refine bE 21 ?_;refine ae 13 4 ?_;refine aa 14 ?_;exact Out.z' m (i+1,s) ⟨ac,d⟩ (by show b-(i+1)<b-i;omega)
 .refine aa 14 ?_
  .exact⟨_,_,⟨D,z,rfl,rfl⟩,Uc⟩
def G9(g n Q:Nat)(l:ab ag)(T:l.length=n)(f ao first:Nat)(p:f<=1000000)(X:first+ao<=n)(a:n<=1000000)(E:ax)(s:aj)(w:ag->ag->Int)(q:mc s E w):ar prog 248 [.slice (some ⟨g,0,none⟩) n Q,I (f:Int),I (ao:Int),I (first:Int),s] [eB g n Q l,E] (λr J=>∃X:ab ag,X.Perm l/\r=.tuple #[]/\J=[eB g n Q X,E]):=by
 unfold eB;refine aE func248 λW=>?_;refine aa 7 ?_;refine ah.cp [0,2,3,4] (λy:Nat×ab ag=>y.1<=1000000/\y.2.Perm l) (λy=>[(10,I (y.1:Int))]) (λy=>[rows ag.c (.slice (some ⟨g,0,none⟩) n Q) 46 2 y.2]) (λy=>ao-y.1) (f,l) ⟨p,he _⟩ ?_;rintro⟨r,i⟩⟨f,d⟩ K b;dsimp only at f d;refine bl ?_;have M:i.length=n:=LY
 have C:(2*(r:Int)+1)=((2*r+1:Nat):Int):=ac
 by_cases m:2*r+1<ao
 .refine aa 4 ?_;refine ai.v (V.mul) ?_;refine ai.v (V.Uo C rfl rfl ac) ?_;refine aa 14 ?_;refine ah.mt [0,2,3,4,10] (λc:Nat=>r<c/\c<ao) (λc=>[(11,I (c:Int))]) (λ_=>[]) ?_ ?_
  .intro K w;have Y:((first:Int)+((2*r+1:Nat):Int))=((first+(2*r+1):Nat):Int):=by omega
   have N:(((first+(2*r+1):Nat):Int)+1)=((first+(2*r+2):Nat):Int):=ac
   have R:(((2*r+1:Nat):Int)+1)=((2*r+2:Nat):Int):=ac
   obtain⟨x,U⟩:=cl (t:=i) (k:=first+(2*r+1)) ac;by_cases D:2*r+2<ao
   .obtain⟨y,F⟩:=cl (t:=i) (k:=first+(2*r+2)) ac;have J:=q x y;refine TA ?_;refine ae 4 5 ?_;refine af.i' 9 rfl (V.Uo Y rfl rfl ac) ?_;refine af.i' 10 rfl (V.B' ad (k:=first+(2*r+1)) rfl rfl rfl rfl ac) ?_;refine af.i' 11 rfl (V.H' ad rfl T1 ag.len U) ?_;refine ae 3 12 ?_;refine af.i' 15 rfl (V.Uo Y rfl rfl ac) ?_;refine af.i' 16 rfl (V.Uo N rfl rfl ac) ?_;refine af.i' 17 rfl (V.B' ad (k:=first+(2*r+2)) rfl rfl rfl rfl ac) ?_;refine af.i' 18 rfl (V.H' ad rfl T1 ag.len F) ?_;refine af.q' 19 rfl (av.UG J rfl rfl Uc ?_);refine au ?_;refine ae 2 20 ?_;refine OV (λh=>?_) λh=>?_;refine aa 2 ?_;refine ai.v (V.Uo R rfl rfl ac) ?_;refine aa 2 ?_;rotate_left;refine au ?_;rotate_left
    .exact Out.z' w (2*r+2) ⟨ac,ac⟩ trivial
    .exact Out.z' w (2*r+1) ⟨ac,ac⟩ trivial
   .refine TA ?_;refine ae 17 5 ?_;refine aa 4 ?_;all_goals exact Out.z' w (2*r+1) ⟨ac,ac⟩ trivial
  .rintro c⟨m,D⟩;have Z:((first:Int)+(r:Int))=((first+r:Nat):Int):=by omega
   have a:((first:Int)+(c:Int))=((first+c:Nat):Int):=ac
   obtain⟨x,U⟩:=cl (t:=i) (k:=first+r) ac;obtain⟨y,F⟩:=cl (t:=i) (k:=first+c) ac;have J:=q x y;refine bl ?_;refine Uf ?_;refine af.i' 4 rfl (V.Uo Z rfl rfl ac) ?_;refine af.i' 5 rfl (V.B' ad (k:=first+r) rfl rfl rfl rfl ac) ?_;refine af.i' 6 rfl (V.H' ad rfl T1 ag.len U) ?_;refine ae 3 7 ?_;refine af.i' 10 rfl (V.Uo a rfl rfl ac) ?_;refine af.i' 11 rfl (V.B' ad (k:=first+c) rfl rfl rfl rfl ac) ?_;refine af.i' 12 rfl (V.H' ad rfl T1 ag.len F) ?_;refine af.q' 13 rfl (av.UG J rfl rfl Uc ?_);refine au ?_;refine ae 2 14 ?_;refine OV (λu=>?_) λu=>?_;refine aa 6 ?_
   .exact⟨_,_,⟨i,d,rfl,rfl⟩,Uc⟩
   refine aa 3 ?_;refine ah.n' ?_ aB.j.j;refine ae 3 0 ?_;refine af.i' 3 rfl (V.Uo Z rfl rfl ac) ?_;refine ae 3 4 ?_;refine af.i' 7 rfl (V.Uo a rfl rfl ac) ?_;refine ae 3 8 ?_;refine af.i' 11 rfl (V.Uo a rfl rfl ac) ?_;refine af.i' 12 rfl (V.B' ad (k:=first+c) rfl rfl rfl rfl ac) ?_;refine ae 3 14 ?_;refine af.i' 17 rfl (V.Uo Z rfl rfl ac) ?_;refine af.i' 18 rfl (V.B' ad (k:=first+r) rfl rfl rfl rfl ac) ?_;refine af.bv 13 19 rfl rfl ?_ ?_;refine RG ?_;refine af.q' 19 rfl (av.x' (V.H' ad rfl T1 ag.len U) ?_);refine Lh ?_;rotate_left;refine Pz ?_;refine af.q' 13 rfl (av.x' (V.H' ad rfl T1 ag.len F) ?_);refine Lh ?_;rotate_left;all_goals skip
   all_goals exact Out.z' b (c,(i.set (first+r) y).set (first+c) x) ⟨ac,(lI U F).trans d⟩ (by show ao-c<ao-r;omega)
 .clear b;refine aa 4 ?_;refine ai.v (V.mul) ?_;refine ai.v (V.Uo C rfl rfl ac) ?_;refine aa 14 ?_;refine Out.VM ?_;refine aa 3 ?_
  .first|exact⟨_,_,⟨i,d,rfl,rfl⟩,Uc⟩|(exfalso;omega)
def agR(g n Q:Nat)(l:ab ag)(T:l.length=n)(a b:Nat)(D:a<b)(X:b<=n)(p:n<=1000000)(E:ax)(h:aj)(w:ag->ag->Int)(q:mc h E w):ar prog 208 [.slice (some ⟨g,0,none⟩) n Q,I (a:Int),I (b:Int),h] [eB g n Q l,E] (λr J=>∃u:ab ag,u.Perm l/\r=.tuple #[]/\J=[eB g n Q u,E]):=by
 unfold eB;have o:((b:Int)-(a:Int))=((b-a:Nat):Int):=ac
 have Y:(((b-a:Nat):Int)-1)=((b-a-1:Nat):Int):=ac
 have N:((b-a-1:Nat):Int)/2=(((b-a-1)/2+1:Nat):Int)-1:=ac
 generalize U:b-a=ao at*;refine aE func208 λW=>?_;refine aa 15 ?_;refine ai.v (V.Y' o rfl rfl ac) ?_;refine aa 7 ?_;refine ai.v (V.Y' Y rfl rfl ac) ?_;refine aa 5 ?_;rw[N];refine ah.cp [10,9,8,0,3] (λy:Nat×ab ag=>y.1<=n+1/\y.2.Perm l) (λy=>[(11,I ((y.1:Int)-1))]) (λy=>[rows ag.c (.slice (some ⟨g,0,none⟩) n Q) 46 2 y.2]) (λy=>y.1) ((ao-1)/2+1,l) ⟨ac,he _⟩ ?_;rintro⟨r,s⟩⟨f,d⟩ K b;dsimp only at f d;refine bl ?_;have J:s.length=n:=LY
 cases r with
 |zero=>
  clear b;have R:((ao:Int)-1)=((ao:Nat):Int)-1:=rfl;refine aa 21 ?_;refine ah.cp [10,9,8,0,3] (λy:Nat×ab ag=>y.1<=ao/\y.2.Perm l) (λy=>[(12,I ((y.1:Int)-1))]) (λy=>[rows ag.c (.slice (some ⟨g,0,none⟩) n Q) 46 2 y.2]) (λy=>y.1) (ao,s) ⟨cD _,d⟩ ?_;rintro⟨k,N⟩⟨u,D⟩ K b;dsimp only at u D;refine bl ?_;have J:N.length=n:=by rw[D.length_eq,T]
  cases k with
  |zero=>
   clear b;refine aa 13 ?_
   .first|exact⟨_,_,⟨N,D,rfl,rfl⟩,Uc⟩|(exfalso;omega)
  |succ m=>
   have Z:(((m+1:Nat):Int)-1)=(m:Int):=ac
   have i:((a:Int)+(m:Int))=((a+m:Nat):Int):=ac
   rw[Z];obtain⟨x,U⟩:=cl (t:=N) (k:=a) ac;obtain⟨y,F⟩:=cl (t:=N) (k:=a+m) ac;have v:=G9 g n Q ((N.set a y).set (a+m) x) (by rw[co,co];exact J) 0 m a ac ac p E h w q;unfold eB at v;refine aa 13 ?_;refine ah.n' ?_ aB.j.j;refine ae 5 0 ?_;refine af.i' 5 rfl (V.Uo i rfl rfl ac) ?_;refine ae 3 6 ?_;refine af.i' 9 rfl (V.Uo i rfl rfl ac) ?_;refine af.i' 10 rfl (V.B' ad (k:=a+m) rfl rfl rfl rfl ac) ?_;refine ae 2 12 ?_;refine af.i' 14 rfl (V.B' ad (k:=a) rfl rfl rfl rfl ac) ?_;refine af.bv 11 15 rfl rfl ?_ ?_;refine RG ?_;refine af.q' 15 rfl (av.x' (V.H' ad rfl T1 ag.len U) ?_);refine O1 λi r=>?_;rotate_left;refine OO ?_;refine O1 λi x=>?_;rotate_left;all_goals exact Out.z' b (m,_) ⟨ac,l3 TX ((lI U F).trans D)⟩ (by show m<m+1;omega)
 |succ m=>
  have Z:(((m+1:Nat):Int)-1)=(m:Int):=ac
  rw[Z];have v:=G9 g n Q s J m ao a ac ac p E h w q;unfold eB at v;refine aa 19 ?_;rintro _ _⟨n,r,rfl,rfl⟩;refine aa 9 ?_;rotate_left;exact Out.z' b (m,_) ⟨ac,l3 TX d⟩ (by show m<m+1;omega)
def aik(g n Q:Nat)(l:ab ag)(T:l.length=n)(a b:Nat)(D:a<b)(X:b<=n)(p:n<=1000000)(E:ax)(s:aj)(w:ag->ag->Int)(q:mc s E w):ar prog 211 [.slice (some ⟨g,0,none⟩) n Q,I (a:Int),I (b:Int),s] [eB g n Q l,E] (λr J=>∃X:ab ag,X.Perm l/\r=.tuple #[]/\J=[eB g n Q X,E]):=by
 unfold eB;have Y:((b:Int)-1)=((b-1:Nat):Int):=ac
 refine aE func211 λW=>?_;refine aa 9 ?_;refine ai.v (V.Y' Y rfl rfl ac) ?_;refine aa 4 ?_;refine ah.cp [0] (λy:Nat×Nat×ab ag=>y.2.1<n/\y.2.2.Perm l) (λy=>[(8,I (y.1:Int)),(9,I (y.2.1:Int))]) (λy=>[rows ag.c (.slice (some ⟨g,0,none⟩) n Q) 46 2 y.2.2]) (λy=>y.2.1) (a,b-1,l) ⟨by show b-1<n;omega,he _⟩ ?_;rintro⟨i,j,l⟩⟨b,d⟩ K m;dsimp only at b d;refine bl ?_;have J:l.length=n:=LY
 by_cases C:i<j
 .have N:((j:Int)-1)=((j-1:Nat):Int):=by omega
  have R:((i:Int)+1)=((i+1:Nat):Int):=ac
  obtain⟨x,U⟩:=cl (t:=l) (k:=i) ac;obtain⟨y,F⟩:=cl (t:=l) (k:=j) ac;refine aa 13 ?_;refine ah.n' ?_ aB.j.j;refine ae 6 0 ?_;refine af.i' 6 rfl (V.B' ad (k:=j) rfl rfl rfl rfl ac) ?_;refine ae 2 8 ?_;refine af.i' 10 rfl (V.B' ad (k:=i) rfl rfl rfl rfl ac) ?_;refine af.bv 7 11 rfl rfl ?_ ?_;refine RG ?_;refine af.q' 11 rfl (av.x' (V.H' ad rfl T1 ag.len U) ?_);refine O0 ?_;rotate_left;refine Pz ?_;refine af.q' 7 rfl (av.x' (V.H' ad rfl T1 ag.len F) ?_);refine O0 ?_;rotate_left;all_goals(refine Out.z' m (i+1,j-1,(l.set i y).set j x) ?_ (by show j-1<j;omega);exact ⟨by show j-1<n;omega,(lI U F).trans d⟩)
 .clear m;refine aa 14 ?_
  .exact⟨_,_,⟨l,d,rfl,rfl⟩,Uc⟩
def aer(g n Q:Nat)(l:ab ag)(T:l.length=n)(f ao a b q:Nat)(s:Int)(U:ao<n)(Y:f<=a)(G:a<=ao)(h:f<=b)(X:b<=ao)(s1:0<=s)(s2:s<=1000)(p:n<=1000000)(E:ax)(k:aj)(w:ag->ag->Int)(D:mc k E w):ar prog 270 [.slice (some ⟨g,0,none⟩) n Q,I (a:Int),I (b:Int),aw q 0,k] [eB g n Q l,cells q 3 [I s],E] (λr J=>∃x y:Nat,∃t:Int,f<=x/\x<=ao/\f<=y/\y<=ao/\s<=t/\t<=s+1/\r=.tuple #[I (x:Int),I (y:Int)]/\J=[eB g n Q l,cells q 3 [I t],E]):=by
 unfold eB;obtain⟨x,U⟩:=cl (t:=l) (k:=a) ac;obtain⟨y,F⟩:=cl (t:=l) (k:=b) ac;have J:=D y x;refine aE func270 λW=>?_;refine aa 8 ?_;refine ah.n' ?_ aB.d'.j.d';refine ae 3 0 ?_;refine af.i' 3 rfl (V.B' ad (k:=b) rfl rfl rfl rfl ac) ?_;refine af.i' 4 rfl (V.H' ad rfl T1 ag.len F) ?_;refine ae 2 5 ?_;refine af.i' 7 rfl (V.B' ad (k:=a) rfl rfl rfl rfl ac) ?_;refine af.i' 8 rfl (V.H' ad rfl T1 ag.len U) ?_;refine af.q' 9 rfl (av.UG J rfl rfl Uc ?_);refine au ?_;refine ae 1 10 ?_;refine OV (λE=>?_) λE=>?_;refine aa 21 ?_;rotate_left;refine aa 12 ?_;rotate_left
 .exact⟨_,_,⟨b,a,s+1,h,X,Y,G,ac,ac,rfl,rfl⟩,Uc⟩
 .exact⟨_,_,⟨a,b,s,Y,G,h,X,ac,ac,rfl,rfl⟩,Uc⟩
def Ha(g n Q:Nat)(l:ab ag)(T:l.length=n)(f ao a b c q:Nat)(s:Int)(Z:ao<n)(k:f<=a)(G:a<=ao)(h:f<=b)(F:b<=ao)(U:f<=c)(i:c<=ao)(s1:0<=s)(s2:s<=900)(p:n<=1000000)(E:ax)(Y:aj)(w:ag->ag->Int)(D:mc Y E w):ar prog 252 [.slice (some ⟨g,0,none⟩) n Q,I (a:Int),I (b:Int),I (c:Int),aw q 0,Y] [eB g n Q l,cells q 3 [I s],E] (λr J=>∃x:Nat,∃t:Int,f<=x/\x<=ao/\s<=t/\t<=s+3/\r=I (x:Int)/\J=[eB g n Q l,cells q 3 [I t],E]):=by
 unfold eB;have r (a b:Nat) (s:Int) (k:f<=a) (G:a<=ao) (h:f<=b) (F:b<=ao) (s1:0<=s) (s2:s<=1000):=aer g n Q l T f ao a b q s Z k G h F s1 s2 p E Y w D;unfold eB at r;refine aE func252 λW=>?_;refine aa 12 ?_;refine ai.p' rfl (r _ _ _ ?_ ?_ ?_ ?_ ?_ ?_) ?_;iterate 6 exact cf
 rintro _ _⟨n,i,N,E,v,l,u,Q,x,rfl,rfl⟩;refine aa 15 ?_;refine ai.p' rfl (r _ _ _ ?_ ?_ ?_ ?_ ?_ ?_) ?_;iterate 6 exact cf
 rintro _ _⟨l,s,k,L,P,o,W,z,J,rfl,rfl⟩;refine aa 15 ?_;refine ai.p' rfl (r _ _ _ ?_ ?_ ?_ ?_ ?_ ?_) ?_;iterate 6 exact cf
 rintro _ _⟨h,x,Y,Q,p,l,q,M,C,rfl,rfl⟩;refine aa 16 ?_;refine⟨_,_,⟨_,_,?_,?_,?_,?_,rfl,rfl⟩,Uc⟩<;>first|assumption|omega
def N3(g n Q:Nat)(l:ab ag)(T:l.length=n)(f ao a q:Nat)(s:Int)(U:ao<n)(K:f+1<=a)(X:a+1<=ao)(s1:0<=s)(s2:s<=900)(p:n<=1000000)(E:ax)(k:aj)(w:ag->ag->Int)(D:mc k E w):ar prog 251 [.slice (some ⟨g,0,none⟩) n Q,I (a:Int),aw q 0,k] [eB g n Q l,cells q 3 [I s],E] (λr J=>∃x:Nat,∃t:Int,f<=x/\x<=ao/\s<=t/\t<=s+3/\r=I (x:Int)/\J=[eB g n Q l,cells q 3 [I t],E]):=by
 have z:=Ha g n Q l T f ao (a-1) a (a+1) q s U ac ac ac ac ac X s1 s2 p E k w D;unfold eB at*;have Y:((a:Int)-1)=((a-1:Nat):Int):=ac
 have N:((a:Int)+1)=((a+1:Nat):Int):=ac
 refine aE func251 λW=>?_;refine aa 9 ?_;refine RB ?_;refine ai.v (V.Uo N rfl rfl ac) ?_;refine aa 3 ?_;rintro _ _⟨U,D,E,r,l,u,rfl,rfl⟩;refine aa 6 ?_;refine⟨_,_,⟨_,_,?_,?_,?_,?_,rfl,rfl⟩,Uc⟩<;>first|assumption|omega
def agb(g n Q:Nat)(l:ab ag)(T:l.length=n)(a b:Nat)(G:a+12<b)(X:b<=n)(p:n<=1000000)(E:ax)(k:aj)(w:ag->ag->Int)(D:mc k E w):ar prog 210 [.slice (some ⟨g,0,none⟩) n Q,I (a:Int),I (b:Int),k] [eB g n Q l,E] (λr J=>∃x:Nat,∃h:Int,a<=x/\x<=b-1/\r=.tuple #[I (x:Int),I h]/\J=[eB g n Q l,E]):=by
 have z (x y c q:Nat) (s:Int) (M:a<=x) (L:x<=b-1) (C:a<=y) (K:y<=b-1) (U:a<=c) (i:c<=b-1) (s1:0<=s) (s2:s<=900):=Ha g n Q l T a (b-1) x y c q s ac M L C K U i s1 s2 p E k w D;have m (x q:Nat) (s:Int) (M:a+1<=x) (L:x+1<=b-1) (s1:0<=s) (s2:s<=900):=N3 g n Q l T a (b-1) x q s ac M L s1 s2 p E k w D;unfold eB at*;have o:((b:Int)-(a:Int))=((b-a:Nat):Int):=ac
 obtain⟨k,u⟩:∃k,k=(b-a)/4:=⟨_,rfl⟩
 have Y:(((b-a:Nat):Int)/4)=(k:Int):=ac
 have c:((a:Int)+(k:Int)*1)=((a+k:Nat):Int):=ac
 have U:((a:Int)+(k:Int)*2)=((a+2*k:Nat):Int):=ac
 have P:((a:Int)+(k:Int)*3)=((a+3*k:Nat):Int):=ac
 refine aE func210 λW=>?_;refine aa 10 ?_;refine ai.v (V.Y' o rfl rfl ac) ?_;refine aq 5 λu=>?_;refine aa 7 ?_;refine ai.v (V.mul) ?_;refine aa 9 ?_;refine ai.v (V.mul) ?_;refine aa 9 ?_;refine ai.v (V.mul) ?_;refine aa 4 ?_;rw[Y,c,U,P];refine ah.mt [0,1,2,3,11] (λy:Nat×Int=>a<=y.1/\y.1<=b-1) (λy=>[(13,I (y.1:Int))]) (λy=>[cells u 3 [I y.2]]) (i:=[cells u 3 [I 0]]) ?_ ?_
 .intro K r;refine aa 14 ?_;refine ah.cs (λG=>?_) (λG=>?_);refine aa 5 ?_;refine ai.p' rfl (m _ _ _ ?_ ?_ ?_ ?_) ?_;iterate 4 exact cf
  rintro _ _⟨J,Z,l,u,Q,Y,rfl,rfl⟩;refine aa 9 ?_;refine ai.p' rfl (m _ _ _ ?_ ?_ ?_ ?_) ?_;iterate 4 exact cf
  rintro _ _⟨N,M,L,P,o,W,rfl,rfl⟩;refine aa 8 ?_;refine ai.p' rfl (m _ _ _ ?_ ?_ ?_ ?_) ?_;iterate 4 exact cf
  rintro _ _⟨C,K,P,j,Q,p,rfl,rfl⟩;refine aa 10 ?_;refine ai.p' rfl (z _ _ _ _ _ ?_ ?_ ?_ ?_ ?_ ?_ ?_ ?_) ?_;iterate 8 exact cf
  rintro _ _⟨F,X,M,C,R,T,rfl,rfl⟩;refine aa 3 ?_;rotate_left;refine aa 8 ?_;refine ai.p' rfl (z _ _ _ _ _ ?_ ?_ ?_ ?_ ?_ ?_ ?_ ?_) ?_;iterate 8 exact cf
  rintro _ _⟨u,E,Q,q,D,G,rfl,rfl⟩;refine aa 3 ?_;rotate_left;all_goals(refine Out.z' r (_,_) ?_ trivial;exact ⟨by first|assumption|omega,by first|assumption|omega⟩)
 .rintro⟨x,t⟩⟨r,l⟩;dsimp only at r l;refine bl ?_;refine aa 12 ?_;refine ah.cs (λf=>?_) (λf=>?_);refine aa 10 ?_;rotate_left;refine T5 (λt=>?_) λt=>?_;refine aa 10 ?_;rotate_left;refine aa 10 ?_;rotate_left;all_goals(refine⟨_,_,⟨_,_,?_,?_,rfl,rfl⟩,Uc⟩<;>first|assumption|omega)
end Go.Proofs.YteogojgnkjegmaaGreatDoor
namespace Go.ay
open Go Go.Proofs Go.RowKit Go.Sort Go.Shelf
section
variable{P:bU}{Y:Ren}
def Hb(h:ab (ab aS)):h.flatMap fg=h.map encStr:=by
 induction h with
 |nil=>rfl
 |cons k h d=>rw[gn,e7,d];rfl
def aeZ(L:Lays.n190 P Y)(E g Q:Nat)(k:ab (ab aS))(T:k.length<4611686018427387904):ar P (Y.f 190) [.slice (some ⟨g,0,none⟩) k.length Q] [rows fg (.slice (some ⟨g,0,none⟩) k.length Q) E 1 k] (λr J=>r=.tuple #[]/\J=[rows fg (.slice (some ⟨g,0,none⟩) k.length Q) E 1 (k.mergeSort λx y=>decide (x<=y))]):=ar.of λw o=>by
 have D:=o.fQ _ (i2.2 rfl);rw[fs,io,Hb]at D;rcases D.2 with⟨z,_⟩|⟨m,p,M,z,_,G,R,Z,j,c⟩
 .cases z
 .simp only[rf,eY,wP]at z;obtain⟨⟨rfl,_⟩,_,rfl⟩:=z;have N:g<w.heap.size:=(o4.1 G).1;have v:Holds encStr w g 0 k.toArray:=holds_of_block G (by simpa using c);refine(Any.slices_Sort_string L g 0 Q k w v N T).mono ?_;rintro e U⟨rfl,n,i,rfl⟩;refine⟨_,_,rfl,⟨rfl,rfl⟩,?_⟩;have q:=ownsRow_sorted (n:=n) (os:=i) (ts:=k.mergeSort λx y=>decide (x<=y)) T3 (cO g) G R Z j;have l:=grownBy_sorted (w:=w) (g:=g) (n:=n) (os:=i) (k.mergeSort λx y=>decide (x<=y)).toArray;refine⟨λe z=>?_,?_,λb X=>.inl ?_,λb X a=>?_,?_,?_,?_,?_,?_⟩
  .obtain rfl:=i2.1 z;rw[fs,io,Hb];simpa using q
  .have:=o.nodup;simpa[bn,fs,h6]using this
  .simpa[bn,fs,h6]using X
  .refine l.5 b X ?_;intro e;obtain rfl:=hc e;exact a (by simp[bn,fs,h6,Value.ownBlock])
  .exact l.4
  .exact l.1
  .exact l.2
  .exact l.3
  .exact jL _ _
def ajC(L:Lays.n190 P Y)(C:ab ax):ar P (Y.f 190) [.slice none 0 0] C (λr J=>r=.tuple #[]/\J=C):=ar.of λw o=>by refine(Any.slices_Sort_string_none L none 0 w).mono ?_;rintro e U⟨rfl,rfl⟩;exact⟨_,_,rfl,⟨rfl,rfl⟩,o.start⟩
end
end Go.ay
namespace Go.Proofs
open Go.Shelf Go.Proofs.Tryz
def Tryz.abh:Go.Shelf.Ren:=⟨λ|125=>151|128=>215|129=>216|n=>n,λ|46=>268|3=>3|51=>296|53=>335|4=>4|5=>5|9=>9|n=>n,λ|n=>n⟩
def Tryz.abi:Go.Proofs.Lays.n125 prog Tryz.abh:={
 mixed:=T7
 f125:=func151.trans (dp some T7)
 f128:=func215.trans (dp some T7)
 f129:=func216.trans (dp some T7)
 t3:=Tryz.underlying3
 a3:=Tryz.isAgg3
 z3:=Tryz.sizeOf3
 v3:=Tryz.zeroValue3
 t4:=Tryz.underlying4
 a4:=Tryz.isAgg4
 z4:=Tryz.sizeOf4
 v4:=Tryz.zeroValue4
 t5:=Tryz.underlying5
 a5:=Tryz.isAgg5
 z5:=Tryz.sizeOf5
 v5:=Tryz.zeroValue5
 t9:=Tryz.underlying9
 a9:=Tryz.isAgg9
 z9:=Tryz.sizeOf9
 v9:=Tryz.zeroValue9
 t46:=Tryz.underlying268
 a46:=Tryz.isAgg268
 z46:=Tryz.sizeOf268
 v46:=Tryz.zeroValue268
 t51:=Tryz.underlying296
 a51:=Tryz.isAgg296
 z51:=Tryz.sizeOf296
 v51:=Tryz.zeroValue296
 t53:=Tryz.underlying335
 a53:=Tryz.isAgg335
 z53:=Tryz.sizeOf335
 v53:=Tryz.zeroValue335}
def Tryz.abj:Go.Shelf.Ren:=⟨λ|190=>275|125=>151|258=>286|128=>215|129=>216|302=>287|303=>288|304=>289|305=>290|306=>291|307=>292|308=>293|309=>294|310=>295|333=>296|329=>249|330=>250|334=>297|335=>298|336=>299|344=>300|n=>n,λ|31=>61|9=>9|3=>3|46=>268|0=>0|51=>296|53=>335|4=>4|183=>328|182=>327|131=>216|5=>5|218=>365|222=>369|228=>391|229=>392|n=>n,λ|n=>n⟩
def Tryz.Zx:Go.Proofs.Lays.n190 prog Tryz.abj:={
 mixed:=T7
 f125:=func151.trans (dp some T7)
 f128:=func215.trans (dp some T7)
 f129:=func216.trans (dp some T7)
 f190:=func275.trans (dp some T7)
 f258:=func286.trans (dp some T7)
 f302:=func287.trans (dp some T7)
 f303:=func288.trans (dp some T7)
 f304:=func289.trans (dp some T7)
 f305:=func290.trans (dp some T7)
 f306:=func291.trans (dp some T7)
 f307:=func292.trans (dp some T7)
 f308:=func293.trans (dp some T7)
 f309:=func294.trans (dp some T7)
 f310:=func295.trans (dp some T7)
 f329:=func249.trans (dp some T7)
 f330:=func250.trans (dp some T7)
 f333:=func296.trans (dp some T7)
 f334:=func297.trans (dp some T7)
 f335:=func298.trans (dp some T7)
 f336:=func299.trans (dp some T7)
 f344:=func300.trans (dp some T7)
 t0:=Tryz.underlying0
 a0:=Tryz.isAgg0
 z0:=Tryz.sizeOf0
 v0:=Tryz.zeroValue0
 t3:=Tryz.underlying3
 a3:=Tryz.isAgg3
 z3:=Tryz.sizeOf3
 v3:=Tryz.zeroValue3
 t4:=Tryz.underlying4
 a4:=Tryz.isAgg4
 z4:=Tryz.sizeOf4
 v4:=Tryz.zeroValue4
 t5:=Tryz.underlying5
 a5:=Tryz.isAgg5
 z5:=Tryz.sizeOf5
 v5:=Tryz.zeroValue5
 t9:=Tryz.underlying9
 a9:=Tryz.isAgg9
 z9:=Tryz.sizeOf9
 v9:=Tryz.zeroValue9
 t31:=Tryz.underlying61
 a31:=Tryz.isAgg61
 z31:=Tryz.sizeOf61
 v31:=Tryz.zeroValue61
 t46:=Tryz.underlying268
 a46:=Tryz.isAgg268
 z46:=Tryz.sizeOf268
 v46:=Tryz.zeroValue268
 t51:=Tryz.underlying296
 a51:=Tryz.isAgg296
 z51:=Tryz.sizeOf296
 v51:=Tryz.zeroValue296
 t53:=Tryz.underlying335
 a53:=Tryz.isAgg335
 z53:=Tryz.sizeOf335
 v53:=Tryz.zeroValue335
 t131:=Tryz.underlying216
 a131:=Tryz.isAgg216
 z131:=Tryz.sizeOf216
 v131:=Tryz.zeroValue216
 t182:=Tryz.underlying327
 a182:=Tryz.isAgg327
 z182:=Tryz.sizeOf327
 v182:=Tryz.zeroValue327
 t183:=Tryz.underlying328
 a183:=Tryz.isAgg328
 z183:=Tryz.sizeOf328
 v183:=Tryz.zeroValue328
 t218:=Tryz.underlying365
 a218:=Tryz.isAgg365
 z218:=Tryz.sizeOf365
 v218:=Tryz.zeroValue365
 t222:=Tryz.underlying369
 a222:=Tryz.isAgg369
 z222:=Tryz.sizeOf369
 v222:=Tryz.zeroValue369
 t228:=Tryz.underlying391
 a228:=Tryz.isAgg391
 z228:=Tryz.sizeOf391
 v228:=Tryz.zeroValue391
 t229:=Tryz.underlying392
 a229:=Tryz.isAgg392
 z229:=Tryz.sizeOf392
 v229:=Tryz.zeroValue392}
end Go.Proofs
namespace Go.Proofs.YteogojgnkjegmaaGreatDoor
open Go Go.ay Go.Proofs.Tryz
def agS(E g Q:Nat)(k:ab (ab aS))(T:k.length<4611686018427387904):ar prog 275 [.slice (some ⟨g,0,none⟩) k.length Q] [rows fg (.slice (some ⟨g,0,none⟩) k.length Q) E 1 k] (λr J=>r=.tuple #[]/\J=[rows fg (.slice (some ⟨g,0,none⟩) k.length Q) E 1 (k.mergeSort λx y=>decide (x<=y))]):=
 aeZ Tryz.Zx E g Q k T
def aeT(C:ab ax):ar prog 275 [.slice none 0 0] C (λr J=>r=.tuple #[]/\J=C):=ajC Tryz.Zx C
def B8(x:Nat)(h:x<=18446744073709551615):dr prog 151 [.int .u64 (x:Int)] (I (Lib.bitLen x:Nat)):=ar.of λw o=>by refine(Any.bits_Len Tryz.abi (x:Int) w ac ac).mono ?_;rintro e Y⟨rfl,rfl⟩;exact⟨_,[],rfl,⟨by rw[i3],rfl⟩,o.start⟩
def Hc{x:Nat}(h:x<=1000000)(o:x≠0):2^Lib.bitLen x<=2*x/\Lib.bitLen x<=20:=by
 obtain⟨Y,N,R⟩:=Lib.bitLenAux_bounds 64 x ac o;refine⟨?_,Lib.bitLen_le x 20 ac ac⟩;have e:Lib.bitLen x=Lib.bitLenAux 64 x:=rfl;rw[e];have:2^Lib.bitLenAux 64 x=2*2^(Lib.bitLenAux 64 x-1):=by rw[<-Nat.pow_succ'];congr 1;omega
 omega
def acV(x:Nat)(U:x<=1000000)(o:x≠0):dr prog 249 [I (x:Int)] (.int .u64 ((2^Lib.bitLen x:Nat):Int)):=by
 have i:=B8 x ac;obtain⟨Y,N⟩:=Hc U o;have c:Go.IntKind.u64.wrap (x:Int)=(x:Int):=Tk
 have n:dr prog 151 [.int .u64 (Go.IntKind.u64.wrap (x:Int))] (I (Lib.bitLen x:Nat)):=by rw[c];exact i
 have J:Go.IntKind.u64.wrap (1*2^(Min.min ((Lib.bitLen x:Nat):Int).toNat Go.IntKind.u64.bits))=((2^Lib.bitLen x:Nat):Int):=by
  have:Min.min ((Lib.bitLen x:Nat):Int).toNat Go.IntKind.u64.bits=Lib.bitLen x:=by
   rw[i3];show Min.min _ 64=_
   omega
  rw[this,Int.one_mul];have R:(2:Int)^Lib.bitLen x=((2^Lib.bitLen x:Nat):Int):=T3
  rw[R];generalize 2^Lib.bitLen x=y at*;simp[Go.IntKind.wrap,Go.IntKind.signed,Go.IntKind.bits];omega
 refine aE func249 λW=>?_;refine aa 8 ?_;refine ai.v (V.VU ad) ?_;refine au ?_;refine ai.v (V.shl rfl rfl ac J) ?_;exact aP 5
def ad3(q:Nat)(s:Int):ar prog 250 [aw q 0] [cells q 365 [.int .u64 s]] (λr J=>∃t:Int,r=.int .u64 t/\J=[cells q 365 [.int .u64 t]]):=by refine aE func250 λW=>?_;refine aa 6 ?_;refine ah.Uv [9] ?_ aB.d' aB.j;refine ae 2 0 ?_;refine ae 2 3 ?_;refine af.t 2 rfl (V.C' ad) ?_;refine af.t 5 rfl (V.C' ad) ?_;refine af.i' 6 rfl (V.shl) ?_;refine af.i' 7 rfl (V.bit rfl) ?_;refine ae 1 8 ?_;refine af.l 9 rfl (O.K' ad ?_);refine aa 4 ?_;refine ah.Uv [9] ?_ aB.d' aB.j;refine ae 2 0 ?_;refine ae 2 3 ?_;refine af.t 2 rfl (V.C' ad) ?_;refine af.t 5 rfl (V.C' ad) ?_;refine af.i' 6 rfl (V.shr) ?_;refine af.i' 7 rfl (V.bit rfl) ?_;refine ae 1 8 ?_;refine af.l 9 rfl (O.K' ad ?_);refine aa 4 ?_;refine ah.Uv [9] ?_ aB.d' aB.j;refine ae 2 0 ?_;refine ae 2 3 ?_;refine af.t 2 rfl (V.C' ad) ?_;refine af.t 5 rfl (V.C' ad) ?_;refine af.i' 6 rfl (V.shl) ?_;refine af.i' 7 rfl (V.bit rfl) ?_;refine ae 1 8 ?_;refine af.l 9 rfl (O.K' ad ?_);exact aP 13
def aeC(s:Int){m:Nat}(o:1<=m)(h:m<=2097152):∃z:Nat,z<m/\Go.IntKind.i64.wrap (Go.IntKind.u64.wrap ((BitVec.ofInt Go.IntKind.u64.bits s&&&BitVec.ofInt Go.IntKind.u64.bits (Go.IntKind.u64.wrap ((m:Int)-1))).toNat:Int))=(z:Int):=by
 have l:Go.IntKind.u64.wrap ((m:Int)-1)=((m-1:Nat):Int):=by
  have:(m:Int)-1=((m-1:Nat):Int):=ac
  rw[this];simp[Go.IntKind.wrap,Go.IntKind.signed,Go.IntKind.bits];omega
 rw[l];refine⟨(BitVec.ofInt Go.IntKind.u64.bits s&&&BitVec.ofInt Go.IntKind.u64.bits ((m-1:Nat):Int)).toNat,?_,?_⟩
 .rw[FI];refine Nat.lt_of_le_of_lt Nat.and_le_right ?_;show(BitVec.ofInt 64 ((m-1:Nat):Int)).toNat<m
  rw[sI,ry];have:=Nat.mod_le (m-1) (2^64);omega
 .have v:(BitVec.ofInt Go.IntKind.u64.bits s&&&BitVec.ofInt Go.IntKind.u64.bits ((m-1:Nat):Int)).toNat<2097152:=by
   rw[FI];refine Nat.lt_of_le_of_lt Nat.and_le_right ?_;show(BitVec.ofInt 64 ((m-1:Nat):Int)).toNat<2097152
   rw[sI,ry];have:=Nat.mod_le (m-1) (2^64);omega
  generalize(BitVec.ofInt Go.IntKind.u64.bits s&&&BitVec.ofInt Go.IntKind.u64.bits ((m-1:Nat):Int)).toNat=z at*;simp[Go.IntKind.wrap,Go.IntKind.signed,Go.IntKind.bits];omega
def ahA(g n Q:Nat)(l:ab ag)(T:l.length=n)(a b:Nat)(G:a+12<b)(X:b<=n)(p:n<=1000000)(E:ax)(s:aj)(w:ag->ag->Int)(q:mc s E w):ar prog 209 [.slice (some ⟨g,0,none⟩) n Q,I (a:Int),I (b:Int),s] [eB g n Q l,E] (λr J=>∃u:ab ag,u.Perm l/\r=.tuple #[]/\J=[eB g n Q u,E]):=by
 unfold eB;have o:((b:Int)-(a:Int))=((b-a:Nat):Int):=ac
 obtain⟨L,v⟩:∃L,L=b-a:=⟨_,rfl⟩
 rw[<-v]at o;have D:=acV L ac ac;obtain⟨C,d⟩:=Hc (x:=L) ac ac;have P:1<=2^Lib.bitLen L:=Nat.one_le_two_pow;generalize 2^Lib.bitLen L=m at*;obtain⟨k,u⟩:∃k,k=L/4:=⟨_,rfl⟩
 have Y:((L:Int)/4)=(k:Int):=ac
 have U:((a:Int)+(k:Int)*2)=((a+2*k:Nat):Int):=ac
 have z:(((a+2*k:Nat):Int)-1)=((a+2*k-1:Nat):Int):=ac
 refine aE func209 λW=>?_;refine aa 4 ?_;refine ai.v (V.Y' o rfl rfl ac) ?_;refine aa 13 ?_;refine ai.v (V.VU ad) ?_;refine aq 0 λt=>?_;refine aa 10 ?_;rotate_left;refine aa 5 ?_;refine ai.v (V.mul) ?_;refine aa 6 ?_;rw[Y,U,z];refine ah.cp [0,1,8,9,10,3] (λy:Nat×Int×ab ag=>a+2*k-1<=y.1/\y.1<=a+2*k+2/\y.2.2.Perm l) (λy=>[(11,I (y.1:Int))]) (λy=>[cells t 365 [.int .u64 y.2.1],rows ag.c (.slice (some ⟨g,0,none⟩) n Q) 46 2 y.2.2]) (λy=>a+2*k+2-y.1) (a+2*k-1,_,l) ⟨cD _,by show a+2*k-1<=a+2*k+2;omega,he _⟩ ?_;rintro⟨i,s,l⟩⟨p,m,Q⟩ K b;dsimp only at p m Q;refine bl ?_;have J:l.length=n:=by rw[Q.length_eq,T]
 have f:=ad3 t s;have R:((i:Int)+1)=((i+1:Nat):Int):=ac
 by_cases W:i<a+2*k+2
 .refine aa 7 ?_;refine ai.v (V.mul) ?_;refine aa 13 ?_;rintro _ _⟨s,rfl,rfl⟩;refine aa 2 ?_;refine ai.v (V.Xv) ?_;refine ai.v (V.bit rfl) ?_;refine ai.v (V.VU ad) ?_;refine aa 4 ?_;rotate_left;obtain⟨z,K,m⟩:=aeC s P ac;rw[m];obtain⟨x,U⟩:=cl (t:=l) (k:=i) ac;by_cases P:z<L
  .have Z:((a:Int)+(z:Int))=((a+z:Nat):Int):=by omega
   obtain⟨y,F⟩:=cl (t:=l) (k:=a+z) ac;refine aa 10 ?_;refine S2 ?_;refine af.i' 10 rfl (V.B' ad (k:=a+z) rfl rfl rfl rfl ac) ?_;refine RA ?_ ?_;refine af.i' 18 rfl (V.B' ad (k:=a+z) rfl rfl rfl rfl ac) ?_;refine Sm ?_;rotate_left;refine OO ?_;refine SX ?_;refine af.i' 18 rfl (V.B' ad (k:=a+z) rfl rfl rfl rfl ac) ?_;refine Sm ?_;rotate_left;all_goals(refine Out.z' b (i+1,_,(l.set i y).set (a+z) x) ?_ (by show a+2*k+2-(i+1)<a+2*k+2-i;omega);exact ⟨by show a+2*k-1<=i+1;omega,by show i+1<=a+2*k+2;omega,(lI U F).trans Q⟩)
  .have p:((z:Int)-(L:Int))=((z-L:Nat):Int):=by omega
   have Z:((a:Int)+((z-L:Nat):Int))=((a+(z-L):Nat):Int):=ac
   obtain⟨y,F⟩:=cl (t:=l) (k:=a+(z-L)) ac;refine aa 11 ?_;refine ai.v (V.Y' p rfl rfl ac) ?_;refine aa 3 ?_;refine S2 ?_;refine af.i' 10 rfl (V.B' ad (k:=a+(z-L)) rfl rfl rfl rfl ac) ?_;refine RA ?_ ?_;refine af.i' 18 rfl (V.B' ad (k:=a+(z-L)) rfl rfl rfl rfl ac) ?_;refine Sm ?_;rotate_left;refine OO ?_;refine SX ?_;refine af.i' 18 rfl (V.B' ad (k:=a+(z-L)) rfl rfl rfl rfl ac) ?_;refine Sm ?_;rotate_left;all_goals(refine Out.z' b (i+1,_,(l.set i y).set (a+(z-L)) x) ?_ (by show a+2*k+2-(i+1)<a+2*k+2-i;omega);exact ⟨by show a+2*k-1<=i+1;omega,by show i+1<=a+2*k+2;omega,(lI U F).trans Q⟩)
 .refine aa 7 ?_;refine ai.v (V.mul) ?_;refine aa 11 ?_;exact⟨_,_,⟨l,Q,rfl,rfl⟩,Uc⟩
end Go.Proofs.YteogojgnkjegmaaGreatDoor
namespace Go.Proofs.YteogojgnkjegmaaGreatDoor
open Go.ay Go.Proofs.Tryz
def agC(g n Q:Nat)(l:ab ag)(R:l.length=n)(a b:Nat)(Yf:a<b)(bH:b<=n)(cM:n<=1000000)(E:ax)(pk:aj)(md:ag->ag->Int)(z:mc pk E md):ar prog 212 [.slice (some ⟨g,0,none⟩) n Q,I (a:Int),I (b:Int),pk] [eB g n Q l,E] (λr G=>∃ij:ab ag,∃t:Bool,ij.Perm l/\r=B t/\G=[eB g n Q ij,E]):=by
 unfold eB;have eE:((a:Int)+1)=((a+1:Nat):Int):=ac
 refine aE func212 λW=>?_;refine aa 8 ?_;refine ai.v (V.Uo eE rfl rfl ac) ?_;refine aa 10 ?_;refine ah.cp [0,1,2,3] (λy:Nat×Nat×ab ag=>y.1<=5/\a+1<=y.2.1/\y.2.1<=b/\y.2.2.Perm l) (λy=>[(10,I (y.1:Int)),(9,I (y.2.1:Int))]) (λy=>[rows ag.c (.slice (some ⟨g,0,none⟩) n Q) 46 2 y.2.2]) (λy=>5-y.1) (0,a+1,l) ⟨ac,cD _,Yf,he _⟩ ?_;rintro⟨j,i,s⟩⟨dR,p,m,o⟩ K u;dsimp only at dR p m o;refine bl ?_;have J:s.length=n:=by rw[o.length_eq,R]
 by_cases Yh:j<5
 .refine aa 14 ?_;rotate_left;refine ah.cp [0,1,2,3,10] (λi:Nat=>a+1<=i/\i<=b) (λi=>[(9,I (i:Int))]) (λ_=>[]) (λi=>b-i) i ⟨p,m⟩ ?_;rintro i⟨p,m⟩ fM w;refine bl ?_;by_cases Yc:i<b
  .have Y:((i:Int)-1)=((i-1:Nat):Int):=by omega
   have bY:((i:Int)+1)=((i+1:Nat):Int):=ac
   obtain⟨x,U⟩:=cl (t:=s) (k:=i) ac;obtain⟨y,F⟩:=cl (t:=s) (k:=i-1) ac;have N:=z x y;by_cases Yi:md x y<0
   .clear w;refine Uf ?_;refine QY ?_;refine aa 28 ?_;refine ah.cs (λM=>?_) (λM=>?_);refine aa 13 ?_
    .first|(exfalso;omega)|exact⟨_,_,⟨s,_,o,rfl,rfl⟩,Uc⟩
    refine aa 2 ?_;rotate_left;refine ah.mt [0,1,2,3,10,9] (λZ:ab ag=>Z.Perm l) (λ_=>[]) (λZ=>[rows ag.c (.slice (some ⟨g,0,none⟩) n Q) 46 2 Z]) (i:=[rows ag.c (.slice (some ⟨g,0,none⟩) n Q) 46 2 s]) ?_ ?_
    .intro sW q;refine ah.n' ?_ aB.j.j;refine ae 4 0 ?_;refine af.i' 4 rfl (V.Y' Y rfl rfl ac) ?_;refine ae 2 5 ?_;refine af.i' 7 rfl (V.Y' Y rfl rfl ac) ?_;refine af.i' 8 rfl (V.B' ad (k:=i-1) rfl rfl rfl rfl ac) ?_;refine ae 2 10 ?_;refine af.i' 12 rfl (V.B' ad (k:=i) rfl rfl rfl rfl ac) ?_;refine LS ?_ ?_;refine KH ?_;rotate_left;refine S3 ?_;refine au ?_;refine KH ?_;rotate_left;all_goals exact Out.z' q ((s.set i y).set (i-1) x) ((lI U F).trans o) trivial
    .intro Z D;refine bl ?_;refine ah.mt [0,1,2,3,10,9] (λZ:ab ag=>Z.Perm l) (λ_=>[]) (λZ=>[rows ag.c (.slice (some ⟨g,0,none⟩) n Q) 46 2 Z]) (i:=[rows ag.c (.slice (some ⟨g,0,none⟩) n Q) 46 2 Z]) ?_ ?_
     .intro sW q;by_cases Yj:a+2<=i
      .refine aa 12 ?_;refine ai.v (V.Y' Y rfl rfl ac) ?_;refine aa 4 ?_;rotate_left;refine ah.cp [0,1,2,3,10,9] (λy:Nat×ab ag=>y.1<i/\y.2.Perm l) (λy=>[(11,I (y.1:Int))]) (λy=>[rows ag.c (.slice (some ⟨g,0,none⟩) n Q) 46 2 y.2]) (λy=>y.1) (i-1,Z) ⟨by show i-1<i;omega,D⟩ ?_;rintro⟨k,L⟩⟨cc,d⟩ GL C;dsimp only at cc d;refine bl ?_;have J:L.length=n:=by rw[d.length_eq,R]
       by_cases h:1<=k
       .have Y:((k:Int)-1)=((k-1:Nat):Int):=by omega
        obtain⟨x,U⟩:=cl (t:=L) (k:=k) ac;obtain⟨y,F⟩:=cl (t:=L) (k:=k-1) ac;have N:=z x y;refine aa 14 ?_;refine Ny (λX=>?_) λX=>?_;refine aa 3 ?_;rotate_left;refine O5 ?_ ?_;refine Mp ?_;refine RB ?_;rotate_left;refine S3 ?_;refine Mp ?_;refine RB ?_;rotate_left
        .exact Out.z' q L d trivial
        all_goals(refine Out.z' C (k-1,(L.set k y).set (k-1) x) ?_ (by show k-1<k;omega);exact ⟨by show k-1<i;omega,(lI U F).trans d⟩)
       .clear C;refine aa 12 ?_;exact Out.z' q L d trivial
      .refine aa 10 ?_;exact Out.z' q Z D trivial
     .intro Z D;refine bl ?_;have P:((j:Int)+1)=((j+1:Nat):Int):=by omega
      by_cases Yk:i+2<=b
      .refine aa 12 ?_;refine ai.v (V.Uo bY rfl rfl ac) ?_;refine aa 4 ?_;rotate_left;refine ah.cp [0,1,2,3,10,9] (λy:Nat×ab ag=>i+1<=y.1/\y.1<=b/\y.2.Perm l) (λy=>[(12,I (y.1:Int))]) (λy=>[rows ag.c (.slice (some ⟨g,0,none⟩) n Q) 46 2 y.2]) (λy=>b-y.1) (i+1,Z) ⟨cD _,by show i+1<=b;omega,D⟩ ?_;rintro⟨k,L⟩⟨h,Ye,d⟩ GL C;dsimp only at h Ye d;refine bl ?_;have J:L.length=n:=by rw[d.length_eq,R]
       by_cases Yg:k<b
       .have Y:((k:Int)-1)=((k-1:Nat):Int):=by omega
        have l1:((k:Int)+1)=((k+1:Nat):Int):=ac
        obtain⟨x,U⟩:=cl (t:=L) (k:=k) ac;obtain⟨y,F⟩:=cl (t:=L) (k:=k-1) ac;have N:=z x y;refine aa 15 ?_;refine Ny (λT=>?_) λT=>?_;refine aa 7 ?_;refine ai.v (V.Uo P rfl rfl ac) ?_;refine aa 2 ?_;rotate_left;refine O5 ?_ ?_;refine Mp ?_;refine ai.v (V.Uo l1 rfl rfl ac) ?_;refine aa 2 ?_;rotate_left;refine S3 ?_;refine Mp ?_;refine ai.v (V.Uo l1 rfl rfl ac) ?_;refine aa 2 ?_;rotate_left
        .refine Out.z' u (j+1,i,L) ?_ NE;exact ⟨by show j+1<=5;omega,p,m,d⟩
        all_goals(refine Out.z' C (k+1,(L.set k y).set (k-1) x) ?_ (by show b-(k+1)<b-k;omega);exact ⟨by show i+1<=k+1;omega,QK,(lI U F).trans d⟩)
       .clear C;refine aa 17 ?_;refine ai.v (V.Uo P rfl rfl ac) ?_;refine aa 2 ?_;refine Out.z' u (j+1,i,L) ?_ NE;exact ⟨by show j+1<=5;omega,p,m,d⟩
      .refine aa 14 ?_;refine ai.v (V.Uo P rfl rfl ac) ?_;refine aa 2 ?_;refine Out.z' u (j+1,i,Z) ?_ NE;exact ⟨by show j+1<=5;omega,p,m,D⟩
   .refine Uf ?_;refine QY ?_;refine aa 8 ?_;refine ai.v (V.Uo bY rfl rfl ac) ?_;refine aa 3 ?_;rotate_left;exact Out.z' w (i+1) ⟨ac,ac⟩ ac
  .clear w;obtain rfl:i=b:=by omega
   refine Uf ?_;refine bE 22 ?_;refine ae 14 4 ?_;refine aa 16 ?_;refine ah.c (λr=>?_) (λr=>?_);replace r:=gD r;refine aa 13 ?_;rotate_left;exact lz r;exact⟨_,_,⟨s,_,o,rfl,rfl⟩,Uc⟩
 .clear u;refine aa 20 ?_;exact⟨_,_,⟨s,_,o,rfl,rfl⟩,Uc⟩
end Go.Proofs.YteogojgnkjegmaaGreatDoor
