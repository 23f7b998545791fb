/-
 Part of the proof.
-/
import Derived.Test.YteogojgnkjegmaaGreatDoorXl
set_option linter.all false
set_option maxRecDepth 8000
set_option maxHeartbeats 8000000
namespace Go.Proofs.YteogojgnkjegmaaGreatDoor
open Go.ay Go.Proofs.Tryz
def hL(w:aY):(Go.zeroValue 3).run prog w=.ok (I 0) w:=rfl
def fW:g1 prog 39 46 3=true:=rfl
def cq:gO prog 46 (λx:ag=>A x.c):=
 gO.struct (c:=ag.c) rfl (λa b=>ag.P' a b 9998) (λa=>o9.struct (n:=9999) (l:=[(3,0),(3,1)]) XD ⟨⟨_,.inl ⟨XD,rfl⟩,o9.int (qB:=.i64) rfl⟩,⟨_,.inl ⟨XD,rfl⟩,o9.int (qB:=.i64) rfl⟩,trivial⟩) (λa=>rfl)
abbrev lY:=ab (ag×Int)
def bC(m:lY)(x:ag):Int:=(br m x).getD 0
theorem EH(m:lY)(x y:ag)(n:Int):bC (bw m x n) y=if y=x then n else bC m y:=by unfold bC;rw[kM];split<;>rfl
def h4(b:Nat)(n U:Int)(p m:Nat)(v:aj)(t:Int)(l:ab bi)(J:lY):ab ax:=[cells b 194 (lh.c ⟨n,U,au p 0,.map (some m)⟩),cells p 254 (jJ.c ⟨v,t⟩),rows bi.c v 271 4 l,bn (λx:ag=>A x.c) (λn:Int=>I n) m J]
def aaW(n U:Int):ar prog 74 [I n,I U] [] (λr Y=>∃b p m,r=au b 0/\Y=h4 b n U p m (.slice none 0 0) 0 [] []):=by
 have a:=K4;unfold e2 at a;unfold h4;refine aB func74 λW=>?_;refine aa 10 ?_;rintro _ _⟨Y,rfl,rfl⟩;refine av ?_;refine ai.o (aw.mkMap (λx:ag=>A x.c) (λn:Int=>I n) rfl (λd=>?_));refine aq 1 λp=>?_;refine aa 5 ?_
 exact Nb
def Li(b:Nat)(n U:Int)(p m:Nat)(v:aj)(t:Int)(l:ab bi)(J:lY)(k:Int):ar prog 71 [au b 0,I k] (h4 b n U p m v t l J) (λr Y=>∃a c,r=.func (.func 133) #[] #[au a 0,au c 0]/\Y=[cells a 192 [au p 0],cells c 3 [I k]]++h4 b n U p m v t l J):=by
 have i:=adk p (au p 0) rfl k;unfold h4;refine aB func71 λW=>?_;refine aa 23 ?_;rintro _ _⟨W,z,rfl,rfl⟩;refine aa 6 ?_
 exact XZ
def nU(n U k:Int)(J:lY)(st:Int×ab bi)(x:ag):Int×ab bi:=
 if(rn x st.2).2=true then st else(st.1+1,h3 ⟨x,k+mv n U x.be (bC J x),st.1⟩ (hv x st.2))
def g5(n U k:Int)(J:lY)(Z:ab ag)(st:Int×ab bi):Int×ab bi:=Z.foldl (nU n U k J) st
def afK(n U k:Int)(J:lY)(Z:ab ag)(x:ag)(st:Int×ab bi):g5 n U k J (Z++[x]) st=nU n U k J (g5 n U k J Z st) x:=by simp[g5]
def EI{n U k:Int}{J:lY}{st:Int×ab bi}{x:ag}(h:ku st.1 st.2):ku (nU n U k J st x).1 (nU n U k J st x).2/\(nU n U k J st x).2.length<=st.2.length+1/\(nU n U k J st x).1<=st.1+1:=by
 unfold nU;split
 .exact⟨h,ac,ac⟩
 .exact⟨h.set x _,afm (t:=st.1) (l:=st.2) x _,ju _⟩
def zW{n U k:Int}{J:lY}:∀(Z:ab ag) (st:Int×ab bi),ku st.1 st.2->ku (g5 n U k J Z st).1 (g5 n U k J Z st).2/\(g5 n U k J Z st).2.length<=st.2.length+Z.length/\(g5 n U k J Z st).1<=st.1+Z.length
 |[],st,h=>⟨h,cl _,by simp[g5]⟩
 |x::Z,st,h=>by obtain⟨F,M,g⟩:=EI (n:=n) (U:=U) (k:=k) (J:=J) (x:=x) h;obtain⟨g,N,E⟩:=zW Z (nU n U k J st x) F;refine⟨g,jk N (by simp only[dp];omega),Int.le_trans E (by simp only[dp];omega)⟩
def Lk(b:Nat)(n N:Int)(p m:Nat)(v:aj)(t:Int)(l:ab bi)(u:lY)(J:Int)(e:ax)(h:aQ Go.Addr)(C d off:Nat)(Z:ab ag)(T:Rd e h Z.length d off 2 (Z.map ag.c)) (z:ku t l) (E:l.length+Z.length<=900) (j:t+Z.length<=100000000000000) (U:∀x∈Z,-1048576<=x.be/\x.be<=1048576) (a:n<=1048576) (Q:-1048576<=N/\N<=1048576) (g:-1152921504606846976<=J/\J<=1152921504606846976):ar prog 78 [au b 0,I J,.slice h Z.length C] (h4 b n N p m v t l u++[e]) (λr Y=>∃X,r=.tuple #[]/\Y=h4 b n N p m X (g5 n N J u Z (t,l)).1 (g5 n N J u Z (t,l)).2 u++[e]):=by
 unfold h4;refine bh ?_;refine aB func78 λW=>?_;refine aa 8 ?_;refine ah.cb [11,10,1,0] (λy:Nat×aj=>y.1<=Z.length) (λy=>[(12,I (y.1:Int))]) (λy=>[cells p 254 (jJ.c ⟨y.2,(g5 n N J u (Z.take y.1) (t,l)).1⟩),rows bi.c y.2 271 4 (g5 n N J u (Z.take y.1) (t,l)).2]) (λy=>Z.length-y.1) (0,v) (cw _) ?_;rintro⟨i,v⟩ ao K s;dsimp only at ao;refine bh ?_;by_cases M:i<Z.length
 .obtain⟨x,Yc⟩:=b8 M;have F:g5 n N J u (Z.take (i+1)) (t,l)=nU n N J u (g5 n N J u (Z.take i) (t,l)) x:=by rw[kl Yc,afK]
  obtain⟨zX,EJ,EK⟩:=zW (n:=n) (U:=N) (k:=J) (J:=u) (Z.take i) (t,l) z;simp only[eX]at EJ EK;have f:=U x (j5 Yc);generalize g5 n N J u (Z.take i) (t,l)=st at*;obtain⟨P,L⟩:=st;dsimp only at F zX EJ EK⊢;have Ye:=zX.t0;have R:=K5 p v P L x ac;unfold e2 at R;unfold nU at F;cases o:(rn x L).2 with
  |true=>
   rw[o]at R;simp only[o,hA]at F;refine NZ λq=>?_;refine aa 16 ?_;rotate_left;all_goals exact Out.t' s (i+1,v) XO XR (q:=IH)
  |false=>
   rw[o]at R;simp only[o,hr,ii]at F;have D:=Ep n N x (bC u x) a Q f;have Yf:=Eo n N x.be (bC u x) a;generalize mv n N x.be (bC u x)=w at*;have G:=EC p v P L x (J+w) (zX.del x).sorted ac ac;unfold e2 at G;refine NZ λq=>?_;refine aa 9 ?_;refine ah.n' ?_ aA.j.j.d'.d'.j.j;refine ae 20 0 ?_;refine af.p' 20 rfl (aw.q' (aK.RW (l:=u) (k:=x) (aR:=λn:Int=>I n) 0 cq fW hL rfl rfl XB) ?_);refine av ?_;refine ae 2 21 ?_;refine af.o' 23 rfl rfl (G) ?_;rintro _ _⟨Yh,Yg,rfl,rfl⟩;refine aa 9 ?_;rotate_left;all_goals exact Out.t' s (i+1,_) XO XR (q:=IH)
 .obtain rfl:i=Z.length:=by omega
  rw[hE];clear s;exact aM 12
end Go.Proofs.YteogojgnkjegmaaGreatDoor
namespace Go.ay
open Go
section
variable{P:bF}{r:aQ Nat}{W:aY}{D:ab Nat}{n:c7}{Y:bv}{U:ab ax}{F:Type}{f:F->ab aj}
def rows.to{m:aQ Addr}{C j E X:Nat}{l:ab F}(c:∀x,(f x).length=X)(p:j<=l.length)(w:aY)(h:(rows f (.slice m l.length C) E X l).holds w):(rows f (.slice m j C) E X (l.take j)).holds w:=by
 have e:(l.take j).length=j:=X4
 have J:=q0 c l j p;have q:((l.take j).flatMap f).length=j*X:=by rw[jF c,e]
 rw[e1,hz]at*;rw[e];refine⟨q,?_⟩;rcases h.2 with⟨M,z⟩|⟨g,Q,k,M,G,o,u,a,y,s⟩
 .simp only[pQ]at M;obtain⟨rfl,v,rfl⟩:=M;have:j=0:=by omega
  subst this;exact .inl ⟨rfl,XE⟩
 .simp only[pQ]at M;obtain⟨rfl,-,rfl⟩:=M;refine .inr ⟨g,C,k,rfl,G,o,ac,a,y,?_⟩;have z:j*X<=l.length*X:=jn _ p;rw[<-J,<-s,r1];congr 1;omega
def ah.cut{c:Code}{Q:cE}{m:aQ Addr}{cap E X:Nat}{l:ab F}{K:ab ax}(j:Nat)(w:∀x,(f x).length=X)(p:j<=l.length)(h:ah P r W D n Q c Y (rows f (.slice m j cap) E X (l.take j)::K))(cf:ak U [rows f (.slice m l.length cap) E X l] K:=by(repeat(first|exact ak.nil|exact al.here|apply ak.cons|apply al.there))):ah P r W D n Q c Y U:=
 ah.hC (λ_ y=>y.imp cf (by rw[e1,e1,hl,hl];cases m<;>rfl) (rows.to w p)) h
end
end Go.ay
namespace Go.ay
open Go
section
variable{P:bF}{r:aQ Nat}{W:aY}{D:ab Nat}{n:c7}{Q:cE}{Y:bv}{F bc:ab ax}{U:Nat}{G:aZ}{J:String}{N:Array Edge}{Z:aQ (Nat×Bool)}{C:bv->ab ax->Prop}
def zY(P:bF)(a:aj)(args:ab aj)(F:ab ax)(R:aj->ab ax->Prop):Prop:=
 ∃f z o,a=.func (.func f) (List.toArray z) (List.toArray o)/\jE P f=true/\ar P f (z++args++o) F R
def ar.frame{f:eg}{args:ab aj}{R:aj->ab ax->Prop}(h:ar P f args F R):ar P f args (F++bc) (λv M=>∃X,R v X/\M=X++bc):=ar.of λw a=>by have K:=a.nodup;rw[iI,gV]at K;refine(h.get w ⟨λe d=>a.fm e XY,K.1⟩).mono ?_;rintro e s⟨v,M,rfl,T,j⟩;exact⟨v,M++bc,rfl,⟨M,T,rfl⟩,a.start.call j⟩
def aw.RY{x:bd}{X:ab bd}{q:Array aZ}{c:aj}{args:ab aj}{m E:ab ax}{v:aj}(L:zY P c args m (λr M=>r=v/\M=m))(t:aO Y x=some c)(R:ay.ha Y X=some args)(z:ak F m E) (u:C ((U,v)::Y) F) (b:Nat.blt U n.n=true:=by exact rfl):aw P r W D n ⟨some U,.call ⟨.value x,X.toArray,q⟩,G,J,N,Z⟩ Y F C:=aw.of λK Q p a w Yc j=>by
 obtain⟨f,k,o,rfl,g,l⟩:=L;have h:=j.perm z.perm;have i:X.toArray.map a.eval=args.toArray:=by rw[<-Yc.ha R];simp
 refine wv (f:=f) (args:=(k++args++o).toArray) (s:=w) rfl ?_ ?_
 .simp only[execOp,resolve,ct,i,Yc.eval t];simp[Deferred.ofValue,invoke,uJ g]
 .refine(l.get w ⟨λe d=>h.fm e XY,?_⟩).mono ?_
  .have:=h.nodup;exact Mo
  .rintro e s⟨T,M,rfl,⟨rfl,rfl⟩,y⟩;refine⟨_,rfl,p _ _ u _ _ (Yc.put b _) ?_⟩;exact(h.call y).perm z.perm.symm
end
end Go.ay
namespace Go.Proofs.YteogojgnkjegmaaGreatDoor
open Go.ay Go.Proofs.Tryz
def kv{l:ab ag}{i j:Nat}{x y:ag}(ao:l[i]?=some x)(p:l[j]?=some y):((l.set i y).set j x).Perm l:=by obtain⟨F,rfl⟩:=cI.1 ao;obtain⟨M,rfl⟩:=cI.1 p;exact List.set_set_perm F M
def kW(a:aj)(E:ax)(X:ag->ag->Int):Prop:=∀x y:ag,zY prog a [A x.c,A y.c] [E] (λr Y=>r=I (X x y)/\Y=[E])
abbrev dV(g n C:Nat)(l:ab ag):ax:=rows ag.c (.slice (some ⟨g,0,none⟩) n C) 46 2 l
def Ll(g n C:Nat)(l:ab ag)(q:l.length=n)(a b:Nat)(o:a<=b)(R:b<=n)(w:n<=1000000)(E:ax)(h:aj)(X:ag->ag->Int)(u:kW h E X):ar prog 207 [.slice (some ⟨g,0,none⟩) n C,I (a:Int),I (b:Int),h] [dV g n C l,E] (λr Y=>∃D:ab ag,D.Perm l/\r=.tuple #[]/\Y=[dV g n C D,E]):=by
 unfold dV;refine aB func207 λW=>?_;refine aa 8 ?_;refine ah.cb [0,1,2,3] (λy:Nat×ab ag=>a<y.1/\y.2.Perm l) (λy=>[(8,I (y.1:Int))]) (λy=>[rows ag.c (.slice (some ⟨g,0,none⟩) n C) 46 2 y.2]) (λy=>b-y.1) (a+1,l) ⟨ac,gA _⟩ ?_;rintro⟨i,F⟩⟨ao,p⟩ K m;dsimp only at ao p;refine bh ?_;by_cases Z:i<b
 .refine aa 20 ?_;rotate_left;refine ah.cb [0,1,2,3,8] (λy:Nat×ab ag=>a<=y.1/\y.1<=i/\y.2.Perm l) (λy=>[(9,I (y.1:Int))]) (λy=>[rows ag.c (.slice (some ⟨g,0,none⟩) n C) 46 2 y.2]) (λy=>y.1) (i,F) ⟨ac,cl _,p⟩ ?_;rintro⟨j,s⟩⟨t,L,Q⟩ J P;dsimp only at t L Q;refine bh ?_;have M:s.length=n:=by rw[Q.length_eq,q]
  by_cases z:a<j
  .obtain⟨x,U⟩:=b8 (q:=s) (k:=j) ac;obtain⟨y,G⟩:=b8 (q:=s) (k:=j-1) ac;have T:((j:Int)-1)=((j-1:Nat):Int):=by omega
   have d:=u x y;refine Zx ?_;refine bs 21 ?_;refine ae 3 4 ?_;refine af.i' 7 rfl (V.x' ad (k:=j) rfl rfl rfl rfl ac) ?_;refine af.i' 8 rfl (V.E' ad rfl XB ag.len U) ?_;refine ae 2 9 ?_;refine af.i' 11 rfl (V.Q' T rfl rfl ac) ?_;refine af.i' 12 rfl (V.x' ad (k:=j-1) rfl rfl rfl rfl ac) ?_;refine af.i' 13 rfl (V.E' ad rfl XB ag.len G) ?_;refine af.p' 14 rfl (aw.RY d rfl rfl XC ?_);refine av ?_;refine ae 2 15 ?_;refine Rh (λN=>?_) λN=>?_;refine aa 4 ?_;refine ah.n' ?_ aA.j.j;refine ae 4 0 ?_;refine af.i' 4 rfl (V.Q' T rfl rfl ac) ?_;refine ae 2 5 ?_;refine af.i' 7 rfl (V.Q' T rfl rfl ac) ?_;refine af.i' 8 rfl (V.x' ad (k:=j-1) rfl rfl rfl rfl ac) ?_;refine ae 2 10 ?_;refine af.i' 12 rfl (V.x' ad (k:=j) rfl rfl rfl rfl ac) ?_;refine L4 ?_ ?_;refine av ?_;refine af.i' 14 rfl (V.x' ad (k:=j) rfl rfl rfl rfl ac) ?_;refine MJ ?_;refine Na ?_;rotate_left;refine Qc ?_;refine av ?_;refine af.i' 14 rfl (V.x' ad (k:=j) rfl rfl rfl rfl ac) ?_;refine MJ ?_;refine Na ?_;rotate_left;refine aa 11 ?_;rotate_left;all_goals(first|exact Out.t' P (j-1,(s.set j y).set (j-1) x) ⟨ac,ac,(kv U G).trans Q⟩ (by show j-1<j;omega)|exact Out.t' m (i+1,s) ⟨ac,Q⟩ (by show b-(i+1)<b-i;omega))
  .obtain rfl:j=a:=by omega
   refine Zx ?_;refine bs 21 ?_;refine ae 13 4 ?_;refine aa 14 ?_;exact Out.t' m (i+1,s) ⟨ac,Q⟩ (by show b-(i+1)<b-i;omega)
 .refine aa 14 ?_
  .exact⟨_,_,⟨F,p,rfl,rfl⟩,XC⟩
def EL(g n C:Nat)(l:ab ag)(q:l.length=n)(F ao first:Nat)(L:F<=1000000)(R:first+ao<=n)(v:n<=1000000)(E:ax)(a:aj)(X:ag->ag->Int)(u:kW a E X):ar prog 248 [.slice (some ⟨g,0,none⟩) n C,I (F:Int),I (ao:Int),I (first:Int),a] [dV g n C l,E] (λr Y=>∃D:ab ag,D.Perm l/\r=.tuple #[]/\Y=[dV g n C D,E]):=by
 unfold dV;refine aB func248 λW=>?_;refine aa 7 ?_;refine ah.cb [0,2,3,4] (λy:Nat×ab ag=>y.1<=1000000/\y.2.Perm l) (λy=>[(10,I (y.1:Int))]) (λy=>[rows ag.c (.slice (some ⟨g,0,none⟩) n C) 46 2 y.2]) (λy=>ao-y.1) (F,l) ⟨L,gA _⟩ ?_;rintro⟨r,l⟩⟨o,Q⟩ K p;dsimp only at o Q;refine bh ?_;have C:l.length=n:=by rw[Q.length_eq,q]
 have W:(2*(r:Int)+1)=((2*r+1:Nat):Int):=ac
 by_cases v:2*r+1<ao
 .refine aa 4 ?_;refine ai.v (V.mul) ?_;refine ai.v (V.Y' W rfl rfl ac) ?_;refine aa 14 ?_;refine ah.mt [0,2,3,4,10] (λc:Nat=>r<c/\c<ao) (λc=>[(11,I (c:Int))]) (λ_=>[]) ?_ ?_
  .intro a j;have F:((first:Int)+((2*r+1:Nat):Int))=((first+(2*r+1):Nat):Int):=by omega
   have M:(((first+(2*r+1):Nat):Int)+1)=((first+(2*r+2):Nat):Int):=ac
   have g:(((2*r+1:Nat):Int)+1)=((2*r+2:Nat):Int):=ac
   obtain⟨x,U⟩:=b8 (q:=l) (k:=first+(2*r+1)) ac;by_cases h:2*r+2<ao
   .obtain⟨y,G⟩:=b8 (q:=l) (k:=first+(2*r+2)) ac;have K:=u x y;refine HG ?_;refine ae 4 5 ?_;refine af.i' 9 rfl (V.Y' F rfl rfl ac) ?_;refine af.i' 10 rfl (V.x' ad (k:=first+(2*r+1)) rfl rfl rfl rfl ac) ?_;refine af.i' 11 rfl (V.E' ad rfl XB ag.len U) ?_;refine ae 3 12 ?_;refine af.i' 15 rfl (V.Y' F rfl rfl ac) ?_;refine af.i' 16 rfl (V.Y' M rfl rfl ac) ?_;refine af.i' 17 rfl (V.x' ad (k:=first+(2*r+2)) rfl rfl rfl rfl ac) ?_;refine af.i' 18 rfl (V.E' ad rfl XB ag.len G) ?_;refine af.p' 19 rfl (aw.RY K rfl rfl XC ?_);refine av ?_;refine ae 2 20 ?_;refine Rh (λY=>?_) λY=>?_;refine aa 2 ?_;refine ai.v (V.Y' g rfl rfl ac) ?_;refine aa 2 ?_;rotate_left;refine av ?_;rotate_left
    .exact Out.t' j (2*r+2) ⟨ac,ac⟩ trivial
    .exact Out.t' j (2*r+1) ⟨ac,ac⟩ trivial
   .refine HG ?_;refine ae 17 5 ?_;refine aa 4 ?_;all_goals exact Out.t' j (2*r+1) ⟨ac,ac⟩ trivial
  .rintro c⟨R,h⟩;have g:((first:Int)+(r:Int))=((first+r:Nat):Int):=by omega
   have N:((first:Int)+(c:Int))=((first+c:Nat):Int):=ac
   obtain⟨x,U⟩:=b8 (q:=l) (k:=first+r) ac;obtain⟨y,G⟩:=b8 (q:=l) (k:=first+c) ac;have K:=u x y;refine bh ?_;refine Zx ?_;refine af.i' 4 rfl (V.Y' g rfl rfl ac) ?_;refine af.i' 5 rfl (V.x' ad (k:=first+r) rfl rfl rfl rfl ac) ?_;refine af.i' 6 rfl (V.E' ad rfl XB ag.len U) ?_;refine ae 3 7 ?_;refine af.i' 10 rfl (V.Y' N rfl rfl ac) ?_;refine af.i' 11 rfl (V.x' ad (k:=first+c) rfl rfl rfl rfl ac) ?_;refine af.i' 12 rfl (V.E' ad rfl XB ag.len G) ?_;refine af.p' 13 rfl (aw.RY K rfl rfl XC ?_);refine av ?_;refine ae 2 14 ?_;refine Rh (λj=>?_) λj=>?_;refine aa 6 ?_
   exact N2
   refine aa 3 ?_;refine ah.n' ?_ aA.j.j;refine ae 3 0 ?_;refine af.i' 3 rfl (V.Y' g rfl rfl ac) ?_;refine ae 3 4 ?_;refine af.i' 7 rfl (V.Y' N rfl rfl ac) ?_;refine ae 3 8 ?_;refine af.i' 11 rfl (V.Y' N rfl rfl ac) ?_;refine af.i' 12 rfl (V.x' ad (k:=first+c) rfl rfl rfl rfl ac) ?_;refine ae 3 14 ?_;refine af.i' 17 rfl (V.Y' g rfl rfl ac) ?_;refine af.i' 18 rfl (V.x' ad (k:=first+r) rfl rfl rfl rfl ac) ?_;refine af.bu 13 19 rfl rfl ?_ ?_;refine QP ?_;refine af.p' 19 rfl (aw.q' (V.E' ad rfl XB ag.len U) ?_);refine HI ?_;rotate_left;refine Me ?_;refine af.p' 13 rfl (aw.q' (V.E' ad rfl XB ag.len G) ?_);refine HI ?_;rotate_left;all_goals skip
   all_goals exact Out.t' p (c,(l.set (first+r) y).set (first+c) x) ⟨ac,(kv U G).trans Q⟩ (by show ao-c<ao-r;omega)
 .clear p;refine aa 4 ?_;refine ai.v (V.mul) ?_;refine ai.v (V.Y' W rfl rfl ac) ?_;refine aa 14 ?_;refine Out.S2 ?_;refine aa 3 ?_
  .first|exact⟨_,_,⟨l,Q,rfl,rfl⟩,XC⟩|(exfalso;omega)
def Lm(g n C:Nat)(l:ab ag)(q:l.length=n)(a b:Nat)(Q:a<b)(R:b<=n)(p:n<=1000000)(E:ax)(i:aj)(X:ag->ag->Int)(u:kW i E X):ar prog 208 [.slice (some ⟨g,0,none⟩) n C,I (a:Int),I (b:Int),i] [dV g n C l,E] (λr Y=>∃D:ab ag,D.Perm l/\r=.tuple #[]/\Y=[dV g n C D,E]):=by
 unfold dV;have f:((b:Int)-(a:Int))=((b-a:Nat):Int):=ac
 have F:(((b-a:Nat):Int)-1)=((b-a-1:Nat):Int):=ac
 have M:((b-a-1:Nat):Int)/2=(((b-a-1)/2+1:Nat):Int)-1:=ac
 generalize o:b-a=ao at*;refine aB func208 λW=>?_;refine aa 15 ?_;refine ai.v (V.Q' f rfl rfl ac) ?_;refine aa 7 ?_;refine ai.v (V.Q' F rfl rfl ac) ?_;refine aa 5 ?_;rw[M];refine ah.cb [10,9,8,0,3] (λy:Nat×ab ag=>y.1<=n+1/\y.2.Perm l) (λy=>[(11,I ((y.1:Int)-1))]) (λy=>[rows ag.c (.slice (some ⟨g,0,none⟩) n C) 46 2 y.2]) (λy=>y.1) ((ao-1)/2+1,l) ⟨ac,gA _⟩ ?_;rintro⟨r,s⟩⟨o,Q⟩ K w;dsimp only at o Q;refine bh ?_;have M:s.length=n:=by rw[Q.length_eq,q]
 cases r with
 |zero=>
  clear w;have z:((ao:Int)-1)=((ao:Nat):Int)-1:=rfl;refine aa 21 ?_;refine ah.cb [10,9,8,0,3] (λy:Nat×ab ag=>y.1<=ao/\y.2.Perm l) (λy=>[(12,I ((y.1:Int)-1))]) (λy=>[rows ag.c (.slice (some ⟨g,0,none⟩) n C) 46 2 y.2]) (λy=>y.1) (ao,s) ⟨cl _,Q⟩ ?_;rintro⟨k,W⟩⟨T,h⟩ K w;dsimp only at T h;refine bh ?_;have M:W.length=n:=by rw[h.length_eq,q]
  cases k with
  |zero=>
   clear w;refine aa 13 ?_
   .first|exact⟨_,_,⟨W,h,rfl,rfl⟩,XC⟩|(exfalso;omega)
  |succ m=>
   have z:(((m+1:Nat):Int)-1)=(m:Int):=ac
   have N:((a:Int)+(m:Int))=((a+m:Nat):Int):=ac
   rw[z];obtain⟨x,U⟩:=b8 (q:=W) (k:=a) ac;obtain⟨y,G⟩:=b8 (q:=W) (k:=a+m) ac;have r:=EL g n C ((W.set a y).set (a+m) x) (by rw[b9,b9];exact M) 0 m a ac ac p E i X u;unfold dV at r;refine aa 13 ?_;refine ah.n' ?_ aA.j.j;refine ae 5 0 ?_;refine af.i' 5 rfl (V.Y' N rfl rfl ac) ?_;refine ae 3 6 ?_;refine af.i' 9 rfl (V.Y' N rfl rfl ac) ?_;refine af.i' 10 rfl (V.x' ad (k:=a+m) rfl rfl rfl rfl ac) ?_;refine ae 2 12 ?_;refine af.i' 14 rfl (V.x' ad (k:=a) rfl rfl rfl rfl ac) ?_;refine af.bu 11 15 rfl rfl ?_ ?_;refine QP ?_;refine af.p' 15 rfl (aw.q' (V.E' ad rfl XB ag.len U) ?_);refine NU λv b=>?_;rotate_left;refine L7 ?_;refine NU λy c=>?_;rotate_left;all_goals exact Out.t' w (m,_) ⟨ac,kO XF ((kv U G).trans h)⟩ (by show m<m+1;omega)
 |succ m=>
  have z:(((m+1:Nat):Int)-1)=(m:Int):=ac
  rw[z];have r:=EL g n C s M m ao a ac ac p E i X u;unfold dV at r;refine aa 19 ?_;rintro _ _⟨p,b,rfl,rfl⟩;refine aa 9 ?_;rotate_left;exact Out.t' w (m,_) ⟨ac,kO XF Q⟩ (by show m<m+1;omega)
def afj(g n C:Nat)(l:ab ag)(q:l.length=n)(a b:Nat)(Q:a<b)(R:b<=n)(v:n<=1000000)(E:ax)(p:aj)(X:ag->ag->Int)(u:kW p E X):ar prog 211 [.slice (some ⟨g,0,none⟩) n C,I (a:Int),I (b:Int),p] [dV g n C l,E] (λr Y=>∃D:ab ag,D.Perm l/\r=.tuple #[]/\Y=[dV g n C D,E]):=by
 unfold dV;have F:((b:Int)-1)=((b-1:Nat):Int):=ac
 refine aB func211 λW=>?_;refine aa 9 ?_;refine ai.v (V.Q' F rfl rfl ac) ?_;refine aa 4 ?_;refine ah.cb [0] (λy:Nat×Nat×ab ag=>y.2.1<n/\y.2.2.Perm l) (λy=>[(8,I (y.1:Int)),(9,I (y.2.1:Int))]) (λy=>[rows ag.c (.slice (some ⟨g,0,none⟩) n C) 46 2 y.2.2]) (λy=>y.2.1) (a,b-1,l) ⟨by show b-1<n;omega,gA _⟩ ?_;rintro⟨i,j,l⟩⟨w,Q⟩ K p;dsimp only at w Q;refine bh ?_;have C:l.length=n:=by rw[Q.length_eq,q]
 by_cases T:i<j
 .have M:((j:Int)-1)=((j-1:Nat):Int):=by omega
  have g:((i:Int)+1)=((i+1:Nat):Int):=ac
  obtain⟨x,U⟩:=b8 (q:=l) (k:=i) ac;obtain⟨y,G⟩:=b8 (q:=l) (k:=j) ac;refine aa 13 ?_;refine ah.n' ?_ aA.j.j;refine ae 6 0 ?_;refine af.i' 6 rfl (V.x' ad (k:=j) rfl rfl rfl rfl ac) ?_;refine ae 2 8 ?_;refine af.i' 10 rfl (V.x' ad (k:=i) rfl rfl rfl rfl ac) ?_;refine af.bu 7 11 rfl rfl ?_ ?_;refine Lj ?_;refine Ix ?_;rotate_left;refine HY ?_;refine Ix ?_;rotate_left;all_goals(refine Out.t' p (i+1,j-1,(l.set i y).set j x) ?_ (by show j-1<j;omega);exact ⟨by show j-1<n;omega,(kv U G).trans Q⟩)
 .clear p;refine aa 14 ?_
  exact N2
def aat(g n C:Nat)(l:ab ag)(D:l.length=n)(F ao a b q:Nat)(s:Int)(o:ao<n)(m:F<=a)(Z:a<=ao)(f:F<=b)(h:b<=ao)(s1:0<=s)(s2:s<=1000)(v:n<=1000000)(E:ax)(p:aj)(X:ag->ag->Int)(u:kW p E X):ar prog 270 [.slice (some ⟨g,0,none⟩) n C,I (a:Int),I (b:Int),au q 0,p] [dV g n C l,cells q 3 [I s],E] (λr Y=>∃x y:Nat,∃t:Int,F<=x/\x<=ao/\F<=y/\y<=ao/\s<=t/\t<=s+1/\r=.tuple #[I (x:Int),I (y:Int)]/\Y=[dV g n C l,cells q 3 [I t],E]):=by
 unfold dV;obtain⟨x,U⟩:=b8 (q:=l) (k:=a) ac;obtain⟨y,G⟩:=b8 (q:=l) (k:=b) ac;have K:=u y x;refine aB func270 λW=>?_;refine aa 8 ?_;refine ah.n' ?_ aA.d'.j.d';refine ae 3 0 ?_;refine af.i' 3 rfl (V.x' ad (k:=b) rfl rfl rfl rfl ac) ?_;refine af.i' 4 rfl (V.E' ad rfl XB ag.len G) ?_;refine ae 2 5 ?_;refine af.i' 7 rfl (V.x' ad (k:=a) rfl rfl rfl rfl ac) ?_;refine af.i' 8 rfl (V.E' ad rfl XB ag.len U) ?_;refine af.p' 9 rfl (aw.RY K rfl rfl XC ?_);refine av ?_;refine ae 1 10 ?_;refine Rh (λP=>?_) λP=>?_;refine aa 21 ?_;rotate_left;refine aa 12 ?_;rotate_left
 .exact⟨_,_,⟨b,a,s+1,f,h,m,Z,ac,ac,rfl,rfl⟩,XC⟩
 .exact⟨_,_,⟨a,b,s,m,Z,f,h,ac,ac,rfl,rfl⟩,XC⟩
def EM(g n C:Nat)(l:ab ag)(D:l.length=n)(F ao a b c q:Nat)(s:Int)(o:ao<n)(m:F<=a)(N:a<=ao)(W:F<=b)(k:b<=ao)(z:F<=c)(Z:c<=ao)(s1:0<=s)(s2:s<=900)(v:n<=1000000)(E:ax)(p:aj)(X:ag->ag->Int)(u:kW p E X):ar prog 252 [.slice (some ⟨g,0,none⟩) n C,I (a:Int),I (b:Int),I (c:Int),au q 0,p] [dV g n C l,cells q 3 [I s],E] (λr Y=>∃x:Nat,∃t:Int,F<=x/\x<=ao/\s<=t/\t<=s+3/\r=I (x:Int)/\Y=[dV g n C l,cells q 3 [I t],E]):=by
 unfold dV;have T (a b:Nat) (s:Int) (m:F<=a) (N:a<=ao) (W:F<=b) (k:b<=ao) (s1:0<=s) (s2:s<=1000):=aat g n C l D F ao a b q s o m N W k s1 s2 v E p X u;unfold dV at T;refine aB func252 λW=>?_;refine aa 12 ?_;refine ai.o' rfl (T _ _ _ ?_ ?_ ?_ ?_ ?_ ?_) ?_;iterate 6 exact b1
 rintro _ _⟨w,c,F,R,p,s,x,N,a,rfl,rfl⟩;refine aa 15 ?_;refine ai.o' rfl (T _ _ _ ?_ ?_ ?_ ?_ ?_ ?_) ?_;iterate 6 exact b1
 rintro _ _⟨y,b,n,W,q,c,m,f,D,rfl,rfl⟩;refine aa 15 ?_;refine ai.o' rfl (T _ _ _ ?_ ?_ ?_ ?_ ?_ ?_) ?_;iterate 6 exact b1
 rintro _ _⟨n,i,l,r,c,t,v,f,j,rfl,rfl⟩;refine aa 16 ?_;refine⟨_,_,⟨_,_,?_,?_,?_,?_,rfl,rfl⟩,XC⟩<;>first|assumption|omega
def aeP(g n C:Nat)(l:ab ag)(D:l.length=n)(F ao a q:Nat)(s:Int)(L:ao<n)(o:F+1<=a)(R:a+1<=ao)(s1:0<=s)(s2:s<=900)(v:n<=1000000)(E:ax)(p:aj)(X:ag->ag->Int)(u:kW p E X):ar prog 251 [.slice (some ⟨g,0,none⟩) n C,I (a:Int),au q 0,p] [dV g n C l,cells q 3 [I s],E] (λr Y=>∃x:Nat,∃t:Int,F<=x/\x<=ao/\s<=t/\t<=s+3/\r=I (x:Int)/\Y=[dV g n C l,cells q 3 [I t],E]):=by
 have N:=EM g n C l D F ao (a-1) a (a+1) q s L ac ac ac ac ac R s1 s2 v E p X u;unfold dV at*;have F:((a:Int)-1)=((a-1:Nat):Int):=ac
 have M:((a:Int)+1)=((a+1:Nat):Int):=ac
 refine aB func251 λW=>?_;refine aa 9 ?_;refine ai.v (V.Q' F rfl rfl ac) ?_;refine aa 2 ?_;refine ai.v (V.Y' M rfl rfl ac) ?_;refine aa 3 ?_;rintro _ _⟨k,h,R,p,s,x,rfl,rfl⟩;refine aa 6 ?_;refine⟨_,_,⟨_,_,?_,?_,?_,?_,rfl,rfl⟩,XC⟩<;>first|assumption|omega
def aaC(g n C:Nat)(l:ab ag)(D:l.length=n)(a b:Nat)(R:a+12<b)(Q:b<=n)(v:n<=1000000)(E:ax)(p:aj)(X:ag->ag->Int)(u:kW p E X):ar prog 210 [.slice (some ⟨g,0,none⟩) n C,I (a:Int),I (b:Int),p] [dV g n C l,E] (λr Y=>∃x:Nat,∃h:Int,a<=x/\x<=b-1/\r=.tuple #[I (x:Int),I h]/\Y=[dV g n C l,E]):=by
 have N (x y c q:Nat) (s:Int) (i:a<=x) (z:x<=b-1) (J:a<=y) (U:y<=b-1) (W:a<=c) (Z:c<=b-1) (s1:0<=s) (s2:s<=900):=EM g n C l D a (b-1) x y c q s ac i z J U W Z s1 s2 v E p X u;have L (x q:Nat) (s:Int) (i:a+1<=x) (z:x+1<=b-1) (s1:0<=s) (s2:s<=900):=aeP g n C l D a (b-1) x q s ac i z s1 s2 v E p X u;unfold dV at*;have f:((b:Int)-(a:Int))=((b-a:Nat):Int):=ac
 obtain⟨k,T⟩:∃k,k=(b-a)/4:=⟨_,rfl⟩
 have F:(((b-a:Nat):Int)/4)=(k:Int):=ac
 have n:((a:Int)+(k:Int)*1)=((a+k:Nat):Int):=ac
 have J:((a:Int)+(k:Int)*2)=((a+2*k:Nat):Int):=ac
 have p:((a:Int)+(k:Int)*3)=((a+3*k:Nat):Int):=ac
 refine aB func210 λW=>?_;refine aa 10 ?_;refine ai.v (V.Q' f rfl rfl ac) ?_;refine aq 5 λw=>?_;refine aa 7 ?_;refine ai.v (V.mul) ?_;refine aa 9 ?_;refine ai.v (V.mul) ?_;refine aa 9 ?_;refine ai.v (V.mul) ?_;refine aa 4 ?_;rw[F,n,J,p];refine ah.mt [0,1,2,3,11] (λy:Nat×Int=>a<=y.1/\y.1<=b-1) (λy=>[(13,I (y.1:Int))]) (λy=>[cells w 3 [I y.2]]) (b:=[cells w 3 [I 0]]) ?_ ?_
 .intro r j;refine aa 14 ?_;refine ah.cs (λa=>?_) (λa=>?_);refine aa 5 ?_;refine ai.o' rfl (L _ _ _ ?_ ?_ ?_ ?_) ?_;iterate 4 exact b1
  rintro _ _⟨h,F,s,Y,G,a,rfl,rfl⟩;refine aa 9 ?_;refine ai.o' rfl (L _ _ _ ?_ ?_ ?_ ?_) ?_;iterate 4 exact b1
  rintro _ _⟨Y,F,W,q,c,m,rfl,rfl⟩;refine aa 8 ?_;refine ai.o' rfl (L _ _ _ ?_ ?_ ?_ ?_) ?_;iterate 4 exact b1
  rintro _ _⟨U,J,P,r,v,c,rfl,rfl⟩;refine aa 10 ?_;refine ai.o' rfl (N _ _ _ _ _ ?_ ?_ ?_ ?_ ?_ ?_ ?_ ?_) ?_;iterate 8 exact b1
  rintro _ _⟨Z,M,f,P,p,G,rfl,rfl⟩;refine aa 3 ?_;rotate_left;refine aa 8 ?_;refine ai.o' rfl (N _ _ _ _ _ ?_ ?_ ?_ ?_ ?_ ?_ ?_ ?_) ?_;iterate 8 exact b1
  rintro _ _⟨M,C,K,R,X,Q,rfl,rfl⟩;refine aa 3 ?_;rotate_left;all_goals(refine Out.t' j (_,_) ?_ trivial;exact ⟨by first|assumption|omega,by first|assumption|omega⟩)
 .rintro⟨x,t⟩⟨p,s⟩;dsimp only at p s;refine bh ?_;refine aa 12 ?_;refine ah.cs (λw=>?_) (λw=>?_);refine aa 10 ?_;rotate_left;refine Ri (λc=>?_) λc=>?_;refine aa 10 ?_;rotate_left;refine aa 10 ?_;rotate_left;all_goals(refine⟨_,_,⟨_,_,?_,?_,rfl,rfl⟩,XC⟩<;>first|assumption|omega)
end Go.Proofs.YteogojgnkjegmaaGreatDoor
namespace Go.ay
open Go Go.Proofs Go.RowKit Go.Sort Go.Shelf
section
variable{P:bF}{Y:Ren}
def EN(w:ab (ab aP)):w.flatMap eP=w.map encStr:=by
 induction w with
 |nil=>rfl
 |cons k w u=>rw[fG,eK,u];rfl
def af2(L:Lays.n190 P Y)(E g C:Nat)(c:ab (ab aP))(q:c.length<4611686018427387904):ar P (Y.f 190) [.slice (some ⟨g,0,none⟩) c.length C] [rows eP (.slice (some ⟨g,0,none⟩) c.length C) E 1 c] (λr F=>r=.tuple #[]/\F=[rows eP (.slice (some ⟨g,0,none⟩) c.length C) E 1 (c.mergeSort λx y=>decide (x<=y))]):=ar.of λw j=>by
 have J:=j.fm _ (iz.2 rfl);rw[e1,hz,EN]at J;rcases J.2 with⟨d,_⟩|⟨z,u,k,d,_,D,T,a,p,h⟩
 .cases d
 .simp only[pQ,er,uS]at d;obtain⟨⟨rfl,_⟩,_,rfl⟩:=d;have U:g<w.heap.size:=(ny.1 D).1;have W:Holds encStr w g 0 c.toArray:=holds_of_block D XV;refine(Any.slices_Sort_string L g 0 C c w W U q).mono ?_;rintro e s⟨rfl,n,i,rfl⟩;refine⟨_,_,rfl,⟨rfl,rfl⟩,?_⟩;have Q:=ownsRow_sorted (n:=n) (os:=i) (ts:=c.mergeSort λx y=>decide (x<=y)) XE (cw g) D T a p;have m:=grownBy_sorted (w:=w) (g:=g) (n:=n) (os:=i) (c.mergeSort λx y=>decide (x<=y)).toArray;refine⟨λe d=>?_,?_,λb R=>.inl ?_,λb R v=>?_,?_,?_,?_,?_,?_⟩
  .obtain rfl:=iz.1 d;rw[e1,hz,EN];simpa using Q
  .have:=j.nodup;simpa[bg,e1,hl]using this
  .simpa[bg,e1,hl]using R
  .refine m.5 b R ?_;intro e;obtain rfl:=gW e;exact v (by simp[bg,e1,hl,Value.ownBlock])
  .exact m.4
  .exact m.1
  .exact m.2
  .exact m.3
  .exact iZ _ _
def aeD(L:Lays.n190 P Y)(N:ab ax):ar P (Y.f 190) [.slice none 0 0] N (λr F=>r=.tuple #[]/\F=N):=ar.of λw j=>by refine(Any.slices_Sort_string_none L none 0 w).mono ?_;rintro e s⟨rfl,rfl⟩;exact⟨_,_,rfl,⟨rfl,rfl⟩,j.start⟩
end
end Go.ay
namespace Go.Proofs
open Go.Shelf Go.Proofs.Tryz
def Tryz.W2:Go.Shelf.Ren:=⟨λ|125=>151|128=>215|129=>216|n=>n,λ|46=>268|3=>3|51=>296|53=>335|4=>4|5=>5|9=>9|n=>n,λ|n=>n⟩
def Tryz.W3:Go.Proofs.Lays.n125 prog Tryz.W2:={
 mixed:=XD
 f125:=func151.trans (db some XD)
 f128:=func215.trans (db some XD)
 f129:=func216.trans (db some XD)
 t3:=Tryz.underlying3
 a3:=Tryz.isAgg3
 z3:=Tryz.sizeOf3
 v3:=Tryz.zeroValue3
 t4:=Tryz.underlying4
 a4:=Tryz.isAgg4
 z4:=Tryz.sizeOf4
 v4:=Tryz.zeroValue4
 t5:=Tryz.underlying5
 a5:=Tryz.isAgg5
 z5:=Tryz.sizeOf5
 v5:=Tryz.zeroValue5
 t9:=Tryz.underlying9
 a9:=Tryz.isAgg9
 z9:=Tryz.sizeOf9
 v9:=Tryz.zeroValue9
 t46:=Tryz.underlying268
 a46:=Tryz.isAgg268
 z46:=Tryz.sizeOf268
 v46:=Tryz.zeroValue268
 t51:=Tryz.underlying296
 a51:=Tryz.isAgg296
 z51:=Tryz.sizeOf296
 v51:=Tryz.zeroValue296
 t53:=Tryz.underlying335
 a53:=Tryz.isAgg335
 z53:=Tryz.sizeOf335
 v53:=Tryz.zeroValue335}
def Tryz.W4:Go.Shelf.Ren:=⟨λ|190=>275|125=>151|258=>286|128=>215|129=>216|302=>287|303=>288|304=>289|305=>290|306=>291|307=>292|308=>293|309=>294|310=>295|333=>296|329=>249|330=>250|334=>297|335=>298|336=>299|344=>300|n=>n,λ|31=>61|9=>9|3=>3|46=>268|0=>0|51=>296|53=>335|4=>4|183=>328|182=>327|131=>216|5=>5|218=>365|222=>369|228=>391|229=>392|n=>n,λ|n=>n⟩
def Tryz.Vp:Go.Proofs.Lays.n190 prog Tryz.W4:={
 mixed:=XD
 f125:=func151.trans (db some XD)
 f128:=func215.trans (db some XD)
 f129:=func216.trans (db some XD)
 f190:=func275.trans (db some XD)
 f258:=func286.trans (db some XD)
 f302:=func287.trans (db some XD)
 f303:=func288.trans (db some XD)
 f304:=func289.trans (db some XD)
 f305:=func290.trans (db some XD)
 f306:=func291.trans (db some XD)
 f307:=func292.trans (db some XD)
 f308:=func293.trans (db some XD)
 f309:=func294.trans (db some XD)
 f310:=func295.trans (db some XD)
 f329:=func249.trans (db some XD)
 f330:=func250.trans (db some XD)
 f333:=func296.trans (db some XD)
 f334:=func297.trans (db some XD)
 f335:=func298.trans (db some XD)
 f336:=func299.trans (db some XD)
 f344:=func300.trans (db some XD)
 t0:=Tryz.underlying0
 a0:=Tryz.isAgg0
 z0:=Tryz.sizeOf0
 v0:=Tryz.zeroValue0
 t3:=Tryz.underlying3
 a3:=Tryz.isAgg3
 z3:=Tryz.sizeOf3
 v3:=Tryz.zeroValue3
 t4:=Tryz.underlying4
 a4:=Tryz.isAgg4
 z4:=Tryz.sizeOf4
 v4:=Tryz.zeroValue4
 t5:=Tryz.underlying5
 a5:=Tryz.isAgg5
 z5:=Tryz.sizeOf5
 v5:=Tryz.zeroValue5
 t9:=Tryz.underlying9
 a9:=Tryz.isAgg9
 z9:=Tryz.sizeOf9
 v9:=Tryz.zeroValue9
 t31:=Tryz.underlying61
 a31:=Tryz.isAgg61
 z31:=Tryz.sizeOf61
 v31:=Tryz.zeroValue61
 t46:=Tryz.underlying268
 a46:=Tryz.isAgg268
 z46:=Tryz.sizeOf268
 v46:=Tryz.zeroValue268
 t51:=Tryz.underlying296
 a51:=Tryz.isAgg296
 z51:=Tryz.sizeOf296
 v51:=Tryz.zeroValue296
 t53:=Tryz.underlying335
 a53:=Tryz.isAgg335
 z53:=Tryz.sizeOf335
 v53:=Tryz.zeroValue335
 t131:=Tryz.underlying216
 a131:=Tryz.isAgg216
 z131:=Tryz.sizeOf216
 v131:=Tryz.zeroValue216
 t182:=Tryz.underlying327
 a182:=Tryz.isAgg327
 z182:=Tryz.sizeOf327
 v182:=Tryz.zeroValue327
 t183:=Tryz.underlying328
 a183:=Tryz.isAgg328
 z183:=Tryz.sizeOf328
 v183:=Tryz.zeroValue328
 t218:=Tryz.underlying365
 a218:=Tryz.isAgg365
 z218:=Tryz.sizeOf365
 v218:=Tryz.zeroValue365
 t222:=Tryz.underlying369
 a222:=Tryz.isAgg369
 z222:=Tryz.sizeOf369
 v222:=Tryz.zeroValue369
 t228:=Tryz.underlying391
 a228:=Tryz.isAgg391
 z228:=Tryz.sizeOf391
 v228:=Tryz.zeroValue391
 t229:=Tryz.underlying392
 a229:=Tryz.isAgg392
 z229:=Tryz.sizeOf392
 v229:=Tryz.zeroValue392}
end Go.Proofs
namespace Go.Proofs.YteogojgnkjegmaaGreatDoor
open Go Go.ay Go.Proofs.Tryz
def Lt(E g C:Nat)(w:ab (ab aP))(q:w.length<4611686018427387904):ar prog 275 [.slice (some ⟨g,0,none⟩) w.length C] [rows eP (.slice (some ⟨g,0,none⟩) w.length C) E 1 w] (λr Y=>r=.tuple #[]/\Y=[rows eP (.slice (some ⟨g,0,none⟩) w.length C) E 1 (w.mergeSort λx y=>decide (x<=y))]):=
 af2 Tryz.Vp E g C w q
def Lu(N:ab ax):ar prog 275 [.slice none 0 0] N (λr Y=>r=.tuple #[]/\Y=N):=aeD Tryz.Vp N
def zZ(x:Nat)(h:x<=18446744073709551615):cX prog 151 [.int .u64 (x:Int)] (I (Lib.bitLen x:Nat)):=ar.of λw f=>by refine(Any.bits_Len Tryz.W3 (x:Int) w ac ac).mono ?_;rintro e s⟨rfl,rfl⟩;exact⟨_,[],rfl,⟨by rw[iB],rfl⟩,f.start⟩
def EO{x:Nat}(h:x<=1000000)(f:x≠0):2^Lib.bitLen x<=2*x/\Lib.bitLen x<=20:=by
 obtain⟨F,M,g⟩:=Lib.bitLenAux_bounds 64 x ac f;refine⟨?_,Lib.bitLen_le x 20 ac ac⟩;have e:Lib.bitLen x=Lib.bitLenAux 64 x:=rfl;rw[e];have:2^Lib.bitLenAux 64 x=2*2^(Lib.bitLenAux 64 x-1):=by rw[<-Nat.pow_succ'];congr 1;omega
 omega
def Lv(x:Nat)(U:x<=1000000)(f:x≠0):cX prog 249 [I (x:Int)] (.int .u64 ((2^Lib.bitLen x:Nat):Int)):=by
 have o:=zZ x ac;obtain⟨F,M⟩:=EO U f;have b:Go.IntKind.u64.wrap (x:Int)=(x:Int):=MX
 have K:cX prog 151 [.int .u64 (Go.IntKind.u64.wrap (x:Int))] (I (Lib.bitLen x:Nat)):=by rw[b];exact o
 have J:Go.IntKind.u64.wrap (1*2^(Min.min ((Lib.bitLen x:Nat):Int).toNat Go.IntKind.u64.bits))=((2^Lib.bitLen x:Nat):Int):=by
  have:Min.min ((Lib.bitLen x:Nat):Int).toNat Go.IntKind.u64.bits=Lib.bitLen x:=by
   rw[iB];show Min.min _ 64=_
   omega
  rw[this,Int.one_mul];have g:(2:Int)^Lib.bitLen x=((2^Lib.bitLen x:Nat):Int):=XE
  rw[g];generalize 2^Lib.bitLen x=y at*;simp[Go.IntKind.wrap,Go.IntKind.signed,Go.IntKind.bits];omega
 refine aB func249 λW=>?_;refine aa 8 ?_;refine ai.v (V.Ta ad) ?_;refine av ?_;refine ai.v (V.shl rfl rfl ac J) ?_;exact aM 5
def aeR(q:Nat)(s:Int):ar prog 250 [au q 0] [cells q 365 [.int .u64 s]] (λr Y=>∃t:Int,r=.int .u64 t/\Y=[cells q 365 [.int .u64 t]]):=by refine aB func250 λW=>?_;refine aa 6 ?_;refine ah.RN [9] ?_ aA.d' aA.j;refine ae 2 0 ?_;refine ae 2 3 ?_;refine af.t 2 rfl (V.y' ad) ?_;refine af.t 5 rfl (V.y' ad) ?_;refine af.i' 6 rfl (V.shl) ?_;refine af.i' 7 rfl (V.bit rfl) ?_;refine ae 1 8 ?_;refine af.l 9 rfl (O.G' ad ?_);refine aa 4 ?_;refine ah.RN [9] ?_ aA.d' aA.j;refine ae 2 0 ?_;refine ae 2 3 ?_;refine af.t 2 rfl (V.y' ad) ?_;refine af.t 5 rfl (V.y' ad) ?_;refine af.i' 6 rfl (V.shr) ?_;refine af.i' 7 rfl (V.bit rfl) ?_;refine ae 1 8 ?_;refine af.l 9 rfl (O.G' ad ?_);refine aa 4 ?_;refine ah.RN [9] ?_ aA.d' aA.j;refine ae 2 0 ?_;refine ae 2 3 ?_;refine af.t 2 rfl (V.y' ad) ?_;refine af.t 5 rfl (V.y' ad) ?_;refine af.i' 6 rfl (V.shl) ?_;refine af.i' 7 rfl (V.bit rfl) ?_;refine ae 1 8 ?_;refine af.l 9 rfl (O.G' ad ?_);exact aM 13
def ac7(s:Int){m:Nat}(f:1<=m)(h:m<=2097152):∃z:Nat,z<m/\Go.IntKind.i64.wrap (Go.IntKind.u64.wrap ((BitVec.ofInt Go.IntKind.u64.bits s&&&BitVec.ofInt Go.IntKind.u64.bits (Go.IntKind.u64.wrap ((m:Int)-1))).toNat:Int))=(z:Int):=by
 have W:Go.IntKind.u64.wrap ((m:Int)-1)=((m-1:Nat):Int):=by
  have:(m:Int)-1=((m-1:Nat):Int):=ac
  rw[this];simp[Go.IntKind.wrap,Go.IntKind.signed,Go.IntKind.bits];omega
 rw[W];refine⟨(BitVec.ofInt Go.IntKind.u64.bits s&&&BitVec.ofInt Go.IntKind.u64.bits ((m-1:Nat):Int)).toNat,?_,?_⟩
 .rw[Dn];refine Nat.lt_of_le_of_lt Nat.and_le_right ?_;show(BitVec.ofInt 64 ((m-1:Nat):Int)).toNat<m
  rw[q9,p6];have:=Nat.mod_le (m-1) (2^64);omega
 .have w:(BitVec.ofInt Go.IntKind.u64.bits s&&&BitVec.ofInt Go.IntKind.u64.bits ((m-1:Nat):Int)).toNat<2097152:=by
   rw[Dn];refine Nat.lt_of_le_of_lt Nat.and_le_right ?_;show(BitVec.ofInt 64 ((m-1:Nat):Int)).toNat<2097152
   rw[q9,p6];have:=Nat.mod_le (m-1) (2^64);omega
  generalize(BitVec.ofInt Go.IntKind.u64.bits s&&&BitVec.ofInt Go.IntKind.u64.bits ((m-1:Nat):Int)).toNat=z at*;simp[Go.IntKind.wrap,Go.IntKind.signed,Go.IntKind.bits];omega
def Ly(g n C:Nat)(l:ab ag)(q:l.length=n)(a b:Nat)(T:a+12<b)(R:b<=n)(v:n<=1000000)(E:ax)(p:aj)(X:ag->ag->Int)(u:kW p E X):ar prog 209 [.slice (some ⟨g,0,none⟩) n C,I (a:Int),I (b:Int),p] [dV g n C l,E] (λr Y=>∃D:ab ag,D.Perm l/\r=.tuple #[]/\Y=[dV g n C D,E]):=by
 unfold dV;have f:((b:Int)-(a:Int))=((b-a:Nat):Int):=ac
 obtain⟨L,o⟩:∃L,L=b-a:=⟨_,rfl⟩
 rw[<-o]at f;have w:=Lv L ac ac;obtain⟨z,Q⟩:=EO (x:=L) ac ac;have U:1<=2^Lib.bitLen L:=Nat.one_le_two_pow;generalize 2^Lib.bitLen L=m at*;obtain⟨k,T⟩:∃k,k=L/4:=⟨_,rfl⟩
 have F:((L:Int)/4)=(k:Int):=ac
 have J:((a:Int)+(k:Int)*2)=((a+2*k:Nat):Int):=ac
 have p:(((a+2*k:Nat):Int)-1)=((a+2*k-1:Nat):Int):=ac
 refine aB func209 λW=>?_;refine aa 4 ?_;refine ai.v (V.Q' f rfl rfl ac) ?_;refine aa 13 ?_;refine ai.v (V.Ta ad) ?_;refine aq 0 λh=>?_;refine aa 10 ?_;rotate_left;refine aa 5 ?_;refine ai.v (V.mul) ?_;refine aa 6 ?_;rw[F,J,p];refine ah.cb [0,1,8,9,10,3] (λy:Nat×Int×ab ag=>a+2*k-1<=y.1/\y.1<=a+2*k+2/\y.2.2.Perm l) (λy=>[(11,I (y.1:Int))]) (λy=>[cells h 365 [.int .u64 y.2.1],rows ag.c (.slice (some ⟨g,0,none⟩) n C) 46 2 y.2.2]) (λy=>a+2*k+2-y.1) (a+2*k-1,_,l) ⟨cl _,by show a+2*k-1<=a+2*k+2;omega,gA _⟩ ?_;rintro⟨i,s,l⟩⟨F,w,Y⟩ K p;dsimp only at F w Y;refine bh ?_;have M:l.length=n:=by rw[Y.length_eq,q]
 have T:=aeR h s;have g:((i:Int)+1)=((i+1:Nat):Int):=ac
 by_cases t:i<a+2*k+2
 .refine aa 7 ?_;refine ai.v (V.mul) ?_;refine aa 13 ?_;rintro _ _⟨R,rfl,rfl⟩;refine aa 2 ?_;refine ai.v (V.UC) ?_;refine ai.v (V.bit rfl) ?_;refine ai.v (V.Ta ad) ?_;refine aa 4 ?_;rotate_left;obtain⟨z,E,m⟩:=ac7 R U ac;rw[m];obtain⟨x,U⟩:=b8 (q:=l) (k:=i) ac;by_cases d:z<L
  .have W:((a:Int)+(z:Int))=((a+z:Nat):Int):=by omega
   obtain⟨y,G⟩:=b8 (q:=l) (k:=a+z) ac;refine aa 10 ?_;refine Qu ?_;refine af.i' 10 rfl (V.x' ad (k:=a+z) rfl rfl rfl rfl ac) ?_;refine Qk ?_ ?_;refine af.i' 18 rfl (V.x' ad (k:=a+z) rfl rfl rfl rfl ac) ?_;refine Mz ?_;rotate_left;refine L7 ?_;refine OI ?_;refine af.i' 18 rfl (V.x' ad (k:=a+z) rfl rfl rfl rfl ac) ?_;refine Mz ?_;rotate_left;all_goals(refine Out.t' p (i+1,_,(l.set i y).set (a+z) x) ?_ (by show a+2*k+2-(i+1)<a+2*k+2-i;omega);exact ⟨by show a+2*k-1<=i+1;omega,by show i+1<=a+2*k+2;omega,(kv U G).trans Y⟩)
  .have N:((z:Int)-(L:Int))=((z-L:Nat):Int):=by omega
   have W:((a:Int)+((z-L:Nat):Int))=((a+(z-L):Nat):Int):=ac
   obtain⟨y,G⟩:=b8 (q:=l) (k:=a+(z-L)) ac;refine aa 11 ?_;refine ai.v (V.Q' N rfl rfl ac) ?_;refine aa 3 ?_;refine Qu ?_;refine af.i' 10 rfl (V.x' ad (k:=a+(z-L)) rfl rfl rfl rfl ac) ?_;refine Qk ?_ ?_;refine af.i' 18 rfl (V.x' ad (k:=a+(z-L)) rfl rfl rfl rfl ac) ?_;refine Mz ?_;rotate_left;refine L7 ?_;refine OI ?_;refine af.i' 18 rfl (V.x' ad (k:=a+(z-L)) rfl rfl rfl rfl ac) ?_;refine Mz ?_;rotate_left;all_goals(refine Out.t' p (i+1,_,(l.set i y).set (a+(z-L)) x) ?_ (by show a+2*k+2-(i+1)<a+2*k+2-i;omega);exact ⟨by show a+2*k-1<=i+1;omega,by show i+1<=a+2*k+2;omega,(kv U G).trans Y⟩)
 .refine aa 7 ?_;refine ai.v (V.mul) ?_;refine aa 11 ?_;exact⟨_,_,⟨l,Y,rfl,rfl⟩,XC⟩
end Go.Proofs.YteogojgnkjegmaaGreatDoor
namespace Go.Proofs.YteogojgnkjegmaaGreatDoor
open Go.ay Go.Proofs.Tryz
def aax(g n C:Nat)(l:ab ag)(o:l.length=n)(a b:Nat)(Ye:a<b)(bY:b<=n)(c6:n<=1000000)(E:ax)(nV:aj)(kX:ag->ag->Int)(D:kW nV E kX):ar prog 212 [.slice (some ⟨g,0,none⟩) n C,I (a:Int),I (b:Int),nV] [dV g n C l,E] (λr Z=>∃vK:ab ag,∃t:Bool,vK.Perm l/\r=B t/\Z=[dV g n C vK,E]):=by
 unfold dV;have ep:((a:Int)+1)=((a+1:Nat):Int):=ac
 refine aB func212 λW=>?_;refine aa 8 ?_;refine ai.v (V.Y' ep rfl rfl ac) ?_;refine aa 10 ?_;refine ah.cb [0,1,2,3] (λy:Nat×Nat×ab ag=>y.1<=5/\a+1<=y.2.1/\y.2.1<=b/\y.2.2.Perm l) (λy=>[(10,I (y.1:Int)),(9,I (y.2.1:Int))]) (λy=>[rows ag.c (.slice (some ⟨g,0,none⟩) n C) 46 2 y.2.2]) (λy=>5-y.1) (0,a+1,l) ⟨ac,cl _,Ye,gA _⟩ ?_;rintro⟨j,i,s⟩⟨eB,h,w,Q⟩ K J;dsimp only at eB h w Q;refine bh ?_;have M:s.length=n:=ZV
 by_cases Yg:j<5
 .refine aa 14 ?_;rotate_left;refine ah.cb [0,1,2,3,10] (λi:Nat=>a+1<=i/\i<=b) (λi=>[(9,I (i:Int))]) (λ_=>[]) (λi=>b-i) i ⟨h,w⟩ ?_;rintro i⟨h,w⟩ fa P;refine bh ?_;by_cases Yf:i<b
  .have F:((i:Int)-1)=((i-1:Nat):Int):=by omega
   have dd:((i:Int)+1)=((i+1:Nat):Int):=ac
   obtain⟨x,U⟩:=b8 (q:=s) (k:=i) ac;obtain⟨y,G⟩:=b8 (q:=s) (k:=i-1) ac;have R:=D x y;by_cases Yh:kX x y<0
   .clear P;refine Zx ?_;refine Q2 ?_;refine aa 28 ?_;refine ah.cs (λX=>?_) (λX=>?_);refine aa 13 ?_
    .first|(exfalso;omega)|exact⟨_,_,⟨s,_,Q,rfl,rfl⟩,XC⟩
    refine aa 2 ?_;rotate_left;refine ah.mt [0,1,2,3,10,9] (λz:ab ag=>z.Perm l) (λ_=>[]) (λz=>[rows ag.c (.slice (some ⟨g,0,none⟩) n C) 46 2 z]) (b:=[rows ag.c (.slice (some ⟨g,0,none⟩) n C) 46 2 s]) ?_ ?_
    .intro ro T;refine Kz ?_;refine ae 2 5 ?_;refine af.i' 7 rfl (V.Q' F rfl rfl ac) ?_;refine af.i' 8 rfl (V.x' ad (k:=i-1) rfl rfl rfl rfl ac) ?_;refine ae 2 10 ?_;refine af.i' 12 rfl (V.x' ad (k:=i) rfl rfl rfl rfl ac) ?_;refine L4 ?_ ?_;refine av ?_;refine af.i' 14 rfl (V.x' ad (k:=i) rfl rfl rfl rfl ac) ?_;refine MJ ?_;refine IZ ?_;rotate_left;refine Qc ?_;refine av ?_;refine af.i' 14 rfl (V.x' ad (k:=i) rfl rfl rfl rfl ac) ?_;refine MJ ?_;refine IZ ?_;rotate_left;all_goals exact Out.t' T ((s.set i y).set (i-1) x) ((kv U G).trans Q) trivial
    .intro z Y;refine bh ?_;refine ah.mt [0,1,2,3,10,9] (λz:ab ag=>z.Perm l) (λ_=>[]) (λz=>[rows ag.c (.slice (some ⟨g,0,none⟩) n C) 46 2 z]) (b:=[rows ag.c (.slice (some ⟨g,0,none⟩) n C) 46 2 z]) ?_ ?_
     .intro ro T;by_cases Yj:a+2<=i
      .refine aa 12 ?_;refine ai.v (V.Q' F rfl rfl ac) ?_;refine aa 4 ?_;rotate_left;refine ah.cb [0,1,2,3,10,9] (λy:Nat×ab ag=>y.1<i/\y.2.Perm l) (λy=>[(11,I (y.1:Int))]) (λy=>[rows ag.c (.slice (some ⟨g,0,none⟩) n C) 46 2 y.2]) (λy=>y.1) (i-1,z) ⟨by show i-1<i;omega,Y⟩ ?_;rintro⟨k,L⟩⟨cc,p⟩ El d;dsimp only at cc p;refine bh ?_;have M:L.length=n:=by rw[p.length_eq,o]
       by_cases m:1<=k
       .have F:((k:Int)-1)=((k-1:Nat):Int):=by omega
        obtain⟨x,U⟩:=b8 (q:=L) (k:=k) ac;obtain⟨y,G⟩:=b8 (q:=L) (k:=k-1) ac;have R:=D x y;refine aa 14 ?_;refine Lc (λu=>?_) λu=>?_;refine aa 3 ?_;rotate_left;refine Pr ?_;refine L4 ?_ ?_;refine Hl ?_;refine ai.v (V.Q' F rfl rfl ac) ?_;refine aa 2 ?_;rotate_left;refine Qc ?_;refine Hl ?_;refine ai.v (V.Q' F rfl rfl ac) ?_;refine aa 2 ?_;rotate_left
        .exact Out.t' T L p trivial
        all_goals(refine Out.t' d (k-1,(L.set k y).set (k-1) x) ?_ (by show k-1<k;omega);exact ⟨by show k-1<i;omega,(kv U G).trans p⟩)
       .clear d;refine aa 12 ?_;exact Out.t' T L p trivial
      .refine aa 10 ?_;exact Out.t' T z Y trivial
     .intro z Y;refine bh ?_;have N:((j:Int)+1)=((j+1:Nat):Int):=by omega
      by_cases Yk:i+2<=b
      .refine aa 12 ?_;refine ai.v (V.Y' dd rfl rfl ac) ?_;refine aa 4 ?_;rotate_left;refine ah.cb [0,1,2,3,10,9] (λy:Nat×ab ag=>i+1<=y.1/\y.1<=b/\y.2.Perm l) (λy=>[(12,I (y.1:Int))]) (λy=>[rows ag.c (.slice (some ⟨g,0,none⟩) n C) 46 2 y.2]) (λy=>b-y.1) (i+1,z) ⟨cl _,by show i+1<=b;omega,Y⟩ ?_;rintro⟨k,L⟩⟨m,Yc,p⟩ El d;dsimp only at m Yc p;refine bh ?_;have M:L.length=n:=by rw[p.length_eq,o]
       by_cases Yi:k<b
       .have F:((k:Int)-1)=((k-1:Nat):Int):=by omega
        have m5:((k:Int)+1)=((k+1:Nat):Int):=ac
        obtain⟨x,U⟩:=b8 (q:=L) (k:=k) ac;obtain⟨y,G⟩:=b8 (q:=L) (k:=k-1) ac;have R:=D x y;refine aa 15 ?_;refine Lc (λq=>?_) λq=>?_;refine aa 7 ?_;refine ai.v (V.Y' N rfl rfl ac) ?_;refine aa 2 ?_;rotate_left;refine Pr ?_;refine L4 ?_ ?_;refine Hl ?_;refine ai.v (V.Y' m5 rfl rfl ac) ?_;refine aa 2 ?_;rotate_left;refine Qc ?_;refine Hl ?_;refine ai.v (V.Y' m5 rfl rfl ac) ?_;refine aa 2 ?_;rotate_left
        .refine Out.t' J (j+1,i,L) ?_ Lh;exact ⟨by show j+1<=5;omega,h,w,p⟩
        all_goals(refine Out.t' d (k+1,(L.set k y).set (k-1) x) ?_ (by show b-(k+1)<b-k;omega);exact ⟨by show i+1<=k+1;omega,MH,(kv U G).trans p⟩)
       .clear d;refine aa 17 ?_;refine ai.v (V.Y' N rfl rfl ac) ?_;refine aa 2 ?_;refine Out.t' J (j+1,i,L) ?_ Lh;exact ⟨by show j+1<=5;omega,h,w,p⟩
      .refine aa 14 ?_;refine ai.v (V.Y' N rfl rfl ac) ?_;refine aa 2 ?_;refine Out.t' J (j+1,i,z) ?_ Lh;exact ⟨by show j+1<=5;omega,h,w,Y⟩
   .refine Zx ?_;refine Q2 ?_;refine aa 8 ?_;refine ai.v (V.Y' dd rfl rfl ac) ?_;refine aa 3 ?_;rotate_left;exact Out.t' P (i+1) ⟨ac,ac⟩ ac
  .clear P;obtain rfl:i=b:=by omega
   refine Zx ?_;refine bs 22 ?_;refine ae 14 4 ?_;refine aa 16 ?_;refine ah.c (λr=>?_) (λr=>?_);replace r:=fT r;refine aa 13 ?_;rotate_left;exact ko r;exact⟨_,_,⟨s,_,Q,rfl,rfl⟩,XC⟩
 .clear J;refine aa 20 ?_;exact⟨_,_,⟨s,_,Q,rfl,rfl⟩,XC⟩
end Go.Proofs.YteogojgnkjegmaaGreatDoor
