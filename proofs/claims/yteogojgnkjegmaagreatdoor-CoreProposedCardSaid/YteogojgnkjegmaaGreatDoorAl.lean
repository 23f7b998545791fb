/-
 Part of the proof.
-/
import Derived.Test.YteogojgnkjegmaaGreatDoorAk
set_option linter.all false
set_option maxRecDepth 8000
set_option maxHeartbeats 8000000
namespace Go.Proofs.YteogojgnkjegmaaGreatDoor
open Go.ay Go.Proofs.Tryz
variable[Go.ay.b4]
def pV(e:ax)(v:aj)(l:ab ag):Prop:=∃m E b off,v=.slice m l.length E/\Rd e m l.length b off 2 (l.map ag.c)
def pV.of{g:ab cI}{v:aj}{k:ab ag}(K:(v,k)∈g){W:aZ}{D:ab Nat}{C:ab ax}(G:c8 g∈C):∀w,H W D C w->pV (c8 g) v k:=λw n=>by
 have j:=n.mem G;unfold c8 at j⊢;rw[rk]at j;have t:rows ag.c v 46 2 k∈g.map xB:=eS.2 ⟨(v,k),K,rfl⟩;have q:=j.1 _ t;have Y:(v=.slice none 0 0/\k=[])\/∃g Q,v=.slice (some ⟨g,0,none⟩) k.length Q/\k.length<=Q/\Q<=Go.maxLen:=
  hW (f:=ag.c) (E:=46) (aI:=2) (W:=w) (D:=bn [rows ag.c v 46 2 k]) (aF []) w ⟨λe L=>by
   obtain rfl:e=_:=Re
   exact q,Np,λb X=>.inl X,λ_ _ _=>rfl,cD _,rfl,rfl,rfl,cD _⟩
 rcases Y with⟨rfl,rfl⟩|⟨x,Q,rfl,_,N⟩
 exact Qi
 .have d:=Rd.rows (f:=ag.c) (g:=x) (E:=46) (aI:=2) (cap:=Q) (l:=k) ag.len OJ;exact R2
def pV.all{g:ab cI}{W:aZ}{D:ab Nat}{C:ab ax}(G:c8 g∈C):∀w,H W D C w->∀y,y∈g\/y=cI.z->pV (c8 g) y.1 y.2:=λw n y F=>by
 rcases F with F|rfl
 .exact pV.of (by simpa using F) G w n
 exact Qi
structure gN where
 cV:aT Go.Addr
 cap:Nat
 l:ab ag
def gN.c(y:gN):ab aj:=[.slice y.cV y.l.length y.cap]
def gN.len(y:gN):y.c.length=1:=rfl
def gN.F':jj gN.c:=λ_=>rfl
def zp(L:gz)(d:bN)(Z:ab ag):Prop:=∀x,
 (x∈L.lists->x∈Z)/\(x∈(gf L.eL d.cP).2->x∈Z)/\(d.Kind≠5->x∈(gf L.keys d.Key).2->x∈Z)/\(d.Kind=5->∀k,sS k d.Key=true->x∈(gf L.keys k).2->x∈Z)
def aex(s:aj)(Q:s.oneCell'=true)(d:bN):ar prog 85 [s,A d.c] [] (λr J=>∃g q,r=.func (.func 118) #[] #[aw g 0,aw q 0]/\J=[cells g 35 [s],cells q 29 d.c]):=by
 refine aE func85 λW=>?_;refine aa 2 ?_;refine ai.o (O.UQ (λp=>?_));refine aq 0 λm=>?_;refine aa 11 ?_
 exact R7
def afc(x:ag):ab aj:=[A x.c]
def GJ{t:Type}[DecidableEq t](m:ab (t×cI))(k:t):gf m k∈m.map (·.2)\/gf m k=cI.z:=by
 induction m with
 |nil=>exact .inr rfl
 |cons p m d=>
  unfold gf at d⊢;rw[kk];by_cases h:k=p.1
  .rw[aQ h];exact .inl T3
  .rw[aM h];rcases d with d|d
   .exact .inl (by simp only[e7];exact hI _ d)
   .exact .inr d
def ad6{t:Type}[DecidableEq t]{m:ab (t×cI)}{k:t}{x:ag}(h:x∈(gf m k).2):∃y,(k,y)∈m/\x∈y.2:=by
 induction m with
 |nil=>simp[gf,a8,gK,cI.z]at h
 |cons p m d=>
  unfold gf at d h;rw[kk]at h;by_cases e:k=p.1
  .rw[aQ e]at h;exact⟨p.2,by rw[e];simp,h⟩
  .rw[aM e]at h;obtain⟨y,Y,N⟩:=d h;exact⟨y,hI _ Y,N⟩
def GK{t:Type}:∀{l:ab t} {j:Nat} {x:t},l[j]?=some x->(x::l.eraseIdx j).Perm l
 |a::l,0,x,h=>by
  have:a=x:=Ub
  subst this;exact he _
 |a::l,j+1,x,h=>by
  have d:=GK (l:=l) (j:=j) (x:=x) Ub;show(x::a::l.eraseIdx j).Perm (a::l)
  exact(hK a x _).trans (d.cons a)
def B3(o k:Nat)(L:gz):ab ax:=[cells o 101 (jG.c ⟨aw k 0,.map (some L.h0),L.gw,.map (some L.eb)⟩),bz ma e2 L.h0 L.keys,bz qM e2 L.eb L.eL]
def agB(kU rE ec e3:Nat)(L:gz)(d:bN)(Yt:∀k∈L.keys.map (·.1),k.length<=9223372036854775807)(Yy:d.Key.length<=9223372036854775807)(bH:L.keys.length<=1000000000000):xA prog 118 [aw kU 0,aw rE 0] (B3 ec e3 L) [cells kU 35 [aw ec 0],cells rE 29 d.c,c8 L.g] afc (zp L d) [cells kU 35 [aw ec 0],cells rE 29 d.c,c8 L.g]:=by
 intro l jD G X xC ff Yu mK;obtain⟨h0,eb,gw,P,r,Y,g,bF⟩:=L;unfold B3 at*;dsimp only[List.cons_append,List.nil_append]at*;refine aE func118 λW=>?_;refine ah.UO ?_;refine bl ?_;refine ah.fact (pV.all (g:=g) T1) λcA=>?_;have YZ:pV (c8 g) gw P:=cA (gw,P) (.inl (bF.mem_iff.2 T3));obtain⟨N,n,Y7,Y4,rfl,YT⟩:=YZ;obtain⟨⟨cF,t⟩,Q⟩:∃y,gf Y d.cP=y:=⟨_,rfl⟩
 have Ys:pV (c8 g) cF t:=cA (cF,t) (by
  rcases GJ Y d.cP with h|h
  .exact .inl (bF.mem_iff.2 (by rw[<-Q];simp only[dk,fd];exact .inr (.inr h)))
  .exact .inr (by rw[<-Q,h]))
 obtain⟨E,Z,Y8,YF,rfl,YD⟩:=Ys;refine au ?_;refine ah.n' ?_ aB.d'.d'.d'.d'.d'.d'.j;refine ae 10 0 ?_;refine af.q' 10 rfl (av.x' (aK.UN (l:=Y) (k:=d.cP) (R:=(.slice E t.length Z,t)) (aU:=e2) cI.z Q oI oJ pi rfl rfl T1) ?_);refine au ?_;refine af.q' 11 rfl (O.Q' ad gN.c [⟨N,n,P⟩,⟨E,Z,t⟩] rfl (bI.one rfl (bI.one rfl bI.nil)) rfl rfl (λYB=>?_));refine au ?_;refine ae 1 12 ?_;refine aa 2 ?_;refine ah.mt [2,1,0] (λz:ab gN×Nat×Nat=>(∀y∈z.1,∃b off,Rd (c8 g) y.cV y.l.length b off 2 (y.l.map ag.c))/\z.1.length<=r.length+3/\zp ⟨h0,eb,.slice N P.length n,P,r,Y,g,bF⟩ d (z.1.flatMap (·.l)))
  (λz=>[(4,.slice (some ⟨z.2.1,0,none⟩) z.1.length z.2.2)]) (λz=>[rows gN.c (.slice (some ⟨z.2.1,0,none⟩) z.1.length z.2.2) 98 1 z.1]) (i:=[rows gN.c (.slice (some ⟨YB,0,none⟩) 2 2) 98 1 [⟨N,n,P⟩,⟨E,Z,t⟩]]) ?_ ?_
 .intro fM Yc;by_cases kO:d.Kind=5
  .refine aa 14 ?_;refine ai.o (av.XX qL rfl T8 (λYV=>?_));refine aa 3 ?_;rotate_left;refine ah.cp [2,1,0,30] (λy:ab (ab aS×cI)×ab (ab aS×cI)×aT (ab aS×cI)×ab gN×Nat×Nat=>
     (y.1++y.2.1).Perm r/\(∀p∈y.1,sS p.1 d.Key=true->∃z∈y.2.2.2.1,z.l=p.2.2)/\(∀z∈y.2.2.2.1,∃b off,Rd (c8 g) z.cV z.l.length b off 2 (z.l.map ag.c))/\y.2.2.2.1.length<=y.1.length+2/\(⟨N,n,P⟩:gN)∈y.2.2.2.1/\(⟨E,Z,t⟩:gN)∈y.2.2.2.1)
    (λy=>[(4,.slice (some ⟨y.2.2.2.2.1,0,none⟩) y.2.2.2.1.length y.2.2.2.2.2)]) (λy=>[kN ma e2 h0 YV r y.2.1 y.2.2.1,rows gN.c (.slice (some ⟨y.2.2.2.2.1,0,none⟩) y.2.2.2.1.length y.2.2.2.2.2) 98 1 y.2.2.2.1]) (λy=>y.2.1.length)
    ([],r,none,[⟨N,n,P⟩,⟨E,Z,t⟩],_,_) ⟨he _,T3,by
     intro z F;simp only[dk,jH,gx]at F;rcases F with rfl|rfl
     .exact⟨_,_,YT⟩
     .exact⟨_,_,YD⟩,T3,T3,T3⟩ ?_
   rintro⟨pre,R,Ym,w,mL,lF⟩⟨cu,C,M,T,Yp,Yr⟩ K q;dsimp only at cu C M T Yp Yr;refine bl ?_;by_cases eE:R=[]
   .subst eE;clear q;rw[dT]at cu;refine aa 2 ?_;refine ai.o (av.XY rfl T1 ?_);refine aa 9 ?_;refine Out.Ws ?_;refine Out.z' Yc (w,mL,lF) ⟨M,by have:=cu.length_eq;show w.length<=_;omega,?_⟩ trivial;intro x;refine⟨λh=>w8.2 ⟨_,Yp,h⟩,λh=>w8.2 ⟨_,Yr,?_⟩,λh=>absurd kO h,λ_ k cc h=>?_⟩
    .have hd:x∈(gf Y d.cP).2:=h;rw[Q]at hd;exact hd
    .obtain⟨y,bg,bY⟩:=ad6 (m:=r) h;obtain⟨z,YG,YR⟩:=C (k,y) (cu.mem_iff.2 bg) cc;exact w8.2 ⟨z,YG,by rw[YR];exact bY⟩
   .refine aa 2 ?_;refine ai.o (av.XZ eE rfl PC (λf Y0 YS=>?_));refine aa 8 ?_;obtain⟨D,iT,U⟩:=Y0;have Yv:=(cT.1 YS).1;have Yz:((D,iT,U)::R.eraseIdx f).Perm R:=GK YS;have Yf:((pre++[(D,iT,U)])++R.eraseIdx f).Perm r:=by rw[cn];exact(Yz.append_left pre).trans cu
    have YH:(D,iT,U)∈r:=Yf.mem_iff.1 T3;have YC:pV (c8 g) iT U:=cA (iT,U) (.inl (bF.mem_iff.2 (by simp only[dk,fd];exact .inr (.inl (eS.2 ⟨_,YH,rfl⟩)))))
    obtain⟨u,s,Y1,YQ,rfl,Yx⟩:=YC;have YX:=Yt D (eS.2 ⟨_,YH,rfl⟩);have Yn:pre.length+R.length=r.length:=by rw[<-b2];exact cu.length_eq
    have YA:(R.eraseIdx f).length<R.length:=by rw[B4,aQ Yv];omega
    have YU:=Gz D d.Key YX Yy;by_cases YN:sS D d.Key=true
    .rw[YN]at YU;refine aa 2 ?_;refine ai.v (aK.Vo (p:=((D,Go.Value.slice u U.length s,U):ab aS×cI)) rfl T1) ?_;refine aa 18 ?_;refine ai.o (O.Q' ad gN.c [⟨u,s,U⟩] rfl (bI.one rfl bI.nil) rfl rfl (λYL=>?_));refine ai.o (O.U' ad rfl rfl T8 (cq.rows ad T1 gN.F') (λYM YK=>?_));refine aa 3 ?_;refine Out.z' q (pre++[(D,.slice u U.length s,U)],R.eraseIdx f,_,w++[⟨u,s,U⟩],_,_) ?_ YA;exact ⟨Yf,by
      intro p J YJ;rcases fd.1 J with J|J
      .obtain⟨z,bg,bY⟩:=C p J YJ;exact⟨z,sT _ bg,bY⟩
      .obtain rfl:p=_:=by simpa using J
       exact⟨⟨u,s,U⟩,T3,rfl⟩,by
      intro z F;rcases fd.1 F with F|F
      .exact M z F
      .obtain rfl:z=_:=by simpa using F
       exact⟨_,_,Yx⟩,Ri,sT _ Yp,sT _ Yr⟩
    .rw[show sS D d.Key=false by simpa using YN]at YU;refine aa 2 ?_;refine ai.v (aK.Vo (p:=((D,Go.Value.slice u U.length s,U):ab aS×cI)) rfl T1) ?_;refine aa 17 ?_;refine Out.z' q (pre++[(D,.slice u U.length s,U)],R.eraseIdx f,_,w,_,_) ?_ YA;exact ⟨Yf,by
      intro p J YJ;rcases fd.1 J with J|J
      .exact C p J YJ
      .obtain rfl:p=_:=by simpa using J
       exact absurd YJ YN,M,Ri,Yp,Yr⟩
  .obtain⟨⟨iT,U⟩,Yk⟩:∃y,gf r d.Key=y:=⟨_,rfl⟩
   have YC:pV (c8 g) iT U:=cA (iT,U) (by
    rcases GJ r d.Key with h|h
    .exact .inl (bF.mem_iff.2 (by rw[<-Yk];simp only[dk,fd];exact .inr (.inl h)))
    .exact .inr (by rw[<-Yk,h]))
   obtain⟨u,s,Y1,YQ,rfl,Yx⟩:=YC;refine aa 8 ?_;refine ah.n' ?_ aB.j.d'.d'.j.j.j.j.j;refine ae 4 0 ?_;refine ae 2 5 ?_;refine ae 1 4 ?_;refine af.q' 7 rfl (av.x' (aK.UN (l:=r) (k:=d.Key) (R:=(Go.Value.slice u U.length s,U)) (aU:=e2) cI.z Yk gU qL pi rfl rfl T1) ?_);refine au ?_;refine af.q' 8 rfl (O.Q' ad gN.c [⟨u,s,U⟩] rfl (bI.one rfl bI.nil) rfl rfl (λYW=>?_));refine au ?_;refine af.q' 9 rfl (O.U' ad rfl rfl T8 (cq.rows ad T1 gN.F') (λY9 Y2=>?_));refine au ?_;refine ae 1 10 ?_;refine au ?_;all_goals(refine Out.z' Yc ([⟨N,n,P⟩,⟨E,Z,t⟩]++[⟨u,s,U⟩],_,_) ?_ trivial;exact ⟨by
    intro z F;simp only[fd,dk,jH,gx]at F;rcases F with(rfl|rfl)|rfl
    .exact⟨_,_,YT⟩
    .exact⟨_,_,YD⟩
    .exact⟨_,_,Yx⟩,T3,by
    intro x;refine⟨λh=>by simp[show x∈P from h],λh=>?_,λ_ h=>?_,λh=>absurd h kO⟩
    .have hd:x∈(gf Y d.cP).2:=h;rw[Q]at hd;simp[show x∈t from hd]
    .have hd:x∈(gf r d.Key).2:=h;rw[Yk]at hd;simp[show x∈U from hd]⟩)
 .rintro⟨w,mL,lF⟩⟨M,T,sD⟩;dsimp only at M T sD;refine bl ?_;refine ah.abc (be:=[xC ff,cells ec 101 (jG.c ⟨aw e3 0,.map (some h0),.slice N P.length n,.map (some eb)⟩),bz ma e2 h0 r,bz qM e2 eb Y]) ?_;refine aa 8 ?_;refine ah.cp [2,1,0,54,55] (λz:Nat×jD=>z.1<=w.length/\G ((w.take z.1).flatMap (·.l)) z.2) (λz=>[(56,I (z.1:Int))]) (λz=>[aL (xC z.2::[cells ec 101 (jG.c ⟨aw e3 0,.map (some h0),.slice N P.length n,.map (some eb)⟩),bz ma e2 h0 r,bz qM e2 eb Y])]) (λz=>w.length-z.1) (0,ff) ⟨cO _,Yu⟩ ?_;rintro⟨i,hV⟩⟨ao,Yj⟩ K q;dsimp only at ao Yj;refine bl ?_;by_cases Ye:i<w.length
  .obtain⟨y,fy⟩:=cl Ye;obtain⟨ab4,ab2,YO⟩:=M y (jX fy);have Yw:=YO.len;have dx:(w.take (i+1)).flatMap (·.l)=(w.take i).flatMap (·.l)++y.l:=by rw[lw fy,m1];simp
   obtain⟨fJ,bv⟩:∃fJ,w.flatMap (·.l)=(w.take i).flatMap (·.l)++(y.l++fJ):=by refine⟨(w.drop (i+1)).flatMap (·.l),?_⟩;rw[<-cn,<-dx,<-m1,oe]
   obtain⟨Za,Y5,a⟩:=y;dsimp only at YO Yw dx bv;generalize(w.take i).flatMap (·.l)=ch at*;refine aa 13 ?_;refine ai.v (V.B' ad rfl rfl) ?_;refine ai.v (V.UH ad rfl T1 (λ_=>rfl) TX) ?_;refine aa 11 ?_;rotate_left;refine ah.cp [2,1,0,54,55,56,60,61] (λz:Nat×jD=>z.1<=a.length/\G (ch++a.take z.1) z.2) (λz=>[(62,I (z.1:Int))]) (λz=>[aL (xC z.2::[cells ec 101 (jG.c ⟨aw e3 0,.map (some h0),.slice N P.length n,.map (some eb)⟩),bz ma e2 h0 r,bz qM e2 eb Y])]) (λz=>a.length-z.1) (0,hV) ⟨cO _,by simpa using Yj⟩ ?_;rintro⟨j,jm⟩⟨dR,Yo⟩ GL YE;dsimp only at dR Yo;refine bl ?_;by_cases Yv:j<a.length
   .obtain⟨x,b3⟩:=cl Yv;have YI:a=a.take j++x::a.drop (j+1):=by obtain⟨cc,rfl⟩:=cT.1 b3;rw[<-vr cc,oe]
    have Yg:w.flatMap (·.l)=(ch++a.take j)++x::(a.drop (j+1)++fJ):=by
     rw[bv];conv=>lhs;rw[YI]
     simp only[cn,ly]
    have YP:=sD;rw[Yg]at YP;have Yq:=mK _ _ _ jm YP Yo;have Y3:a.take (j+1)=a.take j++[x]:=lw b3;refine aa 14 ?_;refine ai.v (V.Ux ad rfl YO (jB b3)) ?_;refine aq 0 λYl=>?_;refine aa 7 ?_;refine ai.o (av.Vd rfl rfl (Yq) Uc ?_);rintro v3 oF⟨Y6,Zb,rfl,Yh,Yi,rfl⟩;refine Pm (λYY=>?_) λYY=>?_;refine aa 10 ?_
    .exact⟨_,_,⟨_,.inr ⟨(ch++a.take j)++[x],a.drop (j+1)++fJ,by rw[cn];exact YP,Ks⟩,rfl⟩,Uc⟩
    refine aa 7 ?_;rotate_left;refine Out.z' YE (j+1,_) ?_ (by show a.length-(j+1)<a.length-j;omega);exact ⟨SB,by show G (ch++a.take (j+1)) _;rw[Y3,<-cn];apply_assumption;assumption⟩
   .obtain rfl:j=a.length:=by omega
    rw[ir]at Yo;refine aa 17 ?_;refine Out.z' q (i+1,jm) ?_ SP;exact ⟨Uk,by show G ((w.take (i+1)).flatMap (·.l)) jm;rw[dx];exact Yo⟩
  .obtain rfl:i=w.length:=by omega
   rw[ir]at Yj;refine aa 12 ?_
   .exact⟨_,_,⟨hV,.inl ⟨_,sD,Yj⟩,rfl⟩,Uc⟩
end Go.Proofs.YteogojgnkjegmaaGreatDoor
namespace Go.Proofs.YteogojgnkjegmaaGreatDoor
open Go.ay Go.Proofs.Tryz
def lG(j:Int):Nat:=(Min.min (Max.max j 0) 4).toNat
def Ns(j:Int):lG j<=4:=by unfold lG;omega
def nK(n X U j:Int):Int:=if n<1 then 4 else 4*(1+(X-U)%n)*2^lG j
def GM(j:Int):(1:Int)<=2^lG j/\(2:Int)^lG j<=16:=by have:=Ns j;generalize lG j=k at*;rcases(by omega:k=0\/k=1\/k=2\/k=3\/k=4)with rfl|rfl|rfl|rfl|rfl<;>decide
def GN{a b:Int}(F:4<=a)(K:a<=8388608)(h:1<=b/\b<=16):4<=a*b/\a*b<=134217728:=by have Y:a*1<=a*b:=Nt h.1 ac;have N:a*b<=a*16:=Nt h.2 ac;omega
def GO(n X U j:Int)(a:n<=1048576):4<=nK n X U j/\nK n X U j<=134217728:=by
 unfold nK;split
 .decide
 .have Y:=Int.emod_nonneg (X-U) (by omega:n≠0);have N:=Int.emod_lt_of_pos (X-U) (by omega:0<n);exact GN ac ac (GM j)
def aeo{a n:Int}(p:1<=n):(a.tmod n=a%n\/a.tmod n=a%n-n)/\0<=a%n/\a%n<n/\(a.tmod n<0->a.tmod n+n=a%n)/\(0<=a.tmod n->a.tmod n=a%n)/\(a.tmod n+n).tmod n=a%n:=by
 have Y:=Int.emod_nonneg a (by omega:n≠0);have N:=Int.emod_lt_of_pos a (by omega:0<n);have R:a.tmod n=a%n\/a.tmod n=a%n-n:=by
  rw[Int.tmod_eq_emod];split
  .left;omega
  .right;omega
 have Z:0<=a.tmod n+n:=ac
 refine⟨R,Y,N,ac,ac,?_⟩;rw[Int.tmod_eq_emod_of_nonneg Z,Int.add_emod_right];rcases R with h|h
 .rw[h,Int.emod_emod_of_dvd a (Int.dvd_refl n)]
 .rw[h,Int.sub_emod_right,Int.emod_emod_of_dvd a (Int.dvd_refl n)]
def GP(n X:Int)(x:ag)(j:Int)(p:n<=1048576)(Q:-1048576<=X/\X<=1048576)(f:-1048576<=x.a1/\x.a1<=1048576):dr prog 112 [I n,I X,A x.c,I j] (I (nK n X x.a1 j)):=by
 unfold nK;by_cases h:n<1
 .rw[aQ h];refine aE func112 λW=>?_;refine aq 2 λg=>?_;exact aP 19
 .rw[aM h];obtain⟨Y,N,R,Z,y,M⟩:=aeo (a:=X-x.a1) (n:=n) ac;have aW:=GM j;generalize(X-x.a1)%n=i at*;have c:(Go.IntKind.i64.wrap (4*(1+i)*2^(Min.min (Min.min (Max.max j 0) 4).toNat Go.IntKind.i64.bits)))=4*(1+i)*2^lG j:=by rw[show Min.min (Min.min (Max.max j 0) 4).toNat Go.IntKind.i64.bits=lG j by unfold lG;show Min.min _ 64=_;omega];have:=GN (a:=4*(1+i)) ac ac aW;exact AU (mv.WH ac)
  refine aE func112 λW=>?_;refine aq 2 λg=>?_;refine aa 20 ?_;refine ai.v (V.Xw rfl rfl) ?_;refine aa 3 ?_;refine ai.v (V.Xw rfl rfl) ?_;refine aa 7 ?_;refine ai.v (V.mul) ?_;refine aa 3 ?_;refine ai.v (V.shl) ?_;refine aa 5 ?_
  .rw[M];exact dp (λz:Int=>I z) c
def iA(a b:br):Bool:=decide (a.due<b.due)||(decide (a.due=b.due)&&decide (a.jh<b.jh))
def tV(a b:br):Int:=if iA a b=true then-1 else if a.due=b.due/\a.jh=b.jh then 0 else 1
theorem vC{a b:br}:iA a b=true↔a.due<b.due\/a.due=b.due/\a.jh<b.jh:=by simp[iA]
def GQ(a b:br):dr prog 155 [A a.c,A b.c] (I (tV a b)):=by
 unfold tV;by_cases Y:a.due<b.due
 .rw[aQ (vC.2 (.inl Y))];refine Lr λW p m=>?_;exact aP 40
 by_cases N:a.due=b.due
 .by_cases R:a.jh<b.jh
  .rw[aQ (vC.2 (.inr ⟨N,R⟩))];refine Lr λW p m=>?_;exact aP 41
  .rw[aM (λh=>by rcases vC.1 h with h|h<;>omega)];by_cases Z:a.jh=b.jh
   .rw[aQ ⟨N,Z⟩];refine Lr λW p m=>?_;exact aP 60
   .rw[aM (λh=>Z h.2)];refine Lr λW p m=>?_;exact aP 61
 .rw[aM (λh=>by rcases vC.1 h with h|h<;>omega),aM (λh=>N h.1)];refine Lr λW p m=>?_;exact aP 61
def ad9(a b:br):decide (tV a b<0)=iA a b:=by
 unfold tV;by_cases h:iA a b=true
 .rw[aQ h,h];decide
 .rw[aM h,show iA a b=false by simpa using h];split<;>decide
def GR{a b c:br}(Y:iA a b=true)(N:iA b c=true):iA a c=true:=by rw[vC]at*;omega
def GS{t:Type}{R:t->t->Prop}{l:ab t}(h:l.Pairwise R){i j:Nat}{a b:t}(K:l[i]?=some a)(X:l[j]?=some b)(C:i<j):R a b:=by obtain⟨Y,rfl⟩:=cT.1 K;obtain⟨N,rfl⟩:=cT.1 X;exact List.pairwise_iff_getElem.1 h i j Y N C
def zq(l:ab br)(s:br)(p:Nat):Prop:=p<=l.length/\∀(j:Nat) (a:br),l[j]?=some a->(iA a s=true↔j<p)
def ahp(i j:Nat)(h:i+j<4611686018427387904):(((i+j:Nat):Int)).fdiv (2^(Min.min ((1:Int)).toNat Go.IntKind.u64.bits))=(((i+j)/2:Nat):Int):=by
 show(((i+j:Nat):Int)).fdiv 2=_
 rw[Bw _ ac];omega
def GU(m:Nat)(h:m<4611686018427387904):Go.IntKind.i64.wrap (m:Int)=(m:Int):=AU (mv.WH ac)
def Nx(m:Nat)(h:m<4611686018427387904):Go.IntKind.u64.wrap (m:Int)=(m:Int):=by simp only[Go.IntKind.wrap,Go.IntKind.signed,Go.IntKind.bits];simp;omega
def agQ(v:aj)(l:ab br)(s:br)(Q:l.Pairwise (λa b=>iA a b=true))(T:l.length<=100000):ar prog 154 [v,A s.c,.func (.func 155) #[] #[]] [rows br.c v 271 4 l] (λr J=>∃(p:Nat) (f:Bool),zq l s p/\r=.tuple #[I (p:Int),B f]/\J=[rows br.c v 271 4 l]):=by
 refine aE func154 λW=>?_;refine ah.fact (hW (aF _)) λP=>?_;refine aq 2 λu=>?_;refine aa 20 ?_;refine ah.cp [8,4,0,2] (λy:Nat×Nat=>y.1<=y.2/\y.2<=l.length/\(∀(j:Nat) (a:br),l[j]?=some a->j<y.1->iA a s=true)/\(∀(j:Nat) (a:br),l[j]?=some a->y.2<=j->iA a s=false)) (λy=>[(10,I (y.2:Int)),(9,I (y.1:Int))]) (λ_=>[]) (λy=>y.2-y.1) (0,l.length) ⟨cO _,cD _,λj a _ h=>absurd h (xn _),λj a h N=>absurd (cT.1 h).1 ac⟩ ?_;rintro⟨t,ao⟩⟨Y,N,R,C⟩ K Z;dsimp only at Y N R C;refine bl ?_;by_cases X:t<ao
 .obtain⟨Yc,Yi⟩:∃m,m=(t+ao)/2:=⟨_,rfl⟩
  have Yf:Yc<l.length:=ac
  obtain⟨x,U⟩:=cl Yf;rcases P with⟨rfl,rfl⟩|⟨g,E,rfl,L,G⟩
  .simp at Yf
  have i:bd .lss (t:Int) (ao:Int)=some true:=by simp[bd,X]
  have M:Go.IntKind.u64.wrap ((t:Int)+(ao:Int))=((t+ao:Nat):Int):=by rw[<-Int.natCast_add];exact Nx _ ac
  have z:=ahp t ao ac;rw[<-Yi]at z;have D:Go.IntKind.i64.wrap (Yc:Int)=(Yc:Int):=GU _ ac;have d:=GQ x s;have o:decide (tV x s<0)=iA x s:=ad9 x s;cases Ye:iA x s with
  |true=>
   have w:bd .lss (tV x s) 0=some true:=by simp only[bd];rw[o,Ye]
   refine Ms ?_;refine aa 9 ?_;refine Out.z' Z (Yc+1,ao) ?_ (by show ao-(Yc+1)<ao-t;omega);exact ⟨by show Yc+1<=ao;omega,N,λj a F n=>by
    by_cases Yg:j=Yc
    .subst Yg;rw[U]at F;rw[<-hc F];exact Ye
    .exact GR (GS Q F U (by have:j<Yc+1:=n;omega)) Ye,C⟩
  |false=>
   have w:bd .lss (tV x s) 0=some false:=by simp only[bd];rw[o,Ye]
   refine Ms ?_;refine aa 8 ?_;refine Out.z' Z (t,Yc) ?_ (by show Yc-t<ao-t;omega);exact ⟨by show t<=Yc;omega,by show Yc<=_;omega,R,λj a F n=>by
    by_cases Yg:j=Yc
    .subst Yg;rw[U]at F;rw[<-hc F];exact Ye
    .cases Yj:iA a s with
     |false=>rfl
     |true=>
      have:=GR (GS Q U F (by have:Yc<=j:=n;omega)) Yj;rw[Ye]at this;cases this⟩
 .obtain rfl:t=ao:=by omega
  have q:zq l s t:=⟨N,λj a F=>Iff.intro (λh=>(Decidable.of_not_not λn=>by rw[C j a F ac]at h;cases h)) (λh=>R j a F h)⟩
  clear Z;by_cases Yh:t<l.length
  .obtain⟨x,U⟩:=cl Yh;rcases P with⟨rfl,rfl⟩|⟨g,E,rfl,L,G⟩
   .simp at Yh
   have d:=GQ x s;refine aa 15 ?_;refine ah.n' ?_ aB.d'.d';refine ae 5 0 ?_;refine bE 39 ?_;refine ae 3 5 ?_;refine af.i' 8 rfl (V.B' ad (k:=t) rfl rfl rfl rfl ac) ?_;refine af.i' 9 rfl (V.H' ad rfl T1 br.len U) ?_;refine ae 1 10 ?_;refine af.q' 11 rfl (av.Wk rfl rfl (d) ?_);refine au ?_;refine ae 4 12 ?_;refine aa 4 ?_
   exact KO
  .refine aa 15 ?_;refine ah.n' ?_ aB.d'.d';refine ae 5 0 ?_;refine bE 39 ?_;refine ae 11 5 ?_;refine aa 4 ?_
   exact KO
def afT(l:ab br)(v:aj)(s:br)(C:Nat)(K:l.length<=1000):ar prog 156 [v,I (l.length:Int),.slice (some ⟨C,0,none⟩) 1 1] [rows br.c v 271 4 l,rows br.c (.slice (some ⟨C,0,none⟩) 1 1) 271 4 [s]] (λr J=>∃m a,r=.slice (some ⟨m,0,none⟩) (l++[s]).length a/\J=[rows br.c (.slice (some ⟨m,0,none⟩) (l++[s]).length a) 271 4 (l++[s])]):=by
 have L:(l.length+1)*1000<=10000000:=ac
 refine aE func156 λW=>?_;refine ah.fact (hW (aF _)) λz=>?_;rcases z with⟨rfl,rfl⟩|⟨g,E,rfl,b,q⟩
 .refine aa 9 ?_;refine ai.v (V.UU ad (i:=0) rfl rfl ac) ?_;refine aa 39 ?_;refine ai.o (O.U' ad rfl rfl T8 (cq.rows ad T1 br.F') (λM C=>?_));refine aa 6 ?_
  exact R7
 .refine aa 9 ?_;refine ai.v (V.UU ad (i:=l.length) rfl rfl ac) ?_;refine aa 34 ?_;refine ah.c (λg=>?_) (λg=>?_);replace g:=gD g;refine aa 4 ?_;refine ai.o (O.U' ad rfl rfl T8 (cq.rows ad T1 br.F') (λM C=>?_));refine aa 6 ?_
  exact R7
  exact lz g
def ac7:prog.funcs[219]?=some Tryz.f219:=T7
def age{t:Type}{l:ab t}{i:Nat}{s:t}(h:i<l.length):(l.take (i+1)++l.drop i).take i++([s]++(l.take (i+1)++l.drop i).drop (i+[s].length))=l.take i++s::l.drop i:=by rw[o7 Ui,tG,ri ac,ox,w7 Ui,List.drop_take_self];simp
def ac2{t:Type}{l:ab t}{i:Nat}{s z:t}(h:i<l.length)(n:ab t)(K:n=(l.take i++List.replicate (l.length+1-i) z).take i++([s]++(l.take i++List.replicate (l.length+1-i) z).drop (i+[s].length))):n.take (i+1)++((l.drop i).take (l.length-i)++n.drop (i+1+((l.drop i).take (l.length-i)).length))=l.take i++s::l.drop i:=by
 have c:(l.take i++List.replicate (l.length+1-i) z).take i=l.take i:=by rw[o7 Ui,tG,Nat.min_self]
 have T:n.length=l.length+1:=by rw[K];simp;omega
 have Y:(l.drop i).take (l.length-i)=l.drop i:=k8 T3;have Z:(l.take i).length=i:=Ui
 have z:n.drop (i+1+(l.drop i).length)=[]:=si (by rw[T];simp;omega);rw[Y,z,K,c];rw[dT,<-cn (l.take i),o7 Ui,k8 Ui];simp
def ND(l:ab br)(g E:Nat)(s:br)(C i:Nat)(ao:i<l.length)(K:l.length<=1000):ar prog 156 [.slice (some ⟨g,0,none⟩) l.length E,I (i:Int),.slice (some ⟨C,0,none⟩) 1 1] [rows br.c (.slice (some ⟨g,0,none⟩) l.length E) 271 4 l,rows br.c (.slice (some ⟨C,0,none⟩) 1 1) 271 4 [s]] (λr J=>∃m a,r=.slice (some ⟨m,0,none⟩) (l.length+1) a/\J=[rows br.c (.slice (some ⟨m,0,none⟩) (l.length+1) a) 271 4 (l.take i++s::l.drop i)]):=by
 have b:bd .eql (i:Int) (l.length:Int)=some false:=TZ
 refine aE func156 λW=>?_;refine ah.fact (hW (aF _)) λz=>?_;refine ah.fact (λw n=>afn n) λT=>?_;have U:l.length<=E:=by
  rcases z with⟨h,_⟩|⟨m,a,h,Y,_⟩
  .cases h
  .cases h;exact Y
 by_cases G:l.length+1<=E
 .have Y:bd .gtr ((l.length:Int)+1) (E:Int)=some false:=by simp[bd];omega
  have m:l.length+1<=l.length+1:=cD _;refine LO ?_;refine aa 11 ?_;refine ai.v (V.VE ad (j:=l.length+1) rfl rfl G) ?_;refine aa 11 ?_;refine ai.v (V.UU ad (i:=i+1) rfl rfl ac) ?_;refine ai.v (V.aaV ad (i:=i+1) (d:=l.length) (l:=l) (s:=[s]) (w3:=252) (Bk:=4) ac7 T7 T7 T7 T7 rfl rfl T1 T1 T ac) ?_;refine aa 5 ?_;refine ah.n' ?_ aB.j.j;refine Qr ?_;refine af.q' 8 rfl (av.aaT ad (i:=i) (G:=l.length) (l:=l) rfl rfl T4 ac rfl ao G br.len br.F' ?_);refine aa 7 ?_;refine ai.v (V.UU ad (i:=i) rfl rfl ac) ?_;refine au ?_;refine ai.o (av.WN ad (o:=i) (s:=[s]) (d:=l.take (i+1)++l.drop i) rfl rfl (cq.rows ad T1 br.F') T4 Ui ac ac br.len br.F' ?_);refine aa 11 ?_
  .rw[age ao];exact⟨_,_,⟨_,_,rfl,rfl⟩,Uc⟩
 .have Y:bd .gtr ((l.length:Int)+1) (E:Int)=some true:=by simp[bd];omega
  have z:yC .sub .i64 ((l.length:Int)+1) (i:Int)=some ((l.length+1-i:Nat):Int):=by simp only[yC,eY];rw[show(l.length:Int)+1-(i:Int)=((l.length+1-i:Nat):Int) by omega];exact GU _ ac
  have L:i+(l.length+1-i)=l.length+1:=ac
  refine LO ?_;refine aa 7 ?_;refine ai.v (V.VE ad (j:=i) rfl rfl ac) ?_;refine aa 4 ?_;refine ai.v (V.aaG rfl rfl z) ?_;refine ai.o (av.aaU ad (i:=i) (Yc:=l.length) (l:=l) (k:=l.length+1-i) br.z rfl rfl T1 ac ac ac br.len (λh x d=>?_));refine aa 7 ?_;refine ai.v (V.UU ad (i:=i) rfl rfl ac) ?_;refine au ?_;refine ai.o (av.WN ad (o:=i) (s:=[s]) (d:=l.take i++List.replicate (l.length+1-i) br.z) rfl rfl (cq.rows ad T1 br.F') T4 Ui ac ac br.len br.F' ?_);refine aa 3 ?_;refine ah.n' ?_ aB.j.j.j;refine Qr ?_;refine af.q' 8 rfl (av.WN ad (o:=i+1) (s:=(l.drop i).take (l.length-i)) rfl rfl (cq.part ad (i:=i) (j:=l.length) (l:=l) rfl T1 ac ac br.len br.F') T4 Ui ac ac br.len br.F' ?_);refine aa 12 ?_
  .rw[ac2 ao _ rfl,L];exact⟨_,_,⟨_,_,rfl,rfl⟩,Uc⟩
def fu(p:Nat)(v:aj)(t:Int)(l:ab br):ab ax:=[cells p 254 (kL.c ⟨v,t⟩),rows br.c v 271 4 l]
def kV(h:ag)(l:ab br):aT Nat:=l.findIdx? λs=>decide (s.key=h)
def sU(h:ag)(l:ab br):Int:=match kV h l with|some i=>(i:Int)|none=>-1
def ael{J:ag}{l:ab br}{i:Nat}{x:br}(U:l[i]?=some x)(u:x.key=J)(h:∀(j:Nat) (y:br),j<i->l[j]?=some y->y.key≠J):kV J l=some i:=by obtain⟨Y,rfl⟩:=cT.1 U;exact vv.2 ⟨Y,Q3,λj y=>by simpa using h j _ y (hs ac)⟩
def aep{x:ag}{l:ab br}(h:∀(j:Nat) (y:br),l[j]?=some y->y.key≠x):kV x l=none:=by rw[kV,xp];intro y F;obtain⟨j,c⟩:=sx F;simpa using h j y c
def GV{U:ag}{l:ab br}{i:Nat}(h:kV U l=some i):∃x,l[i]?=some x/\x.key=U/\∀(j:Nat) (y:br),j<i->l[j]?=some y->y.key≠U:=by obtain⟨Y,N,R⟩:=vv.1 h;refine⟨l[i],hs Y,by simpa using N,λj y c F=>?_⟩;obtain⟨Z,rfl⟩:=cT.1 F;simpa using R j c
def agO(s:br)(b:Nat)(h:ag):ar prog 218 [A s.c,aw b 0] [cells b 46 h.c] (λr J=>r=B (decide (s.key=h))/\J=[cells b 46 h.c]):=by refine aE func218 λW=>?_;refine aq 2 λp=>?_;exact aP 14
def NH(v:aj)(l:ab br)(b:Nat)(Y:ag)(F:l.length<=100000):ar prog 217 [v,.func (.func 218) #[] #[aw b 0]] [rows br.c v 271 4 l,cells b 46 Y.c] (λr J=>r=I (sU Y l)/\J=[rows br.c v 271 4 l,cells b 46 Y.c]):=by
 refine aE func217 λW=>?_;refine ah.fact (hW (aF _)) λz=>?_;refine aa 14 ?_;refine ah.cp [7,1,0] (λi:Nat=>i<=l.length/\∀(j:Nat) (y:br),j<i->l[j]?=some y->y.key≠Y) (λi=>[(8,I (i:Int))]) (λ_=>[]) (λi=>l.length-i) 0 ⟨cO _,λj y h=>absurd h (xn _)⟩ ?_;rintro i⟨ao,w⟩ K n;refine bl ?_;by_cases s:i<l.length
 .obtain⟨x,U⟩:=cl s;have Z:=agO x b Y;have L:∃g E,v=.slice (some ⟨g,0,none⟩) l.length E:=by
   rcases z with⟨rfl,rfl⟩|⟨g,E,rfl,_⟩
   .simp at s
   .exact⟨g,E,rfl⟩
  obtain⟨g,E,rfl⟩:=L;by_cases u:x.key=Y
  .have a:sU Y l=(i:Int):=by unfold sU;rw[ael U u w]
   rw[a];rw[ic u]at Z;refine LB ?_;exact aP 17
  .rw[lg u]at Z;refine LB ?_;refine aa 11 ?_;rotate_left;refine Out.z' n (i+1) ?_ FM;exact ⟨ac,λj y m X=>by
    by_cases N:j=i
    .subst N;rw[U]at X;rw[<-hc X];exact u
    .exact w j y ac X⟩
 .have a:sU Y l=-1:=by unfold sU;rw[aep λj y X=>w j y (by have:=(cT.1 X).1;omega) X]
  rw[a];exact aP 19
def GW(p:Nat)(v:aj)(t:Int)(l:ab br)(h:ag)(K:l.length<=100000):ar prog 152 [aw p 0,A h.c] (fu p v t l) (λr J=>r=I (sU h l)/\J=fu p v t l):=by have n (b:Nat):=NH v l b h K;unfold fu;refine aE func152 λW=>?_;refine aq 2 λm=>?_;refine aa 20 ?_;refine ai.p' rfl (n _) ?_;exact aP 6
def GX(g E:Nat)(l:ab br)(i:Nat)(ao:i<l.length)(K:l.length<=E)(q:E<=9223372036854775807):ar prog 199 [.slice (some ⟨g,0,none⟩) l.length E,I (i:Int),I ((i:Int)+1)] [rows br.c (.slice (some ⟨g,0,none⟩) l.length E) 271 4 l] (λv J=>v=.slice (some ⟨g,0,none⟩) (l.eraseIdx i).length E/\J=[rows br.c (.slice (some ⟨g,0,none⟩) (l.eraseIdx i).length E) 271 4 (l.eraseIdx i)]):=by
 have c:l.eraseIdx i=l.take i++l.drop (i+1):=by rw[GY]
 have Y:(l.eraseIdx i).length=i+(l.length-(i+1)):=by rw[B4,aQ ao];omega
 rw[Y,c];refine aE func199 λW=>?_;refine Pl ?_;refine af.q' 6 rfl (O.XR ad (i:=i) (j:=i+1) rfl rfl T4 rfl ac ac br.len br.F' ?_);exact P9
def aiE:ar prog 103 [] [] (λr J=>∃p,r=aw p 0/\J=fu p (.slice none 0 0) 0 []):=by refine aE func103 λW=>?_;refine ah.Ur br.c 271 4 ?_;refine aq 8 λp=>?_;exact aP 5
def GZ(p:Nat)(v:aj)(t:Int)(l:ab br):ar prog 198 [aw p 0] (fu p v t l) (λr J=>r=I (l.length:Int)/\J=fu p v t l):=by unfold fu;refine aE func198 λW=>?_;exact aP 27
def sV(h:ag)(l:ab br):Int×Bool:=match kV h l with|some i=>((l[i]?.getD br.z).due,true)|none=>(0,false)
def NJ(p:Nat)(v:aj)(t:Int)(l:ab br)(h:ag)(K:l.length<=100000):ar prog 110 [aw p 0,A h.c] (fu p v t l) (λr J=>r=.tuple #[I (sV h l).1,B (sV h l).2]/\J=fu p v t l):=by
 have P:=GW p v t l h K;unfold sU at P;cases U:kV h l with
 |none=>
  rw[U]at P;rw[show sV h l=(0,false) by unfold sV;rw[U]];unfold fu at P⊢;refine aE func110 λW=>?_;refine aq 2 λm=>?_;exact aP 30
 |some i=>
  rw[U]at P;obtain⟨x,Y,N,_⟩:=GV U;have Z:=(cT.1 Y).1;rw[show sV h l=(x.due,true) by unfold sV;rw[U];simp[Y]];unfold fu at P⊢;refine aE func110 λW=>?_;refine ah.fact (hW (aG _ (aF _))) λz=>?_;rcases z with⟨rfl,rfl⟩|⟨g,E,rfl,b,q⟩
  .simp at Z
  refine aq 2 λm=>?_;refine aa 30 ?_;refine ai.v (V.B' ad (k:=i) rfl rfl rfl rfl ac) ?_;refine au ?_;refine ai.v (V.VF ad (o:=2) rfl T1 br.len Y) ?_;exact aP 6
def NK(p:Nat)(v:aj)(t:Int)(l:ab br)(N:Int)(h:∀s,l.head?=some s->N<s.due):ar prog 134 [aw p 0,I N] (fu p v t l) (λr J=>r=.tuple #[A ag.z.c,B false]/\J=fu p v t l):=by
 have w:=GZ p v t l;unfold fu at w⊢;cases l with
 |nil=>
  refine aE func134 λW=>?_;refine aq 2 λZ=>?_;refine aq 5 λd=>?_;exact aP 33
 |cons s l=>
  have Q:=h s rfl;have Y:(s::l)[0]?=some s:=rfl;refine aE func134 λW=>?_;refine ah.fact (hW (aG _ (aF _))) λP=>?_;rcases P with⟨rfl,o⟩|⟨g,E,rfl,b,q⟩
  .cases o
  have c:bd .eql (((s::l).length:Nat):Int) 0=some false:=TZ
  have U:bd .gtr s.due N=some true:=TZ
  refine NP λZ d=>?_;exact aP 14
def NL(p:Nat)(g E:Nat)(t:Int)(s:br)(l:ab br)(M:Int)(h:s.due<=M):ar prog 134 [aw p 0,I M] (fu p (.slice (some ⟨g,0,none⟩) (s::l).length E) t (s::l)) (λr J=>r=.tuple #[A s.key.c,B true]/\J=fu p (.slice (some ⟨g,0,none⟩) l.length E) t l):=by
 have v:=GZ p (.slice (some ⟨g,0,none⟩) (s::l).length E) t (s::l);unfold fu at v⊢;have Y:(s::l)[0]?=some s:=rfl;refine aE func134 λW=>?_;refine ah.fact (hW (aG _ (aF _))) λz=>?_;have q:(s::l).length<=E/\E<=9223372036854775807:=by
  rcases z with⟨h,_⟩|⟨m,a,h,Y,N⟩
  .cases h
  .cases h;exact⟨Y,OJ⟩
 have N:=GX g E (s::l) 0 T3 q.1 q.2;rw[show(s::l).eraseIdx 0=l from rfl]at N;have c:bd .eql (((s::l).length:Nat):Int) 0=some false:=TZ
 have U:bd .gtr s.due M=some false:=TZ
 refine NP λZ g=>?_;refine aa 12 ?_;refine ai.v (V.B' ad (k:=0) rfl rfl rfl rfl T3) ?_;refine ai.v (V.H' ad (k:=0) rfl T1 br.len Y) ?_;refine aq 0 λu=>?_;exact aP 27
def j4(j:ab ag)(st:Nat×ab br):Nat×ab br:=j.foldl (λst k=>match kV k st.2 with|some i=>(st.1+1,st.2.eraseIdx i)|none=>st) st
def afI(j:ab ag)(k:ag)(st:Nat×ab br):j4 (j++[k]) st=(match kV k (j4 j st).2 with|some i=>((j4 j st).1+1,(j4 j st).2.eraseIdx i)|none=>j4 j st):=by simp[j4]
theorem zr:∀(j:ab ag) (st:Nat×ab br),(j4 j st).1<=st.1+j.length/\(j4 j st).2.length<=st.2.length
 |[],st=>⟨cD _,cD _⟩
 |k::j,st=>by
  have d:=zr j (match kV k st.2 with|some i=>(st.1+1,st.2.eraseIdx i)|none=>st);have e:j4 (k::j) st=j4 j (match kV k st.2 with|some i=>(st.1+1,st.2.eraseIdx i)|none=>st):=rfl;rw[e];cases U:kV k st.2 with
  |none=>rw[U]at d;dsimp only at d;simp only[dD];exact⟨by have:=d.1;omega,d.2⟩
  |some i=>
   rw[U]at d;have:=xD st.2 i;simp only[dD];exact⟨by have:=d.1;dsimp only at this⊢;omega,jy d.2 this⟩
def G0(p:Nat)(v:aj)(t:Int)(l:ab br)(e:ax)(s:aT Go.Addr)(E b off:Nat)(w:ab ag)(f:Rd e s w.length b off 2 (w.map ag.c))(F:l.length<=100000)(u:w.length<=100000):ar prog 153 [aw p 0,.slice s w.length E] (fu p v t l++[e]) (λr J=>∃d,r=I ((j4 w (0,l)).1:Int)/\J=fu p d t (j4 w (0,l)).2++[e]):=by
 unfold fu;refine bl ?_;refine aE func153 λW=>?_;refine aa 19 ?_;refine ah.cp [10,9,0] (λy:Nat×aj=>y.1<=w.length) (λy=>[(11,I (y.1:Int)),(5,I ((j4 (w.take y.1) (0,l)).1:Int))]) (λy=>[cells p 254 (kL.c ⟨y.2,t⟩),rows br.c y.2 271 4 (j4 (w.take y.1) (0,l)).2]) (λy=>w.length-y.1) (0,v) (cO _) ?_;rintro⟨i,v⟩ ao K n;dsimp only at ao;refine bl ?_;by_cases h:i<w.length
 .obtain⟨k,X⟩:=cl h;have m:j4 (w.take (i+1)) (0,l)=(match kV k (j4 (w.take i) (0,l)).2 with|some j=>((j4 (w.take i) (0,l)).1+1,(j4 (w.take i) (0,l)).2.eraseIdx j)|none=>j4 (w.take i) (0,l)):=by rw[lw X,afI]
  have a:=zr (w.take i) (0,l);simp only[fp]at a;generalize j4 (w.take i) (0,l)=st at*;obtain⟨c,L⟩:=st;dsimp only at m a⊢;have P:=GW p v t L k ac;unfold fu sU at P;cases U:kV k L with
  |none=>
   rw[U]at m P;dsimp only at m P;refine aa 14 ?_;refine ai.v (V.Ux ad rfl f (jB X)) ?_;refine aq 0 λQ=>?_;refine aa 26 ?_;rotate_left;exact Out.z' n (i+1,v) Uk SP (z:=Ql) (t:=Rk)
  |some j=>
   rw[U]at m P;dsimp only at m P;obtain⟨x,Y,_,_⟩:=GV U;have C:=(cT.1 Y).1;refine ah.fact (hW (aG _ (aF _))) λz=>?_;rcases z with⟨rfl,rfl⟩|⟨g,M,rfl,Z,q⟩
   .simp at C
   have N:=GX g M L j C Z (by simp only[Go.maxLen]at q;omega);refine aa 14 ?_;refine ai.v (V.Ux ad rfl f (jB X)) ?_;refine aq 0 λQ=>?_;refine aa 47 ?_;rotate_left;exact Out.z' n (i+1,_) Uk SP (z:=Ql) (t:=Rk)
 .obtain rfl:i=w.length:=by omega
  rw[ir];clear n;exact aP 20
def iU(s:br)(l:ab br):ab br:=l.takeWhile (λa=>iA a s)++s::l.dropWhile (λa=>iA a s)
def G1:∀(l:ab br) (s:br) (p:Nat),zq l s p->iU s l=l.take p++s::l.drop p
 |[],s,p,_=>by simp[iU]
 |a::l,s,0,h=>by
  have o:iA a s=false:=by
   cases T:iA a s with
   |false=>rfl
   |true=>exact absurd ((h.2 0 a rfl).1 T) (Nat.lt_irrefl _)
  simp[iU,o]
 |a::l,s,p+1,h=>by
  have o:iA a s=true:=(h.2 0 a rfl).2 ac;have d:=G1 l s p ⟨by have:=h.1;simp at this;omega,λj x U=>by have:=h.2 (j+1) x (by simpa using U);rw[this];omega⟩
  unfold iU at d⊢;simp only[List.takeWhile_cons,List.dropWhile_cons,o,h7,ly,vf,Bd];rw[d]
def ii(h:ag)(l:ab br):ab br:=(j4 [h] (0,l)).2
theorem NN(h:ag)(l:ab br):ii h l=match kV h l with|some i=>l.eraseIdx i|none=>l:=by unfold ii j4;simp only[qh,List.foldl_nil];cases kV h l<;>rfl
def ajI(l:ab br)(v:aj)(s:br)(C p:Nat)(z:zq l s p)(K:l.length<=1000):ar prog 156 [v,I (p:Int),.slice (some ⟨C,0,none⟩) 1 1] [rows br.c v 271 4 l,rows br.c (.slice (some ⟨C,0,none⟩) 1 1) 271 4 [s]] (λr J=>∃m y,r=.slice (some ⟨m,0,none⟩) (iU s l).length y/\J=[rows br.c (.slice (some ⟨m,0,none⟩) (iU s l).length y) 271 4 (iU s l)]):=by
 rw[G1 l s p z];have Y:=z.1;by_cases h:p=l.length
 .subst h;rw[ir,List.drop_length];exact afT l v s C K
 .have a:(l.take p++s::l.drop p).length=l.length+1:=by simp;omega
  rw[a];refine ay.ar.known (p:=∃g E,v=.slice (some ⟨g,0,none⟩) l.length E) (λw n=>?_) λW=>?_
  .rcases hW (aF _) w n with⟨_,o⟩|⟨g,E,o,_⟩
   .subst o;simp at Y h;omega
   .exact⟨g,E,o⟩
  .obtain⟨g,E,rfl⟩:=W;exact ND l g E s C p ac K
def G2(p:Nat)(v:aj)(t:Int)(l:ab br)(h:ag)(due:Int)(Q:(ii h l).Pairwise (λa b=>iA a b=true))(K:l.length<=900)(j:0<=t/\t<=1000000000000000):ar prog 111 [aw p 0,A h.c,I due] (fu p v t l) (λr J=>∃g E,r=.tuple #[]/\J=fu p (.slice (some ⟨g,0,none⟩) (iU ⟨h,due,t⟩ (ii h l)).length E) (t+1) (iU ⟨h,due,t⟩ (ii h l))):=by
 have P:=zr [h] (0,l);have N (g:Nat):=G0 p v t l (rows ag.c (.slice (some ⟨g,0,none⟩) 1 1) 46 2 [h]) (some ⟨g,0,none⟩) 1 g 0 [h] (Rd.rows (l:=[h]) ag.len T3) ac T3;change∀g,ar _ _ _ _ (λr J=>∃d,r=_/\J=fu p d t (ii h l)++_)at N;change _/\(ii h l).length<=l.length at P;generalize ii h l=L at*;unfold fu at N⊢;dsimp only[List.cons_append,List.nil_append]at N⊢;refine aE func111 λW=>?_;refine aq 2 λZ=>?_;refine aa 16 ?_;refine ai.o (O.Q' ad ag.c [h] rfl (bI.agg rfl bI.nil) rfl rfl (λn=>?_));refine ai.p' rfl (N _) ?_;rintro _ _⟨z,rfl,rfl⟩;refine aa 4 ?_;refine ah.n' ?_ aB.d'.j.j.d';refine ae 6 0 ?_;refine af.i' 6 rfl (V.UZ ad (d:=br.c ⟨h,due,t⟩)) ?_;refine df 7 λg=>?_;refine ae 1 8 ?_;refine aa 15 ?_;refine ah.n' ?_ aB.j.j.j.d'.d';refine ae 5 0 ?_;refine af.p' 5 rfl rfl (agQ _ L ⟨h,due,t⟩ Q ac) ?_;rintro _ _⟨o,W,s,rfl,rfl⟩;refine aa 2 ?_;refine ae 5 6 ?_;refine aa 2 ?_;refine ah.Uv [11] ?_ aB.j.j.d'.d'.j aB.j.j.j.d'.j;refine ae 4 0 ?_;refine ae 2 5 ?_;refine af.t 4 rfl (V.C' ad) ?_;refine af.q' 7 rfl (O.Q' ad br.c [⟨h,due,t⟩] rfl (bI.agg rfl bI.nil) rfl rfl (λW=>?_));refine au ?_;refine af.p' 8 rfl rfl (ajI L _ ⟨h,due,t⟩ _ _ TX ac) ?_;rintro _ _⟨L,z,rfl,rfl⟩;refine aa 2 ?_;refine ae 2 9 ?_;refine SO ?_
 exact R7
structure kW where
 v:aj
 t:Int
 l:ab br
def kW.E(p:Nat)(b:kW):ab ax:=fu p b.v b.t b.l
def vD(N:Int)(_:Nat)(i:ag)(b h:kW):Prop:=∃s k g E,b.l=s::k/\s.due<=N/\i=s.key/\b.v=.slice (some ⟨g,0,none⟩) (s::k).length E/\h=⟨.slice (some ⟨g,0,none⟩) k.length E,b.t,k⟩
def vE(N:Int)(_:Nat)(b:kW):Prop:=∀s,b.l.head?=some s->N<s.due
def ahM(i:ag):ab aj:=[A i.c]
def NQ(p:Nat)(v:aj)(W:v.oneCell'=true)(N:Int):ar prog 94 [v,I N] [] (λr J=>∃a c,r=.func (.func 133) #[] #[aw a 0,aw c 0]/\J=[cells a 192 [v],cells c 3 [I N]]):=by
 refine aE func94 λW=>?_;refine aa 2 ?_;refine ai.o (O.UQ (λp=>?_));refine ai.o (O.UQ (λm=>?_));refine aa 11 ?_
 exact R7
structure B5(tW:Type) where
 k:Nat
 c:tW
 ok:Bool
 i:ag
 b:kW
def adW(p a c:Nat)(M:Int)(ff:kW):Fj prog 133 [aw a 0,aw c 0] (kW.E p) ahM (vD M) (vE M) ([cells a 192 [aw p 0],cells c 3 [I M]]++kW.E p ff) [cells a 192 [aw p 0],cells c 3 [I M]] ff:=by
 intro N y tW ch G X S R sD Yi P mK;have T:∀b:kW,vE M 0 b->ar prog 134 [aw p 0,I M] (kW.E p b) (λr J=>r=.tuple #[A ag.z.c,B false]/\J=kW.E p b):=λb h=>NK p b.v b.t b.l M h;have U:∀b Q i,vD M 0 i b Q->ar prog 134 [aw p 0,I M] (kW.E p b) (λr J=>r=.tuple #[A i.c,B true]/\J=kW.E p Q):=λb Q i ⟨s,C,g,f,bg,bY,cd,gX,kO⟩=>by obtain⟨v,t,l⟩:=b;dsimp only at bg gX kO;subst bg gX kO cd;exact NL p g f t s C M bY
 have F:∀(b:kW) {W:aZ} {D:ab Nat} {an:ab ax} (w:aZ),(∀e,e∈kW.E p b->e∈an)->H W D an w->vE M 0 b\/∃i Q,vD M 0 i b Q:=λb {W D an} w b7 cG=>by
  obtain⟨v,t,l⟩:=b;cases l with
  |nil=>exact .inl λs h=>Ua
  |cons s C=>
   by_cases h:s.due<=M
   .refine .inr ⟨s.key,?_⟩;rcases hW (b7 (rows br.c v 271 4 (s::C)) (by unfold kW.E fu;simp)) w cG with⟨_,eE⟩|⟨g,f,bg,_⟩
    .cases eE
    .exact⟨_,s,C,g,f,rfl,h,rfl,bg,rfl⟩
   .exact .inl λcE hd=>by cases hd;omega
 subst Yi;unfold kW.E fu at T U F mK⊢;refine aE func133 λW=>?_;refine bl ?_;refine ah.fact (F (ch R) · Mr) λn=>?_;have Z:∃m:B5 tW,((m.ok=false/\G m.k m.c/\vE M 0 (ch m.c)/\m.b=ch m.c/\m.i=ag.z)\/(m.ok=true/\G m.k m.c/\vD M 0 m.i (ch m.c) m.b))/\m.c=R/\ar prog 134 [aw p 0,I M] [cells p 254 (kL.c ⟨(ch R).v,(ch R).t⟩),rows br.c (ch R).v 271 4 (ch R).l] (λr J=>r=.tuple #[A m.i.c,B m.ok]/\J=[cells p 254 (kL.c ⟨m.b.v,m.b.t⟩),rows br.c m.b.v 271 4 m.b.l]):=by
  rcases n with n|⟨i,Q,n⟩
  .exact⟨⟨0,R,false,ag.z,ch R⟩,.inl ⟨rfl,P,n,rfl,rfl⟩,rfl,T _ n⟩
  .exact⟨⟨0,R,true,i,Q⟩,.inr ⟨rfl,P,n⟩,rfl,U _ _ _ n⟩
 obtain⟨m,Yh,Yf,Yk⟩:=Z;refine aq 9 λfT=>?_;refine aa 5 ?_;refine ah.cp [0,1,2] (λu:Nat×B5 tW=>(u.2.ok=false/\G u.2.k u.2.c/\vE M 0 (ch u.2.c)/\u.2.b=ch u.2.c/\u.2.i=ag.z)\/(u.2.ok=true/\G u.2.k u.2.c/\vD M 0 u.2.i (ch u.2.c) u.2.b)) (λu=>[(5,B u.2.ok),(4,aw u.1 0)]) (λu=>[cells p 254 (kL.c ⟨u.2.b.v,u.2.b.t⟩),rows br.c u.2.b.v 271 4 u.2.b.l,S u.2.c,cells u.1 46 u.2.i.c]) (λu=>N+1-u.2.k) (fT,m) Yh ?_ (o:=by rw[Yf];(repeat(first|exact ak.nil|exact al.here|apply ak.cons|apply al.there)));rintro⟨q,k,hV,ok,i,b⟩ G3 K cA;dsimp only at G3;refine bl ?_;rcases G3 with⟨rfl,dv,d,rfl,rfl⟩|⟨rfl,dv,d⟩
 .clear cA;refine aa 12 ?_
  .exact⟨_,_,⟨hV,k,.inl ⟨dv,d⟩,rfl⟩,Uc⟩
 .have Yg:=mK k i hV b dv d;have Yl:=sD k hV dv;refine aa 15 ?_;refine ai.o (av.Vd rfl rfl (Yg) Uc ?_);rintro oK g0⟨x,Yj,rfl,Yc,Ye,rfl⟩;refine Pm (λj=>?_) λj=>?_;refine aa 6 ?_
  .exact⟨_,_,⟨_,k+1,.inr Ks,rfl⟩,Uc⟩
  refine aq 10 λfT=>?_;refine aa 6 ?_;refine ai.fact (F (ch x) · Mr) λY=>?_;have Z:∃C:B5 tW,((C.ok=false/\G C.k C.c/\vE M 0 (ch C.c)/\C.b=ch C.c/\C.i=ag.z)\/(C.ok=true/\G C.k C.c/\vD M 0 C.i (ch C.c) C.b))/\C.c=x/\C.k=k+1/\ar prog 134 [aw p 0,I M] [cells p 254 (kL.c ⟨(ch x).v,(ch x).t⟩),rows br.c (ch x).v 271 4 (ch x).l] (λr J=>r=.tuple #[A C.i.c,B C.ok]/\J=[cells p 254 (kL.c ⟨C.b.v,C.b.t⟩),rows br.c C.b.v 271 4 C.b.l]):=by
   have h:G (k+1) x:=Ks
   rcases Y with Y|⟨i,Q,Y⟩
   .exact⟨⟨k+1,x,false,ag.z,ch x⟩,.inl ⟨rfl,h,Y,rfl,rfl⟩,rfl,rfl,T _ Y⟩
   .exact⟨⟨k+1,x,true,i,Q⟩,.inr ⟨rfl,h,Y⟩,rfl,rfl,U _ _ _ Y⟩
  obtain⟨C,F,b,a,r⟩:=Z;refine aa 8 ?_;exact Out.z' cA (_,C) F (by show N+1-C.k<N+1-k;omega) (t:=by rw[b];(repeat(first|exact ak.nil|exact al.here|apply ak.cons|apply al.there)))
theorem NS(h:ag)(a:br)(l:ab br):kV h (a::l)=if a.key=h then some 0 else(kV h l).map (·+1):=by grind [kV,List.findIdx]
def vF(h:ag)(l:ab br):ab br:=l.filter λs=>decide (s.key≠h)
theorem G4(x:ag):∀l:ab br,(l.map (·.key)).Nodup->(match kV x l with|some i=>l.eraseIdx i|none=>l)=vF x l
 |[],_=>rfl
 |a::l,h=>by rw[e7,la]at h;have d:=G4 x l h.2;grind [NS,vF,List.filter_eq_self.2,List.mem_map.2]
def zs{x:ag}{l:ab br}(h:(l.map (·.key)).Nodup):ii x l=vF x l:=by grind [NN,G4]
theorem xE(s:br)(l:ab br):(iU s l).Perm (s::l):=by grind [iU,List.perm_middle.trans,List.takeWhile_append_dropWhile]
def G5{s:br}:∀{l:ab br},l.Pairwise (λa b=>iA a b=true)->(∀a∈l,a.jh≠s.jh)->(iU s l).Pairwise (λa b=>iA a b=true)
 |[],_,_=>by simp[iU]
 |a::l,h,p=>by
  rw[List.pairwise_cons]at h;have d:=G5 (s:=s) h.2 (λx U=>p x (hI _ U));cases T:iA a s with
  |true=>
   have e:iU s (a::l)=a::iU s l:=by simp[iU,T]
   grind [List.pairwise_cons,List.mem_cons.1,xE]
  |false=>
   have e:iU s (a::l)=s::a::l:=by simp[iU,T]
   grind [iA,vC,List.mem_cons_self,List.pairwise_cons,List.mem_cons.1]
structure lH(t:Int)(l:ab br):Prop where
 t0:0<=t
 sorted:l.Pairwise (λa b=>iA a b=true)
 mb:(l.map (·.key)).Nodup
 fJ:∀s∈l,s.jh<t
def lH.zero:lH 0 []:=⟨gg _,List.Pairwise.nil,pK,T3⟩
def zt(h:ag)(l:ab br):(vF h l).Sublist l:=Bg
def G6{h:ag}{l:ab br}{s:br}:s∈vF h l↔s∈l/\s.key≠h:=by unfold vF;simp
def lH.del{t:Int}{l:ab br}(w:lH t l)(h:ag):lH t (ii h l):=by rw[zs w.mb];exact⟨w.t0,w.sorted.sublist (zt h l),w.mb.sublist (List.Sublist.map _ (zt h l)),λs Q=>w.fJ s ((zt h l).subset Q)⟩
def lH.set{t:Int}{l:ab br}(w:lH t l)(h:ag)(due:Int):lH (t+1) (iU ⟨h,due,t⟩ (ii h l)):=by
 have U:=w.del h;refine⟨by have:=w.t0;omega,G5 U.sorted (λa K=>by have:=U.fJ a K;show a.jh≠t;omega),?_,λs Q=>?_⟩
 .have z:=(xE ⟨h,due,t⟩ (ii h l)).map (·.key);rw[z.nodup_iff,e7,la];refine⟨λq=>?_,U.mb⟩;obtain⟨s,Q,u⟩:=eS.1 q;rw[zs w.mb]at Q;exact(G6.1 Q).2 u
 .rcases dk.1 ((xE _ _).mem_iff.1 Q)with rfl|Q
  .show t<t+1;omega
  .have:=U.fJ s Q;omega
def acS{t:Int}{l:ab br}(h:ag)(due:Int):(iU ⟨h,due,t⟩ (ii h l)).length<=l.length+1:=by rw[(xE _ _).length_eq,dD];grind [zr,ii]
def zu(w:aZ):(Go.zeroValue 4).run prog w=.ok (B false) w:=rfl
abbrev ajx:=ab (Int×Bool)
def seen(m:ajx)(r:Int):Bool:=(a8 m r).getD false
end Go.Proofs.YteogojgnkjegmaaGreatDoor
