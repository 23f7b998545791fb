/-
 Part of the proof.
-/
import Derived.Test.YteogojgnkjegmaaGreatDoorXk
set_option linter.all false
set_option maxRecDepth 8000
set_option maxHeartbeats 8000000
namespace Go.Proofs.YteogojgnkjegmaaGreatDoor
open Go.ay Go.Proofs.Tryz
variable[Go.ay.bR]
def ox(e:ax)(v:aj)(l:ab ag):Prop:=∃m C b off,v=.slice m l.length C/\Rd e m l.length b off 2 (l.map ag.c)
def ox.of{g:ab co}{v:aj}{k:ab ag}(K:(v,k)∈g){W:aY}{D:ab Nat}{N:ab ax}(q:cR g∈N):∀w,H W D N w->ox (cR g) v k:=λw m=>by
 have y:=m.mem q;unfold cR at y⊢;rw[pT]at y;have o:rows ag.c v 46 2 k∈g.map vH:=fh.2 ⟨(v,k),K,rfl⟩;have J:=y.1 _ o;have F:(v=.slice none 0 0/\k=[])\/∃g C,v=.slice (some ⟨g,0,none⟩) k.length C/\k.length<=C/\C<=Go.maxLen:=
  hc (f:=ag.c) (E:=46) (aG:=2) (W:=w) (D:=bg [rows ag.c v 46 2 k]) (aE []) w ⟨λe d=>by
   obtain rfl:e=_:=Z5
   exact J,Rb,λb R=>.inl R,λ_ _ _=>rfl,cl _,rfl,rfl,rfl,cl _⟩
 rcases F with⟨rfl,rfl⟩|⟨Z,C,rfl,_,M⟩
 exact KU
 .have T:=Rd.rows (f:=ag.c) (g:=Z) (E:=46) (aG:=2) (cap:=C) (l:=k) ag.len PL;exact Ox
def ox.all{g:ab co}{W:aY}{D:ab Nat}{N:ab ax}(q:cR g∈N):∀w,H W D N w->∀y,y∈g\/y=co.z->ox (cR g) y.1 y.2:=λw m y G=>by
 rcases G with G|rfl
 .exact ox.of (by simpa using G) q w m
 exact KU
structure gd where
 cG:aQ Go.Addr
 cap:Nat
 l:ab ag
def gd.c(y:gd):ab aj:=[.slice y.cG y.l.length y.cap]
def gd.len(y:gd):y.c.length=1:=rfl
def gd.B':iv gd.c:=λ_=>rfl
def xw(L:fQ)(d:bP)(Z:ab ag):Prop:=∀x,
 (x∈L.lists->x∈Z)/\(x∈(fz L.eb d.cy).2->x∈Z)/\(d.Kind≠5->x∈(fz L.keys d.Key).2->x∈Z)/\(d.Kind=5->∀k,rl k d.Key=true->x∈(fz L.keys k).2->x∈Z)
def KK(s:aj)(Q:s.oneCell'=true)(d:bP):ar prog 85 [s,A d.c] [] (λr Y=>∃f X,r=.func (.func 118) #[] #[au f 0,au X 0]/\Y=[cells f 35 [s],cells X 29 d.c]):=by
 refine aB func85 λW=>?_;refine aa 2 ?_;refine ai.o (O.R9 (λt=>?_));refine aq 0 λa=>?_;refine aa 11 ?_
 exact XZ
def abd(x:ag):ab aj:=[A x.c]
def Ej{D:Type}[DecidableEq D](m:ab (D×co))(k:D):fz m k∈m.map (·.2)\/fz m k=co.z:=by
 induction m with
 |nil=>exact .inr rfl
 |cons p m u=>
  unfold fz at u⊢;rw[jp];by_cases h:k=p.1
  .rw[aT h];exact .inl XE
  .rw[aN h];rcases u with u|u
   .exact .inl (by simp only[eK];exact hn _ u)
   .exact .inr u
def afB{D:Type}[DecidableEq D]{m:ab (D×co)}{k:D}{x:ag}(h:x∈(fz m k).2):∃y,(k,y)∈m/\x∈y.2:=by
 induction m with
 |nil=>simp[fz,br,ga,co.z]at h
 |cons p m u=>
  unfold fz at u h;rw[jp]at h;by_cases e:k=p.1
  .rw[aT e]at h;exact⟨p.2,by rw[e];simp,h⟩
  .rw[aN e]at h;obtain⟨y,F,M⟩:=u h;exact⟨y,hn _ F,M⟩
def Ek{D:Type}:∀{l:ab D} {j:Nat} {x:D},l[j]?=some x->(x::l.eraseIdx j).Perm l
 |a::l,0,x,h=>by
  have:a=x:=XV
  subst this;exact gA _
 |a::l,j+1,x,h=>by
  have u:=Ek (l:=l) (j:=j) (x:=x) XV;show(x::a::l.eraseIdx j).Perm (a::l)
  exact(gZ a x _).trans (u.cons a)
def zT(E m:Nat)(L:fQ):ab ax:=[cells E 101 (iS.c ⟨au m 0,.map (some L.hf),L.fO,.map (some L.dA)⟩),bn kU eR L.hf L.keys,bn pp eR L.dA L.eb]
def KN(nh xx dC eE:Nat)(L:fQ)(d:bP)(Yr:∀k∈L.keys.map (·.1),k.length<=9223372036854775807)(Yy:d.Key.length<=9223372036854775807)(bY:L.keys.length<=1000000000000):vG prog 118 [au nh 0,au xx 0] (zT dC eE L) [cells nh 35 [au dC 0],cells xx 29 d.c,cR L.g] abd (xw L d) [cells nh 35 [au dC 0],cells xx 29 d.c,cR L.g]:=by
 intro l mg G X vI gN Ys lv;obtain⟨hf,dA,fO,t,R,D,g,bU⟩:=L;unfold zT at*;dsimp only[List.cons_append,List.nil_append]at*;refine aB func118 λW=>?_;refine ah.R7 ?_;refine bh ?_;refine ah.fact (ox.all (g:=g) XB) λcu=>?_;have YZ:ox (cR g) fO t:=cu (fO,t) (.inl (bU.mem_iff.2 XE));obtain⟨a,P,Y7,Y4,rfl,YJ⟩:=YZ;obtain⟨⟨ij,q⟩,M⟩:∃y,fz D d.cy=y:=⟨_,rfl⟩
 have Yt:ox (cR g) ij q:=cu (ij,q) (by
  rcases Ej D d.cy with h|h
  .exact .inl (bU.mem_iff.2 (by rw[<-M];simp only[dq,eN];exact .inr (.inr h)))
  .exact .inr (by rw[<-M,h]))
 obtain⟨U,Q,Y8,YL,rfl,Yq⟩:=Yt;refine av ?_;refine ah.n' ?_ aA.d'.d'.d'.d'.d'.d'.j;refine ae 10 0 ?_;refine af.p' 10 rfl (aw.q' (aK.R6 (l:=D) (k:=d.cy) (v:=(.slice U q.length Q,q)) (aR:=eR) co.z M nf ng nT rfl rfl XB) ?_);refine av ?_;refine af.p' 11 rfl (O.N' ad gd.c [⟨a,P,t⟩,⟨U,Q,q⟩] rfl (bx.one rfl (bx.one rfl bx.nil)) rfl rfl (λYC=>?_));refine av ?_;refine ae 1 12 ?_;refine aa 2 ?_;refine ah.mt [2,1,0] (λz:ab gd×Nat×Nat=>(∀y∈z.1,∃b off,Rd (cR g) y.cG y.l.length b off 2 (y.l.map ag.c))/\z.1.length<=R.length+3/\xw ⟨hf,dA,.slice a t.length P,t,R,D,g,bU⟩ d (z.1.flatMap (·.l)))
  (λz=>[(4,.slice (some ⟨z.2.1,0,none⟩) z.1.length z.2.2)]) (λz=>[rows gd.c (.slice (some ⟨z.2.1,0,none⟩) z.1.length z.2.2) 98 1 z.1]) (b:=[rows gd.c (.slice (some ⟨YC,0,none⟩) 2 2) 98 1 [⟨a,P,t⟩,⟨U,Q,q⟩]]) ?_ ?_
 .intro fa Yc;by_cases lb:d.Kind=5
  .refine aa 14 ?_;refine ai.o (aw.U4 po rfl XJ (λYV=>?_));refine aa 3 ?_;rotate_left;refine ah.cb [2,1,0,30] (λy:ab (ab aP×co)×ab (ab aP×co)×aQ (ab aP×co)×ab gd×Nat×Nat=>
     (y.1++y.2.1).Perm R/\(∀p∈y.1,rl p.1 d.Key=true->∃z∈y.2.2.2.1,z.l=p.2.2)/\(∀z∈y.2.2.2.1,∃b off,Rd (cR g) z.cG z.l.length b off 2 (z.l.map ag.c))/\y.2.2.2.1.length<=y.1.length+2/\(⟨a,P,t⟩:gd)∈y.2.2.2.1/\(⟨U,Q,q⟩:gd)∈y.2.2.2.1)
    (λy=>[(4,.slice (some ⟨y.2.2.2.2.1,0,none⟩) y.2.2.2.1.length y.2.2.2.2.2)]) (λy=>[jL kU eR hf YV R y.2.1 y.2.2.1,rows gd.c (.slice (some ⟨y.2.2.2.2.1,0,none⟩) y.2.2.2.1.length y.2.2.2.2.2) 98 1 y.2.2.2.1]) (λy=>y.2.1.length)
    ([],R,none,[⟨a,P,t⟩,⟨U,Q,q⟩],_,_) ⟨gA _,XE,by
     intro z Z;simp only[dq,iU,fU]at Z;rcases Z with rfl|rfl
     .exact⟨_,_,YJ⟩
     .exact⟨_,_,Yq⟩,XE,XE,XE⟩ ?_
   rintro⟨pre,n,Yl,F,lw,lx⟩⟨ei,u,Y,N,Yx,YA⟩ K T;dsimp only at ei u Y N Yx YA;refine bh ?_;by_cases ep:n=[]
   .subst ep;clear T;rw[dk]at ei;refine aa 2 ?_;refine ai.o (aw.U5 rfl XB ?_);refine aa 9 ?_;refine Out.TI ?_;refine Out.t' Yc (F,lw,lx) ⟨Y,by have:=ei.length_eq;show F.length<=_;omega,?_⟩ trivial;intro x;refine⟨λh=>vd.2 ⟨_,Yx,h⟩,λh=>vd.2 ⟨_,YA,?_⟩,λh=>absurd lb h,λ_ k cc h=>?_⟩
    .have gY:x∈(fz D d.cy).2:=h;rw[M]at gY;exact gY
    .obtain⟨y,cm,dd⟩:=afB (m:=R) h;obtain⟨z,YG,YS⟩:=u (k,y) (ei.mem_iff.2 cm) cc;exact vd.2 ⟨z,YG,by rw[YS];exact dd⟩
   .refine aa 2 ?_;refine ai.o (aw.U6 ep rfl LB (λE Y0 YT=>?_));refine aa 8 ?_;obtain⟨C,h1,f⟩:=Y0;have Yu:=(cI.1 YT).1;have Yz:((C,h1,f)::n.eraseIdx E).Perm n:=Ek YT;have Yf:((pre++[(C,h1,f)])++n.eraseIdx E).Perm R:=by rw[cd];exact(Yz.append_left pre).trans ei
    have YH:(C,h1,f)∈R:=Yf.mem_iff.1 XE;have YD:ox (cR g) h1 f:=cu (h1,f) (.inl (bU.mem_iff.2 (by simp only[dq,eN];exact .inr (.inl (fh.2 ⟨_,YH,rfl⟩)))))
    obtain⟨J,s,Y1,YR,rfl,Yw⟩:=YD;have YX:=Yr C (fh.2 ⟨_,YH,rfl⟩);have Yp:pre.length+n.length=R.length:=by rw[<-bM];exact ei.length_eq
    have YB:(n.eraseIdx E).length<n.length:=by rw[zU,aT Yu];omega
    have YU:=Eb C d.Key YX Yy;by_cases YO:rl C d.Key=true
    .rw[YO]at YU;refine aa 2 ?_;refine ai.v (aK.SI (p:=((C,Go.Value.slice J f.length s,f):ab aP×co)) rfl XB) ?_;refine aa 18 ?_;refine ai.o (O.N' ad gd.c [⟨J,s,f⟩] rfl (bx.one rfl bx.nil) rfl rfl (λYM=>?_));refine ai.o (O.O' ad rfl rfl XJ (ce.rows ad XB gd.B') (λYN YK=>?_));refine aa 3 ?_;refine Out.t' T (pre++[(C,.slice J f.length s,f)],n.eraseIdx E,_,F++[⟨J,s,f⟩],_,_) ?_ YB;exact ⟨Yf,by
      intro p r YI;rcases eN.1 r with r|r
      .obtain⟨z,cm,dd⟩:=u p r YI;exact⟨z,qd _ cm,dd⟩
      .obtain rfl:p=_:=by simpa using r
       exact⟨⟨J,s,f⟩,XE,rfl⟩,by
      intro z Z;rcases eN.1 Z with Z|Z
      .exact Y z Z
      .obtain rfl:z=_:=by simpa using Z
       exact⟨_,_,Yw⟩,HV,qd _ Yx,qd _ YA⟩
    .rw[show rl C d.Key=false by simpa using YO]at YU;refine aa 2 ?_;refine ai.v (aK.SI (p:=((C,Go.Value.slice J f.length s,f):ab aP×co)) rfl XB) ?_;refine aa 17 ?_;refine Out.t' T (pre++[(C,.slice J f.length s,f)],n.eraseIdx E,_,F,_,_) ?_ YB;exact ⟨Yf,by
      intro p r YI;rcases eN.1 r with r|r
      .exact u p r YI
      .obtain rfl:p=_:=by simpa using r
       exact absurd YI YO,Y,HV,Yx,YA⟩
  .obtain⟨⟨h1,f⟩,Yk⟩:∃y,fz R d.Key=y:=⟨_,rfl⟩
   have YD:ox (cR g) h1 f:=cu (h1,f) (by
    rcases Ej R d.Key with h|h
    .exact .inl (bU.mem_iff.2 (by rw[<-Yk];simp only[dq,eN];exact .inr (.inl h)))
    .exact .inr (by rw[<-Yk,h]))
   obtain⟨J,s,Y1,YR,rfl,Yw⟩:=YD;refine aa 8 ?_;refine ah.n' ?_ aA.j.d'.d'.j.j.j.j.j;refine ae 4 0 ?_;refine ae 2 5 ?_;refine ae 1 4 ?_;refine af.p' 7 rfl (aw.q' (aK.R6 (l:=R) (k:=d.Key) (v:=(Go.Value.slice J f.length s,f)) (aR:=eR) co.z Yk gl po nT rfl rfl XB) ?_);refine av ?_;refine af.p' 8 rfl (O.N' ad gd.c [⟨J,s,f⟩] rfl (bx.one rfl bx.nil) rfl rfl (λYW=>?_));refine av ?_;refine af.p' 9 rfl (O.O' ad rfl rfl XJ (ce.rows ad XB gd.B') (λY9 Y2=>?_));refine av ?_;refine ae 1 10 ?_;refine av ?_;all_goals(refine Out.t' Yc ([⟨a,P,t⟩,⟨U,Q,q⟩]++[⟨J,s,f⟩],_,_) ?_ trivial;exact ⟨by
    intro z Z;simp only[eN,dq,iU,fU]at Z;rcases Z with(rfl|rfl)|rfl
    .exact⟨_,_,YJ⟩
    .exact⟨_,_,Yq⟩
    .exact⟨_,_,Yw⟩,XE,by
    intro x;refine⟨λh=>by simp[show x∈t from h],λh=>?_,λ_ h=>?_,λh=>absurd h lb⟩
    .have gY:x∈(fz D d.cy).2:=h;rw[M]at gY;simp[show x∈q from gY]
    .have gY:x∈(fz R d.Key).2:=h;rw[Yk]at gY;simp[show x∈f from gY]⟩)
 .rintro⟨F,lw,lx⟩⟨Y,N,nK⟩;dsimp only at Y N nK;refine bh ?_;refine ah.WX (bc:=[vI gN,cells dC 101 (iS.c ⟨au eE 0,.map (some hf),.slice a t.length P,.map (some dA)⟩),bn kU eR hf R,bn pp eR dA D]) ?_;refine aa 8 ?_;refine ah.cb [2,1,0,54,55] (λz:Nat×mg=>z.1<=F.length/\G ((F.take z.1).flatMap (·.l)) z.2) (λz=>[(56,I (z.1:Int))]) (λz=>[aI (vI z.2::[cells dC 101 (iS.c ⟨au eE 0,.map (some hf),.slice a t.length P,.map (some dA)⟩),bn kU eR hf R,bn pp eR dA D])]) (λz=>F.length-z.1) (0,gN) ⟨cw _,Ys⟩ ?_;rintro⟨i,ie⟩⟨ao,Yj⟩ K T;dsimp only at ao Yj;refine bh ?_;by_cases Ye:i<F.length
  .obtain⟨y,e7⟩:=b8 Ye;obtain⟨acQ,ad1,YP⟩:=Y y (j5 e7);have Yv:=YP.len;have eu:(F.take (i+1)).flatMap (·.l)=(F.take i).flatMap (·.l)++y.l:=by rw[kl e7,lP];simp
   obtain⟨fi,bu⟩:∃fi,F.flatMap (·.l)=(F.take i).flatMap (·.l)++(y.l++fi):=by refine⟨(F.drop (i+1)).flatMap (·.l),?_⟩;rw[<-cd,<-eu,<-lP,mU]
   obtain⟨Za,Y5,w⟩:=y;dsimp only at YP Yv eu bu;generalize(F.take i).flatMap (·.l)=b4 at*;refine aa 13 ?_;refine ai.v (V.x' ad rfl rfl) ?_;refine ai.v (V.RZ ad rfl XB (λ_=>rfl) XF) ?_;refine aa 11 ?_;rotate_left;refine ah.cb [2,1,0,54,55,56,60,61] (λz:Nat×mg=>z.1<=w.length/\G (b4++w.take z.1) z.2) (λz=>[(62,I (z.1:Int))]) (λz=>[aI (vI z.2::[cells dC 101 (iS.c ⟨au eE 0,.map (some hf),.slice a t.length P,.map (some dA)⟩),bn kU eR hf R,bn pp eR dA D])]) (λz=>w.length-z.1) (0,ie) ⟨cw _,by simpa using Yj⟩ ?_;rintro⟨j,jH⟩⟨eB,Yn⟩ El YE;dsimp only at eB Yn;refine bh ?_;by_cases Yu:j<w.length
   .obtain⟨x,cr⟩:=b8 Yu;have YF:w=w.take j++x::w.drop (j+1):=by obtain⟨cc,rfl⟩:=cI.1 cr;rw[<-tz cc,mU]
    have Yh:F.flatMap (·.l)=(b4++w.take j)++x::(w.drop (j+1)++fi):=by
     rw[bu];conv=>lhs;rw[YF]
     simp only[cd,kn]
    have YQ:=nK;rw[Yh]at YQ;have Yo:=lv _ _ _ jH YQ Yn;have Y3:w.take (j+1)=w.take j++[x]:=kl cr;refine aa 14 ?_;refine ai.v (V.RP ad rfl YP (iM cr)) ?_;refine aq 0 λYm=>?_;refine aa 7 ?_;refine ai.o (aw.Sx rfl rfl (Yo) XC ?_);rintro v3 nc⟨Y6,Zb,rfl,Yg,Yi,rfl⟩;refine Rl (λYY=>?_) λYY=>?_;refine aa 10 ?_
    .exact⟨_,_,⟨_,.inr ⟨(b4++w.take j)++[x],w.drop (j+1)++fi,by rw[cd];exact YQ,Ya⟩,rfl⟩,XC⟩
    refine aa 7 ?_;rotate_left;refine Out.t' YE (j+1,_) ?_ (by show w.length-(j+1)<w.length-j;omega);exact ⟨Zw,by show G (b4++w.take (j+1)) _;rw[Y3,<-cd];apply_assumption;assumption⟩
   .obtain rfl:j=w.length:=by omega
    rw[hE]at Yn;refine aa 17 ?_;refine Out.t' T (i+1,jH) ?_ (by show F.length-(i+1)<F.length-i;omega);exact ⟨XO,by show G ((F.take (i+1)).flatMap (·.l)) jH;rw[eu];exact Yn⟩
  .obtain rfl:i=F.length:=by omega
   rw[hE]at Yj;refine aa 12 ?_
   .exact⟨_,_,⟨ie,.inl ⟨_,nK,Yj⟩,rfl⟩,XC⟩
end Go.Proofs.YteogojgnkjegmaaGreatDoor
namespace Go.Proofs.YteogojgnkjegmaaGreatDoor
open Go.ay Go.Proofs.Tryz
variable{n:ag}{D:Type}{R:D->D->Prop}
def kt(j:Int):Nat:=(Min.min (Max.max j 0) 4).toNat
def abj(j:Int):kt j<=4:=by unfold kt;omega
def mv(n U h j:Int):Int:=if n<1 then 4 else 4*(1+(U-h)%n)*2^kt j
def Em(j:Int):(1:Int)<=2^kt j/\(2:Int)^kt j<=16:=by have:=abj j;generalize kt j=k at*;rcases(by omega:k=0\/k=1\/k=2\/k=3\/k=4)with rfl|rfl|rfl|rfl|rfl<;>decide
def En{a b:Int}(o:4<=a)(K:a<=8388608)(h:1<=b/\b<=16):4<=a*b/\a*b<=134217728:=by have F:a*1<=a*b:=KP h.1 ac;have M:a*b<=a*16:=KP h.2 ac;omega
def Eo(n U h j:Int)(v:n<=1048576):4<=mv n U h j/\mv n U h j<=134217728:=by
 unfold mv;split
 .decide
 .have F:=Int.emod_nonneg (U-h) (by omega:n≠0);have M:=Int.emod_lt_of_pos (U-h) (by omega:0<n);exact En ac ac (Em j)
def KQ{a n:Int}(v:1<=n):(a.tmod n=a%n\/a.tmod n=a%n-n)/\0<=a%n/\a%n<n/\(a.tmod n<0->a.tmod n+n=a%n)/\(0<=a.tmod n->a.tmod n=a%n)/\(a.tmod n+n).tmod n=a%n:=by
 have F:=Int.emod_nonneg a (by omega:n≠0);have M:=Int.emod_lt_of_pos a (by omega:0<n);have g:a.tmod n=a%n\/a.tmod n=a%n-n:=by
  rw[Int.tmod_eq_emod];split
  .left;omega
  .right;omega
 have z:0<=a.tmod n+n:=ac
 refine⟨g,F,M,ac,ac,?_⟩;rw[Int.tmod_eq_emod_of_nonneg z,Int.add_emod_right];rcases g with h|h
 .rw[h,Int.emod_emod_of_dvd a (Int.dvd_refl n)]
 .rw[h,Int.sub_emod_right,Int.emod_emod_of_dvd a (Int.dvd_refl n)]
def Ep(n U:Int)(x:ag)(j:Int)(v:n<=1048576)(Q:-1048576<=U/\U<=1048576)(o:-1048576<=x.be/\x.be<=1048576):cX prog 112 [I n,I U,A x.c,I j] (I (mv n U x.be j)):=by
 unfold mv;by_cases h:n<1
 .rw[aT h];refine aB func112 λW=>?_;refine aq 2 λC=>?_;exact aM 19
 .rw[aN h];obtain⟨F,M,g,z,N,E⟩:=KQ (a:=U-x.be) (n:=n) ac;have bb:=Em j;generalize(U-x.be)%n=i at*;have y:(Go.IntKind.i64.wrap (4*(1+i)*2^(Min.min (Min.min (Max.max j 0) 4).toNat Go.IntKind.i64.bits)))=4*(1+i)*2^kt j:=by rw[show Min.min (Min.min (Max.max j 0) 4).toNat Go.IntKind.i64.bits=kt j by unfold kt;show Min.min _ 64=_;omega];have:=En (a:=4*(1+i)) ac ac bb;exact yK (lc.TW ac)
  refine aB func112 λW=>?_;refine aq 2 λC=>?_;refine aa 20 ?_;refine ai.v (V.UD rfl rfl) ?_;refine aa 3 ?_;refine ai.v (V.UD rfl rfl) ?_;refine aa 7 ?_;refine ai.v (V.mul) ?_;refine aa 3 ?_;refine ai.v (V.shl) ?_;refine aa 5 ?_
  .rw[E];exact db (λz:Int=>I z) y
def hK(a b:bi):Bool:=decide (a.due<b.due)||(decide (a.due=b.due)&&decide (a.ir<b.ir))
def si(a b:bi):Int:=if hK a b=true then-1 else if a.due=b.due/\a.ir=b.ir then 0 else 1
theorem tL{a b:bi}:hK a b=true↔a.due<b.due\/a.due=b.due/\a.ir<b.ir:=by simp[hK]
def Er(a b:bi):cX prog 155 [A a.c,A b.c] (I (si a b)):=by
 unfold si;by_cases F:a.due<b.due
 .rw[aT (tL.2 (.inl F))];refine KY λW o p=>?_;exact aM 40
 by_cases M:a.due=b.due
 .by_cases g:a.ir<b.ir
  .rw[aT (tL.2 (.inr ⟨M,g⟩))];refine KY λW o p=>?_;exact aM 41
  .rw[aN (λh=>by rcases tL.1 h with h|h<;>omega)];by_cases g:a.ir=b.ir
   .rw[aT ⟨M,g⟩];refine KY λW o p=>?_;exact aM 60
   .rw[aN (λh=>g h.2)];refine KY λW o p=>?_;exact aM 61
 .rw[aN (λh=>by rcases tL.1 h with h|h<;>omega),aN (λh=>M h.1)];refine KY λW o p=>?_;exact aM 61
def aaP(a b:bi):decide (si a b<0)=hK a b:=by
 unfold si;by_cases h:hK a b=true
 .rw[aT h,h];decide
 .rw[aN h,show hK a b=false by simpa using h];split<;>decide
def Es{a b c:bi}(F:hK a b=true)(M:hK b c=true):hK a c=true:=by rw[tL]at*;omega
def Et{l:ab D}(h:l.Pairwise R){i j:Nat}{a b:D}(o:l[i]?=some a)(X:l[j]?=some b)(T:i<j):R a b:=by obtain⟨F,rfl⟩:=cI.1 o;obtain⟨M,rfl⟩:=cI.1 X;exact List.pairwise_iff_getElem.1 h i j F M T
def xy(l:ab bi)(s:bi)(p:Nat):Prop:=p<=l.length/\∀(j:Nat) (a:bi),l[j]?=some a->(hK a s=true↔j<p)
def abQ(i j:Nat)(h:i+j<4611686018427387904):(((i+j:Nat):Int)).fdiv (2^(Min.min ((1:Int)).toNat Go.IntKind.u64.bits))=(((i+j)/2:Nat):Int):=by
 show(((i+j:Nat):Int)).fdiv 2=_
 rw[zl _ ac];omega
def Eu(m:Nat)(h:m<4611686018427387904):Go.IntKind.i64.wrap (m:Int)=(m:Int):=yK (lc.TW ac)
def aa6(m:Nat)(h:m<4611686018427387904):Go.IntKind.u64.wrap (m:Int)=(m:Int):=by simp only[Go.IntKind.wrap,Go.IntKind.signed,Go.IntKind.bits];simp;omega
def aaU(v:aj)(l:ab bi)(s:bi)(Q:l.Pairwise (λa b=>hK a b=true))(E:l.length<=100000):ar prog 154 [v,A s.c,.func (.func 155) #[] #[]] [rows bi.c v 271 4 l] (λr Y=>∃(p:Nat) (f:Bool),xy l s p/\r=.tuple #[I (p:Int),B f]/\Y=[rows bi.c v 271 4 l]):=by
 refine aB func154 λW=>?_;refine ah.fact (hc (aE _)) λL=>?_;refine aq 2 λG=>?_;refine aa 20 ?_;refine ah.cb [8,4,0,2] (λy:Nat×Nat=>y.1<=y.2/\y.2<=l.length/\(∀(j:Nat) (a:bi),l[j]?=some a->j<y.1->hK a s=true)/\(∀(j:Nat) (a:bi),l[j]?=some a->y.2<=j->hK a s=false)) (λy=>[(10,I (y.2:Int)),(9,I (y.1:Int))]) (λ_=>[]) (λy=>y.2-y.1) (0,l.length) ⟨cw _,cl _,λj a _ h=>absurd h (vr _),λj a h M=>absurd (cI.1 h).1 ac⟩ ?_;rintro⟨u,ao⟩⟨F,M,z,P⟩ K w;dsimp only at F M z P;refine bh ?_;by_cases N:u<ao
 .obtain⟨Yc,Yi⟩:∃m,m=(u+ao)/2:=⟨_,rfl⟩
  have Ye:Yc<l.length:=ac
  obtain⟨x,U⟩:=b8 Ye;rcases L with⟨rfl,rfl⟩|⟨g,C,rfl,q,X⟩
  .simp at Ye
  have i:a8 .lss (u:Int) (ao:Int)=some true:=by simp[a8,N]
  have J:Go.IntKind.u64.wrap ((u:Int)+(ao:Int))=((u+ao:Nat):Int):=by rw[<-Int.natCast_add];exact aa6 _ ac
  have Z:=abQ u ao ac;rw[<-Yi]at Z;have T:Go.IntKind.i64.wrap (Yc:Int)=(Yc:Int):=Eu _ ac;have t:=Er x s;have D:decide (si x s<0)=hK x s:=aaP x s;cases Yf:hK x s with
  |true=>
   have d:a8 .lss (si x s) 0=some true:=by simp only[a8];rw[D,Yf]
   refine IE ?_;refine aa 9 ?_;refine Out.t' w (Yc+1,ao) ?_ (by show ao-(Yc+1)<ao-u;omega);exact ⟨by show Yc+1<=ao;omega,M,λj a o n=>by
    by_cases Yh:j=Yc
    .subst Yh;rw[U]at o;rw[<-gW o];exact Yf
    .exact Es (Et Q o U (by have:j<Yc+1:=n;omega)) Yf,P⟩
  |false=>
   have d:a8 .lss (si x s) 0=some false:=by simp only[a8];rw[D,Yf]
   refine IE ?_;refine aa 8 ?_;refine Out.t' w (u,Yc) ?_ (by show Yc-u<ao-u;omega);exact ⟨by show u<=Yc;omega,by show Yc<=_;omega,z,λj a o n=>by
    by_cases Yh:j=Yc
    .subst Yh;rw[U]at o;rw[<-gW o];exact Yf
    .cases Yj:hK a s with
     |false=>rfl
     |true=>
      have:=Es (Et Q U o (by have:Yc<=j:=n;omega)) Yj;rw[Yf]at this;cases this⟩
 .obtain rfl:u=ao:=by omega
  have R:xy l s u:=⟨M,λj a o=>Iff.intro (λh=>(Decidable.of_not_not λn=>by rw[P j a o ac]at h;cases h)) (λh=>z j a o h)⟩
  clear w;by_cases Yg:u<l.length
  .obtain⟨x,U⟩:=b8 Yg;rcases L with⟨rfl,rfl⟩|⟨g,C,rfl,q,X⟩
   .simp at Yg
   have t:=Er x s;refine aa 15 ?_;refine ah.n' ?_ aA.d'.d';refine ae 5 0 ?_;refine bs 39 ?_;refine ae 3 5 ?_;refine af.i' 8 rfl (V.x' ad (k:=u) rfl rfl rfl rfl ac) ?_;refine af.i' 9 rfl (V.E' ad rfl XB bi.len U) ?_;refine ae 1 10 ?_;refine af.p' 11 rfl (aw.TA rfl rfl (t) ?_);refine av ?_;refine ae 4 12 ?_;refine aa 4 ?_
   exact HQ
  .refine aa 15 ?_;refine ah.n' ?_ aA.d'.d';refine ae 5 0 ?_;refine bs 39 ?_;refine ae 11 5 ?_;refine aa 4 ?_
   exact HQ
def KV(l:ab bi)(v:aj)(s:bi)(M:Nat)(K:l.length<=1000):ar prog 156 [v,I (l.length:Int),.slice (some ⟨M,0,none⟩) 1 1] [rows bi.c v 271 4 l,rows bi.c (.slice (some ⟨M,0,none⟩) 1 1) 271 4 [s]] (λr Y=>∃L Q,r=.slice (some ⟨L,0,none⟩) (l++[s]).length Q/\Y=[rows bi.c (.slice (some ⟨L,0,none⟩) (l++[s]).length Q) 271 4 (l++[s])]):=by
 have o:(l.length+1)*1000<=10000000:=ac
 refine aB func156 λW=>?_;refine ah.fact (hc (aE _)) λn=>?_;rcases n with⟨rfl,rfl⟩|⟨g,C,rfl,R,h⟩
 .refine aa 9 ?_;refine ai.v (V.Sf ad (i:=0) rfl rfl ac) ?_;refine aa 39 ?_;refine ai.o (O.O' ad rfl rfl XJ (ce.rows ad XB bi.B') (λL d=>?_));refine aa 6 ?_
  exact XZ
 .refine aa 9 ?_;refine ai.v (V.Sf ad (i:=l.length) rfl rfl ac) ?_;refine aa 34 ?_;refine ah.c (λg=>?_) (λg=>?_);replace g:=fT g;refine aa 4 ?_;refine ai.o (O.O' ad rfl rfl XJ (ce.rows ad XB bi.B') (λL d=>?_));refine aa 6 ?_
  exact XZ
  exact ko g
def KW:prog.funcs[219]?=some Tryz.f219:=XD
def adz{l:ab D}{i:Nat}{s:D}(h:i<l.length):(l.take (i+1)++l.drop i).take i++([s]++(l.take (i+1)++l.drop i).drop (i+[s].length))=l.take i++s::l.drop i:=by rw[nB XM,r1,pS ac,m4,vc XM,List.drop_take_self];simp
def aet{l:ab D}{i:Nat}{s z:D}(h:i<l.length)(o:ab D)(K:o=(l.take i++List.replicate (l.length+1-i) z).take i++([s]++(l.take i++List.replicate (l.length+1-i) z).drop (i+[s].length))):o.take (i+1)++((l.drop i).take (l.length-i)++o.drop (i+1+((l.drop i).take (l.length-i)).length))=l.take i++s::l.drop i:=by
 have y:(l.take i++List.replicate (l.length+1-i) z).take i=l.take i:=by rw[nB XM,r1,Nat.min_self]
 have E:o.length=l.length+1:=by rw[K];simp;omega
 have J:(l.drop i).take (l.length-i)=l.drop i:=j4 XE;have Z:(l.take i).length=i:=XM
 have p:o.drop (i+1+(l.drop i).length)=[]:=qN (by rw[E];simp;omega);rw[J,p,K,y];rw[dk,<-cd (l.take i),nB XM,j4 XM];simp
def KZ(l:ab bi)(g C:Nat)(s:bi)(M i:Nat)(ao:i<l.length)(K:l.length<=1000):ar prog 156 [.slice (some ⟨g,0,none⟩) l.length C,I (i:Int),.slice (some ⟨M,0,none⟩) 1 1] [rows bi.c (.slice (some ⟨g,0,none⟩) l.length C) 271 4 l,rows bi.c (.slice (some ⟨M,0,none⟩) 1 1) 271 4 [s]] (λr Y=>∃L Q,r=.slice (some ⟨L,0,none⟩) (l.length+1) Q/\Y=[rows bi.c (.slice (some ⟨L,0,none⟩) (l.length+1) Q) 271 4 (l.take i++s::l.drop i)]):=by
 have y:a8 .eql (i:Int) (l.length:Int)=some false:=XS
 refine aB func156 λW=>?_;refine ah.fact (hc (aE _)) λn=>?_;refine ah.fact (λw m=>aaG m) λN=>?_;have T:l.length<=C:=by
  rcases n with⟨h,_⟩|⟨L,Q,h,F,_⟩
  .cases h
  .cases h;exact F
 by_cases q:l.length+1<=C
 .have J:a8 .gtr ((l.length:Int)+1) (C:Int)=some false:=by simp[a8];omega
  have E:l.length+1<=l.length+1:=cl _;refine M1 ?_;refine aa 11 ?_;refine ai.v (V.SW ad (j:=l.length+1) rfl rfl q) ?_;refine aa 11 ?_;refine ai.v (V.Sf ad (i:=i+1) rfl rfl ac) ?_;refine ai.v (V.WF ad (i:=i+1) (t:=l.length) (l:=l) (k:=[s]) (u7:=252) (y9:=4) KW XD XD XD XD rfl rfl XB XB N ac) ?_;refine aa 5 ?_;refine ah.n' ?_ aA.j.j;refine Jy ?_;refine af.p' 8 rfl (aw.WD ad (i:=i) (X:=l.length) (l:=l) rfl rfl XQ ac rfl ao q bi.len bi.B' ?_);refine aa 7 ?_;refine ai.v (V.Sf ad (i:=i) rfl rfl ac) ?_;refine av ?_;refine ai.o (aw.T2 ad (o:=i) (s:=[s]) (c:=l.take (i+1)++l.drop i) rfl rfl (ce.rows ad XB bi.B') XQ XM ac ac bi.len bi.B' ?_);refine aa 11 ?_
  .rw[adz ao];exact⟨_,_,⟨_,_,rfl,rfl⟩,XC⟩
 .have J:a8 .gtr ((l.length:Int)+1) (C:Int)=some true:=by simp[a8];omega
  have p:wF .sub .i64 ((l.length:Int)+1) (i:Int)=some ((l.length+1-i:Nat):Int):=by simp only[wF,er];rw[show(l.length:Int)+1-(i:Int)=((l.length+1-i:Nat):Int) by omega];exact Eu _ ac
  have d:i+(l.length+1-i)=l.length+1:=ac
  refine M1 ?_;refine aa 7 ?_;refine ai.v (V.SW ad (j:=i) rfl rfl ac) ?_;refine aa 4 ?_;refine ai.v (V.Wq rfl rfl p) ?_;refine ai.o (aw.WE ad (i:=i) (Yc:=l.length) (l:=l) (k:=l.length+1-i) bi.z rfl rfl XB ac ac ac bi.len (λk h q=>?_));refine aa 7 ?_;refine ai.v (V.Sf ad (i:=i) rfl rfl ac) ?_;refine av ?_;refine ai.o (aw.T2 ad (o:=i) (s:=[s]) (c:=l.take i++List.replicate (l.length+1-i) bi.z) rfl rfl (ce.rows ad XB bi.B') XQ XM ac ac bi.len bi.B' ?_);refine aa 3 ?_;refine ah.n' ?_ aA.j.j.j;refine Jy ?_;refine af.p' 8 rfl (aw.T2 ad (o:=i+1) (s:=(l.drop i).take (l.length-i)) rfl rfl (ce.part ad (i:=i) (j:=l.length) (l:=l) rfl XB ac ac bi.len bi.B') XQ XM ac ac bi.len bi.B' ?_);refine aa 12 ?_
  .rw[aet ao _ rfl,d];exact⟨_,_,⟨_,_,rfl,rfl⟩,XC⟩
def e2(p:Nat)(v:aj)(t:Int)(l:ab bi):ab ax:=[cells p 254 (jJ.c ⟨v,t⟩),rows bi.c v 271 4 l]
def jQ(n:ag)(l:ab bi):aQ Nat:=l.findIdx? λs=>decide (s.key=n)
def rm(n:ag)(l:ab bi):Int:=match jQ n l with|some i=>(i:Int)|none=>-1
def K0{l:ab bi}{i:Nat}{x:bi}(U:l[i]?=some x)(T:x.key=n)(h:∀(j:Nat) (y:bi),j<i->l[j]?=some y->y.key≠n):jQ n l=some i:=by obtain⟨F,rfl⟩:=cI.1 U;exact tD.2 ⟨F,ZS,λj p=>by simpa using h j _ p (gM ac)⟩
def aek{l:ab bi}(h:∀(j:Nat) (y:bi),l[j]?=some y->y.key≠n):jQ n l=none:=by rw[jQ,vt];intro y G;obtain⟨j,p⟩:=qZ G;simpa using h j y p
def Ev{l:ab bi}{i:Nat}(h:jQ n l=some i):∃x,l[i]?=some x/\x.key=n/\∀(j:Nat) (y:bi),j<i->l[j]?=some y->y.key≠n:=by obtain⟨F,M,g⟩:=tD.1 h;refine⟨l[i],gM F,Io,λj y p G=>?_⟩;obtain⟨z,rfl⟩:=cI.1 G;simpa using g j p
def K2(s:bi)(b:Nat)(n:ag):ar prog 218 [A s.c,au b 0] [cells b 46 n.c] (λr Y=>r=B (decide (s.key=n))/\Y=[cells b 46 n.c]):=by refine aB func218 λW=>?_;refine aq 2 λo=>?_;exact aM 14
def acJ(v:aj)(l:ab bi)(b:Nat)(n:ag)(R:l.length<=100000):ar prog 217 [v,.func (.func 218) #[] #[au b 0]] [rows bi.c v 271 4 l,cells b 46 n.c] (λr Y=>r=I (rm n l)/\Y=[rows bi.c v 271 4 l,cells b 46 n.c]):=by
 refine aB func217 λW=>?_;refine ah.fact (hc (aE _)) λs=>?_;refine aa 14 ?_;refine ah.cb [7,1,0] (λi:Nat=>i<=l.length/\∀(j:Nat) (y:bi),j<i->l[j]?=some y->y.key≠n) (λi=>[(8,I (i:Int))]) (λ_=>[]) (λi=>l.length-i) 0 ⟨cw _,λj y h=>absurd h (vr _)⟩ ?_;rintro i⟨ao,M⟩ K a;refine bh ?_;by_cases m:i<l.length
 .obtain⟨x,U⟩:=b8 m;have w:=K2 x b n;have t:∃g C,v=.slice (some ⟨g,0,none⟩) l.length C:=by
   rcases s with⟨rfl,rfl⟩|⟨g,C,rfl,_⟩
   .simp at m
   .exact⟨g,C,rfl⟩
  obtain⟨g,C,rfl⟩:=t;by_cases T:x.key=n
  .have F:rm n l=(i:Int):=by unfold rm;rw[K0 U T M]
   rw[F];rw[iE T]at w;refine Nk ?_;exact aM 17
  .rw[kc T]at w;refine Nk ?_;refine aa 11 ?_;rotate_left;refine Out.t' a (i+1) ?_ OB;exact ⟨ac,λj y p G=>by
    by_cases L:j=i
    .subst L;rw[U]at G;rw[<-gW G];exact T
    .exact M j y ac G⟩
 .have F:rm n l=-1:=by unfold rm;rw[aek λj y G=>M j y Z3 G]
  rw[F];exact aM 19
def Ew(p:Nat)(v:aj)(t:Int)(l:ab bi)(n:ag)(K:l.length<=100000):ar prog 152 [au p 0,A n.c] (e2 p v t l) (λr Y=>r=I (rm n l)/\Y=e2 p v t l):=by have j (b:Nat):=acJ v l b n K;unfold e2;refine aB func152 λW=>?_;refine aq 2 λa=>?_;refine aa 20 ?_;refine ai.o' rfl (j _) ?_;exact aM 6
def Ex(g C:Nat)(l:ab bi)(i:Nat)(ao:i<l.length)(K:l.length<=C)(u:C<=9223372036854775807):ar prog 199 [.slice (some ⟨g,0,none⟩) l.length C,I (i:Int),I ((i:Int)+1)] [rows bi.c (.slice (some ⟨g,0,none⟩) l.length C) 271 4 l] (λv Y=>v=.slice (some ⟨g,0,none⟩) (l.eraseIdx i).length C/\Y=[rows bi.c (.slice (some ⟨g,0,none⟩) (l.eraseIdx i).length C) 271 4 (l.eraseIdx i)]):=by
 have y:l.eraseIdx i=l.take i++l.drop (i+1):=by rw[Ey]
 have J:(l.eraseIdx i).length=i+(l.length-(i+1)):=by rw[zU,aT ao];omega
 rw[J,y];refine aB func199 λW=>?_;refine MN ?_;refine af.p' 6 rfl (O.UY ad (i:=i) (j:=i+1) rfl rfl XQ rfl ac ac bi.len bi.B' ?_);exact Ns
def K4:ar prog 103 [] [] (λr Y=>∃p,r=au p 0/\Y=e2 p (.slice none 0 0) 0 []):=by refine aB func103 λW=>?_;refine ah.RK bi.c 271 4 ?_;refine aq 8 λo=>?_;exact aM 5
def Ez(p:Nat)(v:aj)(t:Int)(l:ab bi):ar prog 198 [au p 0] (e2 p v t l) (λr Y=>r=I (l.length:Int)/\Y=e2 p v t l):=by unfold e2;refine aB func198 λW=>?_;exact aM 27
def rn(n:ag)(l:ab bi):Int×Bool:=match jQ n l with|some i=>((l[i]?.getD bi.z).due,true)|none=>(0,false)
def K5(p:Nat)(v:aj)(t:Int)(l:ab bi)(n:ag)(K:l.length<=100000):ar prog 110 [au p 0,A n.c] (e2 p v t l) (λr Y=>r=.tuple #[I (rn n l).1,B (rn n l).2]/\Y=e2 p v t l):=by
 have L:=Ew p v t l n K;unfold rm at L;cases U:jQ n l with
 |none=>
  rw[U]at L;rw[show rn n l=(0,false) by unfold rn;rw[U]];unfold e2 at L⊢;refine aB func110 λW=>?_;refine aq 2 λa=>?_;exact aM 30
 |some i=>
  rw[U]at L;obtain⟨x,F,M,_⟩:=Ev U;have Z:=(cI.1 F).1;rw[show rn n l=(x.due,true) by unfold rn;rw[U];simp[F]];unfold e2 at L⊢;refine aB func110 λW=>?_;refine ah.fact (hc (aF _ (aE _))) λs=>?_;rcases s with⟨rfl,rfl⟩|⟨g,C,rfl,R,h⟩
  .simp at Z
  refine aq 2 λa=>?_;refine aa 30 ?_;refine ai.v (V.x' ad (k:=i) rfl rfl rfl rfl ac) ?_;refine av ?_;refine ai.v (V.SX ad (o:=2) rfl XB bi.len F) ?_;exact aM 6
def K6(p:Nat)(v:aj)(t:Int)(l:ab bi)(k:Int)(h:∀s,l.head?=some s->k<s.due):ar prog 134 [au p 0,I k] (e2 p v t l) (λr Y=>r=.tuple #[A ag.z.c,B false]/\Y=e2 p v t l):=by
 have o:=Ez p v t l;unfold e2 at o⊢;cases l with
 |nil=>
  refine aB func134 λW=>?_;refine aq 2 λx=>?_;refine aq 5 λK=>?_;exact aM 33
 |cons s l=>
  have Q:=h s rfl;have F:(s::l)[0]?=some s:=rfl;refine aB func134 λW=>?_;refine ah.fact (hc (aF _ (aE _))) λn=>?_;rcases n with⟨rfl,f⟩|⟨g,C,rfl,R,U⟩
  .cases f
  have y:a8 .eql (((s::l).length:Nat):Int) 0=some false:=XS
  have J:a8 .gtr s.due k=some true:=XS
  refine Qj λx K=>?_;exact aM 14
def aeS(p:Nat)(g C:Nat)(t:Int)(s:bi)(l:ab bi)(k:Int)(h:s.due<=k):ar prog 134 [au p 0,I k] (e2 p (.slice (some ⟨g,0,none⟩) (s::l).length C) t (s::l)) (λr Y=>r=.tuple #[A s.key.c,B true]/\Y=e2 p (.slice (some ⟨g,0,none⟩) l.length C) t l):=by
 have o:=Ez p (.slice (some ⟨g,0,none⟩) (s::l).length C) t (s::l);unfold e2 at o⊢;have F:(s::l)[0]?=some s:=rfl;refine aB func134 λW=>?_;refine ah.fact (hc (aF _ (aE _))) λn=>?_;have u:(s::l).length<=C/\C<=9223372036854775807:=by
  rcases n with⟨h,_⟩|⟨L,Q,h,F,M⟩
  .cases h
  .cases h;exact⟨F,PL⟩
 have x:=Ex g C (s::l) 0 XE u.1 u.2;rw[show(s::l).eraseIdx 0=l from rfl]at x;have y:a8 .eql (((s::l).length:Nat):Int) 0=some false:=XS
 have J:a8 .gtr s.due k=some false:=XS
 refine Qj λh C=>?_;refine aa 12 ?_;refine ai.v (V.x' ad (k:=0) rfl rfl rfl rfl XE) ?_;refine ai.v (V.E' ad (k:=0) rfl XB bi.len F) ?_;refine aq 0 λY=>?_;exact aM 27
def jd(K:ab ag)(st:Nat×ab bi):Nat×ab bi:=K.foldl (λst k=>match jQ k st.2 with|some i=>(st.1+1,st.2.eraseIdx i)|none=>st) st
def aa2(K:ab ag)(k:ag)(st:Nat×ab bi):jd (K++[k]) st=(match jQ k (jd K st).2 with|some i=>((jd K st).1+1,(jd K st).2.eraseIdx i)|none=>jd K st):=by simp[jd]
theorem xz:∀(K:ab ag) (st:Nat×ab bi),(jd K st).1<=st.1+K.length/\(jd K st).2.length<=st.2.length
 |[],st=>⟨cl _,cl _⟩
 |k::K,st=>by
  have u:=xz K (match jQ k st.2 with|some i=>(st.1+1,st.2.eraseIdx i)|none=>st);have e:jd (k::K) st=jd K (match jQ k st.2 with|some i=>(st.1+1,st.2.eraseIdx i)|none=>st):=rfl;rw[e];cases U:jQ k st.2 with
  |none=>rw[U]at u;dsimp only at u;simp only[dp];exact⟨by have:=u.1;omega,u.2⟩
  |some i=>
   rw[U]at u;have:=xA st.2 i;simp only[dp];exact⟨by have:=u.1;dsimp only at this⊢;omega,jk u.2 this⟩
def EA(p:Nat)(v:aj)(t:Int)(l:ab bi)(e:ax)(m:aQ Go.Addr)(C b off:Nat)(Q:ab ag)(E:Rd e m Q.length b off 2 (Q.map ag.c))(R:l.length<=100000)(T:Q.length<=100000):ar prog 153 [au p 0,.slice m Q.length C] (e2 p v t l++[e]) (λr Y=>∃X,r=I ((jd Q (0,l)).1:Int)/\Y=e2 p X t (jd Q (0,l)).2++[e]):=by
 unfold e2;refine bh ?_;refine aB func153 λW=>?_;refine aa 19 ?_;refine ah.cb [10,9,0] (λy:Nat×aj=>y.1<=Q.length) (λy=>[(11,I (y.1:Int)),(5,I ((jd (Q.take y.1) (0,l)).1:Int))]) (λy=>[cells p 254 (jJ.c ⟨y.2,t⟩),rows bi.c y.2 271 4 (jd (Q.take y.1) (0,l)).2]) (λy=>Q.length-y.1) (0,v) (cw _) ?_;rintro⟨i,v⟩ ao K a;dsimp only at ao;refine bh ?_;by_cases s:i<Q.length
 .obtain⟨k,o⟩:=b8 s;have n:jd (Q.take (i+1)) (0,l)=(match jQ k (jd (Q.take i) (0,l)).2 with|some j=>((jd (Q.take i) (0,l)).1+1,(jd (Q.take i) (0,l)).2.eraseIdx j)|none=>jd (Q.take i) (0,l)):=by rw[kl o,aa2]
  have M:=xz (Q.take i) (0,l);simp only[eX]at M;generalize jd (Q.take i) (0,l)=st at*;obtain⟨c,L⟩:=st;dsimp only at n M⊢;have d:=Ew p v t L k ac;unfold e2 rm at d;cases U:jQ k L with
  |none=>
   rw[U]at n d;dsimp only at n d;refine aa 14 ?_;refine ai.v (V.RP ad rfl E (iM o)) ?_;refine aq 0 λZ=>?_;refine aa 26 ?_;rotate_left;exact Out.t' a (i+1,v) XO OU (g:=La) (q:=O3)
  |some j=>
   rw[U]at n d;dsimp only at n d;obtain⟨x,F,_,_⟩:=Ev U;have q:=(cI.1 F).1;refine ah.fact (hc (aF _ (aE _))) λN=>?_;rcases N with⟨rfl,rfl⟩|⟨g,G,rfl,u,h⟩
   .simp at q
   have J:=Ex g G L j q u (by simp only[Go.maxLen]at h;omega);refine aa 14 ?_;refine ai.v (V.RP ad rfl E (iM o)) ?_;refine aq 0 λZ=>?_;refine aa 47 ?_;rotate_left;exact Out.t' a (i+1,_) XO OU (g:=La) (q:=O3)
 .obtain rfl:i=Q.length:=by omega
  rw[hE];clear a;exact aM 20
def h3(s:bi)(l:ab bi):ab bi:=l.takeWhile (λa=>hK a s)++s::l.dropWhile (λa=>hK a s)
def EB:∀(l:ab bi) (s:bi) (p:Nat),xy l s p->h3 s l=l.take p++s::l.drop p
 |[],s,p,_=>by simp[h3]
 |a::l,s,0,h=>by
  have f:hK a s=false:=by
   cases E:hK a s with
   |false=>rfl
   |true=>exact absurd ((h.2 0 a rfl).1 E) (Nat.lt_irrefl _)
  simp[h3,f]
 |a::l,s,p+1,h=>by
  have f:hK a s=true:=(h.2 0 a rfl).2 ac;have u:=EB l s p ⟨by have:=h.1;simp at this;omega,λj x U=>by have:=h.2 (j+1) x (by simpa using U);rw[this];omega⟩
  unfold h3 at u⊢;simp only[List.takeWhile_cons,List.dropWhile_cons,f,hA,kn,tm,y3];rw[u]
def hv(n:ag)(l:ab bi):ab bi:=(jd [n] (0,l)).2
theorem adb(n:ag)(l:ab bi):hv n l=match jQ n l with|some i=>l.eraseIdx i|none=>l:=by unfold hv jd;simp only[n6,List.foldl_nil];cases jQ n l<;>rfl
def abO(l:ab bi)(v:aj)(s:bi)(M p:Nat)(a:xy l s p)(K:l.length<=1000):ar prog 156 [v,I (p:Int),.slice (some ⟨M,0,none⟩) 1 1] [rows bi.c v 271 4 l,rows bi.c (.slice (some ⟨M,0,none⟩) 1 1) 271 4 [s]] (λr Y=>∃L Q,r=.slice (some ⟨L,0,none⟩) (h3 s l).length Q/\Y=[rows bi.c (.slice (some ⟨L,0,none⟩) (h3 s l).length Q) 271 4 (h3 s l)]):=by
 rw[EB l s p a];have F:=a.1;by_cases h:p=l.length
 .subst h;rw[hE,List.drop_length];exact KV l v s M K
 .have d:(l.take p++s::l.drop p).length=l.length+1:=by simp;omega
  rw[d];refine ay.ar.known (p:=∃g C,v=.slice (some ⟨g,0,none⟩) l.length C) (λw m=>?_) λt=>?_
  .rcases hc (aE _) w m with⟨_,f⟩|⟨g,C,f,_⟩
   .subst f;simp at F h;omega
   .exact⟨g,C,f⟩
  .obtain⟨g,C,rfl⟩:=t;exact KZ l g C s M p ac K
def EC(p:Nat)(v:aj)(t:Int)(l:ab bi)(n:ag)(due:Int)(Q:(hv n l).Pairwise (λa b=>hK a b=true))(K:l.length<=900)(j:0<=t/\t<=1000000000000000):ar prog 111 [au p 0,A n.c,I due] (e2 p v t l) (λr Y=>∃g C,r=.tuple #[]/\Y=e2 p (.slice (some ⟨g,0,none⟩) (h3 ⟨n,due,t⟩ (hv n l)).length C) (t+1) (h3 ⟨n,due,t⟩ (hv n l))):=by
 have m:=xz [n] (0,l);have x (g:Nat):=EA p v t l (rows ag.c (.slice (some ⟨g,0,none⟩) 1 1) 46 2 [n]) (some ⟨g,0,none⟩) 1 g 0 [n] (Rd.rows (l:=[n]) ag.len XE) ac XE;change∀g,ar _ _ _ _ (λr Y=>∃X,r=_/\Y=e2 p X t (hv n l)++_)at x;change _/\(hv n l).length<=l.length at m;generalize hv n l=L at*;unfold e2 at x⊢;dsimp only[List.cons_append,List.nil_append]at x⊢;refine aB func111 λW=>?_;refine aq 2 λh=>?_;refine aa 16 ?_;refine ai.o (O.N' ad ag.c [n] rfl (bx.agg rfl bx.nil) rfl rfl (λd=>?_));refine ai.o' rfl (x _) ?_;rintro _ _⟨W,rfl,rfl⟩;refine aa 4 ?_;refine ah.n' ?_ aA.d'.j.j.d';refine ae 6 0 ?_;refine af.i' 6 rfl (V.Sj ad (v:=bi.c ⟨n,due,t⟩)) ?_;refine c1 7 λC=>?_;refine ae 1 8 ?_;refine aa 15 ?_;refine ah.n' ?_ aA.j.j.j.d'.d';refine ae 5 0 ?_;refine af.o' 5 rfl rfl (aaU _ L ⟨n,due,t⟩ Q ac) ?_;rintro _ _⟨d,D,s,rfl,rfl⟩;refine aa 2 ?_;refine ae 5 6 ?_;refine aa 2 ?_;refine ah.RN [11] ?_ aA.j.j.d'.d'.j aA.j.j.j.d'.j;refine ae 4 0 ?_;refine ae 2 5 ?_;refine af.t 4 rfl (V.y' ad) ?_;refine af.p' 7 rfl (O.N' ad bi.c [⟨n,due,t⟩] rfl (bx.agg rfl bx.nil) rfl rfl (λo=>?_));refine av ?_;refine af.o' 8 rfl rfl (abO L _ ⟨n,due,t⟩ _ _ XF ac) ?_;rintro _ _⟨t,L,rfl,rfl⟩;refine aa 2 ?_;refine ae 2 9 ?_;refine RC ?_
 exact XZ
structure jR where
 v:aj
 t:Int
 l:ab bi
def jR.E(p:Nat)(b:jR):ab ax:=e2 p b.v b.t b.l
def tM(k:Int)(_:Nat)(i:ag)(b q:jR):Prop:=∃s n g C,b.l=s::n/\s.due<=k/\i=s.key/\b.v=.slice (some ⟨g,0,none⟩) (s::n).length C/\q=⟨.slice (some ⟨g,0,none⟩) n.length C,b.t,n⟩
def tN(k:Int)(_:Nat)(b:jR):Prop:=∀s,b.l.head?=some s->k<s.due
def afX(i:ag):ab aj:=[A i.c]
def adk(p:Nat)(v:aj)(t:v.oneCell'=true)(k:Int):ar prog 94 [v,I k] [] (λr Y=>∃a c,r=.func (.func 133) #[] #[au a 0,au c 0]/\Y=[cells a 192 [v],cells c 3 [I k]]):=by
 refine aB func94 λW=>?_;refine aa 2 ?_;refine ai.o (O.R9 (λt=>?_));refine ai.o (O.R9 (λa=>?_));refine aa 11 ?_
 exact XZ
structure zV(sj:Type) where
 k:Nat
 c:sj
 ok:Bool
 i:ag
 b:jR
def Ld(p a c:Nat)(x:Int)(gN:jR):C0 prog 133 [au a 0,au c 0] (jR.E p) afX (tM x) (tN x) ([cells a 192 [au p 0],cells c 3 [I x]]++jR.E p gN) [cells a 192 [au p 0],cells c 3 [I x]] gN:=by
 intro N y sj b4 G X S P nK Yi m lv;have Z:∀b:jR,tN x 0 b->ar prog 134 [au p 0,I x] (jR.E p b) (λr Y=>r=.tuple #[A ag.z.c,B false]/\Y=jR.E p b):=λb h=>K6 p b.v b.t b.l x h;have F:∀b L i,tM x 0 i b L->ar prog 134 [au p 0,I x] (jR.E p b) (λr Y=>r=.tuple #[A i.c,B true]/\Y=jR.E p L):=λb L i ⟨s,J,g,C,cm,dd,cp,fZ,lb⟩=>by obtain⟨v,t,l⟩:=b;dsimp only at cm fZ lb;subst cm fZ lb cp;exact aeS p g C t s J x dd
 have M:∀(b:jR) {W:aY} {D:ab Nat} {an:ab ax} (w:aY),(∀e,e∈jR.E p b->e∈an)->H W D an w->tN x 0 b\/∃i L,tM x 0 i b L:=λb {W D an} w cf cB=>by
  obtain⟨v,t,l⟩:=b;cases l with
  |nil=>exact .inl λs h=>XT
  |cons s J=>
   by_cases h:s.due<=x
   .refine .inr ⟨s.key,?_⟩;rcases hc (cf (rows bi.c v 271 4 (s::J)) (by unfold jR.E e2;simp)) w cB with⟨_,ep⟩|⟨g,C,cm,_⟩
    .cases ep
    .exact⟨_,s,J,g,C,rfl,h,rfl,cm,rfl⟩
   .exact .inl λcn gY=>by cases gY;omega
 subst Yi;unfold jR.E e2 at Z F M lv⊢;refine aB func133 λW=>?_;refine bh ?_;refine ah.fact (M (b4 P) · KS) λR=>?_;have U:∃n:zV sj,((n.ok=false/\G n.k n.c/\tN x 0 (b4 n.c)/\n.b=b4 n.c/\n.i=ag.z)\/(n.ok=true/\G n.k n.c/\tM x 0 n.i (b4 n.c) n.b))/\n.c=P/\ar prog 134 [au p 0,I x] [cells p 254 (jJ.c ⟨(b4 P).v,(b4 P).t⟩),rows bi.c (b4 P).v 271 4 (b4 P).l] (λr Y=>r=.tuple #[A n.i.c,B n.ok]/\Y=[cells p 254 (jJ.c ⟨n.b.v,n.b.t⟩),rows bi.c n.b.v 271 4 n.b.l]):=by
  rcases R with R|⟨i,L,R⟩
  .exact⟨⟨0,P,false,ag.z,b4 P⟩,.inl ⟨rfl,m,R,rfl,rfl⟩,rfl,Z _ R⟩
  .exact⟨⟨0,P,true,i,L⟩,.inr ⟨rfl,m,R⟩,rfl,F _ _ _ R⟩
 obtain⟨n,Yh,Yf,Yk⟩:=U;refine aq 9 λfp=>?_;refine aa 5 ?_;refine ah.cb [0,1,2] (λu:Nat×zV sj=>(u.2.ok=false/\G u.2.k u.2.c/\tN x 0 (b4 u.2.c)/\u.2.b=b4 u.2.c/\u.2.i=ag.z)\/(u.2.ok=true/\G u.2.k u.2.c/\tM x 0 u.2.i (b4 u.2.c) u.2.b)) (λu=>[(5,B u.2.ok),(4,au u.1 0)]) (λu=>[cells p 254 (jJ.c ⟨u.2.b.v,u.2.b.t⟩),rows bi.c u.2.b.v 271 4 u.2.b.l,S u.2.c,cells u.1 46 u.2.i.c]) (λu=>N+1-u.2.k) (fp,n) Yh ?_ (d:=by rw[Yf];(repeat(first|exact ak.nil|exact al.here|apply ak.cons|apply al.there)));rintro⟨q,k,ie,ok,i,b⟩ ED K cu;dsimp only at ED;refine bh ?_;rcases ED with⟨rfl,dT,Q,rfl,rfl⟩|⟨rfl,dT,Q⟩
 .clear cu;refine aa 12 ?_
  .exact⟨_,_,⟨ie,k,.inl ⟨dT,Q⟩,rfl⟩,XC⟩
 .have Yg:=lv k i ie b dT Q;have Yl:=nK k ie dT;refine aa 15 ?_;refine ai.o (aw.Sx rfl rfl (Yg) XC ?_);rintro ni i9⟨f,Yj,rfl,Yc,Ye,rfl⟩;refine Rl (λT=>?_) λT=>?_;refine aa 6 ?_
  .exact⟨_,_,⟨_,k+1,.inr Ya,rfl⟩,XC⟩
  refine aq 10 λfp=>?_;refine aa 6 ?_;refine ai.fact (M (b4 f) · KS) λd=>?_;have U:∃J:zV sj,((J.ok=false/\G J.k J.c/\tN x 0 (b4 J.c)/\J.b=b4 J.c/\J.i=ag.z)\/(J.ok=true/\G J.k J.c/\tM x 0 J.i (b4 J.c) J.b))/\J.c=f/\J.k=k+1/\ar prog 134 [au p 0,I x] [cells p 254 (jJ.c ⟨(b4 f).v,(b4 f).t⟩),rows bi.c (b4 f).v 271 4 (b4 f).l] (λr Y=>r=.tuple #[A J.i.c,B J.ok]/\Y=[cells p 254 (jJ.c ⟨J.b.v,J.b.t⟩),rows bi.c J.b.v 271 4 J.b.l]):=by
   have M:G (k+1) f:=Ya
   rcases d with d|⟨i,L,d⟩
   .exact⟨⟨k+1,f,false,ag.z,b4 f⟩,.inl ⟨rfl,M,d,rfl,rfl⟩,rfl,rfl,Z _ d⟩
   .exact⟨⟨k+1,f,true,i,L⟩,.inr ⟨rfl,M,d⟩,rfl,rfl,F _ _ _ d⟩
  obtain⟨J,z,K,p,W⟩:=U;refine aa 8 ?_;exact Out.t' cu (_,J) z (by show N+1-J.k<N+1-k;omega) (q:=by rw[K];(repeat(first|exact ak.nil|exact al.here|apply ak.cons|apply al.there)))
theorem aca(n:ag)(a:bi)(l:ab bi):jQ n (a::l)=if a.key=n then some 0 else(jQ n l).map (·+1):=by grind [jQ,List.findIdx]
def tO(n:ag)(l:ab bi):ab bi:=l.filter λs=>decide (s.key≠n)
theorem EE(n:ag):∀l:ab bi,(l.map (·.key)).Nodup->(match jQ n l with|some i=>l.eraseIdx i|none=>l)=tO n l
 |[],_=>rfl
 |a::l,h=>by rw[eK,lf]at h;have u:=EE n l h.2;grind [aca,tO,List.filter_eq_self.2,List.mem_map.2]
def xB{l:ab bi}(h:(l.map (·.key)).Nodup):hv n l=tO n l:=by grind [adb,EE]
theorem vJ(s:bi)(l:ab bi):(h3 s l).Perm (s::l):=by grind [h3,List.perm_middle.trans,List.takeWhile_append_dropWhile]
def EF{s:bi}:∀{l:ab bi},l.Pairwise (λa b=>hK a b=true)->(∀a∈l,a.ir≠s.ir)->(h3 s l).Pairwise (λa b=>hK a b=true)
 |[],_,_=>by simp[h3]
 |a::l,h,v=>by
  rw[List.pairwise_cons]at h;have u:=EF (s:=s) h.2 (λx U=>v x (hn _ U));cases E:hK a s with
  |true=>
   have e:h3 s (a::l)=a::h3 s l:=by simp[h3,E]
   grind [List.pairwise_cons,List.mem_cons.1,vJ]
  |false=>
   have e:h3 s (a::l)=s::a::l:=by simp[h3,E]
   grind [hK,tL,List.mem_cons_self,List.pairwise_cons,List.mem_cons.1]
structure ku(t:Int)(l:ab bi):Prop where
 t0:0<=t
 sorted:l.Pairwise (λa b=>hK a b=true)
 kV:(l.map (·.key)).Nodup
 fi:∀s∈l,s.ir<t
def ku.zero:ku 0 []:=⟨ju _,List.Pairwise.nil,oh,XE⟩
def xC(n:ag)(l:ab bi):(tO n l).Sublist l:=H5
def EG{l:ab bi}{s:bi}:s∈tO n l↔s∈l/\s.key≠n:=by unfold tO;simp
def ku.del{t:Int}{l:ab bi}(w:ku t l)(n:ag):ku t (hv n l):=by rw[xB w.kV];exact⟨w.t0,w.sorted.sublist (xC n l),w.kV.sublist (List.Sublist.map _ (xC n l)),λs Q=>w.fi s ((xC n l).subset Q)⟩
def ku.set{t:Int}{l:ab bi}(w:ku t l)(n:ag)(due:Int):ku (t+1) (h3 ⟨n,due,t⟩ (hv n l)):=by
 have M:=w.del n;refine⟨by have:=w.t0;omega,EF M.sorted (λa o=>by have:=M.fi a o;show a.ir≠t;omega),?_,λs Q=>?_⟩
 .have r:=(vJ ⟨n,due,t⟩ (hv n l)).map (·.key);rw[r.nodup_iff,eK,lf];refine⟨λu=>?_,M.kV⟩;obtain⟨s,Q,T⟩:=fh.1 u;rw[xB w.kV]at Q;exact(EG.1 Q).2 T
 .rcases dq.1 ((vJ _ _).mem_iff.1 Q)with rfl|Q
  .show t<t+1;omega
  .have:=M.fi s Q;omega
def afm{t:Int}{l:ab bi}(n:ag)(due:Int):(h3 ⟨n,due,t⟩ (hv n l)).length<=l.length+1:=by rw[(vJ _ _).length_eq,dp];grind [xz,hv]
def xD(w:aY):(Go.zeroValue 4).run prog w=.ok (B false) w:=rfl
abbrev Lg:=ab (Int×Bool)
def seen(m:Lg)(r:Int):Bool:=(br m r).getD false
end Go.Proofs.YteogojgnkjegmaaGreatDoor
