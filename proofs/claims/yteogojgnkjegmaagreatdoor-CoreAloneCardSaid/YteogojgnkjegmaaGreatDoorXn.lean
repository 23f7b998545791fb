/-
 Part of the proof.
-/
import Derived.Test.YteogojgnkjegmaaGreatDoorXm
set_option linter.all false
set_option maxRecDepth 8000
set_option maxHeartbeats 8000000
namespace Go.Proofs.YteogojgnkjegmaaGreatDoor
open Go.ay Go.Proofs.Tryz
variable{k:Nat}
def LA(g n C:Nat)(l:ab ag)(q:l.length=n)(a b p:Nat)(Yg:a<=p)(Yf:p<b)(X:b<=n)(w:n<=1000000)(E:ax)(o:aj)(kX:ag->ag->Int)(u:kW o E kX):ar prog 213 [.slice (some ⟨g,0,none⟩) n C,I (a:Int),I (b:Int),I (p:Int),o] [dV g n C l,E] (λr Y=>∃D:ab ag,∃t:Nat,a+1<=t/\t<=b/\D.Perm l/\r=I (t:Int)/\Y=[dV g n C D,E]):=by
 unfold dV;have P:((a:Int)+1)=((a+1:Nat):Int):=ac
 have F:((b:Int)-1)=((b-1:Nat):Int):=ac
 refine aB func213 λW=>?_;refine aa 5 ?_;refine ah.mt [0,1,2,4] (λjS:ab ag=>jS.Perm l) (λ_=>[]) (λjS=>[rows ag.c (.slice (some ⟨g,0,none⟩) n C) 46 2 jS]) (b:=[rows ag.c (.slice (some ⟨g,0,none⟩) n C) 46 2 l]) ?_ ?_
 .intro K s;have M:=q;obtain⟨x,U⟩:=b8 (q:=l) (k:=a) ac;obtain⟨y,G⟩:=b8 (q:=l) (k:=p) ac;refine Qq ?_ ?_;refine Lj ?_;refine K3 ?_;rotate_left;refine HY ?_;refine K3 ?_;rotate_left;all_goals exact Out.t' s ((l.set a y).set p x) (kv U G) trivial
 intro L Ye;refine bh ?_;refine aa 3 ?_;refine ai.v (V.Y' P rfl rfl ac) ?_;refine av ?_;refine ai.v (V.Q' F rfl rfl ac) ?_;refine aa 6 ?_;refine ah.cb [0,1,2,4] (λy:Nat×Nat×ab ag=>a+1<=y.1/\y.1<=b/\a<=y.2.1/\y.2.1<b/\y.2.2.Perm l) (λy=>[(11,I (y.1:Int)),(12,I (y.2.1:Int))]) (λy=>[rows ag.c (.slice (some ⟨g,0,none⟩) n C) 46 2 y.2.2]) (λy=>y.2.1+b-y.1) (a+1,b-1,L) ⟨cl _,by show a+1<=b;omega,by show a<=b-1;omega,by show b-1<b;omega,Ye⟩ ?_;rintro⟨i,j,Z⟩⟨xn,tG,vL,z1,d⟩ K s;dsimp only at xn tG vL z1 d;refine bh ?_;have M:Z.length=n:=by rw[d.length_eq,q]
 obtain⟨z,h⟩:=b8 (q:=Z) (k:=a) ac;refine aa 3 ?_;refine ah.cb [0,1,2,4,12] (λk:Nat=>i<=k/\k<=b) (λk=>[(11,I (k:Int))]) (λ_=>[]) (λk=>b-k) i ⟨cl _,tG⟩ ?_;rintro k⟨jb,kd⟩ fa J;refine bh ?_;have T:((k:Int)+1)=((k+1:Nat):Int):=ac
 by_cases Yk:k<=j
 .obtain⟨x,U⟩:=b8 (q:=Z) (k:=k) ac;have Q:=u z x;by_cases Yj:kX z x<0
  .clear J;refine Zx ?_;refine bs 34 ?_;refine ML ?_;refine Ls ?_;refine aa 10 ?_;rotate_left;refine ah.cb [0,1,2,4,11] (λm:Nat=>a<=m/\m<=j) (λm=>[(12,I (m:Int))]) (λ_=>[]) (λm=>m) j ⟨vL,cl _⟩ ?_;rintro m⟨vM,EP⟩ ro Yc;refine bh ?_;have R:((m:Int)-1)=((m-1:Nat):Int)\/m=0:=by omega
   by_cases Yi:k<=m
   .have R:((m:Int)-1)=((m-1:Nat):Int):=by omega
    obtain⟨y,G⟩:=b8 (q:=Z) (k:=m) ac;have N:=u z y;by_cases Yh:kX z y<0
    .refine Zx ?_;refine bs 53 ?_;refine ML ?_;refine LF ?_;refine aa 8 ?_;refine Re ?_;rotate_left;exact J5
    .clear Yc;refine Zx ?_;refine bs 53 ?_;refine ML ?_;refine LF ?_;refine aa 20 ?_;refine Qf ?_ ?_;refine Lj ?_;refine JE ?_;refine aa 6 ?_;refine ai.v (V.Y' T rfl rfl ac) ?_;refine aa 5 ?_;refine Re ?_;rotate_left;refine HY ?_;refine JE ?_;refine aa 6 ?_;refine ai.v (V.Y' T rfl rfl ac) ?_;refine aa 5 ?_;refine Re ?_;rotate_left;all_goals(refine Out.t' s (k+1,m-1,(Z.set k y).set m x) ?_ (by show m-1+b-(k+1)<j+b-i;omega);exact ⟨Ia,MH,by show a<=m-1;omega,by show m-1<b;omega,(kv U G).trans d⟩)
   .clear Yc;refine Zx ?_;refine bs 53 ?_;refine ae 12 4 ?_;refine aa 19 ?_;refine Out.S2 ?_;refine aa 11 ?_;rotate_left;exact⟨_,_,⟨Z,k,ac,ac,d,rfl,rfl⟩,XC⟩
  .refine Zx ?_;refine bs 34 ?_;refine ML ?_;refine Ls ?_;refine aa 8 ?_;refine ai.v (V.Y' T rfl rfl ac) ?_;refine aa 3 ?_;rotate_left;exact Jm
 .clear J;refine Zx ?_;refine bs 34 ?_;refine ae 13 4 ?_;refine aa 10 ?_;refine ah.cb [0,1,2,4,11] (λm:Nat=>m=j) (λm=>[(12,I (m:Int))]) (λ_=>[]) (λm=>m) j rfl ?_;rintro m rfl ro Yc;clear Yc;refine bh ?_;refine Zx ?_;refine bs 53 ?_;refine ae 12 4 ?_;refine aa 19 ?_;refine Out.S2 ?_;refine aa 11 ?_;rotate_left;exact⟨_,_,⟨Z,k,ac,ac,d,rfl,rfl⟩,XC⟩
def abL(g n C:Nat)(l:ab ag)(D:l.length=n)(a b p:Nat)(Yh:a<=p)(Yg:p<b)(X:b<=n)(w:n<=1000000)(E:ax)(L:aj)(kX:ag->ag->Int)(T:kW L E kX):ar prog 214 [.slice (some ⟨g,0,none⟩) n C,I (a:Int),I (b:Int),I (p:Int),L] [dV g n C l,E] (λr Y=>∃o:ab ag,∃t:Nat,∃u:Bool,a<=t/\t<b/\o.Perm l/\r=.tuple #[I (t:Int),B u]/\Y=[dV g n C o,E]):=by
 unfold dV;have P:((a:Int)+1)=((a+1:Nat):Int):=ac
 have F:((b:Int)-1)=((b-1:Nat):Int):=ac
 refine aB func214 λW=>?_;refine aa 6 ?_;refine ah.mt [0,1,2,4] (λjS:ab ag=>jS.Perm l) (λ_=>[]) (λjS=>[rows ag.c (.slice (some ⟨g,0,none⟩) n C) 46 2 jS]) (b:=[rows ag.c (.slice (some ⟨g,0,none⟩) n C) 46 2 l]) ?_ ?_
 .intro K s;have M:=D;obtain⟨x,U⟩:=b8 (q:=l) (k:=a) ac;obtain⟨y,G⟩:=b8 (q:=l) (k:=p) ac;refine Qq ?_ ?_;refine Lj ?_;refine K3 ?_;rotate_left;refine HY ?_;refine K3 ?_;rotate_left;all_goals exact Out.t' s ((l.set a y).set p x) (kv U G) trivial
 intro Z d;refine bh ?_;have M:Z.length=n:=by rw[d.length_eq,D]
 obtain⟨z,h⟩:=b8 (q:=Z) (k:=a) ac;refine aa 3 ?_;refine ai.v (V.Y' P rfl rfl ac) ?_;refine av ?_;refine ai.v (V.Q' F rfl rfl ac) ?_;refine aa 6 ?_;refine ah.cb [0,1,2,4,13] (λk:Nat=>a+1<=k/\k<=b) (λk=>[(12,I (k:Int))]) (λ_=>[]) (λk=>b-k) (a+1) ⟨cl _,ac⟩ ?_;rintro k⟨jb,kd⟩ fa J;refine bh ?_;have q:((k:Int)+1)=((k+1:Nat):Int):=ac
 by_cases Yl:k<=b-1
 .obtain⟨x,U⟩:=b8 (q:=Z) (k:=k) ac;have Q:=T x z;by_cases Yk:kX x z<0
  .refine Zx ?_;refine bs 35 ?_;refine Kg ?_;refine aa 8 ?_;refine ai.v (V.Y' q rfl rfl ac) ?_;refine aa 3 ?_;rotate_left;exact Jm
  .clear J;refine Zx ?_;refine bs 35 ?_;refine Kg ?_;refine aa 10 ?_;rotate_left;refine ah.cb [0,1,2,4,12] (λm:Nat=>a<=m/\m<=b-1) (λm=>[(13,I (m:Int))]) (λ_=>[]) (λm=>m) (b-1) ⟨ac,cl _⟩ ?_;rintro m⟨vM,EP⟩ ro Yc;refine bh ?_;obtain⟨y,G⟩:=b8 (q:=Z) (k:=m) ac;by_cases Yj:k<=m
   .have R:((m:Int)-1)=((m-1:Nat):Int):=by omega
    have N:=T y z;by_cases Yi:kX y z<0
    .clear Yc;refine Zx ?_;refine bs 53 ?_;refine Oa ?_;refine aa 19 ?_;rotate_left;refine ah.mt [0,1,2,4,12,13] (λjS:ab ag=>jS.Perm l) (λ_=>[]) (λjS=>[rows ag.c (.slice (some ⟨g,0,none⟩) n C) 46 2 jS]) (b:=[rows ag.c (.slice (some ⟨g,0,none⟩) n C) 46 2 Z]) ?_ ?_
     .intro K s;refine Qf ?_ ?_;refine Lj ?_;refine JE ?_;refine aa 2 ?_;rotate_left;refine HY ?_;refine JE ?_;refine aa 2 ?_;rotate_left;all_goals exact Out.t' s ((Z.set k y).set m x) ((kv U G).trans d) trivial
     intro jS Yf;refine bh ?_;refine aa 3 ?_;refine ai.v (V.Y' q rfl rfl ac) ?_;refine aa 6 ?_;refine ai.v (V.Q' R rfl rfl ac) ?_;refine aa 5 ?_;refine ah.cb [0,1,2,4] (λy:Nat×Nat×ab ag=>a+1<=y.1/\y.1<=b/\a<=y.2.1/\y.2.1<b/\y.2.2.Perm l) (λy=>[(12,I (y.1:Int)),(13,I (y.2.1:Int))]) (λy=>[rows ag.c (.slice (some ⟨g,0,none⟩) n C) 46 2 y.2.2]) (λy=>y.2.1+b-y.1) (k+1,m-1,jS) ⟨Ia,MH,by show a<=m-1;omega,by show m-1<b;omega,Yf⟩ ?_;rintro⟨i,j,pk⟩⟨xn,tG,vL,z1,Ye⟩ K s;dsimp only at xn tG vL z1 Ye;refine bh ?_;clear M;have M:pk.length=n:=by rw[Ye.length_eq,D]
     obtain⟨z,h⟩:=b8 (q:=pk) (k:=a) ac;refine aa 3 ?_;refine ah.cb [0,1,2,4,13] (λk:Nat=>i<=k/\k<=b) (λk=>[(12,I (k:Int))]) (λ_=>[]) (λk=>b-k) i ⟨cl _,tG⟩ ?_;rintro k⟨jb,kd⟩ fa J;refine bh ?_;have q:((k:Int)+1)=((k+1:Nat):Int):=ac
     by_cases Yl:k<=j
     .obtain⟨x,U⟩:=b8 (q:=pk) (k:=k) ac;have Q:=T x z;by_cases Yk:kX x z<0
      .refine Zx ?_;refine bs 108 ?_;refine Kg ?_;refine aa 8 ?_;refine ai.v (V.Y' q rfl rfl ac) ?_;refine aa 3 ?_;rotate_left;exact Jm
      .clear J;refine Zx ?_;refine bs 108 ?_;refine Kg ?_;refine aa 10 ?_;rotate_left;refine ah.cb [0,1,2,4,12] (λm:Nat=>a<=m/\m<=j) (λm=>[(13,I (m:Int))]) (λ_=>[]) (λm=>m) j ⟨vL,cl _⟩ ?_;rintro m⟨vM,EP⟩ ro Yc;refine bh ?_;obtain⟨y,G⟩:=b8 (q:=pk) (k:=m) ac;by_cases Yj:k<=m
       .have R:((m:Int)-1)=((m-1:Nat):Int):=by omega
        have N:=T y z;by_cases Yi:kX y z<0
        .clear Yc;refine Zx ?_;refine bs 126 ?_;refine Oa ?_;refine aa 20 ?_;refine Qf ?_ ?_;refine Lj ?_;refine JE ?_;refine aa 6 ?_;refine ai.v (V.Y' q rfl rfl ac) ?_;refine aa 5 ?_;refine Re ?_;rotate_left;refine HY ?_;refine JE ?_;refine aa 6 ?_;refine ai.v (V.Y' q rfl rfl ac) ?_;refine aa 5 ?_;refine Re ?_;rotate_left;all_goals(refine Out.t' s (k+1,m-1,(pk.set k y).set m x) ?_ (by show m-1+b-(k+1)<j+b-i;omega);exact ⟨Ia,MH,by show a<=m-1;omega,by show m-1<b;omega,(kv U G).trans Ye⟩)
        .refine Zx ?_;refine bs 126 ?_;refine Oa ?_;refine aa 8 ?_;refine Re ?_;rotate_left;exact J5
       .clear Yc;refine Zx ?_;refine bs 126 ?_;refine ae 13 4 ?_;refine aa 19 ?_;refine Out.S2 ?_;refine aa 4 ?_;refine II ?_ ?_;refine Ry ?_;refine aa 12 ?_;rotate_left;refine Jp ?_;refine QY ?_;refine Ry ?_;refine aa 12 ?_;rotate_left;all_goals exact⟨_,_,⟨(pk.set m z).set a y,m,_,ac,ac,(kv G h).trans Ye,rfl,rfl⟩,XC⟩
     .clear J;refine Zx ?_;refine bs 108 ?_;refine ae 12 4 ?_;refine aa 10 ?_;refine ah.cb [0,1,2,4,12] (λm:Nat=>m=j) (λm=>[(13,I (m:Int))]) (λ_=>[]) (λm=>m) j rfl ?_;rintro m rfl ro Yc;clear Yc;refine bh ?_;obtain⟨y,G⟩:=b8 (q:=pk) (k:=m) ac;refine Zx ?_;refine bs 126 ?_;refine ae 13 4 ?_;refine aa 19 ?_;refine Out.S2 ?_;refine aa 4 ?_;refine II ?_ ?_;refine Ry ?_;refine aa 12 ?_;rotate_left;refine Jp ?_;refine QY ?_;refine Ry ?_;refine aa 12 ?_;rotate_left;all_goals exact⟨_,_,⟨(pk.set m z).set a y,m,_,ac,ac,(kv G h).trans Ye,rfl,rfl⟩,XC⟩
    .refine Zx ?_;refine bs 53 ?_;refine Oa ?_;refine aa 8 ?_;refine Re ?_;rotate_left;exact J5
   .clear Yc;refine Zx ?_;refine bs 53 ?_;refine ae 13 4 ?_;refine aa 18 ?_;refine II ?_ ?_;refine Ry ?_;refine aa 13 ?_;rotate_left;refine Jp ?_;refine QY ?_;refine Ry ?_;refine aa 13 ?_;rotate_left;all_goals exact⟨_,_,⟨(Z.set m z).set a y,m,_,ac,ac,(kv G h).trans d,rfl,rfl⟩,XC⟩
 .clear J;refine Zx ?_;refine bs 35 ?_;refine ae 12 4 ?_;refine aa 10 ?_;refine ah.cb [0,1,2,4,12] (λm:Nat=>m=b-1) (λm=>[(13,I (m:Int))]) (λ_=>[]) (λm=>m) (b-1) rfl ?_;rintro m rfl ro Yc;clear Yc;refine bh ?_;obtain⟨y,G⟩:=b8 (q:=Z) (k:=b-1) ac;refine Zx ?_;refine bs 53 ?_;refine ae 13 4 ?_;refine aa 18 ?_;refine ah.n' ?_ aA.j.j;refine ae 6 0 ?_;refine af.i' 6 rfl (V.x' ad (k:=a) rfl rfl rfl rfl ac) ?_;refine ae 2 8 ?_;refine af.i' 10 rfl (V.x' ad (k:=b-1) rfl rfl rfl rfl ac) ?_;refine af.bu 7 11 rfl rfl ?_ ?_;refine aw.q' (V.E' ad rfl XB ag.len h) ?_;refine av ?_;refine af.p' 11 rfl (aw.q' (V.E' ad rfl XB ag.len G) ?_);refine av ?_;refine af.i' 12 rfl (V.x' ad (k:=b-1) rfl rfl rfl rfl ac) ?_;refine Ry ?_;refine aa 13 ?_;rotate_left;refine Jp ?_;refine av ?_;refine af.i' 12 rfl (V.x' ad (k:=b-1) rfl rfl rfl rfl ac) ?_;refine Ry ?_;refine aa 13 ?_;rotate_left;all_goals exact⟨_,_,⟨(Z.set (b-1) z).set a y,b-1,_,ac,ac,(kv G h).trans d,rfl,rfl⟩,XC⟩
def LC(g n C:Nat)(k:n<=1000000)(E:ax)(i:aj)(q:ag->ag->Int)(T:kW i E q):∀(X a b:Nat) (u:Int) (l:ab ag),l.length=n->a<=b->b<=n->b-a<=X->0<=u->u<=64->ar prog 150 [.slice (some ⟨g,0,none⟩) n C,I (a:Int),I (b:Int),I u,i] [dV g n C l,E] (λr z=>∃vK:ab ag,vK.Perm l/\r=.tuple #[]/\z=[dV g n C vK,E]):=by
 intro X;induction X using Nat.strongRecOn with
 |ind X EQ=>
 intro a b u l o D R Y m s;have G (a b:Nat) (u:Int) (l:ab ag) (o:l.length=n) (J:a<=b) (f:b<=n) (P:b-a<X) (fZ:0<=u) (lb:u<=64):=EQ (b-a) P a b u l o J f (cl _) fZ lb;clear EQ;unfold dV at*;refine aB func150 λW=>?_;refine aa 11 ?_;refine ah.cb [0,4] (λy:Nat×Nat×Int×Bool×Bool×ab ag=>y.1<=y.2.1/\y.2.1<=n/\y.2.1-y.1<=X/\0<=y.2.2.1/\y.2.2.1<=64/\y.2.2.2.2.2.Perm l) (λy=>[(1,I (y.1:Int)),(2,I (y.2.1:Int)),(3,I y.2.2.1),(10,B y.2.2.2.1),(11,B y.2.2.2.2.1)]) (λy=>[rows ag.c (.slice (some ⟨g,0,none⟩) n C) 46 2 y.2.2.2.2.2]) (λy=>y.2.1-y.1) (a,b,u,true,true,l) ⟨D,R,Y,m,s,gA _⟩ ?_;rintro⟨a,b,u,jT,wp,h⟩⟨D,R,Y,m,s,Q⟩ K Z;dsimp only at D R Y m s Q;refine bh ?_;have M:h.length=n:=ZV
 have ep:((b:Int)-(a:Int))=((b-a:Nat):Int):=ac
 by_cases Yc:b-a<=12
 .clear Z;have hV:=Ll g n C h M a b D R k E i q T;unfold dV at hV;refine aa 5 ?_;refine ai.v (V.Q' ep rfl rfl ac) ?_;refine aa 18 ?_;rintro _ _⟨Yf,w,rfl,rfl⟩;refine aa 9 ?_;rotate_left;refine⟨_,_,⟨_,?_,rfl,rfl⟩,XC⟩;exact kO XF Q
 by_cases Ye:u=0
 .clear Z;have hV:=Lm g n C h M a b ac R k E i q T;unfold dV at hV;refine aa 5 ?_;refine ai.v (V.Q' ep rfl rfl ac) ?_;refine aa 28 ?_;rintro _ _⟨Yg,N,rfl,rfl⟩;refine aa 9 ?_;rotate_left;refine⟨_,_,⟨_,?_,rfl,rfl⟩,XC⟩;exact kO XF Q
 have x:a+12<b:=ac
 refine aa 5 ?_;refine ai.v (V.Q' ep rfl rfl ac) ?_;refine aa 23 ?_;refine ah.mt [0,1,2,4,10,11,12] (λy:Int×ab ag=>0<=y.1/\y.1<=64/\y.2.Perm l) (λy=>[(3,I y.1)]) (λy=>[rows ag.c (.slice (some ⟨g,0,none⟩) n C) 46 2 y.2]) (b:=[rows ag.c (.slice (some ⟨g,0,none⟩) n C) 46 2 h]) ?_ ?_
 .intro fa j;cases jT
  .have ly:=Ly g n C h M a b x R k E i q T;unfold dV at ly;refine aa 14 ?_;rintro _ _⟨Yh,t,rfl,rfl⟩;refine aa 8 ?_;refine Out.t' j (u-1,_) ⟨by show 0<=u-1;omega,by show u-1<=64;omega,?_⟩ trivial;exact kO XF Q
  .refine aa 8 ?_;exact Out.t' j (u,h) ⟨m,s,Q⟩ trivial
 clear m s Ye Q M;rintro⟨u,h⟩⟨m,s,Q⟩;dsimp only at m s Q;refine bh ?_;have M:h.length=n:=ZV
 have jv:=aaC g n C h M a b x R k E i q T;unfold dV at jv;refine aa 7 ?_;rintro _ _⟨L,Yj,t,w,rfl,rfl⟩;refine aa 8 ?_;refine ah.mt [0,1,2,3,4,10,11,12] (λy:Nat×Int×ab ag=>a<=y.1/\y.1<b/\y.2.2.Perm l) (λy=>[(13,I (y.1:Int)),(14,I y.2.1)]) (λy=>[rows ag.c (.slice (some ⟨g,0,none⟩) n C) 46 2 y.2.2]) (b:=[rows ag.c (.slice (some ⟨g,0,none⟩) n C) 46 2 h]) ?_ ?_
 .intro fa j;have eU:=afj g n C h M a b ac R k E i q T;unfold dV at eU;have J:((b:Int)-1)=((b-1:Nat):Int):=by omega
  have f:((L:Int)-(a:Int))=((L-a:Nat):Int):=ac
  have P:(((b-1:Nat):Int)-((L-a:Nat):Int))=((b-1-(L-a):Nat):Int):=ac
  refine Ri (λd=>?_) λd=>?_;refine aa 7 ?_;rintro _ _⟨Yi,w,rfl,rfl⟩;refine aa 6 ?_;refine ai.v (V.Q' J rfl rfl ac) ?_;refine aa 2 ?_;refine ai.v (V.Q' f rfl rfl ac) ?_;refine ai.v (V.Q' P rfl rfl ac) ?_;refine aa 6 ?_;rotate_left;refine av ?_;rotate_left
  .refine Out.t' j (b-1-(L-a),1,_) ⟨by show a<=b-1-(L-a);omega,by show b-1-(L-a)<b;omega,?_⟩ trivial;exact kO XF Q
  .refine Out.t' j (L,_,h) ?_ trivial;exact ⟨XF,by show L<b;omega,Q⟩
 clear Q M jv;rintro⟨p,hint,h⟩⟨U,F,Q⟩;dsimp only at U F Q;refine bh ?_;have M:h.length=n:=ZV
 refine ah.mt [0,1,2,3,4,10,11,12,13] (λjS:ab ag=>jS.Perm l) (λ_=>[]) (λjS=>[rows ag.c (.slice (some ⟨g,0,none⟩) n C) 46 2 jS]) (b:=[rows ag.c (.slice (some ⟨g,0,none⟩) n C) 46 2 h]) ?_ ?_
 .intro fa j;have ab9:=aax g n C h M a b ac R k E i q T;unfold dV at ab9;cases jT<;>cases wp
  exact MS
  exact MS
  exact MS
  .refine aa 12 ?_;refine ah.cs (λD=>?_) (λD=>?_);refine aa 7 ?_;refine Rf λr c w=>?_;refine ah.cs (λD=>?_) (λD=>?_);refine aa 6 ?_;rotate_left;refine av ?_;rotate_left;refine av ?_;rotate_left
   .refine⟨_,_,⟨_,?_,rfl,rfl⟩,XC⟩;exact kO XF Q
   .refine Out.t' j _ ?_ trivial;exact kO XF Q
   .exact Out.t' j h Q trivial
 clear Q M;intro h Q;refine bh ?_;have M:h.length=n:=ZV
 have x:=LA g n C h M a b p U F R k E i q T;have L:=abL g n C h M a b p U F R k E i q T;unfold dV at x L;obtain⟨y,M⟩:=b8 (q:=h) (k:=p) ac;refine ah.mt [0,1,2,3,4,12,13] (λ_:Unit=>True) (λ_=>[]) (λ_=>[]) ?_ ?_
 .intro fa j;by_cases c:0<a
  .have J:((a:Int)-1)=((a-1:Nat):Int):=by omega
   obtain⟨x,U⟩:=b8 (q:=h) (k:=a-1) ac;have K:=T x y;refine av ?_;refine ah.n' ?_ aA.d'.d';refine ae 3 0 ?_;refine bs 83 ?_;refine ae 3 3 ?_;refine af.i' 6 rfl (V.Q' J rfl rfl ac) ?_;refine af.i' 7 rfl (V.x' ad (k:=a-1) rfl rfl rfl rfl ac) ?_;refine af.i' 8 rfl (V.E' ad rfl XB ag.len U) ?_;refine ae 2 9 ?_;refine af.i' 11 rfl (V.x' ad (k:=p) rfl rfl rfl rfl ac) ?_;refine af.i' 12 rfl (V.E' ad rfl XB ag.len M) ?_;refine af.p' 13 rfl (aw.RY K rfl rfl XC ?_);refine av ?_;refine ae 3 14 ?_;refine aa 2 ?_;refine Rx (λL=>?_) λL=>?_;rintro _ _⟨p,c,N,x,M,rfl,rfl⟩;refine aa 13 ?_;rotate_left;refine av ?_;rotate_left
   .refine Out.t' Z (_,b,u,_,_,_) ⟨by show _<=b;assumption,R,?_,m,s,?_⟩ ?_
    .show b-_<=X;omega
    .exact kO XF Q
    .show b-_<b-a;omega
   .exact Out.t' j () trivial trivial
  .refine av ?_;refine ah.n' ?_ aA.d'.d';refine ae 3 0 ?_;refine bs 83 ?_;refine ae 14 3 ?_;refine aa 4 ?_;exact Out.t' j () trivial trivial
 rintro⟨⟩-;refine bh ?_;refine aa 8 ?_;rintro _ _⟨p,i,c,t,w,N,rfl,rfl⟩;refine aa 14 ?_;have h:p.Perm l:=kO XF Q;have D:p.length=n:=by rw[h.length_eq,o]
 have l:((i:Int)-(a:Int))=((i-a:Nat):Int):=ac
 have J:((b:Int)-(i:Int))=((b-i:Nat):Int):=ac
 have k:((i:Int)+1)=((i+1:Nat):Int):=ac
 by_cases y:i-a<b-i
 .have j:=G a i u p D ac ac ac m s;refine aa 4 ?_;refine ai.v (V.Q' l rfl rfl ac) ?_;refine aa 2 ?_;refine ai.v (V.Q' J rfl rfl ac) ?_;refine aa 35 ?_;rintro _ _⟨y,w,rfl,rfl⟩;refine aa 5 ?_;refine ai.v (V.Y' k rfl rfl ac) ?_;refine aa 3 ?_;rotate_left;refine Out.t' Z (i+1,b,u,_,c,_) ⟨by show i+1<=b;omega,R,by show b-(i+1)<=X;omega,m,s,?_⟩ (by show b-(i+1)<b-a;omega);exact kO XF h
 .have j:=G (i+1) b u p D ac ac ac m s;refine aa 4 ?_;refine ai.v (V.Q' l rfl rfl ac) ?_;refine aa 2 ?_;refine ai.v (V.Q' J rfl rfl ac) ?_;refine aa 31 ?_;refine ai.v (V.Y' k rfl rfl ac) ?_;refine aa 4 ?_;rintro _ _⟨y,w,rfl,rfl⟩;refine aa 8 ?_;refine Out.t' Z (a,i,u,_,c,_) ⟨by show a<=i;omega,by show i<=n;omega,by show i-a<=X;omega,m,s,?_⟩ (by show i-a<b-a;omega);exact kO XF h
def z2(g C:Nat)(l:ab ag)(v:l.length<=1000000)(E:ax)(p:aj)(X:ag->ag->Int)(u:kW p E X):ar prog 107 [.slice (some ⟨g,0,none⟩) l.length C,p] [dV g l.length C l,E] (λr Y=>∃q:ab ag,q.Perm l/\r=.tuple #[]/\Y=[dV g l.length C q,E]):=by
 have o:=zZ l.length ac;have y:Go.IntKind.u64.wrap ((l.length:Nat):Int)=((l.length:Nat):Int):=MX
 have K:cX prog 151 [.int .u64 (Go.IntKind.u64.wrap ((l.length:Nat):Int))] (I (Go.Lib.bitLen l.length:Nat)):=by rw[y];exact o
 have b:Go.Lib.bitLen l.length<=64:=Go.Lib.bitLen_le _ 64 (cl _) ac;have a:=LC g l.length C v E p X u l.length 0 l.length (Go.Lib.bitLen l.length:Nat) l rfl (cw _) (cl _) (cl _) ac ac;unfold dV at*;refine aB func107 λW=>?_;refine aa 11 ?_;refine ai.v (V.Ta ad) ?_;refine aa 3 ?_;rintro _ _⟨b,R,rfl,rfl⟩;refine aa 3 ?_;refine⟨_,_,⟨_,?_,rfl,rfl⟩,XC⟩;assumption
def aeE(p:aj)(F:p.oneCell'=true):ar prog 107 [.slice none 0 0,p] [] (λr Y=>r=.tuple #[]/\Y=[]):=by
 have j:ar prog 207 [.slice none 0 0,I 0,I 0,p] [] (λr Y=>r=.tuple #[]/\Y=[]):=by refine aB func207 λW=>?_;refine aa 8 ?_;refine ah.cb [] (λ_:Unit=>True) (λ_=>[(8,I 1),(2,I 0)]) (λ_=>[]) (λ_=>0) () trivial ?_;rintro⟨⟩-K a;clear a;refine bh ?_;exact aM 14
 have v:ar prog 150 [.slice none 0 0,I 0,I 0,I 0,p] [] (λr Y=>r=.tuple #[]/\Y=[]):=by refine aB func150 λW=>?_;refine aa 11 ?_;refine ah.cb [] (λ_:Unit=>True) (λ_=>[(0,.slice none 0 0),(1,I 0),(2,I 0),(4,p)]) (λ_=>[]) (λ_=>0) () trivial ?_;rintro⟨⟩-K a;clear a;refine bh ?_;exact aM 33
 have o:cX prog 151 [.int .u64 (Go.IntKind.u64.wrap (0:Int))] (I 0):=zZ 0 ac;refine aB func107 λW=>?_;refine aa 11 ?_;refine ai.v (V.Ta ad) ?_;exact aM 6
def rp(st:Int)(o:aQ aD)(m:aD):aQ aD:=if decide (m.Status=st)&&(match o with|none=>true|some a=>g2 a.cY m.cY)then some m else o
def ao(st:Int)(Z:ab aD):aQ aD:=Z.foldl (rp st) none
def ad7(st Z x):ao st (Z++[x])=rp st (ao st Z) x:=by simp[ao]
def aai(st:Int)(Z:ab aD)(i:Nat)(m:aD):Prop:=Z[i]?=some m/\m.Status=st/\∀k o,Z[k]?=some o->o.Status=st->g2 m.cY o.cY=false/\¬(m.cY=o.cY/\k<i)
def acO(e:ax)(m:aQ Go.Addr)(C b off:Nat)(Z:ab aD)(st:Int)(T:Rd e m Z.length b off 25 (Z.map aD.c)):ar prog 282 [.slice m Z.length C,I st] [e] (λr Y=>r=.tuple #[A ((ao st Z).getD aD.z).c,B (ao st Z).isSome]/\Y=[e]):=by
 have R:=T.small;simp only[Go.maxLen]at R;refine aB func282 λW=>?_;refine aq 2 λh=>?_;refine aq 5 λu=>?_;refine aa 16 ?_;refine ah.cb [11,10,6,4,1] (λi:Nat=>i<=Z.length) (λi=>[(12,I (i:Int)),(7,B (ao st (Z.take i)).isSome)]) (λi=>[cells u 176 ((ao st (Z.take i)).getD aD.z).c]) (λi=>Z.length-i) 0 (cw _) ?_;rintro i G K p;refine bh ?_;by_cases n:i<Z.length
 .obtain⟨x,U⟩:=b8 n;have y:=kl U;have J:ao st (Z.take (i+1))=rp st (ao st (Z.take i)) x:=by rw[y,ad7]
  generalize ao st (Z.take i)=o at*;cases o with
  |none=>
   by_cases Q:x.Status=st
   .have w:ao st (Z.take (i+1))=some x:=by grind [rp]
    refine aq 15 λF=>?_;refine aa 35 ?_;rotate_left;all_goals exact Out.t' p (i+1) XO XR (g:=ZW) (q:=ZX)
   .have w:ao st (Z.take (i+1))=none:=by grind [rp]
    refine aq 15 λF=>?_;refine aa 31 ?_;rotate_left;all_goals exact Out.t' p (i+1) XO XR (g:=ZW) (q:=ZX)
  |some a=>
   by_cases Q:x.Status=st
   .have t:=r6 a.cY x.cY;cases X:g2 a.cY x.cY with
    |true=>
     rw[X]at t;have w:ao st (Z.take (i+1))=some x:=by grind [rp]
     refine aq 15 λF=>?_;refine aa 36 ?_;rotate_left;all_goals exact Out.t' p (i+1) XO XR (g:=ZW) (q:=ZX)
    |false=>
     rw[X]at t;have w:ao st (Z.take (i+1))=some a:=by grind [rp]
     refine aq 15 λF=>?_;refine aa 32 ?_;rotate_left;all_goals exact Out.t' p (i+1) XO XR (g:=ZW) (q:=ZX)
   .have w:ao st (Z.take (i+1))=some a:=by grind [rp]
    refine aq 15 λF=>?_;refine aa 31 ?_;rotate_left;all_goals exact Out.t' p (i+1) XO XR (g:=ZW) (q:=ZX)
 .obtain rfl:i=Z.length:=by omega
  rw[hE];clear p;exact aM 22
def z6(st:Int)(m:aD)(i:Nat)(o:aD)(k:Nat):Bool:=decide (o.Status=st)&&(g2 m.cY o.cY||(decide (m.cY=o.cY)&&decide (k<i)))
def ac1{st:Int}{Z:ab aD}{i:Nat}{m:aD}(U:Z[i]?=some m)(Q:m.Status=st):aai st Z i m↔∀k,k<Z.length->∀o,Z[k]?=some o->z6 st m i o k=false:=by
 constructor
 .rintro⟨_,_,h⟩ k _ o Z;grind [z6]
 .intro h;refine⟨U,Q,λk o Z F=>?_⟩;have M:=h k (cI.1 Z).1 o Z;unfold z6 at M;grind
def oy(x:ag)(m:aD):Bool:=decide (m.Status=1)&&(m.dB&&decide (m.cY=⟨0,x.be⟩))
def pr(x:ag)(Z:ab aD):ab aD:=if Z.any (λm=>decide (m.bm=x.be))then[]else Z.filter (oy x)
def xE(e:ax)(n:aQ Go.Addr)(C b off:Nat)(Z:ab aD)(x:ag)(U:Z.length<=1000)(T:Rd e n Z.length b off 25 (Z.map aD.c)):ar prog 283 [A x.c,.slice n Z.length C] [e] (λr Y=>∃v,r=v/\Y=[rows aD.c v 176 25 (pr x Z),e]):=by
 refine aB func283 λW=>?_;refine ah.RK aD.c 176 25 ?_;refine ah.RK aD.c 176 25 ?_;refine aq 2 λt=>?_;refine aa 17 ?_;refine ah.cb [9,8,2] (λy:Nat×aj=>y.1<=Z.length/\(Z.take y.1).any (λm=>decide (m.bm=x.be))=false) (λy=>[(10,I (y.1:Int)),(5,y.2)]) (λy=>[rows aD.c y.2 176 25 ((Z.take y.1).filter (oy x))]) (λy=>Z.length-y.1) (0,.slice none 0 0) ⟨cw _,rfl⟩ ?_;rintro⟨i,v⟩⟨G,L⟩ K p;dsimp only at G L;refine bh ?_;by_cases s:i<Z.length
 .obtain⟨m,R⟩:=b8 s;have l:=kl R;by_cases X:m.bm=x.be
  .have w:pr x Z=[]:=by unfold pr;rw[aT];rw[List.any_eq_true];exact⟨m,j5 R,by simpa using X⟩
   rw[w];refine aq 15 λN=>?_;exact aM 27
  .have J:(Z.take (i+1)).any (λm=>decide (m.bm=x.be))=false:=by grind
   have z:=w4 x.be;have d:((Z.take i).filter (oy x)).length<=1000:=jk (ri _ _) XK;cases a:oy x m with
   |true=>
    have E:(Z.take (i+1)).filter (oy x)=(Z.take i).filter (oy x)++[m]:=XK
    unfold oy at a;simp only[cZ,da]at a;obtain⟨F,M,g⟩:=a;refine Il λN=>?_;refine ae 4 4 ?_;refine af.aU 26 (λk=>?_) (λk=>?_);refine ae 5 8 ?_;refine af.i' 13 rfl (V.eq (bk.P' _ _ _)) ?_;refine ae 1 14 ?_;refine aq 6 λq=>?_;refine ai.o (O.O' ad rfl rfl XJ (ce.one ad XB aD.B') (λf D=>?_));refine aa 8 ?_;rotate_left;exact absurd (hI (ht k) XF:false=true) XG;all_goals exact Out.t' p (i+1,_) ⟨XO,J⟩ XR (q:=LH)
   |false=>
    have E:(Z.take (i+1)).filter (oy x)=(Z.take i).filter (oy x):=XK
    unfold oy at a;simp only[If,j8]at a;by_cases F:m.Status=1
    .cases M:m.dB with
     |false=>
      refine Il λN=>?_;refine ae 4 4 ?_;refine af.aU 26 (λQ=>?_) (λQ=>?_);exact absurd (hI (ht Q) XF:true=false) XG;refine ae 7 8 ?_;refine aa 10 ?_;rotate_left;all_goals exact Out.t' p (i+1,v) ⟨XO,J⟩ XR (q:=LH)
     |true=>
      have g:¬m.cY=⟨0,x.be⟩:=by
       rcases a with h|h|h
       .exact absurd F h
       .rw[M]at h;cases h
       .exact h
      refine Il λN=>?_;refine ae 4 4 ?_;refine af.aU 26 (λu=>?_) (λu=>?_);refine ae 5 8 ?_;refine af.i' 13 rfl (V.eq (bk.P' _ _ _)) ?_;refine ae 1 14 ?_;refine aa 10 ?_;rotate_left;exact absurd (hI (ht u) XF:false=true) XG;all_goals exact Out.t' p (i+1,v) ⟨XO,J⟩ XR (q:=LH)
    .refine Il λN=>?_;refine ae 11 4 ?_;refine aa 10 ?_;rotate_left;all_goals exact Out.t' p (i+1,v) ⟨XO,J⟩ XR (q:=LH)
 .obtain rfl:i=Z.length:=by omega
  rw[hE]at L⊢;have w:pr x Z=Z.filter (oy x):=by grind [pr]
  rw[w];clear p;exact aM 20
def c3(pre:ab aj)(l:ab aD)(h:ab Bool)(n:Int)(post:ab aj):ab aj:=pre++(nH l h n++post)
structure je(pre:ab aj)(o:Nat)(l:ab aD)(h:ab Bool):Prop where
 pre:pre.length=o
 l:l.length=7
 h:h.length=7
variable{pre post:ab aj}{o:Nat}{l:ab aD}{h:ab Bool}{n:Int}
theorem c3.parts:c3 pre l h n post=pre++(l.flatMap aD.c++(h.map (λb=>B b)++([I n]++post))):=by grind [c3,nH,List.append_assoc]
def rq(E:l.length=7):(l.flatMap aD.c).length=175:=by rw[Go.ay.jF aD.len,E]
def c3.len(w:je pre o l h):(c3 pre l h n post).length=o+183+post.length:=by rw[c3.parts];simp only[bM,rq w.l,ev,w.h,w.pre,dp,fY];omega
def c3.has(w:je pre o l h){v:Bool}(T:h[k]?=some v):(c3 pre l h n post)[o+175+k*1]?=some (B v):=by
 have E:=(cI.1 T).1;have:=w.h;rw[c3.parts,iu Oy,w.pre,iu (by rw[rq w.l];omega),rq w.l,pR XK,ho,
  show o+175+k*1-o-175=k by omega,T]
 rfl
def c3.gR(w:je pre o l h):(c3 pre l h n post)[o+182]?=some (I n):=by
 have:=w.h;rw[c3.parts,iu Oy,w.pre,iu (by rw[rq w.l];omega),rq w.l,iu XK,ev,
  show o+182-o-175-h.length=0 by omega]
 rfl
def sk{o:Nat}{p x y q:ab aj}(r:p.length=o)(U:x.length=y.length):dD o x (p++(y++q))=p++(x++q):=by subst r;rw[dD,o0,U,cd];grind
def tP{D:Type}{l:ab D}{a:D}(h:l[k]?=some a):l=l.take k++([a]++l.drop (k+1))/\(l.take k).length=k/\∀b,l.set k b=l.take k++([b]++l.drop (k+1)):=by
 have E:=(cI.1 h).1;refine⟨?_,XK,λb=>?_⟩
 .have b:l.drop k=a::l.drop (k+1):=by rw[tz E];grind
  grind [List.take_append_drop]
 .grind [List.set_eq_take_append_cons_drop]
theorem c3.Ua(w:je pre o l h)(m:Int):bq (o+182) [I m] (c3 pre l h n post) (c3 pre l h m post):=⟨by
 have e:∀z:Int,c3 pre l h z post=(pre++(l.flatMap aD.c++h.map (λb=>B b)))++([I z]++post):=λz=>IA
 rw[e,e];exact sk (by simp only[bM,w.pre,rq w.l,ev,w.h]) rfl⟩
theorem c3.S6(w:je pre o l h)(T:k<7)(x:Bool):bq (o+175+k*1) [B x] (c3 pre l h n post) (c3 pre l (h.set k x) n post):=⟨by
 have K:k<h.length:=ZY
 obtain⟨y,J,p⟩:=tP (gM K);have e:∀z:Bool,c3 pre l (h.take k++([z]++h.drop (k+1))) n post=(pre++(l.flatMap aD.c++(h.take k).map (λb=>B b)))++([B z]++((h.drop (k+1)).map (λb=>B b)++([I n]++post))):=λz=>IA
 rw[p,e];conv=>lhs;rw[show c3 pre l h n post=c3 pre l (h.take k++([h[k]]++h.drop (k+1))) n post by rw[<-y],e]
 exact sk (by simp only[bM,w.pre,rq w.l,ev,J];omega) rfl⟩
theorem c3.SD(w:je pre o l h)(T:k<7)(x:aD):bq (o+0+k*25) x.c (c3 pre l h n post) (c3 pre (l.set k x) h n post):=⟨by
 have K:k<l.length:=by rw[w.l];exact T
 obtain⟨y,J,p⟩:=tP (gM K);have e:∀z:aD,c3 pre (l.take k++([z]++l.drop (k+1))) h n post=(pre++(l.take k).flatMap aD.c)++(z.c++((l.drop (k+1)).flatMap aD.c++(h.map (λb=>B b)++([I n]++post)))):=λz=>IA
 rw[p,e];conv=>lhs;rw[show c3 pre l h n post=c3 pre (l.take k++([l[k]]++l.drop (k+1))) h n post by rw[<-y],e]
 exact sk (by rw[bM,w.pre,Go.ay.jF aD.len,J];omega) rfl⟩
theorem c3.get(w:je pre o l h){x:aD}(T:l[k]?=some x):et (o+0+k*25) 25 (c3 pre l h n post) x.c:=⟨by
 obtain⟨y,J,p⟩:=tP T;have e:c3 pre l h n post=(pre++(l.take k).flatMap aD.c)++(x.c++((l.drop (k+1)).flatMap aD.c++(h.map (λb=>B b)++([I n]++post)))):=IA
 have r:(pre++(l.take k).flatMap aD.c).length=o+0+k*25:=by rw[bM,w.pre,Go.ay.jF aD.len,J];omega
 rw[e,iJ,<-r,zc];exact zG (aD.len x)⟩
def c3.Ub(w:je pre o l h):Nat.blt (o+182) (c3 pre l h n post).length=true:=by rw[lk,c3.len w];omega
def c3.Uc(w:je pre o l h)(T:k<7):Nat.blt (o+175+k*1) (c3 pre l h n post).length=true:=by rw[lk,c3.len w];omega
def c3.S7(w:je pre o l h)(T:k<7):Nat.ble (o+0+k*25+25) (c3 pre l h n post).length=true:=by rw[Nat.ble_eq,c3.len w];omega
def je.SD(w:je pre o l h)(k:Nat)(x:aD):je pre o (l.set k x) h:=⟨w.pre,by rw[b9,w.l],w.h⟩
def je.S6(w:je pre o l h)(k:Nat)(x:Bool):je pre o l (h.set k x):=⟨w.pre,w.l,by rw[b9,w.h]⟩
def xF(b E:Nat)(w:je pre o l h)(x:Int)(m:aD)(v:-100<=n/\n<=100):ar prog 238 [au b o,I x,A m.c] [cells b E (c3 pre l h n post)] (λr Y=>r=B (decide (0<=x/\x<7)&&!(h.getD x.toNat true))/\Y=[cells b E (if 0<=x/\x<7/\h.getD x.toNat true=false then c3 pre (l.set x.toNat m) (h.set x.toNat true) (n+1) post else c3 pre l h n post)]):=by
 by_cases t:0<=x/\x<7
 .obtain⟨k,rfl⟩:∃k:Nat,x=(k:Int):=⟨x.toNat,ac⟩
  have T:k<7:=ac
  obtain⟨v,L⟩:=b8 (q:=h) (k:=k) ZY;have e:h.getD ((k:Int)).toNat true=v:=XK
  rw[e,show((k:Int)).toNat=k by omega];have f:=c3.has (post:=post) (n:=n) w L;cases v with
  |true=>
   rw[aN XE,show(decide (0<=(k:Int)/\(k:Int)<7)&&!true)=false by simp];refine aB func238 λW=>?_;refine aq 2 λC=>?_;refine aa 23 ?_;refine LG ?_;exact aM 12
  |false=>
   rw[aT ⟨t.1,t.2,rfl⟩,show(decide (0<=(k:Int)/\(k:Int)<7)&&!false)=true by simp;omega];refine aB func238 λW=>?_;have s:=w.SD k m;have M:=s.S6 k true;have K:=c3.gR (post:=post) (n:=n) M;refine aq 2 λC=>?_;refine aa 23 ?_;refine LG ?_;refine aa 7 ?_;refine ah.n' ?_ aA.j.d';refine ae 7 0 ?_;refine af.i' 7 rfl (V.RL ad (k:=k) rfl rfl rfl) ?_;refine ae 2 9 ?_;refine af.p' 8 rfl (O.Tc ad ?_ (v:=c3.S7 w T) (z:=c3.SD w T m));refine av ?_;refine af.i' 11 rfl (V.RL ad (k:=k) rfl rfl rfl) ?_;refine af.p' 12 rfl (O.G' ad ?_ (j:=c3.Uc s T) (z:=c3.S6 s T true));refine aa 8 ?_;refine ai.v (V.y' ad (g:=K)) ?_;refine aa 3 ?_;refine ai.o (O.G' ad ?_ (j:=c3.Ub M) (z:=c3.Ua M (n+1)));exact aM 9
 .rw[aN ac,show(decide (0<=x/\x<7)&&!(h.getD x.toNat true))=false by simp;omega];refine aB func238 λW=>?_;refine aq 2 λC=>?_;refine aa 13 ?_;refine ai.aU (λt=>?_) (λt=>?_);exact aM 22;exact aM 23
end Go.Proofs.YteogojgnkjegmaaGreatDoor
namespace Go.Proofs.YteogojgnkjegmaaGreatDoor
open Go.ay Go.Proofs.Tryz
variable{k:Nat}{Y:Type}
def dP(aR:Y->aj)(pre:ab aj)(l:ab Y)(h:ab Bool)(n:Int)(post:ab aj):ab aj:=pre++((l.map aR++(h.map (λb=>B b)++[I n]))++post)
structure kw{Y:Type}(pre:ab aj)(o:Nat)(l:ab Y)(h:ab Bool):Prop where
 pre:pre.length=o
 l:l.length=7
 h:h.length=7
variable{aR:Y->aj}{pre post:ab aj}{o:Nat}{l:ab Y}{h:ab Bool}{n:Int}
def dP.parts:dP aR pre l h n post=pre++(l.map aR++(h.map (λb=>B b)++([I n]++post))):=by unfold dP;simp only[cd]
def sl(E:l.length=7):(l.map aR).length=7:=by rw[ev,E]
def dP.len(w:kw pre o l h):(dP aR pre l h n post).length=o+15+post.length:=by rw[dP.parts];simp only[bM,sl w.l,ev,w.h,w.pre,dp,fY];omega
def dP.has(w:kw pre o l h){v:Bool}(T:h[k]?=some v):(dP aR pre l h n post)[o+7+k*1]?=some (B v):=by
 have E:=(cI.1 T).1;have:=w.h;rw[dP.parts,iu Oy,w.pre,iu (by rw[sl w.l];omega),sl w.l,pR (by rw[ev];omega),ho,
  show o+7+k*1-o-7=k by omega,T]
 rfl
def dP.gR(w:kw pre o l h):(dP aR pre l h n post)[o+14]?=some (I n):=by
 have:=w.h;rw[dP.parts,iu Oy,w.pre,iu (by rw[sl w.l];omega),sl w.l,iu (by rw[ev];omega),ev,
  show o+14-o-7-h.length=0 by omega]
 rfl
theorem dP.Ua(w:kw pre o l h)(m:Int):bq (o+14) [I m] (dP aR pre l h n post) (dP aR pre l h m post):=⟨by
 have e:∀z:Int,dP aR pre l h z post=(pre++(l.map aR++h.map (λb=>B b)))++([I z]++post):=λz=>by rw[dP.parts];simp only[cd]
 rw[e,e];exact sk (by simp only[bM,w.pre,sl w.l,ev,w.h]) rfl⟩
theorem dP.S6(w:kw pre o l h)(T:k<7)(x:Bool):bq (o+7+k*1) [B x] (dP aR pre l h n post) (dP aR pre l (h.set k x) n post):=⟨by
 have K:k<h.length:=ZY
 obtain⟨y,J,p⟩:=tP (gM K);have e:∀z:Bool,dP aR pre l (h.take k++([z]++h.drop (k+1))) n post=(pre++(l.map aR++(h.take k).map (λb=>B b)))++([B z]++((h.drop (k+1)).map (λb=>B b)++([I n]++post))):=λz=>by rw[dP.parts];simp only[cd,iA,eK,kE]
 rw[p,e];conv=>lhs;rw[show dP aR pre l h n post=dP aR pre l (h.take k++([h[k]]++h.drop (k+1))) n post by rw[<-y],e]
 exact sk (by simp only[bM,w.pre,sl w.l,ev,J];omega) rfl⟩
theorem dP.SD(w:kw pre o l h)(T:k<7)(x:Y):bq (o+0+k*1) [aR x] (dP aR pre l h n post) (dP aR pre (l.set k x) h n post):=⟨by
 have K:k<l.length:=by rw[w.l];exact T
 obtain⟨y,J,p⟩:=tP (gM K);have e:∀z:Y,dP aR pre (l.take k++([z]++l.drop (k+1))) h n post=(pre++(l.take k).map aR)++([aR z]++((l.drop (k+1)).map aR++(h.map (λb=>B b)++([I n]++post)))):=λz=>by rw[dP.parts];simp only[cd,iA,eK,kE,dk,tt,kn]
 rw[p,e];conv=>lhs;rw[show dP aR pre l h n post=dP aR pre (l.take k++([l[k]]++l.drop (k+1))) h n post by rw[<-y],e]
 exact sk (by rw[bM,w.pre,ev,J];omega) rfl⟩
def dP.Ub(w:kw pre o l h):Nat.blt (o+14) (dP aR pre l h n post).length=true:=KA
def dP.Uc(w:kw pre o l h)(T:k<7):Nat.blt (o+7+k*1) (dP aR pre l h n post).length=true:=KA
def kw.SD(w:kw pre o l h)(k:Nat)(x:Y):kw pre o (l.set k x) h:=⟨w.pre,by rw[b9,w.l],w.h⟩
def kw.S6(w:kw pre o l h)(k:Nat)(x:Bool):kw pre o l (h.set k x):=⟨w.pre,w.l,by rw[b9,w.h]⟩
def dP.W5(w:kw pre o l h)(T:k<7):Nat.blt (o+0+k*1) (dP aR pre l h n post).length=true:=KA
def LJ{l:ab Bool}(b E:Nat)(w:kw pre o l h)(x:Int)(m:Bool)(v:-100<=n/\n<=100):ar prog 241 [au b o,I x,B m] [cells b E (dP (λb:Bool=>B b) pre l h n post)] (λr F=>r=B (decide (0<=x/\x<7)&&!(h.getD x.toNat true))/\F=[cells b E (if 0<=x/\x<7/\h.getD x.toNat true=false then dP (λb:Bool=>B b) pre (l.set x.toNat m) (h.set x.toNat true) (n+1) post else dP (λb:Bool=>B b) pre l h n post)]):=by
 by_cases t:0<=x/\x<7
 .obtain⟨k,rfl⟩:∃k:Nat,x=(k:Int):=⟨x.toNat,ac⟩
  have T:k<7:=ac
  obtain⟨v,L⟩:=b8 (q:=h) (k:=k) ZY;have e:h.getD ((k:Int)).toNat true=v:=LZ
  rw[e,show((k:Int)).toNat=k by omega];have f:=dP.has (aR:=(λb:Bool=>B b)) (post:=post) (n:=n) w L;cases v with
  |true=>
   rw[aN XE,show(decide (0<=(k:Int)/\(k:Int)<7)&&!true)=false by simp];refine aB func241 λW=>?_;refine aa 25 ?_;refine LG ?_;exact aM 12
  |false=>
   rw[aT ⟨t.1,t.2,rfl⟩,show(decide (0<=(k:Int)/\(k:Int)<7)&&!false)=true by simp;omega];refine aB func241 λW=>?_;have s:=w.SD k m;have M:=s.S6 k true;have K:=dP.gR (aR:=(λb:Bool=>B b)) (post:=post) (n:=n) M;refine aa 25 ?_;refine LG ?_;refine aa 7 ?_;refine ah.n' ?_ aA.j;refine ae 7 0 ?_;refine af.i' 7 rfl (V.RL ad (k:=k) rfl rfl rfl) ?_;refine ae 2 9 ?_;refine af.p' 8 rfl (O.G' ad ?_ (j:=dP.W5 w T) (z:=dP.SD (aR:=(λb:Bool=>B b)) w T m));refine av ?_;refine af.i' 11 rfl (V.RL ad (k:=k) rfl rfl rfl) ?_;refine af.p' 12 rfl (O.G' ad ?_ (j:=dP.Uc s T) (z:=dP.S6 s T true));refine aa 8 ?_;refine ai.v (V.y' ad (g:=K)) ?_;refine aa 3 ?_;refine ai.o (O.G' ad ?_ (j:=dP.Ub M) (z:=dP.Ua M (n+1)));exact aM 9
 .rw[aN ac,show(decide (0<=x/\x<7)&&!(h.getD x.toNat true))=false by simp;omega];refine aB func241 λW=>?_;refine P6 (λL=>?_) λL=>?_;exact aM 22;exact aM 23
end Go.Proofs.YteogojgnkjegmaaGreatDoor
namespace Go.Proofs.YteogojgnkjegmaaGreatDoor
open Go.ay Go.Proofs.Tryz
variable{D:Type}{n:Int}
def im(l:ab D)(h:ab Bool)(k:Nat):aQ (Nat×D):=if h.getD k false=true then l[k]?.map λx=>(k,x)else none
def h5(l:ab D)(h:ab Bool)(k:Nat):ab (Nat×D):=(List.range k).filterMap (im l h)
def fd(l:ab D)(h:ab Bool):ab (Nat×D):=h5 l h 7
def nj(l:ab D)(h:ab Bool)(k:Nat):h5 l h (k+1)=h5 l h k++(im l h k).toList:=by unfold h5;rw[se,List.filterMap_append];cases o:im l h k<;>simp[o]
def ER{D:Type}(l:ab D)(h:ab Bool)(k:Nat):∀d:Nat,∃t,h5 l h (k+d)=h5 l h k++t
 |0=>⟨[],XE⟩
 |d+1=>by obtain⟨t,j⟩:=ER l h k d;exact⟨t++(im l h (k+d)).toList,by rw[show k+(d+1)=(k+d)+1 by omega,nj,j,cd]⟩
def ES{l:ab D}{h:ab Bool}{k:Nat}{p:Nat×D}(T:k<7)(o:im l h k=some p):∃d,fd l h=h5 l h k++p::d:=by obtain⟨t,j⟩:=ER l h (k+1) (7-(k+1));rw[show k+1+(7-(k+1))=7 by omega]at j;refine⟨t,?_⟩;rw[fd,j,nj,o,cd];rfl
def xG(x:Nat×aD):ab aj:=[I (x.1:Int),A x.2.c]
def ET{pre d:ab aj}{o:Nat}{l:ab aD}{h:ab Bool}(b E:Nat)(w:je pre o l h)(x:Int):ar prog 246 [au b o,I x] [cells b E (c3 pre l h n d)] (λr Y=>r=B (decide (0<=x/\x<7)&&h.getD x.toNat false)/\Y=[cells b E (c3 pre l h n d)]):=by
 by_cases t:0<=x/\x<7
 .obtain⟨k,rfl⟩:∃k:Nat,x=(k:Int):=⟨x.toNat,ac⟩
  have T:k<7:=ac
  obtain⟨v,L⟩:=b8 (q:=h) (k:=k) ZY;have e:h.getD ((k:Int)).toNat false=v:=LZ
  rw[e,show(decide (0<=(k:Int)/\(k:Int)<7)&&v)=v by simp[t]];have f:=c3.has (post:=d) (n:=n) w L;refine aB func246 λW=>?_;refine aa 24 ?_;refine LG ?_;exact aM 6
 .rw[show(decide (0<=x/\x<7)&&(h.getD x.toNat false))=false by simp[t]];refine aB func246 λW=>?_;refine aa 14 ?_;refine ai.aU (λf=>?_) (λf=>?_);exact aM 17;exact aM 16
def aaL{pre d:ab aj}{o:Nat}{l:ab aD}{h:ab Bool}(b E:Nat)(w:je pre o l h):ar prog 135 [au b o] [cells b E (c3 pre l h n d)] (λr Y=>r=I n/\Y=[cells b E (c3 pre l h n d)]):=by have K:=c3.gR (post:=d) (n:=n) w;refine aB func135 λW=>?_;exact NA
def afU(r:aj)(o:r.oneCell'=true):ar prog 201 [r] [] (λv Y=>∃q,v=.func (.func 245) #[] #[au q 0]/\Y=[cells q 311 [r]]):=by refine aB func201 λW=>?_;exact Pq
def EU{pre d:ab aj}{o:Nat}{l:ab aD}{h:ab Bool}(q b E:Nat)(w:je pre o l h):pW prog 245 [au q 0] [cells q 311 [au b o],cells b E (c3 pre l h n d)] xG (fd l h) [cells q 311 [au b o],cells b E (c3 pre l h n d)]:=by
 intro y D G X S R z N;refine aB func245 λW=>?_;refine aa 6 ?_;refine ah.cb [0,1] (λy:Nat×D=>y.1<=7/\G (h5 l h y.1) y.2) (λy=>[(4,I (y.1:Int))]) (λy=>[S y.2]) (λy=>7-y.1) (0,R) ⟨ac,z⟩ ?_;rintro⟨k,f⟩⟨T,M⟩ K a;dsimp only at T M;refine bh ?_;have u:=nj l h k;by_cases r:k<7
 .have Z:=ET (n:=n) (d:=d) b E w (k:Int);rw[show decide (0<=(k:Int)/\(k:Int)<7)=true by simp;omega,pa,show((k:Int)).toNat=k by omega]at Z;cases t:h.getD k false with
  |false=>
   rw[t]at Z;rw[show im l h k=none by unfold im;rw[t];simp]at u;simp only[zO,dk]at u;refine aa 45 ?_;rotate_left;refine Out.t' a (k+1,f) ?_ ZB;exact ⟨ZM,by rw[u];exact M⟩
  |true=>
   rw[t]at Z;obtain⟨x,U⟩:=b8 (q:=l) (k:=k) (by rw[w.l];exact r);have L:im l h k=some (k,x):=by unfold im;rw[t,aT rfl,U];rfl
   rw[L]at u;simp only[u9]at u;obtain⟨j,i⟩:=ES r L;have Q:=N _ _ j f i M;have g:=c3.get (post:=d) (n:=n) w U;refine aa 30 ?_;refine ai.v (V.RL ad (k:=k) rfl rfl rfl) ?_;refine ai.v (V.Si ad (z:=c3.S7 w r) (g:=g)) ?_;refine ai.o (aw.Sx rfl rfl (Q) XC ?_);rintro p c⟨J,F,rfl,Y,C,rfl⟩;refine RD (λs=>?_) λs=>?_;refine aa 6 ?_
   .exact⟨_,_,⟨_,.inr ⟨h5 l h k++[(k,x)],⟨j,by rw[i];simp⟩,C XF⟩,rfl⟩,XC⟩
   refine aa 7 ?_;rotate_left;refine Out.t' a (k+1,_) ?_ ZB;exact ⟨ZM,by rw[u];exact Y XF⟩
 .obtain rfl:k=7:=by omega
  refine aa 12 ?_
  exact NF
def ae1{pre d:ab aj}{o:Nat}{l:ab Bool}{h:ab Bool}(b E:Nat)(w:kw pre o l h):ar prog 242 [au b o] [cells b E (dP (λz:Bool=>B z) pre l h n d)] (λr Y=>r=I n/\Y=[cells b E (dP (λz:Bool=>B z) pre l h n d)]):=by have K:=dP.gR (aR:=(λz:Bool=>B z)) (post:=d) (n:=n) w;refine aB func242 λW=>?_;exact NA
end Go.Proofs.YteogojgnkjegmaaGreatDoor
