/-
 Part of the proof.
-/
import Derived.Test.YteogojgnkjegmaaGreatDoorAm
set_option linter.all false
set_option maxRecDepth 8000
set_option maxHeartbeats 8000000
namespace Go.Proofs.YteogojgnkjegmaaGreatDoor
open Go.ay Go.Proofs.Tryz
variable{k:Nat}{Z:ab aD}
def aeQ(g n q:Nat)(l:ab ag)(u:l.length=n)(a b p:Nat)(Yg:a<=p)(Yf:p<b)(T:b<=n)(s:n<=1000000)(E:ax)(L:aj)(md:ag->ag->Int)(D:mc L E md):ar prog 213 [.slice (some ⟨g,0,none⟩) n q,I (a:Int),I (b:Int),I (p:Int),L] [eB g n q l,E] (λr J=>∃R:ab ag,∃t:Nat,a+1<=t/\t<=b/\R.Perm l/\r=I (t:Int)/\J=[eB g n q R,E]):=by
 unfold eB;have o:((a:Int)+1)=((a+1:Nat):Int):=ac
 have Y:((b:Int)-1)=((b-1:Nat):Int):=ac
 refine aE func213 λW=>?_;refine aa 5 ?_;refine ah.mt [0,1,2,4] (λeM:ab ag=>eM.Perm l) (λ_=>[]) (λeM=>[rows ag.c (.slice (some ⟨g,0,none⟩) n q) 46 2 eM]) (i:=[rows ag.c (.slice (some ⟨g,0,none⟩) n q) 46 2 l]) ?_ ?_
 .intro K h;have C:=u;obtain⟨x,U⟩:=cl (t:=l) (k:=a) ac;obtain⟨y,X⟩:=cl (t:=l) (k:=p) ac;refine NX ?_ ?_;refine NB ?_;rotate_left;refine Rx ?_;refine NB ?_;rotate_left;all_goals exact Out.z' h ((l.set a y).set p x) (lI U X) trivial
 intro d Ye;refine bl ?_;refine aa 3 ?_;refine ai.v (V.Uo o rfl rfl ac) ?_;refine au ?_;refine ai.v (V.Y' Y rfl rfl ac) ?_;refine aa 6 ?_;refine ah.cp [0,1,2,4] (λy:Nat×Nat×ab ag=>a+1<=y.1/\y.1<=b/\a<=y.2.1/\y.2.1<b/\y.2.2.Perm l) (λy=>[(11,I (y.1:Int)),(12,I (y.2.1:Int))]) (λy=>[rows ag.c (.slice (some ⟨g,0,none⟩) n q) 46 2 y.2.2]) (λy=>y.2.1+b-y.1) (a+1,b-1,d) ⟨cD _,by show a+1<=b;omega,by show a<=b-1;omega,by show b-1<b;omega,Ye⟩ ?_;rintro⟨i,j,M⟩⟨zh,vx,xF,B9,P⟩ K h;dsimp only at zh vx xF B9 P;refine bl ?_;have C:M.length=n:=by rw[P.length_eq,u]
 obtain⟨z,w⟩:=cl (t:=M) (k:=a) ac;refine aa 3 ?_;refine ah.cp [0,1,2,4,12] (λk:Nat=>i<=k/\k<=b) (λk=>[(11,I (k:Int))]) (λ_=>[]) (λk=>b-k) i ⟨cD _,vx⟩ ?_;rintro k⟨gF,g2⟩ fM N;refine bl ?_;have Q:((k:Int)+1)=((k+1:Nat):Int):=ac
 by_cases Yk:k<=j
 .obtain⟨x,U⟩:=cl (t:=M) (k:=k) ac;have Z:=D z x;by_cases Yj:md z x<0
  .clear N;refine Uf ?_;refine bE 34 ?_;refine TC ?_;refine TB ?_;refine aa 10 ?_;rotate_left;refine ah.cp [0,1,2,4,11] (λm:Nat=>a<=m/\m<=j) (λm=>[(12,I (m:Int))]) (λ_=>[]) (λm=>m) j ⟨xF,cD _⟩ ?_;rintro m⟨lh,lJ⟩ sW Yc;refine bl ?_;have F:((m:Int)-1)=((m-1:Nat):Int)\/m=0:=by omega
   by_cases Yi:k<=m
   .have F:((m:Int)-1)=((m-1:Nat):Int):=by omega
    obtain⟨y,X⟩:=cl (t:=M) (k:=m) ac;have G:=D z y;by_cases Yh:md z y<0
    .refine Uf ?_;refine bE 53 ?_;refine TC ?_;refine OW ?_;refine aa 8 ?_;refine KV ?_;rotate_left;exact TG
    .clear Yc;refine Uf ?_;refine bE 53 ?_;refine TC ?_;refine OW ?_;refine aa 20 ?_;refine Ss ?_ ?_;refine Nf ?_;refine aa 6 ?_;refine ai.v (V.Uo Q rfl rfl ac) ?_;refine aa 5 ?_;refine KV ?_;rotate_left;refine Rx ?_;refine Nf ?_;refine aa 6 ?_;refine ai.v (V.Uo Q rfl rfl ac) ?_;refine aa 5 ?_;refine KV ?_;rotate_left;all_goals(refine Out.z' h (k+1,m-1,(M.set k y).set m x) ?_ (by show m-1+b-(k+1)<j+b-i;omega);exact ⟨P2,QK,by show a<=m-1;omega,by show m-1<b;omega,(lI U X).trans P⟩)
   .clear Yc;refine Uf ?_;refine bE 53 ?_;refine ae 12 4 ?_;refine aa 19 ?_;refine Out.VM ?_;refine aa 11 ?_;rotate_left;exact⟨_,_,⟨M,k,ac,ac,P,rfl,rfl⟩,Uc⟩
  .refine Uf ?_;refine bE 34 ?_;refine TC ?_;refine TB ?_;refine aa 8 ?_;refine ai.v (V.Uo Q rfl rfl ac) ?_;refine aa 3 ?_;rotate_left;exact Tj
 .clear N;refine Uf ?_;refine bE 34 ?_;refine ae 13 4 ?_;refine aa 10 ?_;refine ah.cp [0,1,2,4,11] (λm:Nat=>m=j) (λm=>[(12,I (m:Int))]) (λ_=>[]) (λm=>m) j rfl ?_;rintro m rfl sW Yc;clear Yc;refine bl ?_;refine Uf ?_;refine bE 53 ?_;refine ae 12 4 ?_;refine aa 19 ?_;refine Out.VM ?_;refine aa 11 ?_;rotate_left;exact⟨_,_,⟨M,k,ac,ac,P,rfl,rfl⟩,Uc⟩
def acq(g n D:Nat)(l:ab ag)(Q:l.length=n)(a b p:Nat)(Yh:a<=p)(Yg:p<b)(T:b<=n)(s:n<=1000000)(E:ax)(L:aj)(md:ag->ag->Int)(G:mc L E md):ar prog 214 [.slice (some ⟨g,0,none⟩) n D,I (a:Int),I (b:Int),I (p:Int),L] [eB g n D l,E] (λr J=>∃d:ab ag,∃t:Nat,∃u:Bool,a<=t/\t<b/\d.Perm l/\r=.tuple #[I (t:Int),B u]/\J=[eB g n D d,E]):=by
 unfold eB;have o:((a:Int)+1)=((a+1:Nat):Int):=ac
 have Y:((b:Int)-1)=((b-1:Nat):Int):=ac
 refine aE func214 λW=>?_;refine aa 6 ?_;refine ah.mt [0,1,2,4] (λeM:ab ag=>eM.Perm l) (λ_=>[]) (λeM=>[rows ag.c (.slice (some ⟨g,0,none⟩) n D) 46 2 eM]) (i:=[rows ag.c (.slice (some ⟨g,0,none⟩) n D) 46 2 l]) ?_ ?_
 .intro K h;have C:=Q;obtain⟨x,U⟩:=cl (t:=l) (k:=a) ac;obtain⟨y,X⟩:=cl (t:=l) (k:=p) ac;refine NX ?_ ?_;refine NB ?_;rotate_left;refine Rx ?_;refine NB ?_;rotate_left;all_goals exact Out.z' h ((l.set a y).set p x) (lI U X) trivial
 intro M P;refine bl ?_;have C:M.length=n:=by rw[P.length_eq,Q]
 obtain⟨z,w⟩:=cl (t:=M) (k:=a) ac;refine aa 3 ?_;refine ai.v (V.Uo o rfl rfl ac) ?_;refine au ?_;refine ai.v (V.Y' Y rfl rfl ac) ?_;refine aa 6 ?_;refine ah.cp [0,1,2,4,13] (λk:Nat=>a+1<=k/\k<=b) (λk=>[(12,I (k:Int))]) (λ_=>[]) (λk=>b-k) (a+1) ⟨cD _,ac⟩ ?_;rintro k⟨gF,g2⟩ fM N;refine bl ?_;have q:((k:Int)+1)=((k+1:Nat):Int):=ac
 by_cases Yl:k<=b-1
 .obtain⟨x,U⟩:=cl (t:=M) (k:=k) ac;have Z:=G x z;by_cases Yk:md x z<0
  .refine Uf ?_;refine bE 35 ?_;refine N4 ?_;refine aa 8 ?_;refine ai.v (V.Uo q rfl rfl ac) ?_;refine aa 3 ?_;rotate_left;exact Tj
  .clear N;refine Uf ?_;refine bE 35 ?_;refine N4 ?_;refine aa 10 ?_;rotate_left;refine ah.cp [0,1,2,4,12] (λm:Nat=>a<=m/\m<=b-1) (λm=>[(13,I (m:Int))]) (λ_=>[]) (λm=>m) (b-1) ⟨ac,cD _⟩ ?_;rintro m⟨lh,lJ⟩ sW Yc;refine bl ?_;obtain⟨y,X⟩:=cl (t:=M) (k:=m) ac;by_cases Yj:k<=m
   .have F:((m:Int)-1)=((m-1:Nat):Int):=by omega
    have R:=G y z;by_cases Yi:md y z<0
    .clear Yc;refine Uf ?_;refine bE 53 ?_;refine TF ?_;refine aa 19 ?_;rotate_left;refine ah.mt [0,1,2,4,12,13] (λeM:ab ag=>eM.Perm l) (λ_=>[]) (λeM=>[rows ag.c (.slice (some ⟨g,0,none⟩) n D) 46 2 eM]) (i:=[rows ag.c (.slice (some ⟨g,0,none⟩) n D) 46 2 M]) ?_ ?_
     .intro K h;refine Ss ?_ ?_;refine Nf ?_;refine aa 2 ?_;rotate_left;refine Rx ?_;refine Nf ?_;refine aa 2 ?_;rotate_left;all_goals exact Out.z' h ((M.set k y).set m x) ((lI U X).trans P) trivial
     intro eM Ye;refine bl ?_;refine aa 3 ?_;refine ai.v (V.Uo q rfl rfl ac) ?_;refine aa 6 ?_;refine ai.v (V.Y' F rfl rfl ac) ?_;refine aa 5 ?_;refine ah.cp [0,1,2,4] (λy:Nat×Nat×ab ag=>a+1<=y.1/\y.1<=b/\a<=y.2.1/\y.2.1<b/\y.2.2.Perm l) (λy=>[(12,I (y.1:Int)),(13,I (y.2.1:Int))]) (λy=>[rows ag.c (.slice (some ⟨g,0,none⟩) n D) 46 2 y.2.2]) (λy=>y.2.1+b-y.1) (k+1,m-1,eM) ⟨P2,QK,by show a<=m-1;omega,by show m-1<b;omega,Ye⟩ ?_;rintro⟨i,j,qI⟩⟨zh,vx,xF,B9,Yf⟩ K h;dsimp only at zh vx xF B9 Yf;refine bl ?_;clear C;have C:qI.length=n:=by rw[Yf.length_eq,Q]
     obtain⟨z,w⟩:=cl (t:=qI) (k:=a) ac;refine aa 3 ?_;refine ah.cp [0,1,2,4,13] (λk:Nat=>i<=k/\k<=b) (λk=>[(12,I (k:Int))]) (λ_=>[]) (λk=>b-k) i ⟨cD _,vx⟩ ?_;rintro k⟨gF,g2⟩ fM N;refine bl ?_;have q:((k:Int)+1)=((k+1:Nat):Int):=ac
     by_cases Yl:k<=j
     .obtain⟨x,U⟩:=cl (t:=qI) (k:=k) ac;have Z:=G x z;by_cases Yk:md x z<0
      .refine Uf ?_;refine bE 108 ?_;refine N4 ?_;refine aa 8 ?_;refine ai.v (V.Uo q rfl rfl ac) ?_;refine aa 3 ?_;rotate_left;exact Tj
      .clear N;refine Uf ?_;refine bE 108 ?_;refine N4 ?_;refine aa 10 ?_;rotate_left;refine ah.cp [0,1,2,4,12] (λm:Nat=>a<=m/\m<=j) (λm=>[(13,I (m:Int))]) (λ_=>[]) (λm=>m) j ⟨xF,cD _⟩ ?_;rintro m⟨lh,lJ⟩ sW Yc;refine bl ?_;obtain⟨y,X⟩:=cl (t:=qI) (k:=m) ac;by_cases Yj:k<=m
       .have F:((m:Int)-1)=((m-1:Nat):Int):=by omega
        have R:=G y z;by_cases Yi:md y z<0
        .clear Yc;refine Uf ?_;refine bE 126 ?_;refine TF ?_;refine aa 20 ?_;refine Ss ?_ ?_;refine Nf ?_;refine aa 6 ?_;refine ai.v (V.Uo q rfl rfl ac) ?_;refine aa 5 ?_;refine KV ?_;rotate_left;refine Rx ?_;refine Nf ?_;refine aa 6 ?_;refine ai.v (V.Uo q rfl rfl ac) ?_;refine aa 5 ?_;refine KV ?_;rotate_left;all_goals(refine Out.z' h (k+1,m-1,(qI.set k y).set m x) ?_ (by show m-1+b-(k+1)<j+b-i;omega);exact ⟨P2,QK,by show a<=m-1;omega,by show m-1<b;omega,(lI U X).trans Yf⟩)
        .refine Uf ?_;refine bE 126 ?_;refine TF ?_;refine aa 8 ?_;refine KV ?_;rotate_left;exact TG
       .clear Yc;refine Uf ?_;refine bE 126 ?_;refine ae 13 4 ?_;refine aa 19 ?_;refine Out.VM ?_;refine aa 4 ?_;refine zz ?_ ?_;refine Q7 ?_;refine aa 12 ?_;rotate_left;refine SC ?_;refine Q7 ?_;refine aa 12 ?_;rotate_left;all_goals exact⟨_,_,⟨(qI.set m z).set a y,m,_,ac,ac,(lI X w).trans Yf,rfl,rfl⟩,Uc⟩
     .clear N;refine Uf ?_;refine bE 108 ?_;refine ae 12 4 ?_;refine aa 10 ?_;refine ah.cp [0,1,2,4,12] (λm:Nat=>m=j) (λm=>[(13,I (m:Int))]) (λ_=>[]) (λm=>m) j rfl ?_;rintro m rfl sW Yc;clear Yc;refine bl ?_;obtain⟨y,X⟩:=cl (t:=qI) (k:=m) ac;refine Uf ?_;refine bE 126 ?_;refine ae 13 4 ?_;refine aa 19 ?_;refine Out.VM ?_;refine aa 4 ?_;refine zz ?_ ?_;refine Q7 ?_;refine aa 12 ?_;rotate_left;refine SC ?_;refine Q7 ?_;refine aa 12 ?_;rotate_left;all_goals exact⟨_,_,⟨(qI.set m z).set a y,m,_,ac,ac,(lI X w).trans Yf,rfl,rfl⟩,Uc⟩
    .refine Uf ?_;refine bE 53 ?_;refine TF ?_;refine aa 8 ?_;refine KV ?_;rotate_left;exact TG
   .clear Yc;refine Uf ?_;refine bE 53 ?_;refine ae 13 4 ?_;refine aa 18 ?_;refine zz ?_ ?_;refine Q7 ?_;refine aa 13 ?_;rotate_left;refine SC ?_;refine Q7 ?_;refine aa 13 ?_;rotate_left;all_goals exact⟨_,_,⟨(M.set m z).set a y,m,_,ac,ac,(lI X w).trans P,rfl,rfl⟩,Uc⟩
 .clear N;refine Uf ?_;refine bE 35 ?_;refine ae 12 4 ?_;refine aa 10 ?_;refine ah.cp [0,1,2,4,12] (λm:Nat=>m=b-1) (λm=>[(13,I (m:Int))]) (λ_=>[]) (λm=>m) (b-1) rfl ?_;rintro m rfl sW Yc;clear Yc;refine bl ?_;obtain⟨y,X⟩:=cl (t:=M) (k:=b-1) ac;refine Uf ?_;refine bE 53 ?_;refine ae 13 4 ?_;refine aa 18 ?_;refine ah.n' ?_ aB.j.j;refine ae 6 0 ?_;refine af.i' 6 rfl (V.B' ad (k:=a) rfl rfl rfl rfl ac) ?_;refine ae 2 8 ?_;refine af.i' 10 rfl (V.B' ad (k:=b-1) rfl rfl rfl rfl ac) ?_;refine af.bv 7 11 rfl rfl ?_ ?_;refine av.x' (V.H' ad rfl T1 ag.len w) ?_;refine au ?_;refine af.q' 11 rfl (av.x' (V.H' ad rfl T1 ag.len X) ?_);refine au ?_;refine af.i' 12 rfl (V.B' ad (k:=b-1) rfl rfl rfl rfl ac) ?_;refine Q7 ?_;refine aa 13 ?_;rotate_left;refine av.x' (V.H' ad rfl T1 ag.len X) ?_;refine au ?_;refine af.q' 7 rfl (av.x' (V.H' ad rfl T1 ag.len w) ?_);refine au ?_;refine af.i' 12 rfl (V.B' ad (k:=b-1) rfl rfl rfl rfl ac) ?_;refine Q7 ?_;refine aa 13 ?_;rotate_left;all_goals exact⟨_,_,⟨(M.set (b-1) z).set a y,b-1,_,ac,ac,(lI X w).trans P,rfl,rfl⟩,Uc⟩
def afA(g n q:Nat)(x:n<=1000000)(E:ax)(k:aj)(h:ag->ag->Int)(D:mc k E h):∀(G a b:Nat) (Q:Int) (l:ab ag),l.length=n->a<=b->b<=n->b-a<=G->0<=Q->Q<=64->ar prog 150 [.slice (some ⟨g,0,none⟩) n q,I (a:Int),I (b:Int),I Q,k] [eB g n q l,E] (λr L=>∃ij:ab ag,ij.Perm l/\r=.tuple #[]/\L=[eB g n q ij,E]):=by
 intro G;induction G using Nat.strongRecOn with
 |ind G Hd=>
 intro a b Q l T R X M J Z;have t (a b:Nat) (Q:Int) (l:ab ag) (T:l.length=n) (Y:a<=b) (P:b<=n) (j:b-a<G) (gX:0<=Q) (kO:Q<=64):=Hd (b-a) j a b Q l T Y P (cD _) gX kO;clear Hd;unfold eB at*;refine aE func150 λW=>?_;refine aa 11 ?_;refine ah.cp [0,4] (λy:Nat×Nat×Int×Bool×Bool×ab ag=>y.1<=y.2.1/\y.2.1<=n/\y.2.1-y.1<=G/\0<=y.2.2.1/\y.2.2.1<=64/\y.2.2.2.2.2.Perm l) (λy=>[(1,I (y.1:Int)),(2,I (y.2.1:Int)),(3,I y.2.2.1),(10,B y.2.2.2.1),(11,B y.2.2.2.2.1)]) (λy=>[rows ag.c (.slice (some ⟨g,0,none⟩) n q) 46 2 y.2.2.2.2.2]) (λy=>y.2.1-y.1) (a,b,Q,true,true,l) ⟨R,X,M,J,Z,he _⟩ ?_;rintro⟨a,b,Q,pW,wp,i⟩⟨R,X,M,J,Z,d⟩ K C;dsimp only at R X M J Z d;refine bl ?_;have N:i.length=n:=LY
 have eE:((b:Int)-(a:Int))=((b-a:Nat):Int):=ac
 by_cases Yc:b-a<=12
 .clear C;have ib:=ahw g n q i N a b R X x E k h D;unfold eB at ib;refine aa 5 ?_;refine ai.v (V.Y' eE rfl rfl ac) ?_;refine aa 18 ?_;rintro _ _⟨Yf,m,rfl,rfl⟩;refine aa 9 ?_;rotate_left;refine⟨_,_,⟨_,?_,rfl,rfl⟩,Uc⟩;exact l3 TX d
 by_cases Ye:Q=0
 .clear C;have ib:=agR g n q i N a b ac X x E k h D;unfold eB at ib;refine aa 5 ?_;refine ai.v (V.Y' eE rfl rfl ac) ?_;refine aa 28 ?_;rintro _ _⟨Yg,F,rfl,rfl⟩;refine aa 9 ?_;rotate_left;refine⟨_,_,⟨_,?_,rfl,rfl⟩,Uc⟩;exact l3 TX d
 have u:a+12<b:=ac
 refine aa 5 ?_;refine ai.v (V.Y' eE rfl rfl ac) ?_;refine aa 23 ?_;refine ah.mt [0,1,2,4,10,11,12] (λy:Int×ab ag=>0<=y.1/\y.1<=64/\y.2.Perm l) (λy=>[(3,I y.1)]) (λy=>[rows ag.c (.slice (some ⟨g,0,none⟩) n q) 46 2 y.2]) (i:=[rows ag.c (.slice (some ⟨g,0,none⟩) n q) 46 2 i]) ?_ ?_
 .intro fM w;cases pW
  .have mN:=ahA g n q i N a b u X x E k h D;unfold eB at mN;refine aa 14 ?_;rintro _ _⟨Yh,f,rfl,rfl⟩;refine aa 8 ?_;refine Out.z' w (Q-1,_) ⟨by show 0<=Q-1;omega,by show Q-1<=64;omega,?_⟩ trivial;exact l3 TX d
  .refine aa 8 ?_;exact Out.z' w (Q,i) ⟨J,Z,d⟩ trivial
 clear J Z Ye d N;rintro⟨Q,i⟩⟨J,Z,d⟩;dsimp only at J Z d;refine bl ?_;have N:i.length=n:=LY
 have hz:=agb g n q i N a b u X x E k h D;unfold eB at hz;refine aa 7 ?_;rintro _ _⟨s,Yj,f,m,rfl,rfl⟩;refine aa 8 ?_;refine ah.mt [0,1,2,3,4,10,11,12] (λy:Nat×Int×ab ag=>a<=y.1/\y.1<b/\y.2.2.Perm l) (λy=>[(13,I (y.1:Int)),(14,I y.2.1)]) (λy=>[rows ag.c (.slice (some ⟨g,0,none⟩) n q) 46 2 y.2.2]) (i:=[rows ag.c (.slice (some ⟨g,0,none⟩) n q) 46 2 i]) ?_ ?_
 .intro fM w;have ew:=aik g n q i N a b ac X x E k h D;unfold eB at ew;have Y:((b:Int)-1)=((b-1:Nat):Int):=by omega
  have P:((s:Int)-(a:Int))=((s-a:Nat):Int):=ac
  have j:(((b-1:Nat):Int)-((s-a:Nat):Int))=((b-1-(s-a):Nat):Int):=ac
  refine T5 (λo=>?_) λo=>?_;refine aa 7 ?_;rintro _ _⟨Yi,m,rfl,rfl⟩;refine aa 6 ?_;refine RB ?_;refine ai.v (V.Y' P rfl rfl ac) ?_;refine ai.v (V.Y' j rfl rfl ac) ?_;refine aa 6 ?_;rotate_left;refine au ?_;rotate_left
  .refine Out.z' w (b-1-(s-a),1,_) ⟨by show a<=b-1-(s-a);omega,by show b-1-(s-a)<b;omega,?_⟩ trivial;exact l3 TX d
  .refine Out.z' w (s,_,i) ?_ trivial;exact ⟨TX,by show s<b;omega,d⟩
 clear d N hz;rintro⟨p,hint,i⟩⟨z,U,d⟩;dsimp only at z U d;refine bl ?_;have N:i.length=n:=LY
 refine ah.mt [0,1,2,3,4,10,11,12,13] (λeM:ab ag=>eM.Perm l) (λ_=>[]) (λeM=>[rows ag.c (.slice (some ⟨g,0,none⟩) n q) 46 2 eM]) (i:=[rows ag.c (.slice (some ⟨g,0,none⟩) n q) 46 2 i]) ?_ ?_
 .intro fM w;have kX:=agC g n q i N a b ac X x E k h D;unfold eB at kX;cases pW<;>cases wp
  exact PI
  exact PI
  exact PI
  .refine aa 12 ?_;refine ah.cs (λM=>?_) (λM=>?_);refine aa 7 ?_;refine Tq λc s m=>?_;refine ah.cs (λM=>?_) (λM=>?_);refine aa 6 ?_;rotate_left;refine au ?_;rotate_left;refine au ?_;rotate_left
   .refine⟨_,_,⟨_,?_,rfl,rfl⟩,Uc⟩;exact l3 TX d
   .refine Out.z' w _ ?_ trivial;exact l3 TX d
   .exact Out.z' w i d trivial
 clear d N;intro i d;refine bl ?_;have N:i.length=n:=LY
 have M:=aeQ g n q i N a b p z U X x E k h D;have P:=acq g n q i N a b p z U X x E k h D;unfold eB at M P;obtain⟨y,u⟩:=cl (t:=i) (k:=p) ac;refine ah.mt [0,1,2,3,4,12,13] (λ_:Unit=>True) (λ_=>[]) (λ_=>[]) ?_ ?_
 .intro fM w;by_cases c:0<a
  .have Y:((a:Int)-1)=((a-1:Nat):Int):=by omega
   obtain⟨x,U⟩:=cl (t:=i) (k:=a-1) ac;have N:=D x y;refine au ?_;refine ah.n' ?_ aB.d'.d';refine ae 3 0 ?_;refine bE 83 ?_;refine ae 3 3 ?_;refine af.i' 6 rfl (V.Y' Y rfl rfl ac) ?_;refine af.i' 7 rfl (V.B' ad (k:=a-1) rfl rfl rfl rfl ac) ?_;refine af.i' 8 rfl (V.H' ad rfl T1 ag.len U) ?_;refine ae 2 9 ?_;refine af.i' 11 rfl (V.B' ad (k:=p) rfl rfl rfl rfl ac) ?_;refine af.i' 12 rfl (V.H' ad rfl T1 ag.len u) ?_;refine af.q' 13 rfl (av.UG N rfl rfl Uc ?_);refine au ?_;refine ae 3 14 ?_;refine aa 2 ?_;refine Pr (λU=>?_) λU=>?_;rintro _ _⟨i,s,F,u,q,rfl,rfl⟩;refine aa 13 ?_;rotate_left;refine au ?_;rotate_left
   .refine Out.z' C (_,b,Q,_,_,_) ⟨by show _<=b;assumption,X,?_,J,Z,?_⟩ ?_
    .show b-_<=G;omega
    .exact l3 TX d
    .show b-_<b-a;omega
   .exact Out.z' w () trivial trivial
  .refine au ?_;refine ah.n' ?_ aB.d'.d';refine ae 3 0 ?_;refine bE 83 ?_;refine ae 14 3 ?_;refine aa 4 ?_;exact Out.z' w () trivial trivial
 rintro⟨⟩-;refine bl ?_;refine aa 8 ?_;rintro _ _⟨w,i,E,f,m,F,rfl,rfl⟩;refine aa 14 ?_;have q:w.Perm l:=l3 TX d;have y:w.length=n:=by rw[q.length_eq,T]
 have c:((i:Int)-(a:Int))=((i-a:Nat):Int):=ac
 have Y:((b:Int)-(i:Int))=((b-i:Nat):Int):=ac
 have z:((i:Int)+1)=((i+1:Nat):Int):=ac
 by_cases l:i-a<b-i
 .have K:=t a i Q w y ac ac ac J Z;refine aa 4 ?_;refine ai.v (V.Y' c rfl rfl ac) ?_;refine aa 2 ?_;refine ai.v (V.Y' Y rfl rfl ac) ?_;refine aa 35 ?_;rintro _ _⟨l,m,rfl,rfl⟩;refine aa 5 ?_;refine ai.v (V.Uo z rfl rfl ac) ?_;refine aa 3 ?_;rotate_left;refine Out.z' C (i+1,b,Q,_,E,_) ⟨by show i+1<=b;omega,X,by show b-(i+1)<=G;omega,J,Z,?_⟩ (by show b-(i+1)<b-a;omega);exact l3 TX q
 .have K:=t (i+1) b Q w y ac ac ac J Z;refine aa 4 ?_;refine ai.v (V.Y' c rfl rfl ac) ?_;refine aa 2 ?_;refine ai.v (V.Y' Y rfl rfl ac) ?_;refine aa 31 ?_;refine ai.v (V.Uo z rfl rfl ac) ?_;refine aa 4 ?_;rintro _ _⟨l,m,rfl,rfl⟩;refine aa 8 ?_;refine Out.z' C (a,i,Q,_,E,_) ⟨by show a<=i;omega,by show i<=n;omega,by show i-a<=G;omega,J,Z,?_⟩ (by show i-a<b-a;omega);exact l3 TX q
def Ca(g Q:Nat)(l:ab ag)(a:l.length<=1000000)(E:ax)(s:aj)(w:ag->ag->Int)(q:mc s E w):ar prog 107 [.slice (some ⟨g,0,none⟩) l.length Q,s] [eB g l.length Q l,E] (λr J=>∃X:ab ag,X.Perm l/\r=.tuple #[]/\J=[eB g l.length Q X,E]):=by
 have i:=B8 l.length ac;have c:Go.IntKind.u64.wrap ((l.length:Nat):Int)=((l.length:Nat):Int):=Tk
 have n:dr prog 151 [.int .u64 (Go.IntKind.u64.wrap ((l.length:Nat):Int))] (I (Go.Lib.bitLen l.length:Nat)):=by rw[c];exact i
 have k:Go.Lib.bitLen l.length<=64:=Go.Lib.bitLen_le _ 64 (cD _) ac;have T:=afA g l.length Q a E s w q l.length 0 l.length (Go.Lib.bitLen l.length:Nat) l rfl (cO _) (cD _) (cD _) ac ac;unfold eB at*;refine aE func107 λW=>?_;refine aa 11 ?_;refine ai.v (V.VU ad) ?_;refine aa 3 ?_;rintro _ _⟨s,E,rfl,rfl⟩;refine aa 3 ?_;refine⟨_,_,⟨_,?_,rfl,rfl⟩,Uc⟩;assumption
def aiS(s:aj)(Y:s.oneCell'=true):ar prog 107 [.slice none 0 0,s] [] (λr J=>r=.tuple #[]/\J=[]):=by
 have b:ar prog 207 [.slice none 0 0,I 0,I 0,s] [] (λr J=>r=.tuple #[]/\J=[]):=by refine aE func207 λW=>?_;refine aa 8 ?_;refine ah.cp [] (λ_:Unit=>True) (λ_=>[(8,I 1),(2,I 0)]) (λ_=>[]) (λ_=>0) () trivial ?_;rintro⟨⟩-K b;clear b;refine bl ?_;exact aP 14
 have T:ar prog 150 [.slice none 0 0,I 0,I 0,I 0,s] [] (λr J=>r=.tuple #[]/\J=[]):=by refine aE func150 λW=>?_;refine aa 11 ?_;refine ah.cp [] (λ_:Unit=>True) (λ_=>[(0,.slice none 0 0),(1,I 0),(2,I 0),(4,s)]) (λ_=>[]) (λ_=>0) () trivial ?_;rintro⟨⟩-K b;clear b;refine bl ?_;exact aP 33
 have i:dr prog 151 [.int .u64 (Go.IntKind.u64.wrap (0:Int))] (I 0):=B8 0 ac;refine aE func107 λW=>?_;refine aa 11 ?_;refine ai.v (V.VU ad) ?_;exact aP 6
def pm(st:Int)(o:aT aD)(m:aD):aT aD:=if decide (m.Status=st)&&(match o with|none=>true|some a=>fL a.b0 m.b0)then some m else o
def ao(st:Int)(Z:ab aD):aT aD:=Z.foldl (pm st) none
def He(st Z x):ao st (Z++[x])=pm st (ao st Z) x:=by simp[ao]
def Cb(st:Int)(Z:ab aD)(i:Nat)(m:aD):Prop:=Z[i]?=some m/\m.Status=st/\∀k o,Z[k]?=some o->o.Status=st->fL m.b0 o.b0=false/\¬(m.b0=o.b0/\k<i)
theorem aht{a b c:bm}(Y:fL a b=true)(N:fL b c=true):fL a c=true:=by rw[xc]at*;omega
theorem Hf{x o:aD}(h:(Z++[x])[k]?=some o):Z[k]?=some o/\k<Z.length\/k=Z.length/\o=x:=Uh
def Cc(st:Int)(Z:ab aD):match ao st Z with|none=>∀m∈Z,m.Status≠st|some a=>∃i,Cb st Z i a:=by
 suffices h:∀K:ab aD,match ao st K.reverse with|none=>∀m∈K.reverse,m.Status≠st|some a=>∃i,Cb st K.reverse i a by have:=h Z.reverse;grind
 intro K;induction K with
 |nil=>simp[ao]
 |cons y K d=>
  rw[List.reverse_cons,He];generalize K.reverse=j at*;cases v:ao st j with
  |none=>
   rw[v]at d;simp only at d;by_cases F:y.Status=st
   .simp only[pm,F,Cd,Bool.and_self,h7];refine⟨j.length,T3,F,λk o u p=>?_⟩;grind [Hf,List.mem_of_getElem,Bq]
   .simp only[pm,F,tD,sM,hM,iq];grind
  |some a=>
   rw[v]at d;simp only at d;obtain⟨i,l,Q,R⟩:=d;have c:=(cT.1 l).1;by_cases F:y.Status=st/\fL a.b0 y.b0=true
   .simp only[pm,F.1,F.2,Cd,Bool.and_self,h7];refine⟨j.length,T3,F.1,λk o u p=>?_⟩;rcases Hf u with⟨Y,R⟩|⟨Y,N⟩
    .grind [fL,aht]
    .grind [Bq]
   .have h:(decide (y.Status=st)&&fL a.b0 y.b0)=false:=by grind
    simp only[pm,h,hM,iq];refine⟨i,Uh,Q,λk o u p=>?_⟩;grind
def ai7(e:ax)(l:aT Go.Addr)(E b off:Nat)(Z:ab aD)(st:Int)(f:Rd e l Z.length b off 25 (Z.map aD.c)):ar prog 282 [.slice l Z.length E,I st] [e] (λr J=>r=.tuple #[A ((ao st Z).getD aD.z).c,B (ao st Z).isSome]/\J=[e]):=by
 have F:=f.small;simp only[Go.maxLen]at F;refine aE func282 λW=>?_;refine aq 2 λN=>?_;refine aq 5 λg=>?_;refine aa 16 ?_;refine ah.cp [11,10,6,4,1] (λi:Nat=>i<=Z.length) (λi=>[(12,I (i:Int)),(7,B (ao st (Z.take i)).isSome)]) (λi=>[cells g 176 ((ao st (Z.take i)).getD aD.z).c]) (λi=>Z.length-i) 0 (cO _) ?_;rintro i D K n;refine bl ?_;by_cases y:i<Z.length
 .obtain⟨x,U⟩:=cl y;have m:=lw U;have Y:ao st (Z.take (i+1))=pm st (ao st (Z.take i)) x:=by rw[m,He]
  generalize ao st (Z.take i)=o at*;cases o with
  |none=>
   by_cases Q:x.Status=st
   .have P:ao st (Z.take (i+1))=some x:=by grind [pm]
    refine aq 15 λt=>?_;refine aa 35 ?_;rotate_left;all_goals exact Out.z' n (i+1) Uk TY (z:=Rs) (t:=ML)
   .have P:ao st (Z.take (i+1))=none:=by grind [pm]
    refine aq 15 λt=>?_;refine aa 31 ?_;rotate_left;all_goals exact Out.z' n (i+1) Uk TY (z:=Rs) (t:=ML)
  |some a=>
   by_cases Q:x.Status=st
   .have v:=tI a.b0 x.b0;cases X:fL a.b0 x.b0 with
    |true=>
     rw[X]at v;have P:ao st (Z.take (i+1))=some x:=by grind [pm]
     refine aq 15 λt=>?_;refine aa 36 ?_;rotate_left;all_goals exact Out.z' n (i+1) Uk TY (z:=Rs) (t:=ML)
    |false=>
     rw[X]at v;have P:ao st (Z.take (i+1))=some a:=by grind [pm]
     refine aq 15 λt=>?_;refine aa 32 ?_;rotate_left;all_goals exact Out.z' n (i+1) Uk TY (z:=Rs) (t:=ML)
   .have P:ao st (Z.take (i+1))=some a:=by grind [pm]
    refine aq 15 λt=>?_;refine aa 31 ?_;rotate_left;all_goals exact Out.z' n (i+1) Uk TY (z:=Rs) (t:=ML)
 .obtain rfl:i=Z.length:=by omega
  rw[ir];clear n;exact aP 22
def Ce(st:Int)(m:aD)(i:Nat)(o:aD)(k:Nat):Bool:=decide (o.Status=st)&&(fL m.b0 o.b0||(decide (m.b0=o.b0)&&decide (k<i)))
def ab9{st:Int}{i:Nat}{m:aD}(U:Z[i]?=some m)(Q:m.Status=st):Cb st Z i m↔∀k,k<Z.length->∀o,Z[k]?=some o->Ce st m i o k=false:=by
 constructor
 .rintro⟨_,_,h⟩ k _ o p;grind [Ce]
 .intro h;refine⟨U,Q,λk o p Y=>?_⟩;have N:=h k (cT.1 p).1 o p;unfold Ce at N;grind
def j5(x:ag)(m:aD):Bool:=decide (m.Status=1)&&(m.cL&&decide (m.b0=⟨0,x.a1⟩))
def kY(x:ag)(Z:ab aD):ab aD:=if Z.any (λm=>decide (m.bh=x.a1))then[]else Z.filter (j5 x)
def zw(e:ax)(s:aT Go.Addr)(E b off:Nat)(Z:ab aD)(x:ag)(U:Z.length<=1000)(f:Rd e s Z.length b off 25 (Z.map aD.c)):ar prog 283 [A x.c,.slice s Z.length E] [e] (λr J=>∃v,r=v/\J=[rows aD.c v 176 25 (kY x Z),e]):=by
 refine aE func283 λW=>?_;refine ah.Ur aD.c 176 25 ?_;refine ah.Ur aD.c 176 25 ?_;refine aq 2 λp=>?_;refine aa 17 ?_;refine ah.cp [9,8,2] (λy:Nat×aj=>y.1<=Z.length/\(Z.take y.1).any (λm=>decide (m.bh=x.a1))=false) (λy=>[(10,I (y.1:Int)),(5,y.2)]) (λy=>[rows aD.c y.2 176 25 ((Z.take y.1).filter (j5 x))]) (λy=>Z.length-y.1) (0,.slice none 0 0) ⟨cO _,rfl⟩ ?_;rintro⟨i,v⟩⟨D,P⟩ K l;dsimp only at D P;refine bl ?_;by_cases k:i<Z.length
 .obtain⟨m,F⟩:=cl k;have n:=lw F;by_cases G:m.bh=x.a1
  .have j:kY x Z=[]:=by unfold kY;rw[aQ];rw[List.any_eq_true];exact⟨m,jX F,Oo⟩
   rw[j];refine aq 15 λu=>?_;exact aP 27
  .have M:(Z.take (i+1)).any (λm=>decide (m.bh=x.a1))=false:=by grind
   have X:=yY x.a1;have w:((Z.take i).filter (j5 x)).length<=1000:=jy (sP _ _) Uh;cases z:j5 x m with
   |true=>
    have C:(Z.take (i+1)).filter (j5 x)=(Z.take i).filter (j5 x)++[m]:=Uh
    unfold j5 at z;simp only[c5,dl]at z;obtain⟨Y,N,R⟩:=z;refine By λu=>?_;refine ae 4 4 ?_;refine af.aY 26 (λQ=>?_) (λQ=>?_);refine ae 5 8 ?_;refine af.i' 13 rfl (V.eq (bm.R' _ _ _)) ?_;refine ae 1 14 ?_;refine aq 6 λq=>?_;refine ai.o (O.U' ad rfl rfl T8 (cq.one ad T1 aD.F') (λd T=>?_));refine aa 8 ?_;rotate_left;exact absurd (iy (ih Q) TX:false=true) T6;all_goals exact Out.z' l (i+1,_) ⟨Uk,M⟩ TY (t:=Po)
   |false=>
    have C:(Z.take (i+1)).filter (j5 x)=(Z.take i).filter (j5 x):=Uh
    unfold j5 at z;simp only[KU,jZ]at z;by_cases Y:m.Status=1
    .cases N:m.cL with
     |false=>
      refine By λu=>?_;refine ae 4 4 ?_;refine af.aY 26 (λt=>?_) (λt=>?_);exact absurd (iy (ih t) TX:true=false) T6;refine ae 7 8 ?_;refine aa 10 ?_;rotate_left;all_goals exact Out.z' l (i+1,v) ⟨Uk,M⟩ TY (t:=Po)
     |true=>
      have R:¬m.b0=⟨0,x.a1⟩:=by
       rcases z with h|h|h
       .exact absurd Y h
       .rw[N]at h;cases h
       .exact h
      refine By λu=>?_;refine ae 4 4 ?_;refine af.aY 26 (λg=>?_) (λg=>?_);refine ae 5 8 ?_;refine af.i' 13 rfl (V.eq (bm.R' _ _ _)) ?_;refine ae 1 14 ?_;refine aa 10 ?_;rotate_left;exact absurd (iy (ih g) TX:false=true) T6;all_goals exact Out.z' l (i+1,v) ⟨Uk,M⟩ TY (t:=Po)
    .refine By λu=>?_;refine ae 11 4 ?_;refine aa 10 ?_;rotate_left;all_goals exact Out.z' l (i+1,v) ⟨Uk,M⟩ TY (t:=Po)
 .obtain rfl:i=Z.length:=by omega
  rw[ir]at P⊢;have j:kY x Z=Z.filter (j5 x):=by grind [kY]
  rw[j];clear l;exact aP 20
def du(pre:ab aj)(l:ab aD)(h:ab Bool)(n:Int)(post:ab aj):ab aj:=pre++(pb l h n++post)
structure j6(pre:ab aj)(o:Nat)(l:ab aD)(h:ab Bool):Prop where
 pre:pre.length=o
 l:l.length=7
 h:h.length=7
variable{pre post:ab aj}{o:Nat}{l:ab aD}{h:ab Bool}{n:Int}
theorem du.parts:du pre l h n post=pre++(l.flatMap aD.c++(h.map (λb=>B b)++([I n]++post))):=by grind [du,pb,List.append_assoc]
def sX(T:l.length=7):(l.flatMap aD.c).length=175:=by rw[Go.ay.kI aD.len,T]
def du.len(w:j6 pre o l h):(du pre l h n post).length=o+183+post.length:=by rw[du.parts];simp only[b2,sX w.l,eT,w.h,w.pre,dD,gv];omega
def du.has(w:j6 pre o l h){v:Bool}(u:h[k]?=some v):(du pre l h n post)[o+175+k*1]?=some (B v):=by
 have T:=(cT.1 u).1;have:=w.h;rw[du.parts,ji SW,w.pre,ji (by rw[sX w.l];omega),sX w.l,rh Uh,h9,
  show o+175+k*1-o-175=k by omega,u]
 rfl
def du.hA(w:j6 pre o l h):(du pre l h n post)[o+182]?=some (I n):=by
 have:=w.h;rw[du.parts,ji SW,w.pre,ji (by rw[sX w.l];omega),sX w.l,ji Uh,eT,
  show o+182-o-175-h.length=0 by omega]
 rfl
def tX{o:Nat}{p x y q:ab aj}(z:p.length=o)(U:x.length=y.length):eg o x (p++(y++q))=p++(x++q):=by subst z;rw[eg,ql,U,cn];grind
def vH{t:Type}{l:ab t}{a:t}(h:l[k]?=some a):l=l.take k++([a]++l.drop (k+1))/\(l.take k).length=k/\∀b,l.set k b=l.take k++([b]++l.drop (k+1)):=by
 have T:=(cT.1 h).1;refine⟨?_,Uh,λb=>?_⟩
 .have w:l.drop k=a::l.drop (k+1):=by rw[vr T];grind
  grind [List.take_append_drop]
 .grind [List.set_eq_take_append_cons_drop]
theorem du.WW(w:j6 pre o l h)(m:Int):bA (o+182) [I m] (du pre l h n post) (du pre l h m post):=⟨by
 have e:∀z:Int,du pre l h z post=(pre++(l.flatMap aD.c++h.map (λb=>B b)))++([I z]++post):=λz=>LI
 rw[e,e];exact tX (by simp only[b2,w.pre,sX w.l,eT,w.h]) rfl⟩
theorem du.VQ(w:j6 pre o l h)(u:k<7)(x:Bool):bA (o+175+k*1) [B x] (du pre l h n post) (du pre l (h.set k x) n post):=⟨by
 have F:k<h.length:=TI
 obtain⟨m,Y,P⟩:=vH (hs F);have e:∀z:Bool,du pre l (h.take k++([z]++h.drop (k+1))) n post=(pre++(l.flatMap aD.c++(h.take k).map (λb=>B b)))++([B z]++((h.drop (k+1)).map (λb=>B b)++([I n]++post))):=λz=>LI
 rw[P,e];conv=>lhs;rw[show du pre l h n post=du pre l (h.take k++([h[k]]++h.drop (k+1))) n post by rw[<-m],e]
 exact tX (by simp only[b2,w.pre,sX w.l,eT,Y];omega) rfl⟩
theorem du.Vk(w:j6 pre o l h)(u:k<7)(x:aD):bA (o+0+k*25) x.c (du pre l h n post) (du pre (l.set k x) h n post):=⟨by
 have F:k<l.length:=by rw[w.l];exact u
 obtain⟨m,Y,P⟩:=vH (hs F);have e:∀z:aD,du pre (l.take k++([z]++l.drop (k+1))) h n post=(pre++(l.take k).flatMap aD.c)++(z.c++((l.drop (k+1)).flatMap aD.c++(h.map (λb=>B b)++([I n]++post)))):=λz=>LI
 rw[P,e];conv=>lhs;rw[show du pre l h n post=du pre (l.take k++([l[k]]++l.drop (k+1))) h n post by rw[<-m],e]
 exact tX (by rw[b2,w.pre,Go.ay.kI aD.len,Y];omega) rfl⟩
theorem du.get(w:j6 pre o l h){x:aD}(u:l[k]?=some x):eZ (o+0+k*25) 25 (du pre l h n post) x.c:=⟨by
 obtain⟨b,Y,z⟩:=vH u;have e:du pre l h n post=(pre++(l.take k).flatMap aD.c)++(x.c++((l.drop (k+1)).flatMap aD.c++(h.map (λb=>B b)++([I n]++post)))):=LI
 have z:(pre++(l.take k).flatMap aD.c).length=o+0+k*25:=by rw[b2,w.pre,Go.ay.kI aD.len,Y];omega
 rw[e,jz,<-z,Bn];exact BP (aD.len x)⟩
def du.WX(w:j6 pre o l h):Nat.blt (o+182) (du pre l h n post).length=true:=by rw[mC,du.len w];omega
def du.WY(w:j6 pre o l h)(u:k<7):Nat.blt (o+175+k*1) (du pre l h n post).length=true:=by rw[mC,du.len w];omega
def du.VR(w:j6 pre o l h)(u:k<7):Nat.ble (o+0+k*25+25) (du pre l h n post).length=true:=by rw[Nat.ble_eq,du.len w];omega
def j6.Vk(w:j6 pre o l h)(k:Nat)(x:aD):j6 pre o (l.set k x) h:=⟨w.pre,by rw[co,w.l],w.h⟩
def j6.VQ(w:j6 pre o l h)(k:Nat)(x:Bool):j6 pre o l (h.set k x):=⟨w.pre,w.l,by rw[co,w.h]⟩
def zx(b E:Nat)(w:j6 pre o l h)(U:Int)(m:aD)(a:-100<=n/\n<=100):ar prog 238 [aw b o,I U,A m.c] [cells b E (du pre l h n post)] (λr J=>r=B (decide (0<=U/\U<7)&&!(h.getD U.toNat true))/\J=[cells b E (if 0<=U/\U<7/\h.getD U.toNat true=false then du pre (l.set U.toNat m) (h.set U.toNat true) (n+1) post else du pre l h n post)]):=by
 by_cases f:0<=U/\U<7
 .obtain⟨k,rfl⟩:∃k:Nat,U=(k:Int):=⟨U.toNat,ac⟩
  have u:k<7:=ac
  obtain⟨v,W⟩:=cl (t:=h) (k:=k) TI;have e:h.getD ((k:Int)).toNat true=v:=Uh
  rw[e,show((k:Int)).toNat=k by omega];have r:=du.has (post:=post) (n:=n) w W;cases v with
  |true=>
   rw[aM T3,show(decide (0<=(k:Int)/\(k:Int)<7)&&!true)=false by simp];refine aE func238 λW=>?_;refine aq 2 λg=>?_;refine aa 23 ?_;refine OD ?_;exact aP 12
  |false=>
   rw[aQ ⟨f.1,f.2,rfl⟩,show(decide (0<=(k:Int)/\(k:Int)<7)&&!false)=true by simp;omega];refine aE func238 λW=>?_;have j:=w.Vk k m;have Z:=j.VQ k true;have J:=du.hA (post:=post) (n:=n) Z;refine aq 2 λg=>?_;refine aa 23 ?_;refine OD ?_;refine aa 7 ?_;refine ah.n' ?_ aB.j.d';refine ae 7 0 ?_;refine af.i' 7 rfl (V.Us ad (k:=k) rfl rfl rfl) ?_;refine ae 2 9 ?_;refine af.q' 8 rfl (O.VX ad ?_ (j:=du.VR w u) (i:=du.Vk w u m));refine au ?_;refine af.i' 11 rfl (V.Us ad (k:=k) rfl rfl rfl) ?_;refine af.q' 12 rfl (O.K' ad ?_ (j:=du.WY j u) (i:=du.VQ j u true));refine aa 8 ?_;refine ai.v (V.C' ad (z:=J)) ?_;refine aa 3 ?_;refine ai.o (O.K' ad ?_ (j:=du.WX Z) (i:=du.WW Z (n+1)));exact aP 9
 .rw[aM ac,show(decide (0<=U/\U<7)&&!(h.getD U.toNat true))=false by simp;omega];refine aE func238 λW=>?_;refine aq 2 λg=>?_;refine aa 13 ?_;refine ai.aY (λJ=>?_) (λJ=>?_);exact aP 22;exact aP 23
end Go.Proofs.YteogojgnkjegmaaGreatDoor
namespace Go.Proofs.YteogojgnkjegmaaGreatDoor
open Go.ay Go.Proofs.Tryz
variable{k:Nat}{Y:Type}
def eu(aU:Y->aj)(pre:ab aj)(l:ab Y)(h:ab Bool)(n:Int)(post:ab aj):ab aj:=pre++((l.map aU++(h.map (λb=>B b)++[I n]))++post)
structure lK{Y:Type}(pre:ab aj)(o:Nat)(l:ab Y)(h:ab Bool):Prop where
 pre:pre.length=o
 l:l.length=7
 h:h.length=7
variable{aU:Y->aj}{pre post:ab aj}{o:Nat}{l:ab Y}{h:ab Bool}{n:Int}
def eu.parts:eu aU pre l h n post=pre++(l.map aU++(h.map (λb=>B b)++([I n]++post))):=by unfold eu;simp only[cn]
def tY(T:l.length=7):(l.map aU).length=7:=by rw[eT,T]
def eu.len(w:lK pre o l h):(eu aU pre l h n post).length=o+15+post.length:=by rw[eu.parts];simp only[b2,tY w.l,eT,w.h,w.pre,dD,gv];omega
def eu.has(w:lK pre o l h){v:Bool}(u:h[k]?=some v):(eu aU pre l h n post)[o+7+k*1]?=some (B v):=by
 have T:=(cT.1 u).1;have:=w.h;rw[eu.parts,ji SW,w.pre,ji (by rw[tY w.l];omega),tY w.l,rh (by rw[eT];omega),h9,
  show o+7+k*1-o-7=k by omega,u]
 rfl
def eu.hA(w:lK pre o l h):(eu aU pre l h n post)[o+14]?=some (I n):=by
 have:=w.h;rw[eu.parts,ji SW,w.pre,ji (by rw[tY w.l];omega),tY w.l,ji (by rw[eT];omega),eT,
  show o+14-o-7-h.length=0 by omega]
 rfl
theorem eu.WW(w:lK pre o l h)(m:Int):bA (o+14) [I m] (eu aU pre l h n post) (eu aU pre l h m post):=⟨by
 have e:∀z:Int,eu aU pre l h z post=(pre++(l.map aU++h.map (λb=>B b)))++([I z]++post):=λz=>by rw[eu.parts];simp only[cn]
 rw[e,e];exact tX (by simp only[b2,w.pre,tY w.l,eT,w.h]) rfl⟩
theorem eu.VQ(w:lK pre o l h)(u:k<7)(x:Bool):bA (o+7+k*1) [B x] (eu aU pre l h n post) (eu aU pre l (h.set k x) n post):=⟨by
 have F:k<h.length:=TI
 obtain⟨c,U,P⟩:=vH (hs F);have e:∀z:Bool,eu aU pre l (h.take k++([z]++h.drop (k+1))) n post=(pre++(l.map aU++(h.take k).map (λb=>B b)))++([B z]++((h.drop (k+1)).map (λb=>B b)++([I n]++post))):=λz=>by rw[eu.parts];simp only[cn,jo,e7,lU]
 rw[P,e];conv=>lhs;rw[show eu aU pre l h n post=eu aU pre l (h.take k++([h[k]]++h.drop (k+1))) n post by rw[<-c],e]
 exact tX (by simp only[b2,w.pre,tY w.l,eT,U];omega) rfl⟩
theorem eu.Vk(w:lK pre o l h)(u:k<7)(x:Y):bA (o+0+k*1) [aU x] (eu aU pre l h n post) (eu aU pre (l.set k x) h n post):=⟨by
 have F:k<l.length:=by rw[w.l];exact u
 obtain⟨c,U,P⟩:=vH (hs F);have e:∀z:Y,eu aU pre (l.take k++([z]++l.drop (k+1))) h n post=(pre++(l.take k).map aU)++([aU z]++((l.drop (k+1)).map aU++(h.map (λb=>B b)++([I n]++post)))):=λz=>by rw[eu.parts];simp only[cn,jo,e7,lU,dT,vl,ly]
 rw[P,e];conv=>lhs;rw[show eu aU pre l h n post=eu aU pre (l.take k++([l[k]]++l.drop (k+1))) h n post by rw[<-c],e]
 exact tX (by rw[b2,w.pre,eT,U];omega) rfl⟩
def eu.WX(w:lK pre o l h):Nat.blt (o+14) (eu aU pre l h n post).length=true:=Nu
def eu.WY(w:lK pre o l h)(u:k<7):Nat.blt (o+7+k*1) (eu aU pre l h n post).length=true:=Nu
def lK.Vk(w:lK pre o l h)(k:Nat)(x:Y):lK pre o (l.set k x) h:=⟨w.pre,by rw[co,w.l],w.h⟩
def lK.VQ(w:lK pre o l h)(k:Nat)(x:Bool):lK pre o l (h.set k x):=⟨w.pre,w.l,by rw[co,w.h]⟩
def eu.abk(w:lK pre o l h)(u:k<7):Nat.blt (o+0+k*1) (eu aU pre l h n post).length=true:=Nu
def Ol{l:ab Bool}(b E:Nat)(w:lK pre o l h)(U:Int)(m:Bool)(a:-100<=n/\n<=100):ar prog 241 [aw b o,I U,B m] [cells b E (eu (λb:Bool=>B b) pre l h n post)] (λr J=>r=B (decide (0<=U/\U<7)&&!(h.getD U.toNat true))/\J=[cells b E (if 0<=U/\U<7/\h.getD U.toNat true=false then eu (λb:Bool=>B b) pre (l.set U.toNat m) (h.set U.toNat true) (n+1) post else eu (λb:Bool=>B b) pre l h n post)]):=by
 by_cases f:0<=U/\U<7
 .obtain⟨k,rfl⟩:∃k:Nat,U=(k:Int):=⟨U.toNat,ac⟩
  have u:k<7:=ac
  obtain⟨v,W⟩:=cl (t:=h) (k:=k) TI;have e:h.getD ((k:Int)).toNat true=v:=Md
  rw[e,show((k:Int)).toNat=k by omega];have r:=eu.has (aU:=(λb:Bool=>B b)) (post:=post) (n:=n) w W;cases v with
  |true=>
   rw[aM T3,show(decide (0<=(k:Int)/\(k:Int)<7)&&!true)=false by simp];refine aE func241 λW=>?_;refine aa 25 ?_;refine OD ?_;exact aP 12
  |false=>
   rw[aQ ⟨f.1,f.2,rfl⟩,show(decide (0<=(k:Int)/\(k:Int)<7)&&!false)=true by simp;omega];refine aE func241 λW=>?_;have j:=w.Vk k m;have Z:=j.VQ k true;have J:=eu.hA (aU:=(λb:Bool=>B b)) (post:=post) (n:=n) Z;refine aa 25 ?_;refine OD ?_;refine aa 7 ?_;refine ah.n' ?_ aB.j;refine ae 7 0 ?_;refine af.i' 7 rfl (V.Us ad (k:=k) rfl rfl rfl) ?_;refine ae 2 9 ?_;refine af.q' 8 rfl (O.K' ad ?_ (j:=eu.abk w u) (i:=eu.Vk (aU:=(λb:Bool=>B b)) w u m));refine au ?_;refine af.i' 11 rfl (V.Us ad (k:=k) rfl rfl rfl) ?_;refine af.q' 12 rfl (O.K' ad ?_ (j:=eu.WY j u) (i:=eu.VQ j u true));refine aa 8 ?_;refine ai.v (V.C' ad (z:=J)) ?_;refine aa 3 ?_;refine ai.o (O.K' ad ?_ (j:=eu.WX Z) (i:=eu.WW Z (n+1)));exact aP 9
 .rw[aM ac,show(decide (0<=U/\U<7)&&!(h.getD U.toNat true))=false by simp;omega];refine aE func241 λW=>?_;refine Q8 (λZ=>?_) λZ=>?_;exact aP 22;exact aP 23
end Go.Proofs.YteogojgnkjegmaaGreatDoor
namespace Go.Proofs.YteogojgnkjegmaaGreatDoor
open Go.ay Go.Proofs.Tryz
variable{n:Int}
def i7{t:Type}(l:ab t)(h:ab Bool)(k:Nat):aT (Nat×t):=if h.getD k false=true then l[k]?.map λx=>(k,x)else none
def iW{t:Type}(l:ab t)(h:ab Bool)(k:Nat):ab (Nat×t):=(List.range k).filterMap (i7 l h)
def fD{t:Type}(l:ab t)(h:ab Bool):ab (Nat×t):=iW l h 7
def oL{t:Type}(l:ab t)(h:ab Bool)(k:Nat):iW l h (k+1)=iW l h k++(i7 l h k).toList:=by unfold iW;rw[tP,List.filterMap_append];cases K:i7 l h k<;>simp[K]
def Hg{g:Type}(l:ab g)(h:ab Bool)(k:Nat):∀d:Nat,∃t,iW l h (k+d)=iW l h k++t
 |0=>⟨[],T3⟩
 |d+1=>by obtain⟨t,j⟩:=Hg l h k d;exact⟨t++(i7 l h (k+d)).toList,by rw[show k+(d+1)=(k+d)+1 by omega,oL,j,cn]⟩
def Hh{t:Type}{l:ab t}{h:ab Bool}{k:Nat}{p:Nat×t}(u:k<7)(K:i7 l h k=some p):∃L,fD l h=iW l h k++p::L:=by obtain⟨t,j⟩:=Hg l h (k+1) (7-(k+1));rw[show k+1+(7-(k+1))=7 by omega]at j;refine⟨t,?_⟩;rw[fD,j,oL,K,cn];rfl
def zy(x:Nat×aD):ab aj:=[I (x.1:Int),A x.2.c]
def Hi{pre L:ab aj}{o:Nat}{l:ab aD}{h:ab Bool}(b E:Nat)(w:j6 pre o l h)(U:Int):ar prog 246 [aw b o,I U] [cells b E (du pre l h n L)] (λr J=>r=B (decide (0<=U/\U<7)&&h.getD U.toNat false)/\J=[cells b E (du pre l h n L)]):=by
 by_cases f:0<=U/\U<7
 .obtain⟨k,rfl⟩:∃k:Nat,U=(k:Int):=⟨U.toNat,ac⟩
  have u:k<7:=ac
  obtain⟨v,W⟩:=cl (t:=h) (k:=k) TI;have e:h.getD ((k:Int)).toNat false=v:=Md
  rw[e,show(decide (0<=(k:Int)/\(k:Int)<7)&&v)=v by simp[f]];have r:=du.has (post:=L) (n:=n) w W;refine aE func246 λW=>?_;refine aa 24 ?_;refine OD ?_;exact aP 6
 .rw[show(decide (0<=U/\U<7)&&(h.getD U.toNat false))=false by simp[f]];refine aE func246 λW=>?_;refine aa 14 ?_;refine ai.aY (λo=>?_) (λo=>?_);exact aP 17;exact aP 16
def ajv{pre L:ab aj}{o:Nat}{l:ab aD}{h:ab Bool}(b E:Nat)(w:j6 pre o l h):ar prog 135 [aw b o] [cells b E (du pre l h n L)] (λr J=>r=I n/\J=[cells b E (du pre l h n L)]):=by have J:=du.hA (post:=L) (n:=n) w;refine aE func135 λW=>?_;exact Pu
def aft(r:aj)(f:r.oneCell'=true):ar prog 201 [r] [] (λv J=>∃q,v=.func (.func 245) #[] #[aw q 0]/\J=[cells q 311 [r]]):=by refine aE func201 λW=>?_;exact R6
def Hj{pre z:ab aj}{o:Nat}{l:ab aD}{h:ab Bool}(q b E:Nat)(w:j6 pre o l h):rm prog 245 [aw q 0] [cells q 311 [aw b o],cells b E (du pre l h n z)] zy (fD l h) [cells q 311 [aw b o],cells b E (du pre l h n z)]:=by
 intro y M G X S D r j;refine aE func245 λW=>?_;refine aa 6 ?_;refine ah.cp [0,1] (λy:Nat×M=>y.1<=7/\G (iW l h y.1) y.2) (λy=>[(4,I (y.1:Int))]) (λy=>[S y.2]) (λy=>7-y.1) (0,D) ⟨ac,r⟩ ?_;rintro⟨k,Y⟩⟨u,T⟩ K m;dsimp only at u T;refine bl ?_;have g:=oL l h k;by_cases i:k<7
 .have f:=Hi (n:=n) (L:=z) b E w (k:Int);rw[show decide (0<=(k:Int)/\(k:Int)<7)=true by simp;omega,qu,show((k:Int)).toNat=k by omega]at f;cases L:h.getD k false with
  |false=>
   rw[L]at f;rw[show i7 l h k=none by unfold i7;rw[L];simp]at g;simp only[BX,dT]at g;refine aa 45 ?_;rotate_left;refine Out.z' m (k+1,Y) ?_ Qk;exact ⟨NC,by rw[g];exact T⟩
  |true=>
   rw[L]at f;obtain⟨x,U⟩:=cl (t:=l) (k:=k) (by rw[w.l];exact i);have F:i7 l h k=some (k,x):=by unfold i7;rw[L,aQ rfl,U];rfl
   rw[F]at g;simp only[w4]at g;obtain⟨N,P⟩:=Hh i F;have Q:=j _ _ N Y P T;have a:=du.get (post:=z) (n:=n) w U;refine aa 30 ?_;refine ai.v (V.Us ad (k:=k) rfl rfl rfl) ?_;refine ai.v (V.UY ad (z:=du.VR w i) (j:=a)) ?_;refine ai.o (av.Vd rfl rfl (Q) Uc ?_);rintro s p⟨J,C,rfl,R,t,rfl⟩;refine PD (λc=>?_) λc=>?_;refine aa 6 ?_
   .exact⟨_,_,⟨_,.inr ⟨iW l h k++[(k,x)],⟨N,by rw[P];simp⟩,t TX⟩,rfl⟩,Uc⟩
   refine aa 7 ?_;rotate_left;refine Out.z' m (k+1,_) ?_ Qk;exact ⟨NC,by rw[g];exact R TX⟩
 .obtain rfl:k=7:=by omega
  refine aa 12 ?_
  .exact⟨_,_,⟨Y,.inl T,rfl⟩,Uc⟩
def ajH{pre L:ab aj}{o:Nat}{l:ab Bool}{h:ab Bool}(b E:Nat)(w:lK pre o l h):ar prog 242 [aw b o] [cells b E (eu (λz:Bool=>B z) pre l h n L)] (λr J=>r=I n/\J=[cells b E (eu (λz:Bool=>B z) pre l h n L)]):=by have J:=eu.hA (aU:=(λz:Bool=>B z)) (post:=L) (n:=n) w;refine aE func242 λW=>?_;exact Pu
end Go.Proofs.YteogojgnkjegmaaGreatDoor
