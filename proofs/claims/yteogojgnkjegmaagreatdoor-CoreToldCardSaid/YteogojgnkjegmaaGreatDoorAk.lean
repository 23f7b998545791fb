/-
 Part of the proof.
-/
import Derived.Test.YteogojgnkjegmaaGreatDoorAj
set_option linter.all false
set_option maxRecDepth 8000
set_option maxHeartbeats 8000000
namespace Go.Proofs.YteogojgnkjegmaaGreatDoor
open Go.az Go.Proofs.Tryz
def Ou(n:Int):ar prog 51 [I n] [] (λv J=>∃b,v=av b 0/\J=[eG aY.c 169 54 20 b (List.replicate 7 (.slice none 0 0)) (List.replicate 7 (.slice none 0 0)) (aL.new n:aL aY)]):=by
 have h:ar prog 51 [I n] [] (λv J=>∃b,v=av b 0/\J=[cells b 169 (cA (List.replicate 7 (.slice none 0 0)) (List.replicate 7 (.slice none 0 0)) (aL.new n:aL aY))]):=by refine aF func51 λW=>?_;refine aq 11 λo=>?_;exact aQ 5
 refine FC λb W D w v=>?_;have Y:=H.sl aY.c 54 20 7 (H.sl fq 4 1 7 v);exact NB
def H2(b:Nat)(d Z:ab aj)(p:aL aY)(M:Int)(s:p.wf)(t:d.length=7)(U:Z.length=7):ar prog 81 [av b 0,I M] [eG aY.c 169 54 20 b d Z p] (λr J=>r=I (p.top M:Int)/\J=[eG aY.c 169 54 20 b d Z p]):=by
 by_cases g:0<=M/\M<p.aE
 .obtain⟨k,rfl⟩:=ru g.1;have am:=s.am;have z:=s.nZ;have P:=s.n0;obtain⟨v,l⟩:=cl (g:=d) (k:=k) ac;obtain⟨u,Q⟩:=cl (g:=Z) (k:=k) ac;have w:=eG.open (f:=aY.c) (B:=169) (E:=54) (aM:=20) (b:=b) (p:=p) l Q ac ac;have aR:=cA.v (us:=Z.set k u) (p:=p) (v:=v) (show k<d.length by omega);refine ar.eqv w (R:=λr J=>r=I (p.top k:Int)/\J=gC aY.c 169 54 20 b d Z p k v u (p.x k) (p.h k)) ?_ L6;have L:(p.top k:Int)=(p.x k).length:=by simp[aL.top,g.1,g.2]
  rw[L];unfold gC;refine aF func81 λW=>?_;refine RW (λo=>?_) λo=>?_;(exfalso;omega);refine aa 4 ?_;refine ai.v (V.F' ad (z:=cA.r)) ?_;refine US (λY=>?_) λY=>?_;(exfalso;omega);refine aa 8 ?_;refine ai.v (V.aaM ad rfl rfl) ?_;refine ai.v (V.F' ad (z:=aR)) ?_;exact aQ 6
 .have L:(p.top M:Int)=0:=by simp[aL.top,g]
  rw[L];refine ar.eqv eG.bare (R:=λr J=>r=I 0/\J=[cells b 169 (cA d Z p),hw aY.c 54 20 d p.xs,hw fq 4 1 Z p.bV]) ?_ PR;refine aF func81 λW=>?_;refine RW (λo=>?_) λo=>?_;exact aQ 18;refine aa 4 ?_;refine ai.v (V.F' ad (z:=cA.r)) ?_;exact aQ 13
def Du:aT aY->aj
 |none=>.tuple #[A aY.z.c,B false]
 |some t=>.tuple #[A t.c,B true]
def H3(b:Nat)(d N:ab aj)(p:aL aY)(x:ag)(s:p.wf)(t:d.length=7)(Z:N.length=7):ar prog 53 [av b 0,A x.c] [eG aY.c 169 54 20 b d N p] (λr J=>r=Du (p.at x)/\J=[eG aY.c 169 54 20 b d N p]):=by
 by_cases G:bt x p.aE=true
 .have D:dH prog 82 [A x.c,I p.aE] (B true):=G▸n1 x p.aE;simp only[bt,c1,cO]at G;obtain⟨k,k1⟩:=ru G.1.1.1;have T:x.a1.toNat=k:=by omega
  have am:=s.am;have nZ:=s.nZ;have n0:=s.n0;have Q:=s.same k;obtain⟨v,a⟩:=cl (g:=d) (k:=k) ac;obtain⟨u,Yc⟩:=cl (g:=N) (k:=k) ac;have w:=eG.open (f:=aY.c) (B:=169) (E:=54) (aM:=20) (b:=b) (p:=p) a Yc ac ac;refine Mp λaR tK=>?_;refine ar.eqv w (R:=λr J=>r=Du (p.at x)/\J=gC aY.c 169 54 20 b d N p k v u (p.x k) (p.h k)) ?_ L6;have L:p.at x=if(p.h k).getD (x.bX-1).toNat false=true then some ((p.x k).getD (x.bX-1).toNat default)else none:=N8
  rw[L];unfold gC;refine aF func53 λW=>?_;by_cases m:((p.x k).length:Int)<x.bX
  .have:(p.h k).getD (x.bX-1).toNat false=false:=by rw[hn,qE (by rw[<-Q];omega)];rfl
   rw[this];exact Rp
  .refine ah.form (f:=fq) (v:=u) (l:=p.h k) VF (λo Y=>?_) (λg q Yf=>?_)
   .have:(p.x k).length=0:=by rw[Q,Y];rfl
    omega
   refine ah.form (f:=aY.c) (v:=v) (l:=p.x k) VF (λo Y=>?_) (λC K F=>?_)
   .have:(p.x k).length=0:=by rw[Y];rfl
    omega
   subst Yf F;obtain⟨X,Ye⟩:=cl (g:=p.h k) (k:=(x.bX-1).toNat) ac;obtain⟨i,P⟩:=cl (g:=p.x k) (k:=(x.bX-1).toNat) ac;have y:(p.h k).getD (x.bX-1).toNat false=X:=by rw[hn,Ye];rfl
   have U:(p.x k).getD (x.bX-1).toNat default=i:=by rw[hn,P];rfl
   rw[y,U];cases X
   exact dV
   exact O2
 .have D:dH prog 82 [A x.c,I p.aE] (B false):=by
   have j:bt x p.aE=false:=MC
   exact j▸n1 x p.aE
  have L:p.at x=none:=by simp[aL.at,G]
  rw[L];refine ar.eqv eG.bare (R:=λr J=>r=Du none/\J=[cells b 169 (cA d N p),hw aY.c 54 20 d p.xs,hw fq 4 1 N p.bV]) ?_ PR;refine aF func53 λW=>?_;exact U1
def alk(b:Nat)(d s:ab aj)(p:aL aY)(x:ag)(t:aY)(Z:p.wf)(dO:d.length=7)(hu:s.length=7):ar prog 143 [av b 0,A x.c,A t.c] [eG aY.c 169 54 20 b d s p] (λr J=>∃j w,j.length=7/\w.length=7/\r=B (bt x p.aE)/\J=[eG aY.c 169 54 20 b j w (p.set x t)]):=by
 by_cases P:bt x p.aE=true
 .refine Oy λdA D=>?_
  rw[D];simp only[bt,c1,cO]at P;obtain⟨k,k1⟩:=ru P.1.1.1;have ca:x.a1.toNat=k:=ac
  rw[ca];have am:=Z.am;have nZ:=Z.nZ;have n0:=Z.n0;have bV:=Z.same k;have Yp:=Z.pr k;obtain⟨v,Yg⟩:=cl (g:=d) (k:=k) ac;obtain⟨u,Yh⟩:=cl (g:=s) (k:=k) ac;have mX:=eG.open (f:=aY.c) (B:=169) (E:=54) (aM:=20) (b:=b) (p:=p) Yg Yh ac ac;refine ar.eqv mX (R:=λr J=>∃ez j0,r=B true/\J=gC aY.c 169 54 20 b d s p k ez j0 ((hK (p.x k) x.bX.toNat default).set (x.bX-1).toNat t) ((hK (p.h k) x.bX.toNat false).set (x.bX-1).toNat true)) ?_ Vv
  unfold gC;refine aF func143 λW=>?_;have Yj:∀{n:dF} {M:bJ} {Q:da} {c:Go.Code},(((p.x k).length=0\/∃g q N i,v=.slice (some ⟨g,0,none⟩) (p.x k).length q/\u=.slice (some ⟨N,0,none⟩) (p.h k).length i)->ah prog none W (br (gC aY.c 169 54 20 b d s p k v u (p.x k) (p.h k))) n Q c M (gC aY.c 169 54 20 b d s p k v u (p.x k) (p.h k)))->ah prog none W (br (gC aY.c 169 54 20 b d s p k v u (p.x k) (p.h k))) n Q c M (gC aY.c 169 54 20 b d s p k v u (p.x k) (p.h k)):=by intro n M Q c h;refine ah.form (f:=aY.c) (v:=v) (l:=p.x k) OB (λ_ bf=>h (.inl (by rw[bf];rfl))) (λN i Yf=>?_);refine ah.form (f:=fq) (v:=u) (l:=p.h k) OB (λ_ bf=>h (.inl (by rw[bV,bf];rfl))) (λg q Yi=>h (.inr ⟨_,_,_,_,Yf,Yi⟩))
  refine Yj λYo=>?_;clear Yj;refine O8 λU Ym F=>?_
  have o:∀{a b de},bH (8+k*1) [de] (cA (d.set k a) (s.set k b) p) (cA (d.set k a) (s.set k de) p):=λ{a b de}=>⟨cA.ZS OU ac⟩
  have L:∀{a b},b.length=7->Nat.blt (1+k*1) (cA (d.set k a) b p).length=true:=λ{a b} bN=>TJ
  have z:∀{a b},Nat.blt (8+k*1) (cA (d.set k a) (s.set k b) p).length=true:=λ{a b}=>TJ
  have T:∀{b},(s.set k b).length=7:=λ{b}=>Mj
  refine Q2 λfO n2=>?_;refine ah.p' ?_ aC.d'.d'.d'.d'.d'.d'.j;refine QY ?_;refine ae 3 8 ?_;refine aa 7 ?_;refine ah.cq [5,4,0] (λy:aj×aj×ab aY×ab Bool=>(∃m,y.2.2.1=p.x k++List.replicate m default/\y.2.2.2=p.h k++List.replicate m false/\(m=0\/(((p.x k).length+m:Nat):Int)<=x.bX))/\
    (y.2.2.1.length=0\/∃g q N i,y.1=.slice (some ⟨g,0,none⟩) y.2.2.1.length q/\y.2.1=.slice (some ⟨N,0,none⟩) y.2.2.2.length i)) (λy=>[])
   (λy=>[cells b 169 (cA (d.set k y.1) (s.set k y.2.1) p),rows aY.c y.1 54 20 y.2.2.1,rows fq y.2.1 4 1 y.2.2.2]) (λy=>x.bX.toNat-y.2.2.1.length) (v,u,p.x k,p.h k) ⟨⟨0,VK,VK,.inl rfl⟩,Yo⟩ ?_
  rintro⟨ez,j0,X,qF⟩⟨⟨m,jp,cr,dI⟩,dq⟩ K cJ;dsimp only at jp cr dI dq;refine bh ?_;have yb:X.length=(p.x k).length+m:=by rw[jp];simp
  have G8:qF.length=X.length:=by rw[cr,yb];simp[bV]
  by_cases Yc:(X.length:Int)<x.bX
  .refine OD λnv=>?_;refine af.bx 14 23 rfl rfl ?_ ?_;refine O.V' ad aY.c [_] rfl (bP.agg rfl bP.nil) rfl rfl (λYq=>?_);refine au ?_;refine af.bx 15 23 rfl rfl ?_ ?_;refine O.Z' ad rfl rfl Vz (cz.rows ad VF aY.J') (λYn C=>?_);refine au ?_;refine dr 23 λYk=>?_;refine NK λYl Y=>?_;rotate_left;refine O.lit ad (λYk=>?_);refine au ?_;refine af.y' 15 rfl (O.Z' ad rfl rfl Vz (cz.rows ad VF aY.J') (λYn C=>?_));refine au ?_;refine NK λYl Y=>?_;rotate_left;refine O.lit ad (λYk=>?_);refine au ?_;refine af.y' 14 rfl (O.V' ad aY.c [_] rfl (bP.agg rfl bP.nil) rfl rfl (λYq=>?_));refine au ?_;refine af.y' 15 rfl (O.Z' ad rfl rfl Vz (cz.rows ad VF aY.J') (λYn C=>?_));refine au ?_;refine NK λYl Y=>?_;rotate_left;all_goals exact Out.C' cJ (_,_,X++[default],qF++[false]) ⟨⟨m+1,by rw[wA,<-jp],by rw[wA,<-cr],.inr RG⟩,.inr ⟨_,_,_,_,rfl,rfl⟩⟩ VG
  .have Yr:X=hK (p.x k) x.bX.toNat default:=by rw[jp];exact wz ac ac
   have Ye:qF=hK (p.h k) x.bX.toNat false:=Rz
   rw[<-Yr,<-Ye];rcases dq with dq|⟨g,q,N,i,rfl,rfl⟩
   .omega
   .refine NH ?_;refine af.y' 22 rfl (O.N' ad (f:=aY.c) (a:=t) rfl rfl VS rfl ac aY.len aY.J' ?_);refine Nd ?_
    exact Mx
 .have G:bt x p.aE=false:=by simpa using P
  refine Pb λdA D=>?_
  rw[D,G];refine ar.eqv eG.bare (R:=λr J=>r=B false/\J=[cells b 169 (cA d s p),hw aY.c 54 20 d p.xs,hw fq 4 1 s p.bV]) ?_ OW;refine aF func143 λW=>?_;exact Eo
def Dv(r:aj)(g:r.oneCell'=true):ar prog 52 [r] [] (λv J=>∃q,v=.func (.func 80) #[] #[av q 0]/\J=[cells q 117 [r]]):=by refine aF func52 λW=>?_;exact Ve
def encI(x:ag×aY):ab aj:=[A x.1.c,A x.2.c]
def Ow(q b:Nat)(R U:ab aj)(p:aL aY)(h:p.wf)(z:R.length=7)(Y:U.length=7):sg prog 80 [av q 0] [cells q 117 [av b 0],eG aY.c 169 54 20 b R U p] encI p.all [cells q 117 [av b 0],eG aY.c 169 54 20 b R U p]:=by
 intro l u G X S j D f;refine aF func80 λW=>?_;refine aa 6 ?_;refine ah.cq [0,1] (λy:Nat×u=>y.1<=7/\G (p.upto y.1) y.2) (λy=>[(8,I (y.1:Int))]) (λy=>[S y.2]) (λy=>7-y.1) (0,j) ⟨ac,D⟩ ?_;rintro⟨k,s⟩⟨T,M⟩ K i;dsimp only at T M;refine bh ?_;by_cases C:k<7
 .have r:=H2 b R U p (k:Int) h z Y;refine aa 23 ?_;rotate_left;refine ah.cq [3,8,0,1] (λy:Nat×u=>y.1<=p.top k/\G (p.upto k++p.row k y.1) y.2) (λy=>[(4,I ((y.1:Int)+1))]) (λy=>[S y.2]) (λy=>p.top k-y.1) (0,s) ⟨ac,by simpa[aL.row]using M⟩ ?_;rintro⟨m,J⟩⟨F,v⟩ L n;dsimp only at F v;refine bh ?_;by_cases x:m<p.top k
  .have P:=H3 b R U p ⟨(k:Int),(m:Int)+1⟩ h z Y;have d:=aL.Zw p k m;have Yf:p.top k<=64:=by
    unfold aL.top;split
    .exact h.pr _
    .omega
   cases Q:p.at ⟨(k:Int),(m:Int)+1⟩with
   |none=>
    rw[Q]at P d;simp only[Option.map_none,Dw,db]at d;refine aq 21 λa=>?_;refine aq 12 λZ=>?_;refine aa 25 ?_;rotate_left;exact Out.C' n (m+1,J) ⟨by show m+1<=_;omega,by rw[d];exact v⟩ (by show p.top k-(m+1)<p.top k-m;omega)
   |some t=>
    obtain⟨w,N⟩:=aL.acP p C x Q;rw[Q]at P d;simp only[p2,x6]at d;have E:=f _ _ w J N v;refine aq 21 λa=>?_;refine aq 12 λZ=>?_;refine aa 11 ?_;refine ai.o (aw.WX rfl rfl (E) VH ?_);rintro vc ahC⟨Yg,Yh,rfl,g,Yc,rfl⟩;refine Si (λYe=>?_) λYe=>?_;refine aa 10 ?_
    .exact⟨_,_,⟨_,.inr ⟨p.upto k++p.row k m++[(⟨(k:Int),(m:Int)+1⟩,t)],⟨w,by rw[N];simp⟩,Yc VV⟩,rfl⟩,VH⟩
    refine aa 8 ?_;rotate_left;exact Out.C' n (m+1,_) ⟨by show m+1<=_;omega,by rw[d,<-ck];exact g VV⟩ (by show p.top k-(m+1)<p.top k-m;omega)
  .obtain rfl:m=p.top k:=by omega
   refine aa 22 ?_;exact Out.C' i (k+1,J) ⟨BI,by rw[aL.XM];exact v⟩ Mn
 .obtain rfl:k=7:=by omega
  refine aa 12 ?_
  .exact⟨_,_,⟨s,.inl M,rfl⟩,VH⟩
end Go.Proofs.YteogojgnkjegmaaGreatDoor
namespace Go.Proofs.YteogojgnkjegmaaGreatDoor
open Go.az Go.Proofs.Tryz
variable[Go.az.b5]
def H4(n:Int):dH prog 44 [I n] (B (decide (n=3\/n=5\/n=7))):=by
 refine aF func44 λW=>?_;refine OK (λX=>?_) λX=>?_;refine aa 12 ?_;rotate_left;refine RJ (λT=>?_) λT=>?_;refine aa 8 ?_;rotate_left;refine aa 8 ?_;rotate_left
 .exact c7 B (iq ac).symm
 .exact c7 B (iq ac).symm
 .exact c7 B (dR.2 ac)
abbrev eH:=ag×aY
def k5(n:Int)(l:ab eH):Prop:=∀y,y∈l->bt y.1 n=true/\ff y.2 n=true
def cp(l:ab eH):ab aS:=l.flatMap λy=>gb y.1 y.2
def m1(l:ab eH):ab (ab aS):=l.map λy=>m0 y.1 y.2
def H5(l:ab eH):cp l=pv (m1 l):=by
 induction l with
 |nil=>rfl
 |cons y l X=>
  rw[cp,fW,<-cp,X];show _=pv (m0 y.1 y.2::m1 l)
  rw[Au];rfl
def rF(l m:ab eH):cp (l++m)=cp l++cp m:=by simp[cp]
def aiO{n:Int}(c:n<=7){l:ab eH}(h:k5 n l):∀t,t∈m1 l->t.length<=16384:=by intro t f;obtain⟨y,C,rfl⟩:=dQ.1 f;have:=Aw c (h y C).1 (h y C).2;omega
def alr{n:Int}(c:n<=7){l:ab eH}(h:k5 n l):(cp l).length<=105*l.length:=by
 induction l with
 |nil=>simp[cp]
 |cons y l X=>
  have Y:=yA c (h y VK).1 (h y VK).2;have Z:=X λx U=>h x Ti;rw[cp,fW,<-cp,bQ,df];omega
def H6:∀(N:ab (ab aS)) (p cf:ab aS) (f:Nat),(g6 cf).2=0->(∀t,t∈N->t.length<=16384)->N.length<f->tN (p++(pv N++cf)) f p.length=kI p.length N
 |[],p,cf,f+1,j,_,_=>by rw[tN,show pv []=[]from rfl,g4,z7,aJ j];rfl
 |t::N,p,cf,f+1,j,h,l=>by have o:=h t VK;have u:=Do o;rw[tN,z7,Au,ck,HS o,aG (by show¬((he t).length:Int)=0;omega)];simp only[hY];rw[kI];have:=H6 N (p++he t) cf f j (λx U=>h x Ti) (by simp at l;omega);rw[ck,bQ]at this;rw[this]
 |_::_,_,_,0,_,_,h=>VT
 |[],_,_,0,_,_,h=>VT
def ahm{N:ab (ab aS)}{cf:ab aS}(j:(g6 cf).2=0)(h:∀t,t∈N->t.length<=16384):yj (pv N++cf)=kI 0 N:=by have:=H6 N [] cf ((pv N++cf).length+1) j h (by have:=ah1 h;rw[bQ];omega);simpa[yj]using this
def H7:∀(a b:ab (ab aS)) (i:Nat),kI i (a++b)=kI i a++kI (i+(pv a).length) b
 |[],b,i=>by simp[kI,pv]
 |t::a,b,i=>by rw[mQ,kI,kI,H7 a b,Au,bQ,mQ,pd]
def Ax:∀(a:ab (ab aS)) (i:Nat),(kI i a).length=a.length
 |[],_=>rfl
 |t::a,i=>by rw[kI,df,df,Ax a]
def aeI{l:ab eH}{pre w:ab (Nat×ab aS)}{x:Nat×ab aS}(h:kI 0 (m1 l)=pre++x::w):∃y Y,l=l.take pre.length++y::Y/\pre=kI 0 (m1 (l.take pre.length))/\x=((cp (l.take pre.length++[y])).length,m0 y.1 y.2):=by
 have u:pre.length<l.length:=by have:=c7 List.length h;rw[Ax,m1,dZ,bQ,df]at this;omega
 obtain⟨y,C⟩:∃y,l[pre.length]?=some y:=⟨_,hl u⟩
 have E:l=l.take pre.length++y::l.drop (pre.length+1):=by obtain⟨T,rfl⟩:=cF.1 C;rw[<-wF T,nU]
 have Z:kI 0 (m1 l)=kI 0 (m1 (l.take pre.length))++kI (0+(pv (m1 (l.take pre.length))).length) (m1 (y::l.drop (pre.length+1))):=by
  conv=>lhs;rw[E]
  rw[m1,hJ];exact H7 _ _ 0
 rw[h]at Z;have z:pre.length=(kI 0 (m1 (l.take pre.length))).length:=by rw[Ax,m1,dZ,e8];omega
 obtain⟨D,m⟩:=List.append_inj Z z;refine⟨y,_,E,D,?_⟩;change x::w=kI _ (m0 y.1 y.2::m1 (l.drop (pre.length+1)))at m;rw[kI]at m;simp only[q9]at m;rw[m.1,rF,H5,h4,bQ];simp[cp,gb]
def hZ(p:aL aY)(l:ab eH):aL aY:=l.foldl (λp y=>p.set y.1 y.2) p
def Dx(p:aL aY)(l:ab eH)(y:eH):hZ p (l++[y])=(hZ p l).set y.1 y.2:=by simp[hZ]
def Ay{p:aL aY}(h:p.ok)(l:ab eH):(hZ p l).ok:=by
 induction l generalizing p with
 |nil=>exact h
 |cons y l X=>exact X (aL.Xe h y.1 y.2)
def Dy(p:aL aY)(l:ab eH):(hZ p l).aE=p.aE:=by
 induction l generalizing p with
 |nil=>rfl
 |cons y l X=>exact(X (p.set y.1 y.2)).trans (aL.Xd ..)
structure lH where
 iD:ab aj
 us:ab aj
 dO:iD.length=7
 hu:us.length=7
abbrev lI(b:Nat)(L:lH)(p:aL aY):ay:=eG aY.c 169 54 20 b L.iD L.us p
def H8(b:Nat)(L:lH)(p:aL aY)(x:ag)(t:aY)(s:p.wf):ar prog 143 [av b 0,A x.c,A t.c] [lI b L p] (λr J=>∃F:lH,r=B (bt x p.aE)/\J=[lI b F (p.set x t)]):=by refine ar.post (alk b L.iD L.us p x t s L.dO L.hu) ?_;rintro v J⟨X,w,Y,Z,rfl,rfl⟩;exact⟨_,⟨⟨X,w,Y,Z⟩,rfl,rfl⟩,λ_ _ _ h=>h⟩
def Dz(n:Int):ar prog 51 [I n] [] (λv J=>∃m L,v=av m 0/\J=[lI m L (aL.new n)]):=by refine ar.post (Ou n) ?_;rintro v J⟨b,rfl,rfl⟩;exact⟨_,⟨b,⟨_,_,VK,VK⟩,rfl,rfl⟩,λ_ _ _ h=>h⟩
def alN(G:Nat)(v:aj)(n:Int)(l:ab eH)(cf:ab aS)(g:Int)(cN:n=3\/n=5\/n=7)(d:k5 n l)(dK:(g6 cf).2=0)(du:(cp l++cf).length<=65536):ar prog 101 [av G 0,I n] (gd G v (cp l++cf) g) (λr J=>∃N b t L,r=.tuple #[av N 0,I 0]/\J=[cells N 120 (mR.c ⟨av G 0,n,av b 0⟩),lI b L (hZ (aL.new n) l)]++gd G t (cp l) (if cf=[]then g else((cp l).length:Int))):=by
 have E:yj (cp l++cf)=kI 0 (m1 l):=by rw[H5];exact ahm dK (aiO ac d)
 have gy:dH prog 44 [I n] (B true):=by have:=H4 n;rwa[iq cN]at this
 have k:(aL.new n:aL aY).ok:=aL.Wo n;have P (q:Nat):=Nj q (cp l++cf) ac;rw[E]at P;refine aF func101 λW=>?_;refine aa 2 ?_;refine ai.o (O.Wz (λgD=>?_));refine aa 26 ?_;refine ah.mt [3,0] (λz:Nat×Nat×Nat×lH=>True) (λz=>[(6,av z.1 0)]) (λz=>[cells z.1 96 [av z.2.1 0],cells z.2.1 120 (mR.c ⟨av G 0,n,av z.2.2.1 0⟩),lI z.2.2.1 z.2.2.2 (aL.new n)]) ?_ ?_
 .intro fP i;refine ah.p' ?_ aC.j.j.d';refine ae 3 0 ?_;refine af.bx 3 6 rfl rfl ?_ ?_;refine aw.V0 rfl (Dz _) VH ?_;rintro _ _⟨Yj,Ym,rfl,rfl⟩;refine aa 2 ?_;refine af.n' 4 rfl (V.WH ad) ?_;refine af.bx 5 6 rfl rfl ?_ ?_;refine O.X9 (λM=>?_);refine au ?_;refine dr 6 λm=>?_;refine ae 1 7 ?_;refine au ?_;rotate_left;refine O.Q' ad (λm=>?_);refine au ?_;refine dr 5 λM=>?_;refine ae 1 7 ?_;refine au ?_;rotate_left;refine O.Q' ad (λm=>?_);refine au ?_;refine af.x' 3 rfl rfl (Dz _) ?_;rintro _ _⟨X,T,rfl,rfl⟩;refine aa 2 ?_;refine af.n' 4 rfl (V.WH ad) ?_;refine dr 5 λM=>?_;refine ae 1 7 ?_;refine au ?_;rotate_left;all_goals exact Out.C' i (_,_,_,_) trivial trivial
 .rintro⟨m,N,b,L⟩ _;refine bh ?_;refine aa 3 ?_;refine ai.x' rfl (Om _ _ _ _) ?_;refine aq 6 λsy=>?_;refine aa 7 ?_;refine ai.x' rfl (aj8 _) ?_;rintro _ _⟨Yi,rfl,rfl⟩;refine aa 4 ?_;refine ah.rg (P _) (λy:lH×aL aY×Nat=>[lI b y.1 y.2.1,cells m 96 [av N 0],cells gD 3 [I n],cells sy 3 [I (y.2.2:Int)],cells N 120 (mR.c ⟨av G 0,n,av b 0⟩)])
   (λpre y=>y.2.1=hZ (aL.new n) (l.take pre.length)/\y.2.2=(cp (l.take pre.length)).length) (λ_ _ _=>False) (L,aL.new n,0) ⟨rfl,rfl⟩ ?_ ?_ ?_
  .rintro pre x w⟨K,f,c5⟩ cq rec b6⟨Y,Q⟩ c2 eK jV yu j;dsimp only at Y Q;obtain⟨y,DA,Z,a,F⟩:=aeI b6;have R:=d y (by rw[Z];simp);have ep:=Oi y.1 y.2 n ac R.1 R.2;have iG:=H8 b K f y.1 y.2 (by rw[Y];exact(Ay k _).towf);have C:l.take (pre++[x]).length=l.take pre.length++[y]:=by
    have Yc:pre.length<l.length:=by have:=c7 List.length Z;simp at this;omega
    rw[bQ,df,gv,h4,oC];congr 1;have:l[pre.length]?=some y:=by rw[Z,iC Pq,e8,show pre.length-Min.min pre.length l.length=0 by omega];rfl
    rw[this];rfl
   subst F Y Q;refine bh ?_;refine aq 19 λYe=>?_;refine aq 0 λYf=>?_;refine aa 16 ?_;refine ah.p' ?_ aC.j.j.j.d'.j.j.d'.d';refine ae 3 0 ?_;refine ae 2 4 ?_;refine ae 1 3 ?_;refine af.x' 6 rfl rfl (iG) ?_;rintro _ _⟨Yk,rfl,rfl⟩;refine aa 9 ?_;exact Out.rd j (_,(hZ (aL.new n) (l.take pre.length)).set y.1 y.2,(cp (l.take pre.length++[y])).length) ⟨by rw[C,Dx],Oc⟩
  .rintro⟨K,f,c5⟩ c⟨Y,Q⟩;dsimp only at Y Q;have U:(kI 0 (m1 l)).length=l.length:=by rw[Ax,m1,dZ]
   rw[U,iI]at Y Q;subst Y Q;refine bh ?_;by_cases s:cf=[]
   .subst s;rw[aJ rfl,db];unfold gd;refine aa 23 ?_;exact⟨_,_,⟨N,b,v,K,rfl,rfl⟩,VH⟩
   .rw[aG s];have Yg:0<cf.length:=qA.2 s;have D:=H1 G v (cp l++cf) g (cp l);unfold gd at D⊢;have Yh:=ar.post (a:=λr J=>∃t,r=I 0/\J=[cells G 156 (mr.c ⟨t,((cp l).length:Int)⟩),eB dL t 5 1 (cp l)]) D (by
     rintro r J (⟨bf,_⟩|⟨_,t,rfl,rfl⟩)
     .rw[bQ]at du;omega
     .exact⟨_,⟨t,rfl,rfl⟩,λ_ _ _ h=>h⟩)
    refine aa 11 ?_;refine ah.cs (λu=>?_) (λu=>?_);refine aa 4 ?_;refine ai.v (V.acR ad rfl rfl (p:=cp l++cf) (q:=cp l) VK VK) ?_;refine au ?_;rintro _ _⟨Yl,rfl,rfl⟩;refine aa 12 ?_;rotate_left;refine aa 11 ?_
    .exfalso;simp only[bQ]at*;omega
    exact⟨_,_,⟨N,b,_,K,rfl,rfl⟩,VH⟩
  exact UO
structure bS where
 n:Int
 p:aL aY
 data:ab aS
 safe:Int
structure bS.ok(s:bS):Prop where
 size:s.n=3\/s.n=5\/s.n=7
 p:s.p.ok
 aE:s.p.aE=s.n
 hy:k5 s.n s.p.all
 pr:s.data.length<=65536
def g0(N b G:Nat)(L:lH)(t:aj)(s:bS):ab ay:=[cells N 120 (mR.c ⟨av G 0,s.n,av b 0⟩),lI b L s.p,cells G 156 (mr.c ⟨t,s.safe⟩),eB dL t 5 1 s.data]
def sz(q b:Nat)(L:lH)(p:aL aY)(s:p.wf):sg prog 80 [av q 0] [cells q 117 [av b 0],lI b L p] encI p.all [cells q 117 [av b 0],lI b L p]:=Ow q b L.iD L.us p s L.dO L.hu
def bS.XO(s:bS):bS:={s with data:=cp s.p.all,safe:=((cp s.p.all).length:Int)}
def bS.Xc{s:bS}(h:s.ok):(cp s.p.all).length<=47040:=by have Y:=alr T6 h.hy;have Z:=aL.Xc h.p.towf;omega
def ai3(N b G:Nat)(L:lH)(P:aj)(s:bS)(h:s.ok):ar prog 280 [av N 0] (g0 N b G L P s) (λr J=>∃D,r=I 0/\J=g0 N b G L D s.XO):=by
 have j:=bS.Xc h;have k:s.n<=7:=T6
 have Q:=H1 G P s.data s.safe (cp s.p.all);have E:=ar.post (a:=λr J=>∃z,r=I 0/\J=[cells G 156 (mr.c ⟨z,((cp s.p.all).length:Int)⟩),eB dL z 5 1 (cp s.p.all)]) Q (by
  rintro r J (⟨Y,_⟩|⟨_,z,rfl,rfl⟩)
  .omega
  .exact⟨_,⟨z,rfl,rfl⟩,λ_ _ _ h=>h⟩)
 unfold gd at E;unfold g0 bS.XO;refine aF func280 λW=>?_;refine aq 7 λZ=>?_;refine aa 9 ?_;refine ai.x' rfl (Dv _ rfl) ?_;rintro _ _⟨d,rfl,rfl⟩;refine aa 4 ?_;refine ah.V5 dL 5 1 ?_;refine ah.rg (sz _ b L s.p h.p.towf) (λy:aj×ab aS=>[cells Z 154 [y.1],rows dL y.1 5 1 y.2]) (λpre y=>y.2=cp pre/\y.1.oneCell'=true) (λ_ _ _=>False) (.slice none 0 0,[]) ⟨rfl,rfl⟩ ?_ ?_ ?_
 .rintro pre x w⟨M,o⟩ X rec U⟨v,C⟩ g i K T m;dsimp only at v C;subst v;have u:=h.hy x MN;have f:=H0 x.1 x.2 s.n k u.1 u.2;have R:=yA k u.1 u.2;have F:(cp pre).length<=47040:=by
   have:cp s.p.all=cp pre++cp (x::w):=by rw[U,rF]
   rw[this,bQ]at j;omega
  refine bh ?_;refine aq 2 λq=>?_;refine aq 4 λa=>?_;refine aa 4 ?_;refine ah.V9 [5] ?_ aC.j.d'.j.d'.d' aC.j.j.j.d'.d';refine ae 2 1 ?_;refine af.t 0 rfl (V.F' ad) ?_;refine ae 1 3 ?_;refine af.y' 4 rfl (O.W2 ad rfl rfl Vz (cz.str ad) (λYf Yc Ye=>?_));refine au ?_;refine af.l 5 rfl (O.O' ad ?_);refine aa 3 ?_;exact Out.rd m (_,cp pre++gb x.1 x.2) ⟨by rw[rF];simp[cp],VV⟩
 .rintro⟨M,o⟩ c⟨v,C⟩;dsimp only at v C;subst v;refine bh ?_;refine aa 3 ?_;refine ah.p' ?_ aC.j.j.d'.j.j.d'.d'.j;refine ae 5 0 ?_;refine af.n' 5 rfl (V.aaI ad) ?_;refine af.x' 6 rfl rfl (E) ?_;rintro _ _⟨Z,rfl,rfl⟩;refine aa 2 ?_;refine ae 1 7 ?_;exact aQ 4
 exact UO
def OE(N b G:Nat)(L:lH)(t:aj)(s:bS):ar prog 128 [av N 0] (g0 N b G L t s) (λr J=>r=I 0/\J=g0 N b G L t {s with safe:=(s.data.length:Int)}):=by have R:=ahZ G t s.data s.safe;unfold gd at R;unfold g0;refine aF func128 λW=>?_;exact aQ 28
def bn(p:aL aY)(x:ag):aY:=(p.at x).getD aY.z
def DB(N b G:Nat)(L:lH)(t:aj)(s:bS)(x:ag)(h:s.p.wf):ar prog 34 [av N 0,A x.c] (g0 N b G L t s) (λr J=>r=A (bn s.p x).c/\J=g0 N b G L t s):=by
 have z:=H3 b L.iD L.us s.p x h L.dO L.hu;unfold g0 bn;cases Q:s.p.at x with
 |none=>
  rw[Q]at z;exact Rs
 |some t=>
  rw[Q]at z;exact Rs
def af2(N b G:Nat)(L:lH)(t:aj)(s:bS)(M:Int)(h:s.p.wf):ar prog 116 [av N 0,I M] (g0 N b G L t s) (λr J=>r=I (s.p.top M:Int)/\J=g0 N b G L t s):=by have z:=H2 b L.iD L.us s.p M h L.dO L.hu;unfold g0;refine aF func116 λW=>?_;exact aQ 29
def OG(N b G:Nat)(L:lH)(t:aj)(s:bS):ar prog 117 [av N 0] (g0 N b G L t s) (λr J=>r=I s.n/\J=g0 N b G L t s):=by unfold g0;refine aF func117 λW=>?_;exact aQ 26
def H9(N b G:Nat)(L:lH)(t:aj)(s:bS):ar prog 32 [av N 0] (g0 N b G L t s) (λr J=>∃q,r=.func (.func 80) #[] #[av q 0]/\J=cells q 117 [av b 0]::g0 N b G L t s):=by unfold g0;refine aF func32 λW=>?_;refine aa 21 ?_;refine ai.x' rfl (Dv _ rfl) ?_;rintro _ _⟨Q,rfl,rfl⟩;exact aQ 6
def OH:ar prog 32 [.pointer none] [] (λr J=>∃q b L,r=.func (.func 80) #[] #[av q 0]/\J=[cells q 117 [av b 0],lI b L (aL.new 0)]):=by
 refine aF func32 λW=>?_;refine aa 15 ?_;refine ai.x' rfl (Dz _) ?_;rintro _ _⟨q,D,rfl,rfl⟩;refine au ?_;refine ai.x' rfl (Dv _ rfl) ?_;rintro _ _⟨G,rfl,rfl⟩;refine aa 7 ?_
 exact Nv
def bS.add(s:bS)(x:ag)(i:aY):bS:=
 let t:=if 32768<s.data.length+(gb x i).length then s.XO else s
 {t with data:=t.data++gb x i,p:=t.p.set x i}
def afm(N m G:Nat)(L:lH)(z:aj)(s:bS)(x:ag)(i:aY)(h:s.ok)(U:bt x s.n=true)(am:ff i s.n=true):ar prog 264 [av N 0,A x.c,A i.c] (g0 N m G L z s) (λr J=>∃F D,r=I 0/\J=g0 N m G F D (s.add x i)):=by
 have k:s.n<=7:=T6
 have l:=n1 x s.n;rw[U]at l;have T:=HZ i s.n;rw[am]at T;have f:=H0 x i s.n k U am;have j:=yA k U am;have u:=bS.Xc h;have P (z:aj) (Z:ab aS) (d:Int) (b:Z.length+(gb x i).length<=65536) (g:Nat):
   ar prog 281 [av G 0,.slice (some ⟨g,0,none⟩) 1 1] [cells G 156 (mr.c ⟨z,d⟩),eB dL z 5 1 Z,row (.slice (some ⟨g,0,none⟩) 1 1) 9 1 1 [S (gb x i)]]
    (λr J=>∃t,r=I 0/\J=[cells G 156 (mr.c ⟨t,d⟩),eB dL t 5 1 (Z++gb x i),row (.slice (some ⟨g,0,none⟩) 1 1) 9 1 1 [S (gb x i)]]):=by
  have:=afV G z Z d (gb x i) _ _ 1 g 0 (Rd.lits (E:=9) (z:=1) fy [gb x i] rfl rfl (λ_=>rfl) VK) ac ac
  refine ar.post this ?_
  rintro r J (⟨Y,_⟩|⟨_,t,rfl,rfl⟩)
  .omega
  .exact⟨_,⟨t,rfl,rfl⟩,λ_ _ _ h=>h⟩
 have K:=h.pr;have y (L:lH):=H8 m L s.p x i h.p.towf;have p:=agy G z s.data s.safe;unfold gd at p;have r:=ai3 N m G L z s h;unfold bS.add;by_cases f:32768<s.data.length+(gb x i).length
 .rw[aJ f];unfold g0 at r⊢;unfold bS.XO at r⊢;dsimp only at r⊢;refine U8 λW q a=>?_;refine aa 34 ?_;rintro _ _⟨G,rfl,rfl⟩;refine aq 21 λr=>?_;refine ai.x' rfl (P _ _ _ ?_ _) ?_;exact co;rintro _ _⟨C,rfl,rfl⟩;refine aa 14 ?_;refine ah.p' ?_ aC.d'.d'.j.d'.j.j.j;refine ae 6 0 ?_;refine af.x' 6 rfl rfl (y _) ?_;rintro _ _⟨R,rfl,rfl⟩;refine aa 11 ?_
  exact Rq
 .rw[aG f];unfold g0;dsimp only;refine U8 λW q a=>?_;refine aq 40 λr=>?_;refine ai.x' rfl (P _ _ _ ?_ _) ?_;exact co;rintro _ _⟨C,rfl,rfl⟩;refine aa 14 ?_;refine ah.p' ?_ aC.j.d'.d'.d'.j.j.j;refine ae 6 0 ?_;refine af.x' 6 rfl rfl (y _) ?_;rintro _ _⟨R,rfl,rfl⟩;refine aa 11 ?_
  exact Rq
end Go.Proofs.YteogojgnkjegmaaGreatDoor
namespace Go.Proofs.YteogojgnkjegmaaGreatDoor
open Go.az Go.Proofs.Tryz
def tT(s p:ab aS):Bool:=decide (p.length<=s.length)&&decide (s.take p.length=p)
def OJ(s p:ab aS)(E:s.length<=9223372036854775807)(z:p.length<=9223372036854775807):dH prog 166 [S s,S p] (B (tT s p)):=by
 unfold tT;refine aF func166 λW=>?_;refine aa 13 ?_;refine ai.aX (λg=>?_) (λg=>?_);refine aa 3 ?_;refine ai.v (V.X8 ad) ?_;refine aa 8 ?_
 exact Qc
 refine aa 12 ?_
 exact Qc
def Ia(s p:ab aS)(E:s.length<=9223372036854775807)(z:p.length<=9223372036854775807):dH prog 119 [S s,S p] (B (tT s p)):=by
 refine aF func119 λW=>?_;refine aa 9 ?_;refine ai.o (aw.fn rfl (OJ _ _ ?_ ?_) ?_);iterate 2 exact co
 exact aQ 5
def yB(d:bF):Bool:=decide (d.Kind=2)||(decide (d.Kind=3)||decide (d.Kind=4))
def aiU(d:bF):dH prog 167 [A d.c] (B (yB d)):=by
 unfold yB;refine aF func167 λW=>?_;refine aq 2 λy=>?_;refine aa 9 ?_;refine ai.aX (λf=>?_) (λf=>?_);refine aa 14 ?_
 .simp_all
 refine VE (λo=>?_) λo=>?_;refine aa 9 ?_
 .simp_all
 refine aa 9 ?_
 .simp_all
def wN(r w:bF):Bool:=yB w&&(!decide (r.Kind=0)&&(if r.Kind=5 then tT w.Key r.Key else decide (r.Key=w.Key)))
def Az(r w:bF)(g:r.Key.length<=9223372036854775807)(s:w.Key.length<=9223372036854775807):dH prog 120 [A r.c,A w.c] (B (wN r w)):=by
 have L:=aiU w;unfold wN;refine aF func120 λW=>?_;refine aq 2 λY=>?_;refine aq 0 λx=>?_;refine OK (λf=>?_) λf=>?_;refine aa 15 ?_
 .clear L;simp_all
 refine Vy (λt=>?_) λt=>?_;refine aa 8 ?_
 .clear L;simp_all
 refine aa 10 ?_;refine ah.cs (λz=>?_) (λz=>?_);refine aa 6 ?_;refine ai.o (aw.fn rfl (Ia _ _ ?_ ?_) ?_);iterate 2 exact co
 refine aa 6 ?_
 .clear L;simp_all
 refine aa 14 ?_
 .clear L;simp_all
def p9(a b:bF):Bool:=!decide (a.Kind=0)&&(!decide (b.Kind=0)&&((!decide (a.c3=0)&&decide (a.c3=b.c3))||(wN a b||wN b a)))
def OL(a b:bF)(J:a.Key.length<=9223372036854775807)(X:b.Key.length<=9223372036854775807):dH prog 86 [A a.c,A b.c] (B (p9 a b)):=by
 unfold p9;refine aF func86 λW=>?_;refine aq 2 λY=>?_;refine aq 0 λx=>?_;refine OK (λt=>?_) λt=>?_;refine aa 15 ?_
 .simp_all
 refine Vy (λz=>?_) λz=>?_;refine aa 8 ?_
 .simp_all
 refine aa 8 ?_;refine ai.aX (λP=>?_) (λP=>?_);refine aa 7 ?_;refine ai.aX (λr=>?_) (λr=>?_);refine aa 14 ?_
 .simp_all
 refine aa 2 ?_;refine ai.o (aw.fn rfl (Az _ _ ?_ ?_) ?_);iterate 2 exact co
 refine LF (λj=>?_) λj=>?_;refine aa 9 ?_
 .simp_all
 refine aa 2 ?_;refine ai.o (aw.fn rfl (Az _ _ ?_ ?_) ?_);iterate 2 exact co
 refine aa 6 ?_
 .simp_all
 refine aa 9 ?_;refine ai.o (aw.fn rfl (Az _ _ ?_ ?_) ?_);iterate 2 exact co
 refine LF (λv=>?_) λv=>?_;refine aa 9 ?_
 .simp_all
 refine aa 2 ?_;refine ai.o (aw.fn rfl (Az _ _ ?_ ?_) ?_);iterate 2 exact co
 refine aa 6 ?_
 .simp_all
def k6(d:b4)(x:ag):b4:=
 ⟨if x.a1=0 then Max.max d.fE x.bX else d.fE,if x.a1=1 then Max.max d.c5 x.bX else d.c5,if x.a1=2 then Max.max d.bx x.bX else d.bx,if x.a1=3 then Max.max d.fL x.bX else d.fL,
  if x.a1=4 then Max.max d.pj x.bX else d.pj,if x.a1=5 then Max.max d.k0 x.bX else d.k0,if x.a1=6 then Max.max d.pm x.bX else d.pm⟩
def OM(d:b4)(x:ag){k:Nat}{m:Int}(T:x.a1=(k:Int))(K:d.l[k]?=some m):(k6 d x).l=d.l.set k (Max.max m x.bX):=by
 have u:k<7:=UC
 rcases(by omega:k=0\/k=1\/k=2\/k=3\/k=4\/k=5\/k=6)with e|e|e|e|e|e|e<;>subst e<;>cases K<;>simp[k6,b4.l,T]
def alj(d:b4)(x:ag):dH prog 87 [A d.c,A x.c] (A (k6 d x).c):=by
 by_cases h:0<=x.a1/\x.a1<7
 .obtain⟨k,T⟩:∃k:Nat,x.a1=(k:Int):=⟨x.a1.toNat,ac⟩
  obtain⟨m,K⟩:∃m,d.l[k]?=some m:=⟨_,hl Ls⟩
  have z:=b4.Wk d;rw[b4.XN d];refine aF func87 λW=>?_;refine VN λU Y q=>?_;refine aa 17 ?_;refine ah.V9 [10] ?_ aC.d'.d'.j aC.j.d'.j;refine ae 4 0 ?_;refine af.n' 4 rfl (V.V6 ad (k:=k) rfl rfl T) ?_;refine ae 2 6 ?_;refine af.t 5 rfl (V.F' ad (z:=Hy K)) ?_;refine ae 1 8 ?_;refine af.n' 9 rfl (V.V6 ad (k:=k) rfl rfl T) ?_;refine af.l 10 rfl (O.O' ad ?_ (j:=Hz ac) (i:=Dj ac));refine aa 3 ?_;rotate_left;rw[<-OM d x T K,<-b4.XN (k6 d x)];exact aQ 8
 .have e:k6 d x=d:=by unfold k6;simp only[show¬x.a1=0 by omega,show¬x.a1=1 by omega,show¬x.a1=2 by omega,show¬x.a1=3 by omega,show¬x.a1=4 by omega,show¬x.a1=5 by omega,show¬x.a1=6 by omega,iH]
  rw[e];refine aF func87 λW=>?_;refine VN λU Y q=>?_;refine aa 9 ?_;refine ai.aX (λw=>?_) (λw=>?_);exact aQ 17;exact aQ 17
end Go.Proofs.YteogojgnkjegmaaGreatDoor
namespace Go.az
open Go
section
variable{P:b1}{r:aT Nat}{W:a2}{D:ab Nat}{n:dF}{Q:da}{U Z:bJ}{J Y bg:ab ay}{M:Array cc}{N:ab cc}{w:a2}
def yC(P:b1)(f:fb)(E:ab aj)(Z u:ab ay){o:Type}(C:o->ab aj)(A:ab o->Prop)(c:ab ay):Prop:=
 ∀(l:Nat) (T:Type) (G X:ab o->T->Prop) (S:T->ay) (z:T),G [] z->
  (∀pre x a b,A (pre++x::a)->G pre b->lx P l (C x) [aK (S b::Z)] (λv Y=>∃K t,v=.bool t/\(t=true->G (pre++[x]) K)/\(t=false->X (pre++[x]) K)/\Y=[aK (S K::Z)]))->
  ar P f (.func (.yield l) #[] #[]::E) (aK (S z::Z)::u) (λ_ Y=>∃K,((∃C,A C/\G C K)\/∃pre a,A (pre++a)/\X pre K)/\Y=aK (S K::Z)::c)
def yC.for{p:fb}{d:ab aj}{Z g c:ab ay}{o:Type}{q:o->ab aj}{A:ab o->Prop}(k:yC P p d Z g q A c){u:Type}{S m:u->ay}(y:∀b,aP [S b] [aK (m b::Z)])(l:Nat)(G X:ab o->u->Prop)(j:u)(f:G [] j)(L:∀pre x a b,A (pre++x::a)->G pre b->lx P l (q x) [S b] (λv Y=>∃T t,v=.bool t/\(t=true->G (pre++[x]) T)/\(t=false->X (pre++[x]) T)/\Y=[S T])):ar P p (.func (.yield l) #[] #[]::d) (S j::g) (λ_ Y=>∃T,((∃F,A F/\G F T)\/∃pre a,A (pre++a)/\X pre T)/\Y=S T::c):=by
 refine ar.eqv ((y j).append (aP.refl g)) (k l u G X m j f λpre x a b z E=>lx.eqv (y b).symm (L pre x a b z E) ?_) ?_
 .rintro v Y⟨T,t,C,K,R,rfl⟩;exact⟨_,⟨T,t,C,K,R,rfl⟩,y T⟩
 .rintro v Y⟨T,C,rfl⟩;exact⟨_,⟨T,C,rfl⟩,(y T).symm.append (aP.refl c)⟩
def ah.acW{c:Code}{v:ab ay}(h:ah P r W D n Q c U (aK bg::v))(E:ak J bg v:=by(repeat(first|exact ak.nil|exact al.here|apply ak.cons|apply al.there))):ah P r W D n Q c U J:=
 ah.of λa w p b=>h.get a w p (b.Wy E).toBag
def ah.acX{o E:Type}{g:bj}{aX:ab Tmp}{assign body:Code}{kn:fb}{L:ab aj}{d:o->ab aj}{n6:ab o->Prop}{Z u m k:ab ay}(iG:yC P kn L Z u d n6 m)(T:E->ab ay)(G:ab o->E->Prop)(X:dY->ab o->E->Prop)(j:E)(eV:G [] j)(round:∀pre x y b l rec,n6 (pre++x::y)->G pre b->re rec->∀(eK:a2) (jV:ab Nat) (K:da),(∀e C,gA e=true->Way G X (pre++[x]) e C->∀a w,H eK jV (kl l rec::(T C++Z)) w->K e a w)->ah P (some l) eK jV ⟨n.n,[]⟩ (Exit.then (sf P l body K) tt) assign (rf aX (d x) U) (cm l rec .normal::(T b++Z)))(done:∀q b c,n6 q->G q b->Out W D ⟨n.n,c::n.ds⟩ Q .normal U (gK c::((T b++Z)++(m++k))))(left:∀b c e pre,gA e=true->fu e=false->(∃y,n6 (pre++y))->X e pre b->Out W D ⟨n.n,c::n.ds⟩ Q e U (gK c::((T b++Z)++(m++k))))(bG:aR U g=some (.func (.func kn) #[] L.toArray):=by exact rfl)(Ye:lp P kn=true:=by kernel_rfl)(Yf:ak J ((T j++Z)++u) k:=by(repeat(first|exact ak.nil|exact al.here|apply ak.cons|apply al.there)))(dd:∀x,aX.length=(d x).length:=by intro _;rfl)(cn:(aX.all λp=>Nat.blt p n.n)=true:=by exact rfl):ah P none W D n Q (.rangeFunc g aX.toArray assign body) U J:=by
 let S:E->ab ay:=λb=>T b++Z;have Yc:ah P none W D n Q (.rangeFunc g aX.toArray assign body) U (aK (S j)::(u++k)):=by
  have Yh:∀{e:dY} {pre:ab o} {b:E},gA e=true->Way G X pre e b->(fu e=true/\G pre b)\/(fu e=false/\X e pre b):=by
   intro e pre b R h;cases e with
   |normal=>exact .inl ⟨rfl,h⟩
   |ret=>exact .inr ⟨rfl,h⟩
   |exit id=>exact .inr ⟨rfl,h⟩
   |_=>cases R
  refine ah.XF (mo:={p:ab o×o×ab o×E//n6 (p.1++p.2.1::p.2.2.1)/\G p.1 p.2.2.2}) (s:=u) (k:=k) (λi=>d i.1.2.1) (aK (S j)) (λi=>aK (S i.1.2.2.2)) (λi e cL=>∃C,cL=aK (S C)/\Way G X (i.1.1++[i.1.2.1]) e C)
   (λe f=>∃C,f=aK (S C)::m/\((e=.normal/\∃q,n6 q/\G q C)\/(fu e=false/\∃pre y,n6 (pre++y)/\X e pre C))) bG Ye ?_ (λi=>dd _) cn ?_ ?_ ?_
  .have:∀(l:ab ay) (s:ay),ak (s::(l++k)) (s::l) k:=by
    intro l s;refine ak.cons al.here ?_;induction l with
    |nil=>exact ak.nil
    |cons x l mj=>exact ak.cons al.here mj
   exact this u _
  .rintro⟨⟨pre,x,y,b⟩,b6,dA⟩ l rec c2 eK K cJ;have du:br [cm l rec .normal,aK (S b)]=br (cm l rec .normal::S b):=by simp only[jl,wl];simp[br]
   have:=round pre x y b l rec b6 dA c2 eK (br [cm l rec .normal,aK (S b)]) K (λe C R eo a w z=>cJ e (aK (S C)) R ⟨C,rfl,eo⟩ a w (by have F:H eK (br [cm l rec .normal,aK (S b)]) (S C++[kl l rec]) w:=z.perm (by simpa using(oG (l₁:=[kl l rec]) (l₂:=S C)));exact(F.toBag).perm (hV ..)))
   refine ah.of λa w c0 z=>?_;refine this.get a w c0 ?_;have F:=(z.perm (hV ..)).Ww;exact F.perm (oG (l₁:=S b) (l₂:=[_]))
  .intro l rec fX;have lJ:∀p:dY×E,aP [aK [cm l rec p.1,aK (S p.2)]] [aK (aK [cm l rec p.1,aK (T p.2)]::Z)]:=λp=>by have c5:aP [aK [cm l rec p.1,aK (S p.2)]] ([cm l rec p.1]++(T p.2++Z)):=aP.aK.trans ((aP.refl [cm l rec p.1]).append aP.aK);have bx:aP [aK (aK [cm l rec p.1,aK (T p.2)]::Z)] (([cm l rec p.1]++T p.2)++Z):=aP.aK.trans ((aP.aK.trans ((aP.refl [cm l rec p.1]).append aP.aK)).append (aP.refl Z));rw[ck]at bx;exact c5.trans bx.symm
   have dT:=yC.for iG (S:=λp:dY×E=>aK [cm l rec p.1,aK (S p.2)]) (m:=λp:dY×E=>aK [cm l rec p.1,aK (T p.2)]) lJ l (λpre p=>p.1=.normal/\G pre p.2) (λpre p=>gA p.1=true/\fu p.1=false/\X p.1 pre p.2) (.normal,j) ⟨rfl,eV⟩ ?_
   .refine dT.conv (λw h=>?_) ?_ ?_
    .exact hS.toBag (bg:=[cm l rec .normal,aK (S j)]) h
    .exact(tr (bg:=[cm l rec .normal,aK (S j)])).symm
    .rintro v Y⟨⟨e,C⟩,bN,rfl⟩;refine⟨cm l rec e::aK (S C)::m,⟨e,_,?_,⟨C,rfl,?_⟩,rfl⟩,λW D w h=>h.Ww (bg:=[cm l rec e,aK (S C)])⟩
     .rcases bN with⟨_,_,h,_⟩|⟨_,_,_,h,_⟩
      exact Qv
      .exact h
     .rcases bN with⟨q,dd,h,t⟩|⟨pre,y,cn,_,cd,gw⟩
      .exact .inl ⟨h,q,dd,t⟩
      .exact .inr ⟨cd,pre,y,cn,gw⟩
   .rintro pre x y⟨e,b⟩ b6⟨dg,dA⟩;simp only at dg dA;subst dg;refine(fX ⟨(pre,x,y,b),b6,dA⟩).conv (λw h=>?_) ?_ ?_
    exact TS
    .have:=(tr (bg:=[cm l rec .normal,aK (S b)]) (ao:=[]))
     simpa using this
    .rintro v Y⟨e,cL,rfl,R,⟨C,rfl,eo⟩,rfl⟩;refine⟨[aK [cm l rec e,aK (S C)]],⟨(e,C),fu e,rfl,λh=>?_,λh=>?_,rfl⟩,λW D w h=>H.toBag (bg:=[cm l rec e,aK (S C)]) (ao:=[]) VR⟩
     .rcases Yh R eo with⟨F,t⟩|⟨F,t⟩
      .refine⟨?_,t⟩;cases e<;>first|rfl|cases F
      .rw[F]at h;cases h
     .rcases Yh R eo with⟨F,t⟩|⟨F,t⟩
      .rw[F]at h;cases h
      .exact⟨R,F,t⟩
  .rintro c e f R⟨C,rfl,bN⟩;have conv:∀{e:dY},Out W D ⟨n.n,c::n.ds⟩ Q e U (gK c::(S C++(m++k)))->Out W D ⟨n.n,c::n.ds⟩ Q e U (gK c::(aK (S C)::m++k)):=λh=>Out.of λa w c0 z=>by refine h.get a w c0 ?_;have F:H W D (aK (S C)::(gK c::(m++k))) w:=z.perm Ql;exact F.Ww.perm ow
   rcases bN with⟨rfl,q,dd,dA⟩|⟨Yg,pre,y,Yi,jp⟩
   .exact conv (done q C c dd dA)
   .exact conv (left C c e pre R Yg ⟨y,Yi⟩ jp)
 refine ah.of λa w c0 z=>?_;refine Yc.get a w c0 ?_;have F:=z.Wy Yf;rw[ck]at F;exact F.toBag
end
end Go.az
namespace Go.az
open Go
variable[Go.az.b5]
section
variable{P:b1}{r:aT Nat}{W:a2}{D:ab Nat}{n:dF}{Q:da}{Y:bJ}{N:ab ay}{C:Nat}{F:a8}{M:String}{T:Array Edge}{K:aT (Nat×Bool)}{U Z:Type}[DecidableEq U]{X:U->aj}{aU:Z->aj}{u:a8}{l:ab (U×Z)}
def aN.Wr{t e:a8}{x y:bj}{b:Nat}{k:U}(p:Z){R:Z}(z:(aZ l k).getD p=R)(i:hW P u X)(f:hX P t u e=true)(v:∀w,(zeroValue e).run P w=.ok (aU p) w) (E:aR Y x=some (.map (some b))) (q:aR Y y=some (X k)) (G:bz X aU b l∈N):aN P n Y N ⟨some C,.lookup t x y false,F,M,T,K⟩ (aU R):=by have h:=aN.Wj (P:=P) (n:=n) (an:=Y) (ao:=N) (dst:=C) (ba:=F) (bd:=M) (be:=T) (aW:=K) (l:=l) (k:=k) p i f v E q G;rwa[z]at h
end
end Go.az
namespace Go.Proofs.YteogojgnkjegmaaGreatDoor
open Go.az Go.Proofs.Tryz
variable[Go.az.b5]
abbrev cY:=aj×ab ag
def cY.z:cY:=(.slice none 0 0,[])
def yD(y:cY):ay:=rows ag.c y.1 46 2 y.2
def dt(g:ab cY):ay:=aK (g.map yD)
def dt.perm{g k:ab cY}(h:g.Perm k):aP [dt g] [dt k]:=aP.aK.trans ((aP.We (h.map yD)).trans aP.aK.symm)
def dt.cons(y:cY)(g:ab cY):aP [dt (y::g)] [yD y,dt g]:=aP.aK.trans (aP.cons _ aP.aK.symm)
def oQ(g:ab cY)(y:cY)(k:ab cY):Prop:=g.Perm (y::k)\/(y=cY.z/\k.Perm g)
section
variable{P:b1}{r:aT Nat}{W:a2}{D:ab Nat}{n:dF}{Q:da}{Y:bJ}{N J:ab ay}{c:Go.Code}
def ah.dc{g s:ab cY}{y:cY}(h:oQ g y s)(k:ah P r W D n Q c Y (rows ag.c y.1 46 2 y.2::dt s::J))(E:ak N [dt g] J:=by(repeat(first|exact ak.nil|exact al.here|apply ak.cons|apply al.there))):ah P r W D n Q c Y N:=by
 have R:ah P r W D n Q c Y (dt g::J):=by
  rcases h with h|⟨rfl,h⟩
  .exact ah.eqv (((dt.perm h).trans (dt.cons y s)).append (aP.refl J)) k
  .refine ah.eqv (((dt.perm h.symm)).append (aP.refl J)) ?_;exact ah.V5 ag.c 46 2 k
 exact ah.of λa w p b=>R.get a w p (by simpa using b.Wy E)
def ah.ZY{g:ab cY}{v:aj}{l:ab ag}(k:ah P r W D n Q c Y (dt ((v,l)::g)::J))(E:ak N [rows ag.c v 46 2 l,dt g] J:=by(repeat(first|exact ak.nil|exact al.here|apply ak.cons|apply al.there))):ah P r W D n Q c Y N:=by have R:ah P r W D n Q c Y (rows ag.c v 46 2 l::dt g::J):=ah.eqv ((dt.cons (v,l) g).symm.append (aP.refl J)) k;exact ah.of λa w p b=>R.get a w p (by simpa using b.Wy E)
end
def dt.shut{g:ab cY}{v:aj}{l:ab ag}{J f:ab ay}{W D w}(h:H W D (J++(rows ag.c v 46 2 l::dt g::f)) w):H W D (J++(dt ((v,l)::g)::f)) w:=
 h.eqv ((aP.refl J).append ((dt.cons (v,l) g).symm.append (aP.refl f)))
section
variable{U:Type}[DecidableEq U]
def gE(m:ab (U×cY))(k:U):cY:=(aZ m k).getD cY.z
def Ib(m:ab (U×cY))(k:U)(g7:ab cY):∃s,oQ (m.map (·.2)++g7) (gE m k) s/\∀R,(R::s).Perm ((bA m k R).map (·.2)++g7):=by
 induction m with
 |nil=>
  refine⟨g7,.inr ⟨rfl,hI _⟩,λR=>hI _⟩
 |cons p m G=>
  by_cases h:k=p.1
  .refine⟨m.map (·.2)++g7,.inl ?_,λR=>?_⟩
   .rw[gE,kE,aJ h];exact hI _
   .rw[lB,aJ h];exact hI _
  .obtain⟨s,E,q⟩:=G;have e:gE (p::m) k=gE m k:=by unfold gE;rw[kE,aG h]
   refine⟨p.2::s,?_,λR=>?_⟩
   .rw[e];rcases E with E|⟨E,G⟩
    .exact .inl ((E.cons p.2).trans (hV ..))
    .exact .inr ⟨E,G.cons p.2⟩
   .rw[lB,aG h];exact(hV ..).trans ((q R).cons p.2)
def oQ.We{g x:ab cY}{y:cY}{k:ab cY}(h:x.Perm g)(a:oQ g y k):oQ x y k:=by
 rcases a with E|⟨E,q⟩
 .exact .inl (h.trans E)
 .exact .inr ⟨E,q.trans h.symm⟩
def AA(m:ab (U×cY))(k E:U)(y:cY):gE (bA m k y) E=if E=k then y else gE m E:=by unfold gE;rw[gX];split<;>rfl
end
def Ic{U Z:Type}[DecidableEq U]{m:ab (U×Z)}{k q:U}{y:Z}(h:q∈(bA m k y).map (·.1)):q=k\/q∈m.map (·.1):=by
 induction m with
 |nil=>rw[qC]at h;simp at h;exact .inl h
 |cons p m E=>
  rw[lB]at h;split at h
  .rename_i e;simp only[eE,cQ]at h;rcases h with h|h
   .exact .inl h
   .exact .inr (by simp only[eE,cQ];exact .inr h)
  .simp only[eE,cQ]at h;rcases h with h|h
   .exact .inr (by simp only[eE,cQ];exact .inl h)
   .rcases E h with h|h
    .exact .inl h
    .exact .inr (by simp only[eE,cQ];exact .inr h)
def Ie{U Z:Type}[DecidableEq U](m:ab (U×Z))(k:U)(y:Z):(bA m k y).length<=m.length+1:=by
 induction m with
 |nil=>rw[qC];simp
 |cons p m E=>
  rw[lB];split
  .simp
  .simp only[df];omega
structure g1 where
 iv:Nat
 dW:Nat
 gW:aj
 lists:ab ag
 keys:ab (ab aS×cY)
 e3:ab (Int×cY)
 g:ab cY
 bG:g.Perm ((gW,lists)::(keys.map (·.2)++e3.map (·.2)))
def ho:hW prog 9 (λl:ab aS=>S l):=hW.str rfl
def pw:hW prog 3 (λn:Int=>I n):=hW.int rfl
def rG:hX prog 97 9 98=true:=rfl
def px:hX prog 99 3 98=true:=rfl
abbrev fo:cY->aj:=λy=>y.1
def qa(w:a2):(Go.zeroValue 98).run prog w=.ok (fo cY.z) w:=rfl
abbrev m2:ab aS->aj:=λl=>S l
abbrev rH:Int->aj:=λn=>I n
def i9(j E:Nat)(L:g1):ab ay:=[cells j 101 (kp.c ⟨av E 0,.map (some L.iv),L.gW,.map (some L.dW)⟩),bz m2 fo L.iv L.keys,bz rH fo L.dW L.e3,dt L.g]
structure Found(L bD:g1)(x:ag)(d:bF):Prop where
 lists:bD.lists=if d.Kind=5 then L.lists++[x]else L.lists
 keys:∀k,(gE bD.keys k).2=if d.Kind≠0/\d.Kind≠5/\k=d.Key then(gE L.keys k).2++[x]else(gE L.keys k).2
 e3:∀s,(gE bD.e3 s).2=if d.Kind≠0/\d.c3≠0/\s=d.c3 then(gE L.e3 s).2++[x]else(gE L.e3 s).2
 If:∀B,(∀k∈L.keys.map (·.1),k.length<=B)->d.Key.length<=B->∀k∈bD.keys.map (·.1),k.length<=B
def g1.acY(L:g1):oQ L.g (L.gW,L.lists) (L.keys.map (·.2)++L.e3.map (·.2)):=.inl L.bG
def g1.acZ(L:g1)(k:ab aS):∃s,oQ L.g (gE L.keys k) s/\∀G,(G::s).Perm ((L.gW,L.lists)::((bA L.keys k G).map (·.2)++L.e3.map (·.2))):=by obtain⟨s,E,q⟩:=Ib L.keys k ((L.gW,L.lists)::L.e3.map (·.2));refine⟨s,oQ.We (L.bG.trans ow.symm) E,λG=>(q G).trans ow⟩
def g1.abf(L:g1)(s:Int):∃k,oQ L.g (gE L.e3 s) k/\∀G,(G::k).Perm ((L.gW,L.lists)::(L.keys.map (·.2)++(bA L.e3 s G).map (·.2))):=by
 obtain⟨k,E,q⟩:=Ib L.e3 s ((L.gW,L.lists)::L.keys.map (·.2));have e:∀m:ab cY,(m++(L.gW,L.lists)::L.keys.map (·.2)).Perm ((L.gW,L.lists)::(L.keys.map (·.2)++m)):=λm=>
  ow.trans (tp _ oG)
 exact⟨k,oQ.We (L.bG.trans (e _).symm) E,λG=>(q G).trans (e _)⟩
end Go.Proofs.YteogojgnkjegmaaGreatDoor
