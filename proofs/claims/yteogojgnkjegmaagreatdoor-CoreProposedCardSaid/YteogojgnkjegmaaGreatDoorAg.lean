/-
 Part of the proof.
-/
import Derived.Test.YteogojgnkjegmaaGreatDoorAf
set_option linter.all false
set_option maxRecDepth 8000
set_option maxHeartbeats 8000000
namespace Go.Proofs.YteogojgnkjegmaaGreatDoor
open Go.ay Go.Proofs.Tryz
variable{D:ab Nat}{Z:ab bm}{C:bC->ab ax->Prop}{W:aZ}{R:Array Go.Edge}{k n:Nat}
def m7(x:ag)(n:Int):dr prog 82 [A x.c,I n] (B (bq x n)):=by
 refine aE func82 λW=>?_;refine aq 2 λp=>?_;refine aa 9 ?_;refine ai.aY (λX=>?_) (λX=>?_);refine aa 6 ?_;refine Ud (λT r=>?_) (λT r=>?_) λT=>?_;refine aa 9 ?_
 .simp[bq, *]
 refine aa 9 ?_
 .simp[bq, *]
 refine aa 14 ?_
 .simp[bq, *]
 refine aa 20 ?_
 .simp[bq, *]
def rr{t:Type}(f:t->ab aj)(E G:Nat){W:aZ}{D:ab Nat}{C:ab ax}{w:aZ}(h:H W D C w):∀m:Nat,H W D (so f E G (List.replicate m (.slice none 0 0)) (List.replicate m [])++C) w
 |0=>h
 |m+1=>(rr f E G h m).VY f E G
def H.rr{t:Type}(f:t->ab aj)(E G m:Nat){C:ab ax}{w:aZ}(h:H W D C w):H W D (gY f E G (List.replicate m (.slice none 0 0)) (List.replicate m [])::C) w:=(Go.Proofs.YteogojgnkjegmaaGreatDoor.rr f E G h m).toBag
def Bo(a b:ag):dr prog 109 [A a.c,A b.c] (B (qA a b)):=by
 refine aE func109 λW=>?_;refine aq 2 λp=>?_;refine aq 0 λm=>?_;refine aa 11 ?_;refine ai.aY (λh=>?_) (λh=>?_);refine aa 18 ?_
 exact OQ
 refine KJ (λx=>?_) λx=>?_;refine aa 12 ?_
 exact OQ
 refine aa 12 ?_
 exact OQ
def KY(n:Int):ar prog 145 [I n] [] (λv J=>∃b,v=aw b 0/\J=[ep aN.c 323 52 14 b (List.replicate 7 (.slice none 0 0)) (List.replicate 7 (.slice none 0 0)) (aJ.new n:aJ aN)]):=by
 have h:ar prog 145 [I n] [] (λv J=>∃b,v=aw b 0/\J=[cells b 323 (cm (List.replicate 7 (.slice none 0 0)) (List.replicate 7 (.slice none 0 0)) (aJ.new n:aJ aN))]):=by refine aE func145 λW=>?_;refine aq 11 λu=>?_;exact aP 5
 refine SL λb W D w j=>?_;have Y:=H.rr aN.c 52 14 7 (H.rr e8 4 1 7 j);exact Ow
def w9:aT aN->aj
 |none=>.tuple #[A aN.z.c,B false]
 |some t=>.tuple #[A t.c,B true]
def xa(b:Nat)(t i:ab aj)(p:aJ aN)(x:ag)(n:p.wf)(L:t.length=7)(d:i.length=7):ar prog 148 [aw b 0,A x.c] [ep aN.c 323 52 14 b t i p] (λr J=>r=w9 (p.at x)/\J=[ep aN.c 323 52 14 b t i p]):=by
 by_cases G:bq x p.aH=true
 .have Z:dr prog 82 [A x.c,I p.aH] (B true):=G▸m7 x p.aH;simp only[bq,c5,dl]at G;obtain⟨k,mx⟩:=rt G.1.1.1;have Q:x.a1.toNat=k:=by omega
  have ao:=n.ao;have m5:=n.m5;have m6:=n.m6;have D:=n.same k;obtain⟨v,T⟩:=cl (t:=t) (k:=k) ac;obtain⟨u,Yc⟩:=cl (t:=i) (k:=k) ac;have w:=ep.open (f:=aN.c) (B:=323) (E:=52) (aI:=14) (b:=b) (p:=p) T Yc ac ac;refine Nh λaR sH=>?_;refine ar.eqv w (R:=λr J=>r=w9 (p.at x)/\J=ge aN.c 323 52 14 b t i p k v u (p.x k) (p.h k)) ?_ RC;have z:p.at x=if(p.h k).getD (x.bT-1).toNat false=true then some ((p.x k).getD (x.bT-1).toNat default)else none:=Nv
  rw[z];unfold ge;refine aE func148 λW=>?_;by_cases a:((p.x k).length:Int)<x.bT
  .have:(p.h k).getD (x.bT-1).toNat false=false:=by rw[km,vk (by rw[<-D];omega)];rfl
   rw[this];exact Ge
  .refine ah.form (f:=e8) (v:=u) (l:=p.h k) T1 (λo Y=>?_) (λg q Yf=>?_)
   .have:(p.x k).length=0:=by rw[D,Y];rfl
    omega
   refine ah.form (f:=aN.c) (v:=v) (l:=p.x k) T1 (λo Y=>?_) (λM C K=>?_)
   .have:(p.x k).length=0:=by rw[Y];rfl
    omega
   subst Yf K;obtain⟨X,Ye⟩:=cl (t:=p.h k) (k:=(x.bT-1).toNat) ac;obtain⟨j,y⟩:=cl (t:=p.x k) (k:=(x.bT-1).toNat) ac;have m:(p.h k).getD (x.bT-1).toNat false=X:=by rw[km,Ye];rfl
   have U:(p.x k).getD (x.bT-1).toNat default=j:=by rw[km,y];rfl
   rw[m,U];cases X
   exact Mi
   exact O9
 .have Z:dr prog 82 [A x.c,I p.aH] (B false):=by
   have F:bq x p.aH=false:=Oo
   exact F▸m7 x p.aH
  have z:p.at x=none:=by simp[aJ.at,G]
  rw[z];refine ar.eqv ep.bare (R:=λr J=>r=w9 none/\J=[cells b 323 (cm t i p),gY aN.c 52 14 t p.xs,gY e8 4 1 i p.b7]) ?_ M1;refine aE func148 λW=>?_;exact Pa
def afO(b:Nat)(q i:ab aj)(p:aJ aN)(x:ag)(t:aN)(o:p.wf)(dU:q.length=7)(hu:i.length=7):ar prog 149 [aw b 0,A x.c,A t.c] [ep aN.c 323 52 14 b q i p] (λr J=>∃z j,z.length=7/\j.length=7/\r=B (bq x p.aH)/\J=[ep aN.c 323 52 14 b z j (p.set x t)]):=by
 by_cases d:bq x p.aH=true
 .refine MZ λdv T=>?_
  rw[T];simp only[bq,c5,dl]at d;obtain⟨k,mx⟩:=rt d.1.1.1;have cc:x.a1.toNat=k:=ac
  rw[cc];have ao:=o.ao;have m5:=o.m5;have m6:=o.m6;have b7:=o.same k;have Yp:=o.oB k;obtain⟨v,Yg⟩:=cl (t:=q) (k:=k) ac;obtain⟨u,Yh⟩:=cl (t:=i) (k:=k) ac;have l4:=ep.open (f:=aN.c) (B:=323) (E:=52) (aI:=14) (b:=b) (p:=p) Yg Yh ac ac;refine ar.eqv l4 (R:=λr J=>∃ei lC,r=B true/\J=ge aN.c 323 52 14 b q i p k ei lC ((hf (p.x k) x.bT.toNat default).set (x.bT-1).toNat t) ((hf (p.h k) x.bT.toNat false).set (x.bT-1).toNat true)) ?_ PE
  unfold ge;refine aE func149 λW=>?_;have Yj:∀{n:dq} {M:bC} {Q:cU} {c:Go.Code},(((p.x k).length=0\/∃g D L s,v=.slice (some ⟨g,0,none⟩) (p.x k).length D/\u=.slice (some ⟨L,0,none⟩) (p.h k).length s)->ah prog none W (bn (ge aN.c 323 52 14 b q i p k v u (p.x k) (p.h k))) n Q c M (ge aN.c 323 52 14 b q i p k v u (p.x k) (p.h k)))->ah prog none W (bn (ge aN.c 323 52 14 b q i p k v u (p.x k) (p.h k))) n Q c M (ge aN.c 323 52 14 b q i p k v u (p.x k) (p.h k)):=by intro n M Q c h;refine ah.form (f:=aN.c) (v:=v) (l:=p.x k) Ou (λ_ bg=>h (.inl (by rw[bg];rfl))) (λL s Yf=>?_);refine ah.form (f:=e8) (v:=u) (l:=p.h k) Ou (λ_ bg=>h (.inl (by rw[b7,bg];rfl))) (λg D Yi=>h (.inr ⟨_,_,_,_,Yf,Yi⟩))
  refine Yj λYo=>?_;clear Yj;refine Ln λN Ym Z=>?_
  have C:∀{a b dm},bA (8+k*1) [dm] (cm (q.set k a) (i.set k b) p) (cm (q.set k a) (i.set k dm) p):=λ{a b dm}=>⟨cm.WO Rz ac⟩
  have F:∀{a b},b.length=7->Nat.blt (1+k*1) (cm (q.set k a) b p).length=true:=λ{a b} bH=>Pd
  have G:∀{a b},Nat.blt (8+k*1) (cm (q.set k a) (i.set k b) p).length=true:=λ{a b}=>Pd
  have U:∀{b},(i.set k b).length=7:=λ{b}=>OA
  refine MK λfT l5=>?_;refine ah.n' ?_ aB.d'.d'.d'.d'.d'.d'.j;refine Mj ?_;refine ae 3 8 ?_;refine aa 7 ?_;refine ah.cp [5,4,0] (λy:aj×aj×ab aN×ab Bool=>(∃m,y.2.2.1=p.x k++List.replicate m default/\y.2.2.2=p.h k++List.replicate m false/\(m=0\/(((p.x k).length+m:Nat):Int)<=x.bT))/\
    (y.2.2.1.length=0\/∃g D L s,y.1=.slice (some ⟨g,0,none⟩) y.2.2.1.length D/\y.2.1=.slice (some ⟨L,0,none⟩) y.2.2.2.length s)) (λy=>[])
   (λy=>[cells b 323 (cm (q.set k y.1) (i.set k y.2.1) p),rows aN.c y.1 52 14 y.2.2.1,rows e8 y.2.1 4 1 y.2.2.2]) (λy=>x.bT.toNat-y.2.2.1.length) (v,u,p.x k,p.h k) ⟨⟨0,T3,T3,.inl rfl⟩,Yo⟩ ?_
  rintro⟨ei,lC,X,pN⟩⟨⟨m,iP,cy,dO⟩,eh⟩ K cA;dsimp only at iP cy dO eh;refine bl ?_;have xb:X.length=(p.x k).length+m:=by rw[iP];simp
  have Ft:pN.length=X.length:=by rw[cy,xb];simp[b7]
  by_cases Yc:(X.length:Int)<x.bT
  .refine N7 λmE=>?_;refine af.bv 14 23 rfl rfl ?_ ?_;refine O.Q' ad aN.c [_] rfl (bI.agg rfl bI.nil) rfl rfl (λYq=>?_);refine au ?_;refine af.bv 15 23 rfl rfl ?_ ?_;refine O.U' ad rfl rfl T8 (cq.rows ad T1 aN.F') (λYn Y=>?_);refine au ?_;refine df 23 λYk=>?_;refine KD λYl P=>?_;rotate_left;refine O.lit ad (λYk=>?_);refine au ?_;refine af.q' 15 rfl (O.U' ad rfl rfl T8 (cq.rows ad T1 aN.F') (λYn Y=>?_));refine au ?_;refine KD λYl P=>?_;rotate_left;refine O.lit ad (λYk=>?_);refine au ?_;refine af.q' 14 rfl (O.Q' ad aN.c [_] rfl (bI.agg rfl bI.nil) rfl rfl (λYq=>?_));refine au ?_;refine af.q' 15 rfl (O.U' ad rfl rfl T8 (cq.rows ad T1 aN.F') (λYn Y=>?_));refine au ?_;refine KD λYl P=>?_;rotate_left;all_goals(refine Out.z' cA (_,_,X++[default],pN++[false]) ?_ Ui;exact ⟨⟨m+1,by rw[vo,<-iP],by rw[vo,<-cy],.inr KT⟩,.inr ⟨_,_,_,_,rfl,rfl⟩⟩)
  .have Yr:X=hf (p.x k) x.bT.toNat default:=by rw[iP];exact vn ac ac
   have Ye:pN=hf (p.h k) x.bT.toNat false:=PK
   rw[<-Yr,<-Ye];rcases eh with eh|⟨g,D,L,s,rfl,rfl⟩
   .omega
   .refine QE ?_;refine af.q' 22 rfl (O.J' ad (f:=aN.c) (a:=t) rfl rfl T2 rfl ac aN.len aN.F' ?_);refine K5 ?_
    exact R7
 .have w:bq x p.aH=false:=by simpa using d
  refine MD λdv T=>?_
  rw[T,w];refine ar.eqv ep.bare (R:=λr J=>r=B false/\J=[cells b 323 (cm q i p),gY aN.c 52 14 q p.xs,gY e8 4 1 i p.b7]) ?_ Qj;refine aE func149 λW=>?_;exact ME
def acN(n:Int):ar prog 146 [I n] [] (λv J=>∃b,v=aw b 0/\J=[ep e8 325 4 1 b (List.replicate 7 (.slice none 0 0)) (List.replicate 7 (.slice none 0 0)) (aJ.new n:aJ Bool)]):=by
 have h:ar prog 146 [I n] [] (λv J=>∃b,v=aw b 0/\J=[cells b 325 (cm (List.replicate 7 (.slice none 0 0)) (List.replicate 7 (.slice none 0 0)) (aJ.new n:aJ Bool))]):=by refine aE func146 λW=>?_;refine aq 11 λu=>?_;exact aP 5
 refine SL λb W D w j=>?_;have Y:=H.rr e8 4 1 7 (H.rr e8 4 1 7 j);exact Ow
def Bp:aT Bool->aj
 |none=>.tuple #[B false,B false]
 |some t=>.tuple #[B t,B true]
def ajc(b:Nat)(t i:ab aj)(p:aJ Bool)(x:ag)(n:p.wf)(L:t.length=7)(d:i.length=7):ar prog 254 [aw b 0,A x.c] [ep e8 325 4 1 b t i p] (λr J=>r=Bp (p.at x)/\J=[ep e8 325 4 1 b t i p]):=by
 by_cases G:bq x p.aH=true
 .have Z:dr prog 82 [A x.c,I p.aH] (B true):=G▸m7 x p.aH;simp only[bq,c5,dl]at G;obtain⟨k,mx⟩:=rt G.1.1.1;have Q:x.a1.toNat=k:=by omega
  have ao:=n.ao;have m5:=n.m5;have m6:=n.m6;have D:=n.same k;obtain⟨v,F⟩:=cl (t:=t) (k:=k) ac;obtain⟨u,T⟩:=cl (t:=i) (k:=k) ac;have w:=ep.open (f:=e8) (B:=325) (E:=4) (aI:=1) (b:=b) (p:=p) F T ac ac;refine Nh λaR sH=>?_;refine ar.eqv w (R:=λr J=>r=Bp (p.at x)/\J=ge e8 325 4 1 b t i p k v u (p.x k) (p.h k)) ?_ RC;have z:p.at x=if(p.h k).getD (x.bT-1).toNat false=true then some ((p.x k).getD (x.bT-1).toNat default)else none:=Nv
  rw[z];unfold ge;refine aE func254 λW=>?_;by_cases a:((p.x k).length:Int)<x.bT
  .have:(p.h k).getD (x.bT-1).toNat false=false:=by rw[km,vk (by rw[<-D];omega)];rfl
   rw[this];refine SU λs=>?_;refine Mj ?_;exact Oi
  .refine ah.form (f:=e8) (v:=u) (l:=p.h k) T1 (λo Y=>?_) (λg q Yc=>?_)
   .have:(p.x k).length=0:=by rw[D,Y];rfl
    omega
   refine ah.form (f:=e8) (v:=v) (l:=p.x k) T1 (λo Y=>?_) (λN M C=>?_)
   .have:(p.x k).length=0:=by rw[Y];rfl
    omega
   subst Yc C;obtain⟨X,j⟩:=cl (t:=p.h k) (k:=(x.bT-1).toNat) ac;obtain⟨P,y⟩:=cl (t:=p.x k) (k:=(x.bT-1).toNat) ac;have m:(p.h k).getD (x.bT-1).toNat false=X:=by rw[km,j];rfl
   have U:(p.x k).getD (x.bT-1).toNat default=P:=by rw[km,y];rfl
   rw[m,U];cases X
   .refine SU λs=>?_;refine Mj ?_;refine Ll ?_;exact aP 13
   .refine SU λs=>?_;refine Mj ?_;refine Ll ?_;refine aa 6 ?_;refine ah.n' ?_ aB.d'.d'.d'.d'.d'.d';refine ae 6 0 ?_;refine af.i' 6 rfl (V.C' ad (z:=aR)) ?_;refine ae 4 7 ?_;refine af.i' 11 rfl (V.UH ad rfl T1 (λ_=>rfl) TX) ?_;refine ae 2 12 ?_;exact aP 4
 .have Z:dr prog 82 [A x.c,I p.aH] (B false):=by
   have K:bq x p.aH=false:=Oo
   exact K▸m7 x p.aH
  have z:p.at x=none:=by simp[aJ.at,G]
  rw[z];refine ar.eqv ep.bare (R:=λr J=>r=Bp none/\J=[cells b 325 (cm t i p),gY e8 4 1 t p.xs,gY e8 4 1 i p.b7]) ?_ M1;refine aE func254 λW=>?_;refine aq 2 λs=>?_;refine aa 11 ?_;refine ah.n' ?_ aB.d'.d'.d'.d';refine Mj ?_;refine ae 31 8 ?_;exact aP 13
def ajk(b:Nat)(q i:ab aj)(p:aJ Bool)(x:ag)(t:Bool)(o:p.wf)(dU:q.length=7)(hu:i.length=7):ar prog 257 [aw b 0,A x.c,B t] [ep e8 325 4 1 b q i p] (λr J=>∃z j,z.length=7/\j.length=7/\r=B (bq x p.aH)/\J=[ep e8 325 4 1 b z j (p.set x t)]):=by
 by_cases d:bq x p.aH=true
 .refine MZ λdv T=>?_
  rw[T];simp only[bq,c5,dl]at d;obtain⟨k,mx⟩:=rt d.1.1.1;have cc:x.a1.toNat=k:=ac
  rw[cc];have ao:=o.ao;have m5:=o.m5;have m6:=o.m6;have b7:=o.same k;have Yp:=o.oB k;obtain⟨v,Yg⟩:=cl (t:=q) (k:=k) ac;obtain⟨u,Yh⟩:=cl (t:=i) (k:=k) ac;have l4:=ep.open (f:=e8) (B:=325) (E:=4) (aI:=1) (b:=b) (p:=p) Yg Yh ac ac;refine ar.eqv l4 (R:=λr J=>∃ei lC,r=B true/\J=ge e8 325 4 1 b q i p k ei lC ((hf (p.x k) x.bT.toNat default).set (x.bT-1).toNat t) ((hf (p.h k) x.bT.toNat false).set (x.bT-1).toNat true)) ?_ PE
  unfold ge;refine aE func257 λW=>?_;have Yj:∀{n:dq} {M:bC} {Q:cU} {c:Go.Code},(((p.x k).length=0\/∃g D L s,v=.slice (some ⟨g,0,none⟩) (p.x k).length D/\u=.slice (some ⟨L,0,none⟩) (p.h k).length s)->ah prog none W (bn (ge e8 325 4 1 b q i p k v u (p.x k) (p.h k))) n Q c M (ge e8 325 4 1 b q i p k v u (p.x k) (p.h k)))->ah prog none W (bn (ge e8 325 4 1 b q i p k v u (p.x k) (p.h k))) n Q c M (ge e8 325 4 1 b q i p k v u (p.x k) (p.h k)):=by intro n M Q c h;refine ah.form (f:=e8) (v:=v) (l:=p.x k) Ou (λ_ bg=>h (.inl (by rw[bg];rfl))) (λL s Yf=>?_);refine ah.form (f:=e8) (v:=u) (l:=p.h k) Ou (λ_ bg=>h (.inl (by rw[b7,bg];rfl))) (λg D Yi=>h (.inr ⟨_,_,_,_,Yf,Yi⟩))
  refine Yj λYo=>?_;clear Yj;refine Ln λN Ym Z=>?_
  have C:∀{a b dm},bA (8+k*1) [dm] (cm (q.set k a) (i.set k b) p) (cm (q.set k a) (i.set k dm) p):=λ{a b dm}=>⟨cm.WO Rz ac⟩
  have F:∀{a b},b.length=7->Nat.blt (1+k*1) (cm (q.set k a) b p).length=true:=λ{a b} bH=>Pd
  have G:∀{a b},Nat.blt (8+k*1) (cm (q.set k a) (i.set k b) p).length=true:=λ{a b}=>Pd
  have U:∀{b},(i.set k b).length=7:=λ{b}=>OA
  refine aq 2 λfT=>?_;refine aa 5 ?_;refine ah.n' ?_ aB.d'.d'.d'.d'.d'.d';refine Mj ?_;refine ae 3 8 ?_;refine aa 7 ?_;refine ah.cp [4,0,2] (λy:aj×aj×ab Bool×ab Bool=>(∃m,y.2.2.1=p.x k++List.replicate m default/\y.2.2.2=p.h k++List.replicate m false/\(m=0\/(((p.x k).length+m:Nat):Int)<=x.bT))/\
    (y.2.2.1.length=0\/∃g D L s,y.1=.slice (some ⟨g,0,none⟩) y.2.2.1.length D/\y.2.1=.slice (some ⟨L,0,none⟩) y.2.2.2.length s)) (λy=>[])
   (λy=>[cells b 325 (cm (q.set k y.1) (i.set k y.2.1) p),rows e8 y.1 4 1 y.2.2.1,rows e8 y.2.1 4 1 y.2.2.2]) (λy=>x.bT.toNat-y.2.2.1.length) (v,u,p.x k,p.h k) ⟨⟨0,T3,T3,.inl rfl⟩,Yo⟩ ?_
  rintro⟨ei,lC,X,pN⟩⟨⟨m,iP,cy,dO⟩,eh⟩ K cA;dsimp only at iP cy dO eh;refine bl ?_;have xb:X.length=(p.x k).length+m:=by rw[iP];simp
  have Ft:pN.length=X.length:=by rw[cy,xb];simp[b7]
  by_cases Yc:(X.length:Int)<x.bT
  .refine aa 2 ?_;refine ah.n' ?_ aB.d'.d'.d'.d'.d'.d';refine Rt ?_;refine af.i' 7 rfl (V.Vv ad) ?_;refine ae 3 8 ?_;refine aa 11 ?_;refine ah.Uv [28,32] ?_ aB.j.j.d'.j.j.d' aB.j.j.d'.j.j.j;refine ae 12 0 ?_;refine ae 1 13 ?_;refine ae 6 16 ?_;refine ae 2 25 ?_;refine ae 2 29 ?_;refine af.t 12 rfl (V.C' ad (z:=N)) ?_;refine af.t 22 rfl (V.C' ad (z:=Ym)) ?_;refine af.bv 14 23 rfl rfl ?_ ?_;refine O.lit ad (λYq=>?_);refine au ?_;refine af.bv 15 23 rfl rfl ?_ ?_;refine O.U' ad rfl rfl T8 (cq.one ad T1 o8) (λYn Y=>?_);refine au ?_;refine df 23 λYk=>?_;refine KD λYl P=>?_;rotate_left;refine O.lit ad (λYk=>?_);refine au ?_;refine af.q' 15 rfl (O.U' ad rfl rfl T8 (cq.one ad T1 o8) (λYn Y=>?_));refine au ?_;refine KD λYl P=>?_;rotate_left;refine O.lit ad (λYk=>?_);refine au ?_;refine df 14 λYq=>?_;refine af.q' 15 rfl (O.U' ad rfl rfl T8 (cq.one ad T1 o8) (λYn Y=>?_));refine au ?_;refine KD λYl P=>?_;rotate_left;all_goals(refine Out.z' cA (_,_,X++[default],pN++[false]) ?_ Ui;exact ⟨⟨m+1,by rw[vo,<-iP],by rw[vo,<-cy],.inr KT⟩,.inr ⟨_,_,_,_,rfl,rfl⟩⟩)
  .have Yr:X=hf (p.x k) x.bT.toNat default:=by rw[iP];exact vn ac ac
   have Ye:pN=hf (p.h k) x.bT.toNat false:=PK
   rw[<-Yr,<-Ye];rcases eh with eh|⟨g,D,L,s,rfl,rfl⟩
   .omega
   .refine aa 2 ?_;refine ah.n' ?_ aB.d'.d'.d'.d'.d'.d';refine Rt ?_;refine ae 4 7 ?_;refine aa 9 ?_;refine ah.n' ?_ aB.j.j.d'.j.j.d';refine Rt ?_;refine Rp ?_;refine af.q' 22 rfl (O.VO ad (f:=e8) (a:=t) rfl rfl rfl rfl T2 rfl ac (λ_=>rfl) ?_);refine K5 ?_
    exact R7
 .have w:bq x p.aH=false:=by simpa using d
  refine MD λdv T=>?_
  rw[T,w];refine ar.eqv ep.bare (R:=λr J=>r=B false/\J=[cells b 325 (cm q i p),gY e8 4 1 q p.xs,gY e8 4 1 i p.b7]) ?_ Qj;refine aE func257 λW=>?_;refine aq 2 λfT=>?_;refine aa 5 ?_;refine ah.n' ?_ aB.d'.d'.d'.d';refine Mj ?_;refine ae 3 8 ?_;exact aP 11
def fL(a b:bm):Bool:=decide (a.Round<b.Round)||(decide (a.Round=b.Round)&&decide (a.a1<b.a1))
def ru(a b:bm):Int:=if a=b then 0 else if fL a b then-1 else 1
def xc{a b:bm}:fL a b=true↔a.Round<b.Round\/a.Round=b.Round/\a.a1<b.a1:=by simp[fL]
theorem Fu{a b:bm}:a=b↔a.Round=b.Round/\a.a1=b.a1:=by cases a;cases b;simp
def K3(a b:bm):dr prog 204 [A a.c,A b.c] (I (ru a b)):=by
 by_cases h:a=b
 .rw[show ru a b=0 by simp[ru,h]];refine aE func204 λW=>?_;refine aq 2 λp=>?_;refine aq 0 λm=>?_;exact aP 23
 .by_cases T:fL a b=true
  .rw[show ru a b=-1 by simp[ru,h,T]];rw[xc]at T;refine aE func204 λW=>?_;refine aq 2 λp=>?_;refine aq 0 λm=>?_;refine aa 22 ?_;refine ai.aY (λY=>?_) (λY=>?_);exact aP 26;exact aP 27
  .rw[show ru a b=1 by simp[ru,h,T]];rw[xc]at T;refine aE func204 λW=>?_;refine aq 2 λp=>?_;refine aq 0 λm=>?_;refine aa 29 ?_;refine ai.aY (λU=>?_) (λU=>?_);exact aP 21;exact aP 21
theorem Bq{a:bm}:fL a a=false:=by rw[<-mq,xc];omega
def ahj(a b:bm):decide (ru a b<0)=fL a b:=by
 unfold ru;by_cases h:a=b
 .subst h;rw[Bq];simp
 .cases T:fL a b<;>simp[h]
def tI(a b:bm):dr prog 139 [A a.c,A b.c] (B (fL a b)):=by
 refine aE func139 λW=>?_;refine aq 2 λp=>?_;refine aq 0 λm=>?_;refine aa 7 ?_;refine ai.o (av.fn rfl (K3 _ _) ?_);refine aa 6 ?_
 .rw[<-ahj]
def yY(n:Int):dr prog 58 [I n] (A (bm.c ⟨0,n⟩)):=by refine aE func58 λW=>?_;refine aq 2 λp=>?_;exact aP 11
def cY(n:Int):Int:=(Max.max n 1-1)/2
def Br(n:Int)(a:n<=9223372036854775807):dr prog 200 [I n] (I (cY n)):=by refine aE func200 λW=>?_;exact aP 16
def yZ(n:Int)(a:n<=4611686018427387904):dr prog 136 [I n] (I (cY n+1)):=by
 have k:=Br n ac;have:0<=cY n/\cY n<=4611686018427387904:=Qw
 refine aE func136 λW=>?_;exact aP 15
def ahL(n:Int)(a:n<=4611686018427387904)(o:0<=n):dr prog 268 [I n] (I (2*cY n)):=by
 have k:=Br n ac;have:cY n<=2305843009213693952:=Qw
 have:0<=cY n:=Qw
 refine aE func268 λW=>?_;refine aa 9 ?_;refine ai.v (V.mul) ?_;exact aP 5
def hY(a b:bm):Bool:=if a.Round≠b.Round then decide (a.Round<b.Round)else decide (a.a1<b.a1)
def pO(a b:bm):Int:=if a=b then 0 else if a.Round<b.Round\/(a.Round=b.Round/\a.a1<b.a1)then-1 else 1
def less(a b:bm):Bool:=decide (pO a b<0)
def acx(a b:bm):less a b=hY a b:=by
 unfold less pO hY;cases a;cases b;simp only[bm.mk.injEq];split
 .rename_i h;simp[h.1,h.2]
 .split
  .rename_i Y N;rcases N with N|N
   .have:¬(_:Int)=_:=Int.ne_of_lt N;simp[N,this]
   .simp[N.1,N.2]
  .rename_i Y N;simp only[qw,not_and,Int.not_lt]at N;split
   .simp;omega
   .simp;omega
def ch(x:aX×Bool):aj:=.tuple #[A x.1.c,B x.2]
def promise(i:aX)(b:bm):aX×Bool:=if hY b i.bO then(i,false)else({i with bO:=b},true)
def i4(i:aX)(b:bm)(s:Int)(c:aN)(same:Bool):aX×Bool:=
 if hY b i.bO=true\/i.Status=3 then(i,false)
 else if i.b0=b/\s<=i.Status then({i with bO:=b},decide (i.Status=s))
 else({bO:=b,b0:=b,Status:=s,Call:=c,cL:=same},true)
def pP(i:aX)(c:aN):aX×Bool:=if i.Status=3 then(i,false)else({i with Status:=3,Call:=c,cL:=false},true)
def Fv(a b:bm):dr prog 204 [A a.c,A b.c] (I (pO a b)):=by
 refine aE func204 λW=>?_;refine Dj λp m=>?_;refine P5 (λo=>?_) λo=>?_
 .simp_all[pO]
 refine aa 8 ?_;refine ai.aY (λY=>?_) (λY=>?_);refine aa 26 ?_
 .simp_all[pO]
 refine KJ (λN=>?_) λN=>?_;refine aa 10 ?_;refine P5 (λR=>?_) λR=>?_
 .simp_all[pO]
 refine aa 10 ?_
 .simp_all[pO]
 refine aa 21 ?_
 .simp_all[pO]
def adU(a b:bm):dr prog 139 [A a.c,A b.c] (B (less a b)):=by refine aE func139 λW=>?_;refine aq 2 λp=>?_;refine aq 0 λm=>?_;refine aa 7 ?_;refine ai.o (av.fn rfl (Fv _ _) ?_);exact aP 6
def Bs(a b:bm):dr prog 139 [A a.c,A b.c] (B (hY a b)):=acx a b▸adU a b
def Fw(i:aX)(b:bm):dr prog 235 [A i.c,A b.c] (ch (promise i b)):=by
 refine aE func235 λW=>?_;refine Ug λp m Z=>?_;refine aa 9 ?_;refine ai.o (av.fn rfl (Bs _ _) ?_);refine OV (λo=>?_) λo=>?_;refine aa 10 ?_
 .simp[ch,promise, *]
 refine aa 18 ?_
 .simp[ch,promise, *]
def adR(i:aX)(b:bm)(s:Int):dr prog 277 [A i.c,A b.c,I s] (B (decide (i.b0=b/\s<=i.Status))):=by
 refine aE func277 λW=>?_;refine aq 2 λm=>?_;refine aq 0 λZ=>?_;refine NG (λo=>?_) λo=>?_;refine aa 10 ?_
 .simp[*]
 refine aa 10 ?_
 .simp[*]
def Fx(i:aX)(b:bm)(s:Int)(c:aN)(same:Bool):dr prog 263 [A i.c,A b.c,I s,A c.c,B same] (ch (i4 i b s c same)):=by
 refine aE func263 λW=>?_;refine Ug λg d n=>?_;refine aq 0 λl=>?_;refine aa 7 ?_;refine ai.o (av.fn rfl (Fw _ _) ?_);refine aq 3 λv=>?_;refine aa 11 ?_;refine ai.aY (λL=>?_) (λL=>?_);refine aa 19 ?_;rotate_left;refine aa 7 ?_;refine ah.cs (λY=>?_) (λY=>?_);refine aa 11 ?_;rotate_left;refine aa 5 ?_;refine ai.o (av.fn rfl (adR _ _ _) ?_);refine aa 3 ?_;refine ah.cs (λN=>?_) (λN=>?_);refine au ?_;refine ah.n' ?_ aB.d'.j.j.j.d';refine ae 7 0 ?_;refine aa 6 ?_;rotate_left;refine aa 4 ?_;refine ah.n' ?_ aB.j.d'.d'.j.j;refine ae 12 0 ?_;refine aa 11 ?_;rotate_left;all_goals
  by_cases T:hY b i.bO=true
  .have z:i4 i b s c same=(i,false):=aQ (.inl T);simp_all[promise,ch]
  .by_cases R:i.Status=3
   .have z:i4 i b s c same=(i,false):=aQ (.inr R);simp_all[promise,ch]
   .by_cases Z:i.b0=b/\s<=i.Status
    .have z:i4 i b s c same=({i with bO:=b},decide (i.Status=s)):=by unfold i4;rw[aM (by simp_all),aQ Z]
     rw[z];simp_all[promise,ch]
    .have z:i4 i b s c same=({bO:=b,b0:=b,Status:=s,Call:=c,cL:=same},true):=by unfold i4;rw[aM (by simp_all),aM Z]
     rw[z];have P:promise i b=({i with bO:=b},true):=aM T;first
      |(rw[P];rfl)
      |rfl
      |(exfalso;exact R TX)
      |(exfalso;exact Z TX)
      |(exfalso;rw[P]at L;cases L;done)
      |(exfalso;simp_all;done)
def K9(i:aX)(b:bm)(c:aN)(same:Bool):dr prog 232 [A i.c,A b.c,A c.c,B same] (ch (i4 i b 1 c same)):=by refine aE func232 λW=>?_;refine aq 2 λZ=>?_;refine aq 0 λg=>?_;refine aq 0 λg=>?_;refine aq 0 λn=>?_;refine aa 9 ?_;refine ai.o (av.fn rfl (Fx _ _ _ _ _) ?_);exact aP 8
def La(i:aX)(b:bm)(c:aN):dr prog 234 [A i.c,A b.c,A c.c] (ch (i4 i b 2 c false)):=by refine aE func234 λW=>?_;refine aq 2 λm=>?_;refine aq 0 λZ=>?_;refine aq 0 λg=>?_;refine aq 0 λg=>?_;refine aa 8 ?_;refine ai.o (av.fn rfl (Fx _ _ _ _ _) ?_);exact aP 8
def ajK(i:aX)(c:aN):dr prog 182 [A i.c,A c.c] (ch (pP i c)):=by
 refine aE func182 λW=>?_;refine Ug λp m Z=>?_;refine aa 11 ?_;refine ah.cs (λo=>?_) (λo=>?_);refine aa 10 ?_
 .simp_all[ch,pP]
 refine aa 3 ?_;refine ah.n' ?_ aB.j.d'.j;refine ae 7 0 ?_;refine aa 11 ?_
 .simp_all[ch,pP]
def cH(b:bm)(n:Int):Bool:=decide (0<=b.Round/\b.Round<=1099511627776/\0<=b.a1/\b.a1<n)
def j1(m x:bm):bm:=if 0<pO x m then x else m
def kQ:ab bm->bm
 |[]=>bm.z
 |x::l=>l.foldl j1 x
def afl(Y:1<=k)(u:k<Z.length):kQ (Z.take (k+1))=j1 (kQ (Z.take k)) (Z.getD k default):=by
 cases Z with
 |nil=>simp at u
 |cons x l=>
  obtain⟨j,rfl⟩:∃j,k=j+1:=⟨k-1,ac⟩
  have y:j<l.length:=Q3
  simp only[vf,kQ];rw[Ek y,vp];simp[y]
def Ld(h:0<Z.length):kQ (Z.take 1)=Z.getD 0 default:=by
 cases Z with
 |nil=>simp at h
 |cons x l=>simp[kQ]
def afi{x:bm}(Y:1<=k)(U:Z[k]?=some x):kQ (Z.take (k+1))=j1 (kQ (Z.take k)) x:=by have u:k<Z.length:=(cT.1 U).1;rw[afl Y u];congr 1;simp[List.getD,U]
def y0(b:bm)(n:Int):dr prog 168 [A b.c,I n] (B (cH b n)):=by
 refine aE func168 λW=>?_;refine aq 2 λp=>?_;refine aa 9 ?_;refine Ud (λX T=>?_) (λX T=>?_) λX=>?_;refine T0 (λr=>?_) λr=>?_;refine aa 10 ?_
 .simp_all[cH]<;>omega
 refine aa 10 ?_
 .simp_all[cH]<;>omega
 refine aa 15 ?_
 .simp_all[cH]<;>omega
 refine aa 20 ?_
 .simp_all[cH]<;>omega
def aje(e:ax)(i:aT Go.Addr)(E b off:Nat)(Z:ab bm)(f:Rd e i Z.length b off 2 (Z.map bm.c))(q:0<Z.length):ar prog 203 [.slice i Z.length E,.func (.func 204) #[] #[]] [e] (λv J=>v=A (kQ Z).c/\J=[e]):=by
 have F:=f.len;obtain⟨l,Q⟩:=cl q;have o:kQ (Z.take 1)=l:=by rw[Ld q];simp[List.getD,Q]
 refine aE func203 λW=>?_;refine aq 2 λN=>?_;refine aq 18 λg=>?_;refine aa 10 ?_;refine ah.cp [5,4,0,1] (λk:Nat=>1<=k/\k<=Z.length) (λk=>[(6,I (k:Int))]) (λk=>[cells g 48 (kQ (Z.take k)).c]) (λk=>Z.length-k) 1 ⟨cD _,q⟩ ?_ (o:=by rw[o];exact ak.cons al.here ak.nil);rintro k⟨Y,u⟩ K n;refine bl ?_;by_cases y:k<Z.length
 .obtain⟨x,U⟩:=cl y;have m:=afi Y U;refine aa 15 ?_;refine ah.n' ?_ aB.d'.j.d';refine ae 3 0 ?_;refine af.i' 3 rfl (V.Vm ad rfl rfl TX) ?_;refine af.i' 4 rfl (V.Ux ad rfl TX (jB TX)) ?_;refine ae 1 5 ?_;refine af.q' 6 rfl (av.Wk rfl rfl (Fv _ _) ?_);refine au ?_;refine ae 1 7 ?_;refine OV (λM=>?_) λM=>?_;refine aa 14 ?_;rotate_left;refine aa 8 ?_;rotate_left
  .rw[j1,aQ TX]at m;rw[<-m];exact Out.z' n (k+1) ⟨ac,ac⟩ ac
  .rw[j1,aM TX]at m;rw[<-m];exact Out.z' n (k+1) ⟨ac,ac⟩ ac
 .obtain rfl:k=Z.length:=by omega
  rw[ir];exact aP 23
def Fy(e:ax)(m:aT Go.Addr)(E b off:Nat)(Z:ab bm)(f:Rd e m Z.length b off 2 (Z.map bm.c)):ar prog 138 [.slice m Z.length E] [e] (λv J=>v=A (kQ Z).c/\J=[e]):=by
 by_cases Q:0<Z.length
 .have z:=aje e m E b off Z f Q;refine aE func138 λW=>?_;refine aq 2 λp=>?_;exact aP 23
 .obtain rfl:Z=[]:=lW ac;refine aE func138 λW=>?_;refine aq 2 λp=>?_;exact aP 20
def rv(U:Int)(Z:ab bm):bm:=if hY (kQ Z) ⟨max (kQ Z).Round 1,U⟩then⟨max (kQ Z).Round 1,U⟩else⟨max (kQ Z).Round 1+1,U⟩
def ajj(e:ax)(m:aT Go.Addr)(E b off:Nat)(U:Int)(Z:ab bm)(f:Rd e m Z.length b off 2 (Z.map bm.c))(X:(kQ Z).Round<=4611686018427387904):ar prog 100 [I U,.slice m Z.length E] [e] (λv J=>v=A (rv U Z).c/\J=[e]):=by have z:=Fy e m E b off Z f;refine aE func100 λW=>?_;refine aq 2 λZ=>?_;refine aq 7 λg=>?_;refine aq 10 λg=>?_;refine aa 8 ?_;refine ai.o (av.fn rfl (Bs _ _) ?_);refine aa 3 ?_;refine ah.cs (λZ=>?_) (λZ=>?_);refine aa 16 ?_;rotate_left;refine aa 10 ?_;rotate_left;all_goals(unfold rv;simp only[*];first|exact⟨_,_,⟨rfl,rfl⟩,ak.cons al.here ak.nil⟩|rfl)
def fA(n:Nat):ab aS:=if n<128 then[UInt8.ofNat n]else UInt8.ofNat (128+n%128)::fA (n/128)
termination_by n
decreasing_by omega
def bG(n:Int):ab aS:=fA n.toNat
def pg(h:n<128):fA n=[UInt8.ofNat n]:=by rw[fA];exact aQ h
def pQ(h:¬n<128):fA n=UInt8.ofNat (128+n%128)::fA (n/128):=by rw[fA];exact aM h
def Bt(k:Nat):∀n,n<128^(k+1)->(fA n).length<=k+1:=by
 induction k with
 |zero=>intro n h;rw[pg Ub];simp
 |succ k d=>
  intro n h;by_cases T:n<128
  .rw[pg T];simp
  .rw[pQ T];have:=d (n/128) (by rw[xd]at h;exact Nat.div_lt_of_lt_mul ac)
   simp;omega
theorem fU{n:Int}(h:n<=9223372036854775807):(bG n).length<=9:=Bt 8 _ ac
def Bu(n:Nat):1<=(fA n).length:=by
 by_cases T:n<128
 .rw[pg T];simp
 .rw[pQ T];simp
def Bv(n:Int):1<=(bG n).length:=by
 unfold bG;by_cases T:n.toNat<128
 .rw[pg T];simp
 .rw[pQ T];simp
def ahh{n:Int}(h:n<=9223372036854775807):IntKind.u64.wrap (Max.max n 0)=((n.toNat:Nat):Int):=by
 have:Max.max n 0=((n.toNat:Nat):Int):=ac
 rw[this];simp only[IntKind.wrap,IntKind.signed,IntKind.bits];simp;omega
def agJ(m:Nat)(h:m<128):IntKind.u8.wrap (m:Int)=((UInt8.ofNat m).toNat:Int):=N5
def y1(m:Nat):IntKind.u8.wrap (m:Int)=((m%256:Nat):Int):=N5
def aiU:∀x:Fin 256,(BitVec.ofNat 8 x.val|||128#8).toNat=128+x.val%128:=T6
def aco(m:Nat):lb .or .u8 (IntKind.u8.wrap (m:Int)) 128=some ((UInt8.ofNat (128+m%128)).toNat:Int):=by
 have Y:=aiU ⟨m%256,ac⟩;have c:BitVec.ofInt IntKind.u8.bits (IntKind.u8.wrap (m:Int))=BitVec.ofNat 8 (m%256):=by rw[y1];exact sI 8 _
 have U:BitVec.ofInt IntKind.u8.bits 128=128#8:=rfl;simp only[lb,c,U];have N:(BitVec.ofNat 8 (m%256)|||128#8).toNat=128+m%128:=by rw[Y];simp only;omega
 show some (IntKind.u8.wrap ((BitVec.ofNat 8 (m%256)|||128#8).toNat:Int))=_
 rw[N,y1];congr 1
def ahR(m:Nat):(m:Int).fdiv (2^(Min.min (7:Int).toNat IntKind.u64.bits))=((m/128:Nat):Int):=by have:(2^(Min.min (7:Int).toNat IntKind.u64.bits):Int)=((128:Nat):Int):=rfl;rw[this,Bw _ ac];omega
def O.VH{P:bU}{r:aT Nat}{n:dq}{Y:Nat}{F:a7}{q:String}{u:aT (Nat×Bool)}{M:bC}{K:ab ax}{t:Type}(f:t->ab aj)(E G:Nat){T:a7}{x:bf}{c:ab aj}(U:aR M x=some (A c))(Z:∀b,C ((Y,aw b 0)::M) (cells b T c::rows f (.slice none 0 0) E G []::K))(w:Nat.blt Y n.n=true:=by exact rfl):av P r W D n ⟨some Y,.box T x,F,q,R,u⟩ M K C:=
 av.Xq (C:=λy J=>∃b,y=(Y,aw b 0)::M/\J=cells b T c::K) (av.Xm w U λb=>⟨b,rfl,rfl⟩) (by rintro y J⟨b,rfl,rfl⟩;exact⟨_,Z b,λw n=>(n.VY f E G).perm (hK _ _ _)⟩)
def y2(b:Nat)(v:aj)(Z:ab aS)(Q:ab Int)(e:ax)(l:aT Go.Addr)(E h off:Nat)(f:Rd e l Q.length h off 1 (Q.map tw))(s:∀n,n∈Q->n<=9223372036854775807)(U:Z.length+9*Q.length<=1000000):ar prog 170 [aw b 0,.slice l Q.length E] [cells b 231 (gd.c ⟨v⟩),rows dt v 5 1 Z,e] (λr J=>∃t,r=.tuple #[]/\J=[cells b 231 (gd.c ⟨t⟩),rows dt t 5 1 (Z++Q.flatMap bG),e]):=by
 refine aE func170 λW=>?_;refine aa 8 ?_;refine ah.cp [8,7,0] (λx:Nat×ab aS×aj=>x.1<=Q.length/\x.2.1=Z++(Q.take x.1).flatMap bG/\x.2.1.length+9*(Q.length-x.1)<=1000000)
  (λx=>[(9,I (x.1:Int))]) (λx=>[cells b 231 (gd.c ⟨x.2.2⟩),rows dt x.2.2 5 1 x.2.1]) (λx=>Q.length-x.1) (0,Z,v) ⟨cO _,T3,Lk⟩ ?_
 rintro⟨k,pre,g⟩⟨u,P,T⟩ K i;dsimp only at u P T;refine bl ?_;have G:=f.len;by_cases y:k<Q.length
 .have a:Q.getD k default<=9223372036854775807:=s _ (by simp[y]);have D:=fU a;have Ye:=Bv (Q.getD k default);refine aa 14 ?_;refine ai.v (V.VC ad rfl TX (EL ac)) ?_;refine aa 7 ?_;refine ai.v (V.U0 ad rfl rfl (ahh TX)) ?_;refine aa 5 ?_;rotate_left;refine ah.cp [9,8,7,0] (λx:Nat×ab aS×aj=>∃p,x.2.1=pre++p/\p++fA x.1=bG (Q.getD k default)/\p.length+1<=9) (λx=>[(6,.int .u64 (x.1:Int))]) (λx=>[cells b 231 (gd.c ⟨x.2.2⟩),rows dt x.2.2 5 1 x.2.1]) (λx=>x.1) ((Q.getD k default).toNat,pre,g) ⟨[],T3,rfl,T3⟩ ?_;rintro⟨m,q,M⟩⟨p,aW,z,C⟩ L w;dsimp only at z C aW;have Yg:q.length=pre.length+p.length:=by rw[aW];simp
  refine bl ?_;refine aa 7 ?_;refine ah.cs (λF=>?_) (λF=>?_);refine aa 11 ?_;refine ai.v (V.VU ad) ?_;refine ai.v (V.VN rfl rfl (aco _)) ?_;refine aq 0 λYc=>?_;refine ai.o (O.U' ad rfl rfl T8 (cq.one ad T1 EM) (λYi Yh=>?_));refine aa 7 ?_;refine ai.v (V.VD rfl rfl (ahR _)) ?_;refine aa 3 ?_;rotate_left;refine aa 12 ?_;refine ai.v (V.U0 ad rfl rfl (agJ _ ac)) ?_;refine aq 0 λYf=>?_;refine ai.o (O.U' ad rfl rfl T8 (cq.one ad T1 EM) (λj d=>?_));refine aa 10 ?_;rotate_left
  .have X:=pQ (n:=m) ac;have Y:=Bu (m/128);have N:p.length+((fA (m/128)).length+1)<=9:=by
    have:(p++fA m).length=(bG (Q.getD k default)).length:=by rw[z]
    rw[X]at this;simp only[b2,dD]at this;omega
   refine Out.z' w (m/128,q++[UInt8.ofNat (128+m%128)],_) ?_ Lk;exact ⟨p++[UInt8.ofNat (128+m%128)],by simp[aW],by rw[cn,<-z,X];rfl,Ui⟩
  .have X:=pg (n:=m) ac;have N:p++[UInt8.ofNat m]=bG (Q.getD k default):=by rw[<-z,X]
   have R:q++[UInt8.ofNat m]=Z++(Q.take (k+1)).flatMap bG:=by rw[aW,cn,N,P,Ek y,m1,cn];simp[List.getD,y]
   exact Out.z' i (k+1,q++[UInt8.ofNat m],_) ⟨Lk,R,Ui⟩ Lk
 .refine aa 12 ?_;obtain rfl:pre=Z++Q.flatMap bG:=by rw[P,k8 ac]
  exact⟨_,_,⟨g,rfl,rfl⟩,ak.cons al.here (ak.cons al.here (ak.cons al.here ak.nil))⟩
def vq(b:Nat)(v:aj)(Z:ab aS):ar prog 124 [aw b 0] [cells b 231 (gd.c ⟨v⟩),rows dt v 5 1 Z] (λr J=>r=S Z/\J=[cells b 231 (gd.c ⟨v⟩),rows dt v 5 1 Z]):=by refine aE func124 λW=>?_;refine aa 11 ?_;refine ai.v (V.XF ad) ?_;exact aP 5
def sJ(s:ab aS):ar prog 130 [S s] [] (λr J=>∃b,r=aw b 0/\J=[cells b 306 (eU.c ⟨s,false⟩)]):=by refine aE func130 λW=>?_;refine aq 9 λg=>?_;exact aP 5
def rx(b:Nat)(s:eU):ar prog 243 [aw b 0] [cells b 306 s.c] (λr J=>r=.tuple #[]/\J=[cells b 306 (eU.c ⟨[],true⟩)]):=by refine aE func243 λW=>?_;exact aP 18
def Fz(b:Nat)(s:eU):ar prog 132 [aw b 0] [cells b 306 s.c] (λr J=>r=B (!s.ou&&decide (s.kj=[]))/\J=[cells b 306 s.c]):=by
 refine aE func132 λW=>?_;refine aa 17 ?_;refine Qx (λl=>?_) λl=>?_
 .simp[*]
 refine aa 11 ?_
 .simp[*]
def y3(b:Nat)(s:eU):ar prog 192 [aw b 0] [cells b 306 s.c] (λr J=>r=B s.ou/\J=[cells b 306 s.c]):=by refine aE func192 λW=>?_;exact aP 20
def Lm(b:Nat)(s:eU):ar prog 193 [aw b 0] [cells b 306 s.c] (λr J=>r=I (s.kj.length:Int)/\J=[cells b 306 s.c]):=by refine aE func193 λW=>?_;exact aP 27
def Bx{a b:Nat}(K:a<256)(X:b<256)(h:UInt8.ofNat a=UInt8.ofNat b):a=b:=by have:=dp UInt8.toNat h;simp at this;omega
def agG(a:Nat):∀b,(fA b).take (fA a).length=fA a->a=b:=by
 induction a using Nat.strongRecOn with
 |_ a d=>
  intro b h;by_cases K:a<128
  .rw[pg K]at h;by_cases X:b<128
   .rw[pg X]at h;exact(Bx ac ac Ub).symm
   .rw[pQ X]at h;have:=Bx (a:=128+b%128) (b:=a) ac ac Ub;omega
  .rw[pQ K]at h;by_cases X:b<128
   .rw[pg X]at h;have Y:=Bu (a/128);have:=dp List.length h;simp only[fp,dD,gv]at this;omega
   .rw[pQ X]at h;simp only[dD,vf,re]at h;have Y:=Bx ac ac h.1;have N:=d (a/128) ac (b/128) h.2;omega
theorem agf{a b:Int}(K:0<=a)(X:0<=b)(h:(bG b).take (bG a).length=bG a):a=b:=by have:=agG _ _ h;omega
def qB(b:Nat)(v:aj)(Z:ab aS)(n:Int)(g:Nat)(h:n<=9223372036854775807)(U:Z.length<=900000):ar prog 170 [aw b 0,.slice (some ⟨g,0,none⟩) 1 1] [cells b 231 (gd.c ⟨v⟩),rows dt v 5 1 Z,row (.slice (some ⟨g,0,none⟩) 1 1) 3 1 1 [I n]] (λr J=>∃t,r=.tuple #[]/\J=[cells b 231 (gd.c ⟨t⟩),rows dt t 5 1 (Z++bG n),row (.slice (some ⟨g,0,none⟩) 1 1) 3 1 1 [I n]]):=by have:=y2 b v Z [n] _ _ 1 g 0 (Rd.lits (E:=3) (z:=1) tw [n] rfl rfl (λ_=>rfl) T3) Ub Ui;exact Rr
def FA(b:Nat)(v:aj)(Z:ab aS)(m n:Int)(g:Nat)(K:m<=9223372036854775807)(h:n<=9223372036854775807)(U:Z.length<=900000):ar prog 170 [aw b 0,.slice (some ⟨g,0,none⟩) 2 2] [cells b 231 (gd.c ⟨v⟩),rows dt v 5 1 Z,row (.slice (some ⟨g,0,none⟩) 2 2) 3 1 2 [I m,I n]] (λr J=>∃t,r=.tuple #[]/\J=[cells b 231 (gd.c ⟨t⟩),rows dt t 5 1 (Z++(bG m++bG n)),row (.slice (some ⟨g,0,none⟩) 2 2) 3 1 2 [I m,I n]]):=by have:=y2 b v Z [m,n] _ _ 2 g 0 (Rd.lits (E:=3) (z:=2) tw [m,n] rfl rfl (λ_=>rfl) T3) (by intro q aW;simp at aW;rcases aW with rfl|rfl<;>assumption) Ui;exact Rr
def ahG(b:Nat)(v:aj)(Z t:ab aS)(U:Z.length+t.length<=2000000):ar prog 175 [aw b 0,S t] [cells b 231 (gd.c ⟨v⟩),rows dt v 5 1 Z] (λr J=>∃g,r=.tuple #[]/\J=[cells b 231 (gd.c ⟨g⟩),rows dt g 5 1 (Z++t)]):=by refine aE func175 λW=>?_;refine aa 7 ?_;refine ai.o (O.Vj ad rfl rfl T8 (cq.str ad) (λY D G=>?_));exact aP 5
def FB(b:Nat)(v:aj)(Z t:ab aS)(U:Z.length+t.length<=800000):ar prog 262 [aw b 0,S t] [cells b 231 (gd.c ⟨v⟩),rows dt v 5 1 Z] (λr J=>∃g,r=.tuple #[]/\J=[cells b 231 (gd.c ⟨g⟩),rows dt g 5 1 (Z++(bG t.length++t))]):=by
 have v:=fU (n:=(t.length:Int)) ac;refine aE func262 λW=>?_;refine aq 5 λu=>?_;refine ai.p' rfl (qB _ _ _ _ _ ?_ ?_) ?_;iterate 2 exact cf
 rintro _ _⟨N,rfl,rfl⟩;refine aa 6 ?_;refine P3 λM=>?_;refine aa 3 ?_;rw[cn];exact⟨_,_,⟨_,rfl,rfl⟩,ak.cons al.here (ak.cons al.here ak.nil)⟩
def Bz(b:Nat)(v:aj)(Z:ab aS)(y:Bool)(U:Z.length<=800000):ar prog 173 [aw b 0,B y] [cells b 231 (gd.c ⟨v⟩),rows dt v 5 1 Z] (λr J=>∃t,r=.tuple #[]/\J=[cells b 231 (gd.c ⟨t⟩),rows dt t 5 1 (Z++bG (if y then 1 else 0))]):=by
 refine aE func173 λW=>?_;refine PD (λE=>?_) λE=>?_;refine aq 2 λg=>?_;refine ai.p' rfl (qB _ _ _ _ _ ?_ ?_) ?_;iterate 2 exact cf
 rintro _ _⟨C,rfl,rfl⟩;refine aa 3 ?_;rotate_left;refine aq 2 λd=>?_;refine ai.p' rfl (qB _ _ _ _ _ ?_ ?_) ?_;iterate 2 exact cf
 rintro _ _⟨Q,rfl,rfl⟩;refine aa 3 ?_;rotate_left
 exact PS
 exact PS
def mF(s:eU)(n:Int):ab aS×eU:=if s.ou=true\/n<0\/(s.kj.length:Int)<n then([],⟨[],true⟩)else(s.kj.take n.toNat,⟨s.kj.drop n.toNat,s.ou⟩)
def tJ(b:Nat)(s:eU)(n:Int)(Q:s.kj.length<=9223372036854775807):ar prog 191 [aw b 0,I n] [cells b 306 s.c] (λr J=>r=S (mF s n).1/\J=[cells b 306 (mF s n).2.c]):=by
 refine aE func191 λW=>?_;refine aa 17 ?_;refine ai.aY (λo=>?_) (λo=>?_);refine aa 18 ?_;refine ai.p' rfl (rx _ _) ?_;refine aa 11 ?_;rotate_left;refine Qa (λR=>?_) λR=>?_;refine aa 14 ?_;refine ai.p' rfl (rx _ _) ?_;refine aa 11 ?_;rotate_left;refine aa 10 ?_;refine ah.cs (λM=>?_) (λM=>?_);refine aa 3 ?_;refine ai.p' rfl (rx _ _) ?_;refine aa 11 ?_;rotate_left;refine aa 9 ?_;refine ai.v (V.Wn ad) ?_;refine aa 11 ?_;refine ai.v (V.Xx ad) ?_;refine aa 13 ?_;rotate_left;all_goals first
  |(rw[show mF s n=([],⟨[],true⟩)from aQ (by simp_all)];exact⟨_,_,⟨rfl,rfl⟩,ak.cons al.here ak.nil⟩)
  |(rw[show mF s n=(s.kj.take n.toNat,⟨s.kj.drop n.toNat,s.ou⟩)from aM (by simp_all)];exact⟨_,_,⟨rfl,rfl⟩,ak.cons al.here ak.nil⟩)
def iR:ab aS->Nat->Nat->aT (Nat×ab aS)
 |[],_,_=>none
 |x::Z,i,acc=>if 8<i then none else if x.toNat<128 then(if x.toNat=0/\0<i then none else some (acc+x.toNat%128*128^i,Z))else iR Z (i+1) (acc+(x.toNat%128)*128^i)
def pR(G:Int)(s:eU)(i acc:Nat):Int×eU:=
 if s.ou=true then(0,⟨[],true⟩)else match iR s.kj i acc with
  |some (v,i)=>if G<(v:Int)then(0,⟨[],true⟩)else((v:Int),⟨i,false⟩)
  |none=>(0,⟨[],true⟩)
def ph(s:eU)(G:Int):Int×eU:=pR G s 0 0
def aeN:∀x:Fin 256,(BitVec.ofNat 8 x.val&&&127#8).toNat=x.val%128:=T6
def adn(x:aS):lb .and .u8 (x.toNat:Int) 127=some ((x.toNat%128:Nat):Int):=by
 have Y:=aeN ⟨x.toNat,x.toNat_lt⟩;have c:BitVec.ofInt IntKind.u8.bits (x.toNat:Int)=BitVec.ofNat 8 x.toNat:=sI 8 _;have U:BitVec.ofInt IntKind.u8.bits 127=127#8:=rfl;simp only[lb,c,U];show some (IntKind.u8.wrap ((BitVec.ofNat 8 x.toNat&&&127#8).toNat:Int))=_
 rw[Y,y1];simp only;congr 2;omega
def BA(m:Nat)(h:m<2^64):IntKind.u64.wrap (m:Int)=(m:Int):=QZ
def FC(i:Nat):(2:Nat)^(7*i)=128^i:=by rw[Nat.pow_mul]
def BB{i:Nat}(h:i<=8):128^i<=128^8:=Nat.pow_le_pow_right ac h
def ah4(x i:Nat)(U:x<128)(ao:i<=8):IntKind.u64.wrap ((x:Int)*2^(Min.min (7*(i:Int)).toNat IntKind.u64.bits))=((x*128^i:Nat):Int):=by
 have e:Min.min (7*(i:Int)).toNat IntKind.u64.bits=7*i:=by have:IntKind.u64.bits=64:=rfl;omega
 rw[e];have Y:((x:Int)*2^(7*i))=((x*128^i:Nat):Int):=by rw[<-FC];simp
 rw[Y];have:=Bj (show x<=127 by omega) (BB ao);exact BA _ ac
def Ls(a y i:Nat)(K:a<128^i)(ao:i<=8)(F:y<128):lb .or .u64 (a:Int) ((y*128^i:Nat):Int)=some ((a+y*128^i:Nat):Int):=by
 have Y:=BB ao;have N:=Bj (show y<=127 by omega) Y;have c:BitVec.ofInt IntKind.u64.bits (a:Int)=BitVec.ofNat 64 a:=sI 64 _;have Y:BitVec.ofInt IntKind.u64.bits ((y*128^i:Nat):Int)=BitVec.ofNat 64 (y*128^i):=sI 64 _;have z:a|||y*128^i=a+y*128^i:=by rw[<-FC]at K⊢;have:=Nat.two_pow_add_eq_or_of_lt K y;rw[BC y,Nat.or_comm,<-this];omega
 simp only[lb,c,Y];show some (IntKind.u64.wrap ((BitVec.ofNat 64 a|||BitVec.ofNat 64 (y*128^i)).toNat:Int))=_
 rw[BitVec.toNat_or,ry,ry,sB ac,sB ac,z,BA _ ac]
def y4(m:Nat)(h:m<2^63):IntKind.i64.wrap (m:Int)=(m:Int):=AU (mv.WH ac)
def ahZ(s:eU):mF s 1=match s.ou,s.kj with
  |false,x::Z=>([x],⟨Z,false⟩)
  |_,_=>([],⟨[],true⟩):=by
 unfold mF
 cases w:s.ou<;>cases ao:s.kj<;>simp<;>omega
def xe{G:Int}{c:eU}{i acc:Nat}{x:aS}{Z:ab aS}(w:¬c.ou=true)(q:c.kj=x::Z):pR G c i acc=if 8<i then(0,⟨[],true⟩)else if x.toNat<128 then(if x.toNat=0/\0<i then(0,⟨[],true⟩)else if G<((acc+x.toNat%128*128^i:Nat):Int)then(0,⟨[],true⟩)else(((acc+x.toNat%128*128^i:Nat):Int),⟨Z,false⟩)) else pR G ⟨Z,false⟩ (i+1) (acc+x.toNat%128*128^i):=by
 unfold pR;rw[aM w,q];simp only[iR];by_cases Y:8<i
 .simp only[aQ Y]
 .by_cases N:x.toNat<128
  .by_cases R:x.toNat=0/\0<i
   .simp only[aM Y,aQ N,aQ R]
   .simp only[aM Y,aQ N,aM R]
  .simp only[aM Y,aM N,hM,iq]
def y5(b:Nat)(s:eU)(G:Int)(Q:s.kj.length<=9223372036854775807):ar prog 190 [aw b 0,I G] [cells b 306 s.c] (λr J=>r=I (ph s G).1/\J=[cells b 306 (ph s G).2.c]):=by
 refine aE func190 λW=>?_;refine aa 16 ?_;refine ah.cp [0,1] (λx:Nat×Nat×eU=>pR G x.2.2 x.1 x.2.1=ph s G/\x.2.1<128^x.1/\x.1<=9/\x.2.2.kj.length<=9223372036854775807) (λx=>[(5,.int .u64 (x.2.1:Int)),(6,I (7*(x.1:Int)))]) (λx=>[cells b 306 x.2.2.c]) (λx=>10-x.1) (0,0,s) ⟨rfl,T3,T3,Q⟩ ?_;rintro⟨i,acc,c⟩⟨L,F,ao,q⟩ K m;dsimp only at L F ao q;refine bl ?_;have f:=ahZ c;by_cases w:c.ou=true
 .have X:ar prog 191 [aw b 0,I 1] [cells b 306 c.c] (λr J=>r=S []/\J=[cells b 306 (eU.c ⟨[],true⟩)]):=by have:=tJ b c 1 q;rwa[show mF c 1=([],⟨[],true⟩) by rw[f,w]]at this
  refine aa 25 ?_;refine TK ?_;rw[<-L,show pR G c i acc=(0,⟨[],true⟩)from aQ w];exact⟨_,_,⟨rfl,rfl⟩,ak.cons al.here ak.nil⟩
 .cases j:c.kj with
  |nil=>
   have X:ar prog 191 [aw b 0,I 1] [cells b 306 c.c] (λr J=>r=S []/\J=[cells b 306 (eU.c ⟨[],true⟩)]):=by have:=tJ b c 1 q;rwa[show mF c 1=([],⟨[],true⟩) by rw[f,j];cases c.ou<;>rfl]at this
   refine aa 25 ?_;refine TK ?_;rw[<-L,show pR G c i acc=(0,⟨[],true⟩) by unfold pR;rw[aM w,j];rfl];exact⟨_,_,⟨rfl,rfl⟩,ak.cons al.here ak.nil⟩
  |cons x Z=>
   have X:ar prog 191 [aw b 0,I 1] [cells b 306 c.c] (λr J=>r=S [x]/\J=[cells b 306 (eU.c ⟨Z,false⟩)]):=by have:=tJ b c 1 q;rwa[show mF c 1=([x],⟨Z,false⟩) by rw[f,j];simp at w;rw[w]]at this
   have l:i<=8->acc+(x.toNat%128)*128^i<2^63:=λU=>by have Y:=BB U;have N:=Bj (show x.toNat%128<=127 by omega) Y;omega
   have b:=x.toNat_lt;clear f;refine aa 16 ?_;refine ai.dA (λN=>?_) (λN=>?_);exact lz N;replace N:=gD N;refine PD (λR=>?_) λR=>?_;refine aa 3 ?_;refine TK ?_;rotate_left;refine aa 6 ?_;refine ai.v (V.WI ad rfl rfl ac rfl) ?_;refine ai.v (V.VN rfl rfl (adn _)) ?_;refine ai.v (V.U0 ad rfl rfl (BA _ ac)) ?_;refine au ?_;refine ai.v (V.aaF rfl rfl (ah4 _ _ ac ac)) ?_;refine ai.v (V.VN rfl rfl (Ls _ _ _ TX ac ac)) ?_;refine aa 6 ?_;refine ai.v (V.WI ad rfl rfl ac rfl) ?_;refine aa 3 ?_;refine ah.cs (λM=>?_) (λM=>?_);refine aa 4 ?_;refine ai.v (V.WI ad rfl rfl ac rfl) ?_;refine aa 2 ?_;refine ai.aY (λy=>?_) (λy=>?_);refine Qa (λU=>?_) λU=>?_;refine aa 11 ?_;refine TK ?_;rotate_left;refine au ?_;refine ai.v (V.U0 ad rfl rfl (y4 _ (l ac))) ?_;refine PD (λM=>?_) λM=>?_;refine aa 3 ?_;refine TK ?_;rotate_left;refine aa 5 ?_;refine ai.v (V.U0 ad rfl rfl (y4 _ (l ac))) ?_;refine aa 9 ?_;rotate_left;refine aa 5 ?_;refine ai.v (V.U0 ad rfl rfl (y4 _ (l ac))) ?_;refine PD (λs=>?_) λs=>?_;refine aa 3 ?_;refine TK ?_;rotate_left;refine aa 5 ?_;refine ai.v (V.U0 ad rfl rfl (y4 _ (l ac))) ?_;refine aa 9 ?_;rotate_left;refine aa 8 ?_;rotate_left;all_goals first
    |(rw[<-L,xe w j,aQ ac];exact⟨_,_,⟨rfl,rfl⟩,ak.cons al.here ak.nil⟩;done)
    |(rw[<-L,xe w j,aM ac,aQ ac,aQ ac];exact⟨_,_,⟨rfl,rfl⟩,ak.cons al.here ak.nil⟩;done)
    |(rw[<-L,xe w j,aM ac,aQ ac,aM ac,aQ TX];exact⟨_,_,⟨rfl,rfl⟩,ak.cons al.here ak.nil⟩;done)
    |(rw[<-L,xe w j,aM ac,aQ ac,aM ac,aM TX];exact⟨_,_,⟨rfl,rfl⟩,ak.cons al.here ak.nil⟩;done)
    |skip
   have y:acc+x.toNat%128*128^i<128^(i+1):=by have N:=kh (128^i) (show x.toNat%128+1<=128 by omega);rw[xd];rw[fr]at N;omega
   refine Out.z' m (i+1,acc+x.toNat%128*128^i,⟨Z,false⟩) ?_ Lk;exact ⟨by dsimp only;rw[<-L,xe w j,aM ac,aM ac],y,Lk,by dsimp only;rw[j]at q;simp at q;omega⟩
def aeR(b:Nat)(s:eU)(Q:s.kj.length<=9223372036854775807):ar prog 196 [aw b 0] [cells b 306 s.c] (λr J=>r=B (decide ((ph s 1).1=1))/\J=[cells b 306 (ph s 1).2.c]):=by refine aE func196 λW=>?_;refine aa 8 ?_;refine ai.p' rfl (y5 _ _ _ ?_) ?_;exact cf;exact aP 7
def FD:∀(l:ab aS) (i acc v:Nat) (s:ab aS),iR l i acc=some (v,s)->s.length<=l.length
 |[],_,_,_,_,h=>by simp[iR]at h
 |x::Z,i,acc,v,s,h=>by
  simp only[iR]at h;split at h
  .cases h
  .split at h
   .split at h
    .cases h
    .simp only[eY,ny]at h;rw[<-h.2];simp
   .have:=FD Z _ _ _ _ h;simp;omega
def af6(s:eU)(G:Int):(ph s G).2.kj.length<=s.kj.length:=by
 unfold ph pR;split
 .simp
 .split
  .rename_i v i h;have:=FD _ _ _ _ _ h;split<;>simp<;>omega
  .simp
def y6(s:eU)(G:Int):ab aS×eU:=mF (ph s G).2 (ph s G).1
def adf(b:Nat)(s:eU)(G:Int)(Q:s.kj.length<=9223372036854775807):ar prog 269 [aw b 0,I G] [cells b 306 s.c] (λr J=>r=S (y6 s G).1/\J=[cells b 306 (y6 s G).2.c]):=by have T:=af6 s G;refine aE func269 λW=>?_;refine aa 10 ?_;refine ai.p' rfl (y5 _ _ _ ?_) ?_;exact cf;refine au ?_;refine ai.p' rfl (tJ _ _ _ ?_) ?_;exact cf;exact aP 6
end Go.Proofs.YteogojgnkjegmaaGreatDoor
