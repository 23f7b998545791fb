/-
 Part of the proof.
-/
import Derived.Test.YteogojgnkjegmaaGreatDoorXf
set_option linter.all false
set_option maxRecDepth 8000
set_option maxHeartbeats 8000000
namespace Go.Proofs.YteogojgnkjegmaaGreatDoor
open Go.ay Go.Proofs.Tryz
variable{D:ab Nat}{N:ab ax}{Z:ab bk}{C:bv->ab ax->Prop}{W:aY}{M:Array Go.Edge}{k n:Nat}
def lU(x:ag)(n:Int):cX prog 82 [A x.c,I n] (B (bB x n)):=by
 refine aB func82 λW=>?_;refine aq 2 λo=>?_;refine aa 9 ?_;refine ai.aU (λC=>?_) (λC=>?_);refine aa 6 ?_;refine Rz (λK i=>?_) (λK i=>?_) λK=>?_;refine aa 9 ?_
 .simp[bB, *]
 refine aa 9 ?_
 .simp[bB, *]
 refine aa 14 ?_
 .simp[bB, *]
 refine aa 20 ?_
 .simp[bB, *]
def p2{o:Type}(f:o->ab aj)(E X:Nat){W:aY}{D:ab Nat}{N:ab ax}{w:aY}(h:H W D N w):∀m:Nat,H W D (qT f E X (List.replicate m (.slice none 0 0)) (List.replicate m [])++N) w
 |0=>h
 |m+1=>(p2 f E X h m).Td f E X
def H.p2{o:Type}(f:o->ab aj)(E X m:Nat){w:aY}(h:H W D N w):H W D (gr f E X (List.replicate m (.slice none 0 0)) (List.replicate m [])::N) w:=(Go.Proofs.YteogojgnkjegmaaGreatDoor.p2 f E X h m).toBag
def zd(a b:ag):cX prog 109 [A a.c,A b.c] (B (pd a b)):=by
 refine aB func109 λW=>?_;refine aq 2 λo=>?_;refine aq 0 λp=>?_;refine aa 11 ?_;refine ai.aU (λE=>?_) (λE=>?_);refine aa 18 ?_
 exact Bb
 refine RG (λq=>?_) λq=>?_;refine aa 12 ?_
 exact Bb
 refine aa 12 ?_
 exact Bb
def abq(n:Int):ar prog 145 [I n] [] (λv Y=>∃b,v=au b 0/\Y=[dM aV.c 323 52 14 b (List.replicate 7 (.slice none 0 0)) (List.replicate 7 (.slice none 0 0)) (aJ.new n:aJ aV)]):=by
 have h:ar prog 145 [I n] [] (λv Y=>∃b,v=au b 0/\Y=[cells b 323 (ca (List.replicate 7 (.slice none 0 0)) (List.replicate 7 (.slice none 0 0)) (aJ.new n:aJ aV))]):=by refine aB func145 λW=>?_;refine aq 11 λF=>?_;exact aM 5
 refine QN λb W D w y=>?_;have F:=H.p2 aV.c 52 14 7 (H.p2 eH 4 1 7 y);exact Kk
def ve:aQ aV->aj
 |none=>.tuple #[A aV.z.c,B false]
 |some t=>.tuple #[A t.c,B true]
def vf(b:Nat)(N w:ab aj)(p:aJ aV)(x:ag)(m:p.wf)(t:N.length=7)(D:w.length=7):ar prog 148 [au b 0,A x.c] [dM aV.c 323 52 14 b N w p] (λr Y=>r=ve (p.at x)/\Y=[dM aV.c 323 52 14 b N w p]):=by
 by_cases q:bB x p.aS=true
 .have Z:cX prog 82 [A x.c,I p.aS] (B true):=q▸lU x p.aS;simp only[bB,cZ,da]at q;obtain⟨k,lg⟩:=q7 q.1.1.1;have T:x.be.toNat=k:=by omega
  have ao:=m.ao;have lS:=m.lS;have lT:=m.lT;have Q:=m.same k;obtain⟨v,M⟩:=b8 (q:=N) (k:=k) ac;obtain⟨u,Yc⟩:=b8 (q:=w) (k:=k) ac;have d:=dM.open (f:=aV.c) (B:=323) (E:=52) (aG:=14) (b:=b) (p:=p) M Yc ac ac;refine Hz λaO q8=>?_;refine ar.eqv d (R:=λr Y=>r=ve (p.at x)/\Y=fy aV.c 323 52 14 b N w p k v u (p.x k) (p.h k)) ?_ Q9;have o:p.at x=if(p.h k).getD (x.bH-1).toNat false=true then some ((p.x k).getD (x.bH-1).toNat default)else none:=NW
  rw[o];unfold fy;refine aB func148 λW=>?_;by_cases a:((p.x k).length:Int)<x.bH
  .have:(p.h k).getD (x.bH-1).toNat false=false:=by rw[jM,u6 (by rw[<-Q];omega)];rfl
   rw[this];exact Iv
  .refine ah.form (f:=eH) (v:=u) (l:=p.h k) XB (λj F=>?_) (λg C Yf=>?_)
   .have:(p.x k).length=0:=by rw[Q,F];rfl
    omega
   refine ah.form (f:=aV.c) (v:=v) (l:=p.x k) XB (λj F=>?_) (λL z P=>?_)
   .have:(p.x k).length=0:=by rw[F];rfl
    omega
   subst Yf P;obtain⟨X,Ye⟩:=b8 (q:=p.h k) (k:=(x.bH-1).toNat) ac;obtain⟨G,i⟩:=b8 (q:=p.x k) (k:=(x.bH-1).toNat) ac;have y:(p.h k).getD (x.bH-1).toNat false=X:=by rw[jM,Ye];rfl
   have J:(p.x k).getD (x.bH-1).toNat default=G:=by rw[jM,i];rfl
   rw[y,J];cases X
   exact OX
   exact OS
 .have Z:cX prog 82 [A x.c,I p.aS] (B false):=by
   have s:bB x p.aS=false:=X3
   exact s▸lU x p.aS
  have o:p.at x=none:=by simp[aJ.at,q]
  rw[o];refine ar.eqv dM.bare (R:=λr Y=>r=ve none/\Y=[cells b 323 (ca N w p),gr aV.c 52 14 N p.xs,gr eH 4 1 w p.cf]) ?_ Z9;refine aB func148 λW=>?_;exact Lr
def Ik(b:Nat)(N w:ab aj)(p:aJ aV)(x:ag)(t:aV)(o:p.wf)(ej:N.length=7)(hu:w.length=7):ar prog 149 [au b 0,A x.c,A t.c] [dM aV.c 323 52 14 b N w p] (λr Y=>∃d z,d.length=7/\z.length=7/\r=B (bB x p.aS)/\Y=[dM aV.c 323 52 14 b d z (p.set x t)]):=by
 by_cases D:bB x p.aS=true
 .refine Ja λdT q=>?_
  rw[q];simp only[bB,cZ,da]at D;obtain⟨k,lg⟩:=q7 D.1.1.1;have cc:x.be.toNat=k:=ac
  rw[cc];have ao:=o.ao;have lS:=o.lS;have lT:=o.lT;have cf:=o.same k;have Yp:=o.m9 k;obtain⟨v,Yg⟩:=b8 (q:=N) (k:=k) ac;obtain⟨u,Yh⟩:=b8 (q:=w) (k:=k) ac;have kP:=dM.open (f:=aV.c) (B:=323) (E:=52) (aG:=14) (b:=b) (p:=p) Yg Yh ac ac;refine ar.eqv kP (R:=λr Y=>∃dE iD,r=B true/\Y=fy aV.c 323 52 14 b N w p k dE iD ((gC (p.x k) x.bH.toNat default).set (x.bH-1).toNat t) ((gC (p.h k) x.bH.toNat false).set (x.bH-1).toNat true)) ?_ LK
  unfold fy;refine aB func149 λW=>?_;have Yj:∀{n:c7} {Z:bv} {Q:cE} {c:Go.Code},(((p.x k).length=0\/∃g C L T,v=.slice (some ⟨g,0,none⟩) (p.x k).length C/\u=.slice (some ⟨L,0,none⟩) (p.h k).length T)->ah prog none W (bg (fy aV.c 323 52 14 b N w p k v u (p.x k) (p.h k))) n Q c Z (fy aV.c 323 52 14 b N w p k v u (p.x k) (p.h k)))->ah prog none W (bg (fy aV.c 323 52 14 b N w p k v u (p.x k) (p.h k))) n Q c Z (fy aV.c 323 52 14 b N w p k v u (p.x k) (p.h k)):=by intro n Z Q c h;refine ah.form (f:=aV.c) (v:=v) (l:=p.x k) ZK (λ_ cm=>h (.inl (by rw[cm];rfl))) (λL T Yf=>?_);refine ah.form (f:=eH) (v:=u) (l:=p.h k) ZK (λ_ cm=>h (.inl (by rw[cf,cm];rfl))) (λg C Yi=>h (.inr ⟨_,_,_,_,Yf,Yi⟩))
  refine Yj λYo=>?_;clear Yj;refine Kd λJ Ym j=>?_
  have P:∀{a b eM},bq (8+k*1) [eM] (ca (N.set k a) (w.set k b) p) (ca (N.set k a) (w.set k eM) p):=λ{a b eM}=>⟨ca.T3 X9 ac⟩
  have F:∀{a b},b.length=7->Nat.blt (1+k*1) (ca (N.set k a) b p).length=true:=λ{a b} bY=>ZL
  have U:∀{a b},Nat.blt (8+k*1) (ca (N.set k a) (w.set k b) p).length=true:=λ{a b}=>ZL
  have i:∀{b},(w.set k b).length=7:=λ{b}=>ZJ
  refine KD λfp lV=>?_;refine ah.n' ?_ aA.d'.d'.d'.d'.d'.d'.j;refine Rq ?_;refine ae 3 8 ?_;refine aa 7 ?_;refine ah.cb [5,4,0] (λy:aj×aj×ab aV×ab Bool=>(∃m,y.2.2.1=p.x k++List.replicate m default/\y.2.2.2=p.h k++List.replicate m false/\(m=0\/(((p.x k).length+m:Nat):Int)<=x.bH))/\
    (y.2.2.1.length=0\/∃g C L T,y.1=.slice (some ⟨g,0,none⟩) y.2.2.1.length C/\y.2.1=.slice (some ⟨L,0,none⟩) y.2.2.2.length T)) (λy=>[])
   (λy=>[cells b 323 (ca (N.set k y.1) (w.set k y.2.1) p),rows aV.c y.1 52 14 y.2.2.1,rows eH y.2.1 4 1 y.2.2.2]) (λy=>x.bH.toNat-y.2.2.1.length) (v,u,p.x k,p.h k) ⟨⟨0,XE,XE,.inl rfl⟩,Yo⟩ ?_
  rintro⟨dE,iD,X,oj⟩⟨⟨m,hW,cM,fF⟩,dK⟩ K cu;dsimp only at hW cM fF dK;refine bh ?_;have vg:X.length=(p.x k).length+m:=by rw[hW];simp
  have C9:oj.length=X.length:=by rw[cM,vg];simp[cf]
  by_cases Yc:(X.length:Int)<x.bH
  .refine IS λom=>?_;refine af.bu 14 23 rfl rfl ?_ ?_;refine O.N' ad aV.c [_] rfl (bx.agg rfl bx.nil) rfl rfl (λYq=>?_);refine av ?_;refine af.bu 15 23 rfl rfl ?_ ?_;refine O.O' ad rfl rfl XJ (ce.rows ad XB aV.B') (λYn M=>?_);refine av ?_;refine c1 23 λYk=>?_;refine Rj λYl G=>?_;rotate_left;refine O.lit ad (λYk=>?_);refine av ?_;refine af.p' 15 rfl (O.O' ad rfl rfl XJ (ce.rows ad XB aV.B') (λYn M=>?_));refine av ?_;refine Rj λYl G=>?_;rotate_left;refine O.lit ad (λYk=>?_);refine av ?_;refine af.p' 14 rfl (O.N' ad aV.c [_] rfl (bx.agg rfl bx.nil) rfl rfl (λYq=>?_));refine av ?_;refine af.p' 15 rfl (O.O' ad rfl rfl XJ (ce.rows ad XB aV.B') (λYn M=>?_));refine av ?_;refine Rj λYl G=>?_;rotate_left;all_goals(refine Out.t' cu (_,_,X++[default],oj++[false]) ?_ XM;exact ⟨⟨m+1,by rw[tw,<-hW],by rw[tw,<-cM],.inr ZT⟩,.inr ⟨_,_,_,_,rfl,rfl⟩⟩)
  .have Yr:X=gC (p.x k) x.bH.toNat default:=by rw[hW];exact tv ac ac
   have Ye:oj=gC (p.h k) x.bH.toNat false:=LV
   rw[<-Yr,<-Ye];rcases dK with dK|⟨g,C,L,T,rfl,rfl⟩
   .omega
   .refine Ra ?_;refine af.p' 22 rfl (O.F' ad (f:=aV.c) (a:=t) rfl rfl XH rfl ac aV.len aV.B' ?_);refine IX ?_
    exact XZ
 .have s:bB x p.aS=false:=by simpa using D
  refine PD λdT q=>?_
  rw[q,s];refine ar.eqv dM.bare (R:=λr Y=>r=B false/\Y=[cells b 323 (ca N w p),gr aV.c 52 14 N p.xs,gr eH 4 1 w p.cf]) ?_ M8;refine aB func149 λW=>?_;exact HX
def ad3(n:Int):ar prog 146 [I n] [] (λv Y=>∃b,v=au b 0/\Y=[dM eH 325 4 1 b (List.replicate 7 (.slice none 0 0)) (List.replicate 7 (.slice none 0 0)) (aJ.new n:aJ Bool)]):=by
 have h:ar prog 146 [I n] [] (λv Y=>∃b,v=au b 0/\Y=[cells b 325 (ca (List.replicate 7 (.slice none 0 0)) (List.replicate 7 (.slice none 0 0)) (aJ.new n:aJ Bool))]):=by refine aB func146 λW=>?_;refine aq 11 λF=>?_;exact aM 5
 refine QN λb W D w y=>?_;have F:=H.p2 eH 4 1 7 (H.p2 eH 4 1 7 y);exact Kk
def ze:aQ Bool->aj
 |none=>.tuple #[B false,B false]
 |some t=>.tuple #[B t,B true]
def Im(b:Nat)(N w:ab aj)(p:aJ Bool)(x:ag)(m:p.wf)(t:N.length=7)(D:w.length=7):ar prog 254 [au b 0,A x.c] [dM eH 325 4 1 b N w p] (λr Y=>r=ze (p.at x)/\Y=[dM eH 325 4 1 b N w p]):=by
 by_cases q:bB x p.aS=true
 .have Z:cX prog 82 [A x.c,I p.aS] (B true):=q▸lU x p.aS;simp only[bB,cZ,da]at q;obtain⟨k,lg⟩:=q7 q.1.1.1;have T:x.be.toNat=k:=by omega
  have ao:=m.ao;have lS:=m.lS;have lT:=m.lT;have Q:=m.same k;obtain⟨v,G⟩:=b8 (q:=N) (k:=k) ac;obtain⟨u,M⟩:=b8 (q:=w) (k:=k) ac;have d:=dM.open (f:=eH) (B:=325) (E:=4) (aG:=1) (b:=b) (p:=p) G M ac ac;refine Hz λaO q8=>?_;refine ar.eqv d (R:=λr Y=>r=ze (p.at x)/\Y=fy eH 325 4 1 b N w p k v u (p.x k) (p.h k)) ?_ Q9;have o:p.at x=if(p.h k).getD (x.bH-1).toNat false=true then some ((p.x k).getD (x.bH-1).toNat default)else none:=NW
  rw[o];unfold fy;refine aB func254 λW=>?_;by_cases a:((p.x k).length:Int)<x.bH
  .have:(p.h k).getD (x.bH-1).toNat false=false:=by rw[jM,u6 (by rw[<-Q];omega)];rfl
   rw[this];refine Pd λn=>?_;refine Rq ?_;exact Jg
  .refine ah.form (f:=eH) (v:=u) (l:=p.h k) XB (λj F=>?_) (λg C Yc=>?_)
   .have:(p.x k).length=0:=by rw[Q,F];rfl
    omega
   refine ah.form (f:=eH) (v:=v) (l:=p.x k) XB (λj F=>?_) (λL z P=>?_)
   .have:(p.x k).length=0:=by rw[F];rfl
    omega
   subst Yc P;obtain⟨X,K⟩:=b8 (q:=p.h k) (k:=(x.bH-1).toNat) ac;obtain⟨U,i⟩:=b8 (q:=p.x k) (k:=(x.bH-1).toNat) ac;have y:(p.h k).getD (x.bH-1).toNat false=X:=by rw[jM,K];rfl
   have J:(p.x k).getD (x.bH-1).toNat default=U:=by rw[jM,i];rfl
   rw[y,J];cases X
   .refine Pd λn=>?_;refine Rq ?_;refine NE ?_;exact aM 13
   .refine Pd λn=>?_;refine Rq ?_;refine NE ?_;refine aa 6 ?_;refine ah.n' ?_ aA.d'.d'.d'.d'.d'.d';refine ae 6 0 ?_;refine af.i' 6 rfl (V.y' ad (g:=aO)) ?_;refine ae 4 7 ?_;refine af.i' 11 rfl (V.RZ ad rfl XB (λ_=>rfl) XF) ?_;refine ae 2 12 ?_;exact aM 4
 .have Z:cX prog 82 [A x.c,I p.aS] (B false):=by
   have s:bB x p.aS=false:=X3
   exact s▸lU x p.aS
  have o:p.at x=none:=by simp[aJ.at,q]
  rw[o];refine ar.eqv dM.bare (R:=λr Y=>r=ze none/\Y=[cells b 325 (ca N w p),gr eH 4 1 N p.xs,gr eH 4 1 w p.cf]) ?_ Z9;refine aB func254 λW=>?_;refine aq 2 λn=>?_;refine aa 11 ?_;refine ah.n' ?_ aA.d'.d'.d'.d';refine Rq ?_;refine ae 31 8 ?_;exact aM 13
def In(b:Nat)(N w:ab aj)(p:aJ Bool)(x:ag)(t:Bool)(o:p.wf)(ej:N.length=7)(hu:w.length=7):ar prog 257 [au b 0,A x.c,B t] [dM eH 325 4 1 b N w p] (λr Y=>∃d z,d.length=7/\z.length=7/\r=B (bB x p.aS)/\Y=[dM eH 325 4 1 b d z (p.set x t)]):=by
 by_cases D:bB x p.aS=true
 .refine Ja λdT q=>?_
  rw[q];simp only[bB,cZ,da]at D;obtain⟨k,lg⟩:=q7 D.1.1.1;have cc:x.be.toNat=k:=ac
  rw[cc];have ao:=o.ao;have lS:=o.lS;have lT:=o.lT;have cf:=o.same k;have Yp:=o.m9 k;obtain⟨v,Yg⟩:=b8 (q:=N) (k:=k) ac;obtain⟨u,Yh⟩:=b8 (q:=w) (k:=k) ac;have kP:=dM.open (f:=eH) (B:=325) (E:=4) (aG:=1) (b:=b) (p:=p) Yg Yh ac ac;refine ar.eqv kP (R:=λr Y=>∃dE iD,r=B true/\Y=fy eH 325 4 1 b N w p k dE iD ((gC (p.x k) x.bH.toNat default).set (x.bH-1).toNat t) ((gC (p.h k) x.bH.toNat false).set (x.bH-1).toNat true)) ?_ LK
  unfold fy;refine aB func257 λW=>?_;have Yj:∀{n:c7} {Z:bv} {Q:cE} {c:Go.Code},(((p.x k).length=0\/∃g C L T,v=.slice (some ⟨g,0,none⟩) (p.x k).length C/\u=.slice (some ⟨L,0,none⟩) (p.h k).length T)->ah prog none W (bg (fy eH 325 4 1 b N w p k v u (p.x k) (p.h k))) n Q c Z (fy eH 325 4 1 b N w p k v u (p.x k) (p.h k)))->ah prog none W (bg (fy eH 325 4 1 b N w p k v u (p.x k) (p.h k))) n Q c Z (fy eH 325 4 1 b N w p k v u (p.x k) (p.h k)):=by intro n Z Q c h;refine ah.form (f:=eH) (v:=v) (l:=p.x k) ZK (λ_ cm=>h (.inl (by rw[cm];rfl))) (λL T Yf=>?_);refine ah.form (f:=eH) (v:=u) (l:=p.h k) ZK (λ_ cm=>h (.inl (by rw[cf,cm];rfl))) (λg C Yi=>h (.inr ⟨_,_,_,_,Yf,Yi⟩))
  refine Yj λYo=>?_;clear Yj;refine Kd λJ Ym j=>?_
  have P:∀{a b eM},bq (8+k*1) [eM] (ca (N.set k a) (w.set k b) p) (ca (N.set k a) (w.set k eM) p):=λ{a b eM}=>⟨ca.T3 X9 ac⟩
  have F:∀{a b},b.length=7->Nat.blt (1+k*1) (ca (N.set k a) b p).length=true:=λ{a b} bY=>ZL
  have U:∀{a b},Nat.blt (8+k*1) (ca (N.set k a) (w.set k b) p).length=true:=λ{a b}=>ZL
  have i:∀{b},(w.set k b).length=7:=λ{b}=>ZJ
  refine aq 2 λfp=>?_;refine aa 5 ?_;refine ah.n' ?_ aA.d'.d'.d'.d'.d'.d';refine Rq ?_;refine ae 3 8 ?_;refine aa 7 ?_;refine ah.cb [4,0,2] (λy:aj×aj×ab Bool×ab Bool=>(∃m,y.2.2.1=p.x k++List.replicate m default/\y.2.2.2=p.h k++List.replicate m false/\(m=0\/(((p.x k).length+m:Nat):Int)<=x.bH))/\
    (y.2.2.1.length=0\/∃g C L T,y.1=.slice (some ⟨g,0,none⟩) y.2.2.1.length C/\y.2.1=.slice (some ⟨L,0,none⟩) y.2.2.2.length T)) (λy=>[])
   (λy=>[cells b 325 (ca (N.set k y.1) (w.set k y.2.1) p),rows eH y.1 4 1 y.2.2.1,rows eH y.2.1 4 1 y.2.2.2]) (λy=>x.bH.toNat-y.2.2.1.length) (v,u,p.x k,p.h k) ⟨⟨0,XE,XE,.inl rfl⟩,Yo⟩ ?_
  rintro⟨dE,iD,X,oj⟩⟨⟨m,hW,cM,fF⟩,dK⟩ K cu;dsimp only at hW cM fF dK;refine bh ?_;have vg:X.length=(p.x k).length+m:=by rw[hW];simp
  have C9:oj.length=X.length:=by rw[cM,vg];simp[cf]
  by_cases Yc:(X.length:Int)<x.bH
  .refine aa 2 ?_;refine ah.n' ?_ aA.d'.d'.d'.d'.d'.d';refine H4 ?_;refine af.i' 7 rfl (V.SP ad) ?_;refine ae 3 8 ?_;refine aa 11 ?_;refine ah.RN [28,32] ?_ aA.j.j.d'.j.j.d' aA.j.j.d'.j.j.j;refine ae 12 0 ?_;refine ae 1 13 ?_;refine ae 6 16 ?_;refine ae 2 25 ?_;refine ae 2 29 ?_;refine af.t 12 rfl (V.y' ad (g:=J)) ?_;refine af.t 22 rfl (V.y' ad (g:=Ym)) ?_;refine af.bu 14 23 rfl rfl ?_ ?_;refine O.lit ad (λYq=>?_);refine av ?_;refine af.bu 15 23 rfl rfl ?_ ?_;refine O.O' ad rfl rfl XJ (ce.one ad XB nC) (λYn M=>?_);refine av ?_;refine c1 23 λYk=>?_;refine Rj λYl G=>?_;rotate_left;refine O.lit ad (λYk=>?_);refine av ?_;refine af.p' 15 rfl (O.O' ad rfl rfl XJ (ce.one ad XB nC) (λYn M=>?_));refine av ?_;refine Rj λYl G=>?_;rotate_left;refine O.lit ad (λYk=>?_);refine av ?_;refine c1 14 λYq=>?_;refine af.p' 15 rfl (O.O' ad rfl rfl XJ (ce.one ad XB nC) (λYn M=>?_));refine av ?_;refine Rj λYl G=>?_;rotate_left;all_goals(refine Out.t' cu (_,_,X++[default],oj++[false]) ?_ XM;exact ⟨⟨m+1,by rw[tw,<-hW],by rw[tw,<-cM],.inr ZT⟩,.inr ⟨_,_,_,_,rfl,rfl⟩⟩)
  .have Yr:X=gC (p.x k) x.bH.toNat default:=by rw[hW];exact tv ac ac
   have Ye:oj=gC (p.h k) x.bH.toNat false:=LV
   rw[<-Yr,<-Ye];rcases dK with dK|⟨g,C,L,T,rfl,rfl⟩
   .omega
   .refine aa 2 ?_;refine ah.n' ?_ aA.d'.d'.d'.d'.d'.d';refine H4 ?_;refine ae 4 7 ?_;refine aa 9 ?_;refine ah.n' ?_ aA.j.j.d'.j.j.d';refine H4 ?_;refine Ou ?_;refine af.p' 22 rfl (O.S4 ad (f:=eH) (a:=t) rfl rfl rfl rfl XH rfl ac (λ_=>rfl) ?_);refine IX ?_
    exact XZ
 .have s:bB x p.aS=false:=by simpa using D
  refine PD λdT q=>?_
  rw[q,s];refine ar.eqv dM.bare (R:=λr Y=>r=B false/\Y=[cells b 325 (ca N w p),gr eH 4 1 N p.xs,gr eH 4 1 w p.cf]) ?_ M8;refine aB func257 λW=>?_;refine aq 2 λfp=>?_;refine aa 5 ?_;refine ah.n' ?_ aA.d'.d'.d'.d';refine Rq ?_;refine ae 3 8 ?_;exact aM 11
def g2(a b:bk):Bool:=decide (a.Round<b.Round)||(decide (a.Round=b.Round)&&decide (a.be<b.be))
def p3(a b:bk):Int:=if a=b then 0 else if g2 a b then-1 else 1
def zf{a b:bk}:g2 a b=true↔a.Round<b.Round\/a.Round=b.Round/\a.be<b.be:=by simp[g2]
def aad(a b:bk):cX prog 204 [A a.c,A b.c] (I (p3 a b)):=by
 by_cases h:a=b
 .rw[show p3 a b=0 by simp[p3,h]];refine aB func204 λW=>?_;refine aq 2 λo=>?_;refine aq 0 λp=>?_;exact aM 23
 .by_cases E:g2 a b=true
  .rw[show p3 a b=-1 by simp[p3,h,E]];rw[zf]at E;refine aB func204 λW=>?_;refine aq 2 λo=>?_;refine aq 0 λp=>?_;refine aa 22 ?_;refine ai.aU (λD=>?_) (λD=>?_);exact aM 26;exact aM 27
  .rw[show p3 a b=1 by simp[p3,h,E]];rw[zf]at E;refine aB func204 λW=>?_;refine aq 2 λo=>?_;refine aq 0 λp=>?_;refine aa 29 ?_;refine ai.aU (λo=>?_) (λo=>?_);exact aM 21;exact aM 21
def af6{a:bk}:g2 a a=false:=by rw[<-k7,zf];omega
def adw(a b:bk):decide (p3 a b<0)=g2 a b:=by
 unfold p3;by_cases h:a=b
 .subst h;rw[af6];simp
 .cases E:g2 a b<;>simp[h]
def r6(a b:bk):cX prog 139 [A a.c,A b.c] (B (g2 a b)):=by
 refine aB func139 λW=>?_;refine aq 2 λo=>?_;refine aq 0 λa=>?_;refine aa 7 ?_;refine ai.o (aw.fn rfl (aad _ _) ?_);refine aa 6 ?_
 .rw[<-adw]
def w4(n:Int):cX prog 58 [I n] (A (bk.c ⟨0,n⟩)):=by refine aB func58 λW=>?_;refine aq 2 λo=>?_;exact aM 11
def cD(n:Int):Int:=(Max.max n 1-1)/2
def zg(n:Int)(v:n<=9223372036854775807):cX prog 200 [I n] (I (cD n)):=by refine aB func200 λW=>?_;exact aM 16
def w5(n:Int)(v:n<=4611686018427387904):cX prog 136 [I n] (I (cD n+1)):=by
 have l:=zg n ac;have:0<=cD n/\cD n<=4611686018427387904:=ZU
 refine aB func136 λW=>?_;exact aM 15
def aew(n:Int)(v:n<=4611686018427387904)(f:0<=n):cX prog 268 [I n] (I (2*cD n)):=by
 have l:=zg n ac;have:cD n<=2305843009213693952:=ZU
 have:0<=cD n:=ZU
 refine aB func268 λW=>?_;refine aa 9 ?_;refine ai.v (V.mul) ?_;exact aM 5
def Is(n:Int)(v:n<=9223372036854775807):cX prog 19 [I n] (I (cD n)):=by
 by_cases h:n<1
 .rw[show cD n=0 by unfold cD;omega];refine aB func19 λW=>?_;exact aM 21
 .rw[show cD n=(n-1)/2 by unfold cD;omega];refine aB func19 λW=>?_;exact aM 25
def i7(a b:bk):Bool:=if a.Round≠b.Round then decide (a.Round<b.Round)else decide (a.be<b.be)
def p4(a b:bk):Int:=if a=b then 0 else if a.Round<b.Round\/(a.Round=b.Round/\a.be<b.be)then-1 else 1
def less(a b:bk):Bool:=decide (p4 a b<0)
def It(a b:bk):less a b=i7 a b:=by
 unfold less p4 i7;cases a;cases b;simp only[bk.mk.injEq];split
 .rename_i h;simp[h.1,h.2]
 .split
  .rename_i F M;rcases M with M|M
   .have:¬(_:Int)=_:=Int.ne_of_lt M;simp[M,this]
   .simp[M.1,M.2]
  .rename_i F M;simp only[q4,not_and,Int.not_lt]at M;split
   .simp;omega
   .simp;omega
def b4(x:ba×Bool):aj:=.tuple #[A x.1.c,B x.2]
def lm(i:ba)(b:bk):ba×Bool:=if i7 b i.cJ then(i,false)else({i with cJ:=b},true)
def ik(i:ba)(b:bk)(s:Int)(c:aV)(f:Bool):ba×Bool:=
 if i7 b i.cJ=true\/i.Status=3 then(i,false)
 else if i.cY=b/\s<=i.Status then({i with cJ:=b},decide (i.Status=s))
 else({cJ:=b,cY:=b,Status:=s,Call:=c,dB:=f},true)
def oo(i:ba)(c:aV):ba×Bool:=if i.Status=3 then(i,false)else({i with Status:=3,Call:=c,dB:=false},true)
def Da(a b:bk):cX prog 204 [A a.c,A b.c] (I (p4 a b)):=by
 refine aB func204 λW=>?_;refine PO λo p=>?_;refine Rp (λf=>?_) λf=>?_
 .simp_all[p4]
 refine aa 8 ?_;refine ai.aU (λF=>?_) (λF=>?_);refine aa 26 ?_
 .simp_all[p4]
 refine RG (λM=>?_) λM=>?_;refine aa 10 ?_;refine Rp (λg=>?_) λg=>?_
 .simp_all[p4]
 refine aa 10 ?_
 .simp_all[p4]
 refine aa 21 ?_
 .simp_all[p4]
def acM(a b:bk):cX prog 139 [A a.c,A b.c] (B (less a b)):=by refine aB func139 λW=>?_;refine aq 2 λo=>?_;refine aq 0 λa=>?_;refine aa 7 ?_;refine ai.o (aw.fn rfl (Da _ _) ?_);exact aM 6
def zh(a b:bk):cX prog 139 [A a.c,A b.c] (B (i7 a b)):=It a b▸acM a b
def Db(i:ba)(b:bk):cX prog 235 [A i.c,A b.c] (b4 (lm i b)):=by
 refine aB func235 λW=>?_;refine Ro λo a h=>?_;refine aa 9 ?_;refine ai.o (aw.fn rfl (zh _ _) ?_);refine Rh (λf=>?_) λf=>?_;refine aa 10 ?_
 .simp[b4,lm, *]
 refine aa 18 ?_
 .simp[b4,lm, *]
def af4(i:ba)(b:bk)(s:Int):cX prog 277 [A i.c,A b.c,I s] (B (decide (i.cY=b/\s<=i.Status))):=by
 refine aB func277 λW=>?_;refine aq 2 λa=>?_;refine aq 0 λh=>?_;refine Ru (λf=>?_) λf=>?_;refine aa 10 ?_
 .simp[*]
 refine aa 10 ?_
 .simp[*]
def Dc(i:ba)(b:bk)(s:Int)(c:aV)(j:Bool):cX prog 263 [A i.c,A b.c,I s,A c.c,B j] (b4 (ik i b s c j)):=by
 refine aB func263 λW=>?_;refine Ro λC K d=>?_;refine aq 0 λp=>?_;refine aa 7 ?_;refine ai.o (aw.fn rfl (Db _ _) ?_);refine aq 3 λR=>?_;refine aa 11 ?_;refine ai.aU (λf=>?_) (λf=>?_);refine aa 19 ?_;rotate_left;refine aa 7 ?_;refine ah.cs (λF=>?_) (λF=>?_);refine aa 11 ?_;rotate_left;refine aa 5 ?_;refine ai.o (aw.fn rfl (af4 _ _ _) ?_);refine aa 3 ?_;refine ah.cs (λM=>?_) (λM=>?_);refine av ?_;refine ah.n' ?_ aA.d'.j.j.j.d';refine ae 7 0 ?_;refine aa 6 ?_;rotate_left;refine aa 4 ?_;refine ah.n' ?_ aA.j.d'.d'.j.j;refine ae 12 0 ?_;refine aa 11 ?_;rotate_left;all_goals
  by_cases E:i7 b i.cJ=true
  .have t:ik i b s c j=(i,false):=aT (.inl E);simp_all[lm,b4]
  .by_cases g:i.Status=3
   .have t:ik i b s c j=(i,false):=aT (.inr g);simp_all[lm,b4]
   .by_cases z:i.cY=b/\s<=i.Status
    .have t:ik i b s c j=({i with cJ:=b},decide (i.Status=s)):=by unfold ik;rw[aN (by simp_all),aT z]
     rw[t];simp_all[lm,b4]
    .have t:ik i b s c j=({cJ:=b,cY:=b,Status:=s,Call:=c,dB:=j},true):=by unfold ik;rw[aN (by simp_all),aN z]
     rw[t];have r:lm i b=({i with cJ:=b},true):=aN E;first
      |(rw[r];rfl)
      |rfl
      |(exfalso;exact g XF)
      |(exfalso;exact z XF)
      |(exfalso;rw[r]at f;cases f;done)
      |(exfalso;simp_all;done)
def ae3(i:ba)(b:bk)(c:aV)(f:Bool):cX prog 232 [A i.c,A b.c,A c.c,B f] (b4 (ik i b 1 c f)):=by refine aB func232 λW=>?_;refine aq 2 λh=>?_;refine aq 0 λC=>?_;refine aq 0 λC=>?_;refine aq 0 λd=>?_;refine aa 9 ?_;refine ai.o (aw.fn rfl (Dc _ _ _ _ _) ?_);exact aM 8
def adn(i:ba)(b:bk)(c:aV):cX prog 234 [A i.c,A b.c,A c.c] (b4 (ik i b 2 c false)):=by refine aB func234 λW=>?_;refine aq 2 λa=>?_;refine aq 0 λh=>?_;refine aq 0 λC=>?_;refine aq 0 λC=>?_;refine aa 8 ?_;refine ai.o (aw.fn rfl (Dc _ _ _ _ _) ?_);exact aM 8
def Iy(i:ba)(c:aV):cX prog 182 [A i.c,A c.c] (b4 (oo i c)):=by
 refine aB func182 λW=>?_;refine Ro λo a h=>?_;refine aa 11 ?_;refine ah.cs (λf=>?_) (λf=>?_);refine aa 10 ?_
 .simp_all[b4,oo]
 refine aa 3 ?_;refine ah.n' ?_ aA.j.d'.j;refine ae 7 0 ?_;refine aa 11 ?_
 .simp_all[b4,oo]
def eD(b:bk)(n:Int):Bool:=decide (0<=b.Round/\b.Round<=1099511627776/\0<=b.be/\b.be<n)
def nN(m x:bk):bk:=if 0<p4 x m then x else m
def kb:ab bk->bk
 |[]=>bk.z
 |x::l=>l.foldl nN x
def Iz(F:1<=k)(T:k<Z.length):kb (Z.take (k+1))=nN (kb (Z.take k)) (Z.getD k default):=by
 cases Z with
 |nil=>simp at T
 |cons x l=>
  obtain⟨j,rfl⟩:∃j,k=j+1:=⟨k-1,ac⟩
  have p:j<l.length:=ZS
  simp only[tm,kb];rw[B3 p,tx];simp[p]
def aak(h:0<Z.length):kb (Z.take 1)=Z.getD 0 default:=by
 cases Z with
 |nil=>simp at h
 |cons x l=>simp[kb]
def IB{x:bk}(F:1<=k)(U:Z[k]?=some x):kb (Z.take (k+1))=nN (kb (Z.take k)) x:=by have T:k<Z.length:=(cI.1 U).1;rw[Iz F T];congr 1;simp[List.getD,U]
def w6(b:bk)(n:Int):cX prog 168 [A b.c,I n] (B (eD b n)):=by
 refine aB func168 λW=>?_;refine aq 2 λo=>?_;refine aa 9 ?_;refine Rz (λC K=>?_) (λC K=>?_) λC=>?_;refine RH (λi=>?_) λi=>?_;refine aa 10 ?_
 .simp_all[eD]<;>omega
 refine aa 10 ?_
 .simp_all[eD]<;>omega
 refine aa 15 ?_
 .simp_all[eD]<;>omega
 refine aa 20 ?_
 .simp_all[eD]<;>omega
def IC(e:ax)(m:aQ Go.Addr)(C b off:Nat)(Z:ab bk)(E:Rd e m Z.length b off 2 (Z.map bk.c))(w:0<Z.length):ar prog 203 [.slice m Z.length C,.func (.func 204) #[] #[]] [e] (λv Y=>v=A (kb Z).c/\Y=[e]):=by
 have R:=E.len;obtain⟨J,Q⟩:=b8 w;have f:kb (Z.take 1)=J:=by rw[aak w];simp[List.getD,Q]
 refine aB func203 λW=>?_;refine aq 2 λh=>?_;refine aq 18 λX=>?_;refine aa 10 ?_;refine ah.cb [5,4,0,1] (λk:Nat=>1<=k/\k<=Z.length) (λk=>[(6,I (k:Int))]) (λk=>[cells X 48 (kb (Z.take k)).c]) (λk=>Z.length-k) 1 ⟨cl _,w⟩ ?_ (d:=by rw[f];exact ak.cons al.here ak.nil);rintro k⟨F,T⟩ K a;refine bh ?_;by_cases n:k<Z.length
 .obtain⟨x,U⟩:=b8 n;have y:=IB F U;refine aa 15 ?_;refine ah.n' ?_ aA.d'.j.d';refine ae 3 0 ?_;refine af.i' 3 rfl (V.SG ad rfl rfl XF) ?_;refine af.i' 4 rfl (V.RP ad rfl XF (iM XF)) ?_;refine ae 1 5 ?_;refine af.p' 6 rfl (aw.TA rfl rfl (Da _ _) ?_);refine av ?_;refine ae 1 7 ?_;refine Rh (λt=>?_) λt=>?_;refine aa 14 ?_;rotate_left;refine aa 8 ?_;rotate_left
  .rw[nN,aT XF]at y;rw[<-y];exact Out.t' a (k+1) ⟨ac,ac⟩ ac
  .rw[nN,aN XF]at y;rw[<-y];exact Out.t' a (k+1) ⟨ac,ac⟩ ac
 .obtain rfl:k=Z.length:=by omega
  rw[hE];exact aM 23
def Dd(e:ax)(m:aQ Go.Addr)(C b off:Nat)(Z:ab bk)(T:Rd e m Z.length b off 2 (Z.map bk.c)):ar prog 138 [.slice m Z.length C] [e] (λv Y=>v=A (kb Z).c/\Y=[e]):=by
 by_cases w:0<Z.length
 .have N:=IC e m C b off Z T w;refine aB func138 λW=>?_;refine aq 2 λo=>?_;exact aM 23
 .obtain rfl:Z=[]:=kk ac;refine aB func138 λW=>?_;refine aq 2 λo=>?_;exact aM 20
def w7(h:Int)(Z:ab bk):bk:=if i7 (kb Z) ⟨max (kb Z).Round 1,h⟩then⟨max (kb Z).Round 1,h⟩else⟨max (kb Z).Round 1+1,h⟩
def aeH(e:ax)(m:aQ Go.Addr)(C b off:Nat)(h:Int)(Z:ab bk)(T:Rd e m Z.length b off 2 (Z.map bk.c))(R:(kb Z).Round<=4611686018427387904):ar prog 100 [I h,.slice m Z.length C] [e] (λv Y=>v=A (w7 h Z).c/\Y=[e]):=by have N:=Dd e m C b off Z T;refine aB func100 λW=>?_;refine aq 2 λh=>?_;refine aq 7 λC=>?_;refine aq 10 λC=>?_;refine aa 8 ?_;refine ai.o (aw.fn rfl (zh _ _) ?_);refine aa 3 ?_;refine ah.cs (λL=>?_) (λL=>?_);refine aa 16 ?_;rotate_left;refine aa 10 ?_;rotate_left;all_goals(unfold w7;simp only[*];first|exact⟨_,_,⟨rfl,rfl⟩,ak.cons al.here ak.nil⟩|rfl)
def e8(n:Nat):ab aP:=if n<128 then[UInt8.ofNat n]else UInt8.ofNat (128+n%128)::e8 (n/128)
termination_by n
decreasing_by omega
def bt(n:Int):ab aP:=e8 n.toNat
def nO(h:n<128):e8 n=[UInt8.ofNat n]:=by rw[e8];exact aT h
def oq(h:¬n<128):e8 n=UInt8.ofNat (128+n%128)::e8 (n/128):=by rw[e8];exact aN h
def zi(k:Nat):∀n,n<128^(k+1)->(e8 n).length<=k+1:=by
 induction k with
 |zero=>intro n h;rw[nO XV];simp
 |succ k u=>
  intro n h;by_cases E:n<128
  .rw[nO E];simp
  .rw[oq E];have:=u (n/128) (by rw[vh]at h;exact Nat.div_lt_of_lt_mul ac)
   simp;omega
theorem fq{n:Int}(h:n<=9223372036854775807):(bt n).length<=9:=zi 8 _ ac
def zj(n:Nat):1<=(e8 n).length:=by
 by_cases E:n<128
 .rw[nO E];simp
 .rw[oq E];simp
def zk(n:Int):1<=(bt n).length:=by
 unfold bt;by_cases E:n.toNat<128
 .rw[nO E];simp
 .rw[oq E];simp
def adj{n:Int}(h:n<=9223372036854775807):IntKind.u64.wrap (Max.max n 0)=((n.toNat:Nat):Int):=by
 have:Max.max n 0=((n.toNat:Nat):Int):=ac
 rw[this];simp only[IntKind.wrap,IntKind.signed,IntKind.bits];simp;omega
def aec(m:Nat)(h:m<128):IntKind.u8.wrap (m:Int)=((UInt8.ofNat m).toNat:Int):=QQ
def w8(m:Nat):IntKind.u8.wrap (m:Int)=((m%256:Nat):Int):=QQ
def afa:∀x:Fin 256,(BitVec.ofNat 8 x.val|||128#8).toNat=128+x.val%128:=XG
def abR(m:Nat):j7 .or .u8 (IntKind.u8.wrap (m:Int)) 128=some ((UInt8.ofNat (128+m%128)).toNat:Int):=by
 have F:=afa ⟨m%256,ac⟩;have y:BitVec.ofInt IntKind.u8.bits (IntKind.u8.wrap (m:Int))=BitVec.ofNat 8 (m%256):=by rw[w8];exact q9 8 _
 have J:BitVec.ofInt IntKind.u8.bits 128=128#8:=rfl;simp only[j7,y,J];have M:(BitVec.ofNat 8 (m%256)|||128#8).toNat=128+m%128:=by rw[F];simp only;omega
 show some (IntKind.u8.wrap ((BitVec.ofNat 8 (m%256)|||128#8).toNat:Int))=_
 rw[M,w8];congr 1
def acN(m:Nat):(m:Int).fdiv (2^(Min.min (7:Int).toNat IntKind.u64.bits))=((m/128:Nat):Int):=by have:(2^(Min.min (7:Int).toNat IntKind.u64.bits):Int)=((128:Nat):Int):=rfl;rw[this,zl _ ac];omega
def O.SZ{P:bF}{r:aQ Nat}{n:c7}{s:Nat}{F:aZ}{G:String}{Z:aQ (Nat×Bool)}{J:bv}{o:Type}(f:o->ab aj)(E X:Nat){T:aZ}{x:bd}{c:ab aj}(U:aO J x=some (A c))(K:∀b,C ((s,au b 0)::J) (cells b T c::rows f (.slice none 0 0) E X []::N))(i:Nat.blt s n.n=true:=by exact rfl):aw P r W D n ⟨some s,.box T x,F,G,M,Z⟩ J N C:=
 aw.Ux (C:=λt Y=>∃b,t=(s,au b 0)::J/\Y=cells b T c::N) (aw.Ut i U λb=>⟨b,rfl,rfl⟩) (by rintro t Y⟨b,rfl,rfl⟩;exact⟨_,K b,λw m=>(m.Td f E X).perm (gZ _ _ _)⟩)
def w9(b:Nat)(v:aj)(Z:ab aP)(J:ab Int)(e:ax)(i:aQ Go.Addr)(C f off:Nat)(D:Rd e i J.length f off 1 (J.map rQ))(l:∀n,n∈J->n<=9223372036854775807)(U:Z.length+9*J.length<=1000000):ar prog 170 [au b 0,.slice i J.length C] [cells b 231 (fw.c ⟨v⟩),rows c0 v 5 1 Z,e] (λr Y=>∃X,r=.tuple #[]/\Y=[cells b 231 (fw.c ⟨X⟩),rows c0 X 5 1 (Z++J.flatMap bt),e]):=by
 refine aB func170 λW=>?_;refine aa 8 ?_;refine ah.cb [8,7,0] (λx:Nat×ab aP×aj=>x.1<=J.length/\x.2.1=Z++(J.take x.1).flatMap bt/\x.2.1.length+9*(J.length-x.1)<=1000000)
  (λx=>[(9,I (x.1:Int))]) (λx=>[cells b 231 (fw.c ⟨x.2.2⟩),rows c0 x.2.2 5 1 x.2.1]) (λx=>J.length-x.1) (0,Z,v) ⟨cw _,XE,X5⟩ ?_
 rintro⟨k,pre,z⟩⟨T,a,E⟩ K y;dsimp only at T a E;refine bh ?_;have Q:=D.len;by_cases s:k<J.length
 .have w:J.getD k default<=9223372036854775807:=l _ (by simp[s]);have N:=fq w;have Ye:=zk (J.getD k default);refine aa 14 ?_;refine ai.v (V.SU ad rfl XF (Cu ac)) ?_;refine aa 7 ?_;refine ai.v (V.Sk ad rfl rfl (adj XF)) ?_;refine aa 5 ?_;rotate_left;refine ah.cb [9,8,7,0] (λx:Nat×ab aP×aj=>∃p,x.2.1=pre++p/\p++e8 x.1=bt (J.getD k default)/\p.length+1<=9) (λx=>[(6,.int .u64 (x.1:Int))]) (λx=>[cells b 231 (fw.c ⟨x.2.2⟩),rows c0 x.2.2 5 1 x.2.1]) (λx=>x.1) ((J.getD k default).toNat,pre,z) ⟨[],XE,rfl,XE⟩ ?_;rintro⟨m,q,h⟩⟨p,bb,d,j⟩ L t;dsimp only at d j bb;have Yg:q.length=pre.length+p.length:=by rw[bb];simp
  refine bh ?_;refine aa 7 ?_;refine ah.cs (λG=>?_) (λG=>?_);refine aa 11 ?_;refine ai.v (V.Ta ad) ?_;refine ai.v (V.S3 rfl rfl (abR _)) ?_;refine aq 0 λYc=>?_;refine ai.o (O.O' ad rfl rfl XJ (ce.one ad XB Cv) (λYi Yh=>?_));refine aa 7 ?_;refine ai.v (V.SV rfl rfl (acN _)) ?_;refine aa 3 ?_;rotate_left;refine aa 12 ?_;refine ai.v (V.Sk ad rfl rfl (aec _ ac)) ?_;refine aq 0 λYf=>?_;refine ai.o (O.O' ad rfl rfl XJ (ce.one ad XB Cv) (λP u=>?_));refine aa 10 ?_;rotate_left
  .have R:=oq (n:=m) ac;have F:=zj (m/128);have M:p.length+((e8 (m/128)).length+1)<=9:=by
    have:(p++e8 m).length=(bt (J.getD k default)).length:=by rw[d]
    rw[R]at this;simp only[bM,dp]at this;omega
   refine Out.t' t (m/128,q++[UInt8.ofNat (128+m%128)],_) ?_ X5;exact ⟨p++[UInt8.ofNat (128+m%128)],by simp[bb],by rw[cd,<-d,R];rfl,XM⟩
  .have R:=nO (n:=m) ac;have M:p++[UInt8.ofNat m]=bt (J.getD k default):=by rw[<-d,R]
   have g:q++[UInt8.ofNat m]=Z++(J.take (k+1)).flatMap bt:=by rw[bb,cd,M,a,B3 s,lP,cd];simp[List.getD,s]
   exact Out.t' y (k+1,q++[UInt8.ofNat m],_) ⟨X5,g,XM⟩ X5
 .refine aa 12 ?_;obtain rfl:pre=Z++J.flatMap bt:=by rw[a,j4 ac]
  exact⟨_,_,⟨z,rfl,rfl⟩,ak.cons al.here (ak.cons al.here (ak.cons al.here ak.nil))⟩
def ty(b:Nat)(v:aj)(Z:ab aP):ar prog 124 [au b 0] [cells b 231 (fw.c ⟨v⟩),rows c0 v 5 1 Z] (λr Y=>r=S Z/\Y=[cells b 231 (fw.c ⟨v⟩),rows c0 v 5 1 Z]):=by refine aB func124 λW=>?_;refine aa 11 ?_;refine ai.v (V.UM ad) ?_;exact aM 5
def ra(s:ab aP):ar prog 130 [S s] [] (λr Y=>∃b,r=au b 0/\Y=[cells b 306 (ek.c ⟨s,false⟩)]):=by refine aB func130 λW=>?_;refine aq 9 λC=>?_;exact aM 5
def p5(b:Nat)(s:ek):ar prog 243 [au b 0] [cells b 306 s.c] (λr Y=>r=.tuple #[]/\Y=[cells b 306 (ek.c ⟨[],true⟩)]):=by refine aB func243 λW=>?_;exact aM 18
def De(b:Nat)(s:ek):ar prog 132 [au b 0] [cells b 306 s.c] (λr Y=>r=B (!s.m1&&decide (s.jo=[]))/\Y=[cells b 306 s.c]):=by
 refine aB func132 λW=>?_;refine aa 17 ?_;refine RA (λR=>?_) λR=>?_
 .simp[*]
 refine aa 11 ?_
 .simp[*]
def xa(b:Nat)(s:ek):ar prog 192 [au b 0] [cells b 306 s.c] (λr Y=>r=B s.m1/\Y=[cells b 306 s.c]):=by refine aB func192 λW=>?_;exact aM 20
def IJ(b:Nat)(s:ek):ar prog 193 [au b 0] [cells b 306 s.c] (λr Y=>r=I (s.jo.length:Int)/\Y=[cells b 306 s.c]):=by refine aB func193 λW=>?_;exact aM 27
def zm{a b:Nat}(o:a<256)(R:b<256)(h:UInt8.ofNat a=UInt8.ofNat b):a=b:=by have:=db UInt8.toNat h;simp at this;omega
def abs(a:Nat):∀b,(e8 b).take (e8 a).length=e8 a->a=b:=by
 induction a using Nat.strongRecOn with
 |_ a u=>
  intro b h;by_cases o:a<128
  .rw[nO o]at h;by_cases R:b<128
   .rw[nO R]at h;exact(zm ac ac XV).symm
   .rw[oq R]at h;have:=zm (a:=128+b%128) (b:=a) ac ac XV;omega
  .rw[oq o]at h;by_cases R:b<128
   .rw[nO R]at h;have F:=zj (a/128);have:=db List.length h;simp only[eX,dp,fY]at this;omega
   .rw[oq R]at h;simp only[dp,tm,pP]at h;have F:=zm ac ac h.1;have M:=u (a/128) ac (b/128) h.2;omega
theorem agq{a b:Int}(o:0<=a)(R:0<=b)(h:(bt b).take (bt a).length=bt a):a=b:=by have:=abs _ _ h;omega
def pe(b:Nat)(v:aj)(Z:ab aP)(n:Int)(g:Nat)(h:n<=9223372036854775807)(U:Z.length<=900000):ar prog 170 [au b 0,.slice (some ⟨g,0,none⟩) 1 1] [cells b 231 (fw.c ⟨v⟩),rows c0 v 5 1 Z,row (.slice (some ⟨g,0,none⟩) 1 1) 3 1 1 [I n]] (λr Y=>∃X,r=.tuple #[]/\Y=[cells b 231 (fw.c ⟨X⟩),rows c0 X 5 1 (Z++bt n),row (.slice (some ⟨g,0,none⟩) 1 1) 3 1 1 [I n]]):=by have:=w9 b v Z [n] _ _ 1 g 0 (Rd.lits (E:=3) (o:=1) rQ [n] rfl rfl (λ_=>rfl) XE) XV XM;exact L8
def Df(b:Nat)(v:aj)(Z:ab aP)(m n:Int)(g:Nat)(K:m<=9223372036854775807)(h:n<=9223372036854775807)(U:Z.length<=900000):ar prog 170 [au b 0,.slice (some ⟨g,0,none⟩) 2 2] [cells b 231 (fw.c ⟨v⟩),rows c0 v 5 1 Z,row (.slice (some ⟨g,0,none⟩) 2 2) 3 1 2 [I m,I n]] (λr Y=>∃X,r=.tuple #[]/\Y=[cells b 231 (fw.c ⟨X⟩),rows c0 X 5 1 (Z++(bt m++bt n)),row (.slice (some ⟨g,0,none⟩) 2 2) 3 1 2 [I m,I n]]):=by have:=w9 b v Z [m,n] _ _ 2 g 0 (Rd.lits (E:=3) (o:=2) rQ [m,n] rfl rfl (λ_=>rfl) XE) (by intro q bb;simp at bb;rcases bb with rfl|rfl<;>assumption) XM;exact L8
def zn(b:Nat)(v:aj)(Z t:ab aP)(U:Z.length+t.length<=2000000):ar prog 175 [au b 0,S t] [cells b 231 (fw.c ⟨v⟩),rows c0 v 5 1 Z] (λr Y=>∃X,r=.tuple #[]/\Y=[cells b 231 (fw.c ⟨X⟩),rows c0 X 5 1 (Z++t)]):=by refine aB func175 λW=>?_;refine aa 7 ?_;refine ai.o (O.SC ad rfl rfl XJ (ce.str ad) (λx M C=>?_));exact aM 5
def Dg(b:Nat)(v:aj)(Z t:ab aP)(U:Z.length+t.length<=800000):ar prog 262 [au b 0,S t] [cells b 231 (fw.c ⟨v⟩),rows c0 v 5 1 Z] (λr Y=>∃X,r=.tuple #[]/\Y=[cells b 231 (fw.c ⟨X⟩),rows c0 X 5 1 (Z++(bt t.length++t))]):=by
 have v:=fq (n:=(t.length:Int)) ac;refine aB func262 λW=>?_;refine aq 5 λY=>?_;refine ai.o' rfl (pe _ _ _ _ _ ?_ ?_) ?_;iterate 2 exact b1
 rintro _ _⟨d,rfl,rfl⟩;refine aa 6 ?_;refine JF λg=>?_;refine aa 3 ?_;rw[cd];exact⟨_,_,⟨_,rfl,rfl⟩,ak.cons al.here (ak.cons al.here ak.nil)⟩
def zo(b:Nat)(v:aj)(Z:ab aP)(y:Bool)(U:Z.length<=800000):ar prog 173 [au b 0,B y] [cells b 231 (fw.c ⟨v⟩),rows c0 v 5 1 Z] (λr Y=>∃X,r=.tuple #[]/\Y=[cells b 231 (fw.c ⟨X⟩),rows c0 X 5 1 (Z++bt (if y then 1 else 0))]):=by
 refine aB func173 λW=>?_;refine RD (λQ=>?_) λQ=>?_;refine aq 2 λC=>?_;refine ai.o' rfl (pe _ _ _ _ _ ?_ ?_) ?_;iterate 2 exact b1
 rintro _ _⟨z,rfl,rfl⟩;refine aa 3 ?_;rotate_left;refine aq 2 λh=>?_;refine ai.o' rfl (pe _ _ _ _ _ ?_ ?_) ?_;iterate 2 exact b1
 rintro _ _⟨u,rfl,rfl⟩;refine aa 3 ?_;rotate_left
 exact Kj
 exact Kj
def ln(s:ek)(n:Int):ab aP×ek:=if s.m1=true\/n<0\/(s.jo.length:Int)<n then([],⟨[],true⟩)else(s.jo.take n.toNat,⟨s.jo.drop n.toNat,s.m1⟩)
def r7(b:Nat)(s:ek)(n:Int)(Q:s.jo.length<=9223372036854775807):ar prog 191 [au b 0,I n] [cells b 306 s.c] (λr Y=>r=S (ln s n).1/\Y=[cells b 306 (ln s n).2.c]):=by
 refine aB func191 λW=>?_;refine aa 17 ?_;refine ai.aU (λf=>?_) (λf=>?_);refine aa 18 ?_;refine ai.o' rfl (p5 _ _) ?_;refine aa 11 ?_;rotate_left;refine RE (λg=>?_) λg=>?_;refine aa 14 ?_;refine ai.o' rfl (p5 _ _) ?_;refine aa 11 ?_;rotate_left;refine aa 10 ?_;refine ah.cs (λE=>?_) (λE=>?_);refine aa 3 ?_;refine ai.o' rfl (p5 _ _) ?_;refine aa 11 ?_;rotate_left;refine aa 9 ?_;refine ai.v (V.TD ad) ?_;refine aa 11 ?_;refine ai.v (V.UE ad) ?_;refine aa 13 ?_;rotate_left;all_goals first
  |(rw[show ln s n=([],⟨[],true⟩)from aT (by simp_all)];exact⟨_,_,⟨rfl,rfl⟩,ak.cons al.here ak.nil⟩)
  |(rw[show ln s n=(s.jo.take n.toNat,⟨s.jo.drop n.toNat,s.m1⟩)from aN (by simp_all)];exact⟨_,_,⟨rfl,rfl⟩,ak.cons al.here ak.nil⟩)
def hY:ab aP->Nat->Nat->aQ (Nat×ab aP)
 |[],_,_=>none
 |x::Z,i,acc=>if 8<i then none else if x.toNat<128 then(if x.toNat=0/\0<i then none else some (acc+x.toNat%128*128^i,Z))else hY Z (i+1) (acc+(x.toNat%128)*128^i)
def ot(c:Int)(s:ek)(i acc:Nat):Int×ek:=
 if s.m1=true then(0,⟨[],true⟩)else match hY s.jo i acc with
  |some (v,n)=>if c<(v:Int)then(0,⟨[],true⟩)else((v:Int),⟨n,false⟩)
  |none=>(0,⟨[],true⟩)
def nP(s:ek)(c:Int):Int×ek:=ot c s 0 0
def IM:∀x:Fin 256,(BitVec.ofNat 8 x.val&&&127#8).toNat=x.val%128:=XG
def IN(x:aP):j7 .and .u8 (x.toNat:Int) 127=some ((x.toNat%128:Nat):Int):=by
 have F:=IM ⟨x.toNat,x.toNat_lt⟩;have y:BitVec.ofInt IntKind.u8.bits (x.toNat:Int)=BitVec.ofNat 8 x.toNat:=q9 8 _;have J:BitVec.ofInt IntKind.u8.bits 127=127#8:=rfl;simp only[j7,y,J];show some (IntKind.u8.wrap ((BitVec.ofNat 8 x.toNat&&&127#8).toNat:Int))=_
 rw[F,w8];simp only;congr 2;omega
def zp(m:Nat)(h:m<2^64):IntKind.u64.wrap (m:Int)=(m:Int):=Kl
def Dh(i:Nat):(2:Nat)^(7*i)=128^i:=by rw[Nat.pow_mul]
def zq{i:Nat}(h:i<=8):128^i<=128^8:=Nat.pow_le_pow_right ac h
def acZ(x i:Nat)(U:x<128)(ao:i<=8):IntKind.u64.wrap ((x:Int)*2^(Min.min (7*(i:Int)).toNat IntKind.u64.bits))=((x*128^i:Nat):Int):=by
 have e:Min.min (7*(i:Int)).toNat IntKind.u64.bits=7*i:=by have:IntKind.u64.bits=64:=rfl;omega
 rw[e];have J:((x:Int)*2^(7*i))=((x*128^i:Nat):Int):=by rw[<-Dh];simp
 rw[J];have:=y8 (show x<=127 by omega) (zq ao);exact zp _ ac
def IQ(a y i:Nat)(o:a<128^i)(ao:i<=8)(G:y<128):j7 .or .u64 (a:Int) ((y*128^i:Nat):Int)=some ((a+y*128^i:Nat):Int):=by
 have F:=zq ao;have M:=y8 (show y<=127 by omega) F;have b:BitVec.ofInt IntKind.u64.bits (a:Int)=BitVec.ofNat 64 a:=q9 64 _;have J:BitVec.ofInt IntKind.u64.bits ((y*128^i:Nat):Int)=BitVec.ofNat 64 (y*128^i):=q9 64 _;have p:a|||y*128^i=a+y*128^i:=by rw[<-Dh]at o⊢;have:=Nat.two_pow_add_eq_or_of_lt o y;rw[zr y,Nat.or_comm,<-this];omega
 simp only[j7,b,J];show some (IntKind.u64.wrap ((BitVec.ofNat 64 a|||BitVec.ofNat 64 (y*128^i)).toNat:Int))=_
 rw[BitVec.toNat_or,p6,p6,q3 ac,q3 ac,p,zp _ ac]
def xb(m:Nat)(h:m<2^63):IntKind.i64.wrap (m:Int)=(m:Int):=yK (lc.TW ac)
def adl(s:ek):ln s 1=match s.m1,s.jo with
  |false,x::Z=>([x],⟨Z,false⟩)
  |_,_=>([],⟨[],true⟩):=by
 unfold ln
 cases b:s.m1<;>cases ao:s.jo<;>simp<;>omega
def vi{m:Int}{c:ek}{i acc:Nat}{x:aP}{Z:ab aP}(b:¬c.m1=true)(u:c.jo=x::Z):ot m c i acc=if 8<i then(0,⟨[],true⟩)else if x.toNat<128 then(if x.toNat=0/\0<i then(0,⟨[],true⟩)else if m<((acc+x.toNat%128*128^i:Nat):Int)then(0,⟨[],true⟩)else(((acc+x.toNat%128*128^i:Nat):Int),⟨Z,false⟩)) else ot m ⟨Z,false⟩ (i+1) (acc+x.toNat%128*128^i):=by
 unfold ot;rw[aN b,u];simp only[hY];by_cases F:8<i
 .simp only[aT F]
 .by_cases M:x.toNat<128
  .by_cases g:x.toNat=0/\0<i
   .simp only[aN F,aT M,aT g]
   .simp only[aN F,aT M,aN g]
  .simp only[aN F,aN M,hr,ii]
def xc(b:Nat)(s:ek)(m:Int)(Q:s.jo.length<=9223372036854775807):ar prog 190 [au b 0,I m] [cells b 306 s.c] (λr Y=>r=I (nP s m).1/\Y=[cells b 306 (nP s m).2.c]):=by
 refine aB func190 λW=>?_;refine aa 16 ?_;refine ah.cb [0,1] (λx:Nat×Nat×ek=>ot m x.2.2 x.1 x.2.1=nP s m/\x.2.1<128^x.1/\x.1<=9/\x.2.2.jo.length<=9223372036854775807) (λx=>[(5,.int .u64 (x.2.1:Int)),(6,I (7*(x.1:Int)))]) (λx=>[cells b 306 x.2.2.c]) (λx=>10-x.1) (0,0,s) ⟨rfl,XE,XE,Q⟩ ?_;rintro⟨i,acc,c⟩⟨d,t,ao,u⟩ K a;dsimp only at d t ao u;refine bh ?_;have o:=adl c;by_cases n:c.m1=true
 .have w:ar prog 191 [au b 0,I 1] [cells b 306 c.c] (λr Y=>r=S []/\Y=[cells b 306 (ek.c ⟨[],true⟩)]):=by have:=r7 b c 1 u;rwa[show ln c 1=([],⟨[],true⟩) by rw[o,n]]at this
  refine aa 25 ?_;refine K7 ?_;rw[<-d,show ot m c i acc=(0,⟨[],true⟩)from aT n];exact⟨_,_,⟨rfl,rfl⟩,ak.cons al.here ak.nil⟩
 .cases C:c.jo with
  |nil=>
   have w:ar prog 191 [au b 0,I 1] [cells b 306 c.c] (λr Y=>r=S []/\Y=[cells b 306 (ek.c ⟨[],true⟩)]):=by have:=r7 b c 1 u;rwa[show ln c 1=([],⟨[],true⟩) by rw[o,C];cases c.m1<;>rfl]at this
   refine aa 25 ?_;refine K7 ?_;rw[<-d,show ot m c i acc=(0,⟨[],true⟩) by unfold ot;rw[aN n,C];rfl];exact⟨_,_,⟨rfl,rfl⟩,ak.cons al.here ak.nil⟩
  |cons x Z=>
   have w:ar prog 191 [au b 0,I 1] [cells b 306 c.c] (λr Y=>r=S [x]/\Y=[cells b 306 (ek.c ⟨Z,false⟩)]):=by have:=r7 b c 1 u;rwa[show ln c 1=([x],⟨Z,false⟩) by rw[o,C];simp at n;rw[n]]at this
   have t:i<=8->acc+(x.toNat%128)*128^i<2^63:=λp=>by have F:=zq p;have M:=y8 (show x.toNat%128<=127 by omega) F;omega
   have L:=x.toNat_lt;clear o;refine aa 16 ?_;refine ai.de (λM=>?_) (λM=>?_);exact ko M;replace M:=fT M;refine RD (λg=>?_) λg=>?_;refine aa 3 ?_;refine K7 ?_;rotate_left;refine aa 6 ?_;refine ai.v (V.TX ad rfl rfl ac rfl) ?_;refine ai.v (V.S3 rfl rfl (IN _)) ?_;refine ai.v (V.Sk ad rfl rfl (zp _ ac)) ?_;refine av ?_;refine ai.v (V.Wp rfl rfl (acZ _ _ ac ac)) ?_;refine ai.v (V.S3 rfl rfl (IQ _ _ _ XF ac ac)) ?_;refine aa 6 ?_;refine ai.v (V.TX ad rfl rfl ac rfl) ?_;refine aa 3 ?_;refine ah.cs (λE=>?_) (λE=>?_);refine aa 4 ?_;refine ai.v (V.TX ad rfl rfl ac rfl) ?_;refine aa 2 ?_;refine ai.aU (λs=>?_) (λs=>?_);refine RE (λp=>?_) λp=>?_;refine aa 11 ?_;refine K7 ?_;rotate_left;refine av ?_;refine ai.v (V.Sk ad rfl rfl (xb _ (t ac))) ?_;refine RD (λl=>?_) λl=>?_;refine aa 3 ?_;refine K7 ?_;rotate_left;refine aa 5 ?_;refine ai.v (V.Sk ad rfl rfl (xb _ (t ac))) ?_;refine aa 9 ?_;rotate_left;refine aa 5 ?_;refine ai.v (V.Sk ad rfl rfl (xb _ (t ac))) ?_;refine RD (λX=>?_) λX=>?_;refine aa 3 ?_;refine K7 ?_;rotate_left;refine aa 5 ?_;refine ai.v (V.Sk ad rfl rfl (xb _ (t ac))) ?_;refine aa 9 ?_;rotate_left;refine aa 8 ?_;rotate_left;all_goals first
    |(rw[<-d,vi n C,aT ac];exact⟨_,_,⟨rfl,rfl⟩,ak.cons al.here ak.nil⟩;done)
    |(rw[<-d,vi n C,aN ac,aT ac,aT ac];exact⟨_,_,⟨rfl,rfl⟩,ak.cons al.here ak.nil⟩;done)
    |(rw[<-d,vi n C,aN ac,aT ac,aN ac,aT XF];exact⟨_,_,⟨rfl,rfl⟩,ak.cons al.here ak.nil⟩;done)
    |(rw[<-d,vi n C,aN ac,aT ac,aN ac,aN XF];exact⟨_,_,⟨rfl,rfl⟩,ak.cons al.here ak.nil⟩;done)
    |skip
   have m:acc+x.toNat%128*128^i<128^(i+1):=by have M:=jn (128^i) (show x.toNat%128+1<=128 by omega);rw[vh];rw[eZ]at M;omega
   refine Out.t' a (i+1,acc+x.toNat%128*128^i,⟨Z,false⟩) ?_ X5;exact ⟨by dsimp only;rw[<-d,vi n C,aN ac,aN ac],m,X5,by dsimp only;rw[C]at u;simp at u;omega⟩
def adm(b:Nat)(s:ek)(Q:s.jo.length<=9223372036854775807):ar prog 196 [au b 0] [cells b 306 s.c] (λr Y=>r=B (decide ((nP s 1).1=1))/\Y=[cells b 306 (nP s 1).2.c]):=by refine aB func196 λW=>?_;refine aa 8 ?_;refine ai.o' rfl (xc _ _ _ ?_) ?_;exact b1;exact aM 7
def Di:∀(l:ab aP) (i acc v:Nat) (n:ab aP),hY l i acc=some (v,n)->n.length<=l.length
 |[],_,_,_,_,h=>by simp[hY]at h
 |x::Z,i,acc,v,n,h=>by
  simp only[hY]at h;split at h
  .cases h
  .split at h
   .split at h
    .cases h
    .simp only[er,md]at h;rw[<-h.2];simp
   .have:=Di Z _ _ _ _ h;simp;omega
def IT(s:ek)(c:Int):(nP s c).2.jo.length<=s.jo.length:=by
 unfold nP ot;split
 .simp
 .split
  .rename_i v n h;have:=Di _ _ _ _ _ h;split<;>simp<;>omega
  .simp
def xd(s:ek)(c:Int):ab aP×ek:=ln (nP s c).2 (nP s c).1
def abe(b:Nat)(s:ek)(m:Int)(Q:s.jo.length<=9223372036854775807):ar prog 269 [au b 0,I m] [cells b 306 s.c] (λr Y=>r=S (xd s m).1/\Y=[cells b 306 (xd s m).2.c]):=by have E:=IT s m;refine aB func269 λW=>?_;refine aa 10 ?_;refine ai.o' rfl (xc _ _ _ ?_) ?_;exact b1;refine av ?_;refine ai.o' rfl (r7 _ _ _ ?_) ?_;exact b1;exact aM 6
end Go.Proofs.YteogojgnkjegmaaGreatDoor
