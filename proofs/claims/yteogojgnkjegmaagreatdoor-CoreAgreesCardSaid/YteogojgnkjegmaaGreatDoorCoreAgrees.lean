/-
  Proved is the given statement CoreAgreesCardSaid: no two replicas, and no one before and after a restart, ever know an item as committed with another deed, other deps, or another rank.
  Conditions: those of the row itself (3, 5 or 7 replicas, 50 acts, texts of 100 bytes), nothing else.
-/
import Derived.Test.YteogojgnkjegmaaGreatDoorBe
import Derived.Test.YteogojgnkjegmaaGreatDoorCards
import Derived.Test.YteogojgnkjegmaaGreatDoorTie
set_option linter.all false
set_option maxRecDepth 8000
set_option maxHeartbeats 8000000
namespace Go.Proofs.YteogojgnkjegmaaGreatDoor
open Go.ay Go.Proofs.Tryz
variable[Go.ay.b4]
variable{m:ab (ag×aN)}{G:ag->c7}{n:Int}
abbrev wv:aN->aj:=λc=>A c.c
def ym:hv prog 27 46 52=true:=rfl
def JX(w:aZ):(Go.zeroValue 52).run prog w=.ok (A aN.z.c) w:=rfl
def qf(n:Int)(G:ag->c7)(R:ab cC)(m:ab (ag×aN)):Prop:=
 ∀x c,a8 m x=some c->bq x n=true/\kA n (cY n) x.a1 (gj n R x) (G x) c
def qf.go{Q:ag->c7}{f t:ab cC}(h:qf n G f m)(R:fv n G f Q t):qf n Q t m:=λx c K=>⟨(h x c K).1,(R x (h x c K).1).1 c (h x c K).2⟩
def kA.ZU{F R:Int}{B:Int->aX}{G:c7}{c:aN}(h:kA n F R B G c):rY n F G c\/rZ n F R B G c:=h.imp id (·.1)
def n6.done{j:Nat}{u:nY}(h:n6 n j G u){i b:Nat}{L:cW}{s:aC}(U:u.c.aH[i]?=some (.up b L s)){x:ag}{I:aX}(K:(x,I)∈s.aA.p.all)(R:I.Status=3):bq x n=true/\kA n (cY n) x.a1 (gj n u.c.aH x) (G x) I.Call:=by obtain⟨Y,N,-⟩:=h.at U K;have:=(h.g.it x Y).e5 (i:Int);rw[N]at this;exact⟨Y,this R⟩
def qf.same(a:n=3\/n=5\/n=7){j:Nat}{u:nY}(h:n6 n j G u)(K:qf n G u.c.aH m){x:ag}{c d:aN}(Y:a8 m x=some c)(N:kA n (cY n) x.a1 (gj n u.c.aH x) (G x) d):c=d:=
 (h.g.it x (K x c Y).1).core.agree (by rcases a with rfl|rfl|rfl<;>rfl) ac (K x c Y).2.ZU N.ZU
def qf.put{R:ab cC}(K:qf n G R m){x:ag}{c:aN}(Y:bq x n=true)(N:kA n (cY n) x.a1 (gj n R x) (G x) c):qf n G R (bx m x c):=λy d F=>by
 rw[hw]at F;split at F
 .rename_i e;cases F;rw[e];exact⟨Y,N⟩
 .exact K y d F
def ag0(n:Int)(e:ax)(cV:aT Go.Addr)(d b off:Nat)(Z:ab fS)(cG:Ab Z)(ew:Rd e cV Z.length b off 11 (Z.map fS.c)):ar prog 3 [I n,.slice cV Z.length d] [e,cJ] (λr Yc=>r=B true/\Yc=[e,cJ]):=by
 have dJ:=Jq;have dv:=I2 n e cV d b off Z (λx C=>(cG x C).1) ew;refine aE func3 λW=>?_;generalize bn _=D;refine aq 2 λfT=>?_;refine aa 19 ?_;rintro _ _⟨YD,J,rfl,rfl⟩;refine TT λg=>?_;have i:=J g;have Yj:=i.n;have hJ:=Jr n i.n;refine aa 4 ?_;rintro v4 aig⟨F,⟨Yx,⟨Yy,⟨⟨Yh,Yi,J,Yp⟩,rfl,rfl⟩⟩⟩⟩;refine aa 6 ?_;refine ai.o (av.mkMap cg wv ym (λt=>?_));refine aq 0 λnj=>?_;refine aa 12 ?_;have Yg:=i.len;refine ah.X1 [6,5,4,0] (λy:Nat×we×nY×ab (ag×aN)=>y.1<=Z.length/\∃G,n6 n y.1 G y.2.2.1/\qf n G y.2.2.1.c.aH y.2.2.2) (λy=>[(22,.slice cV Z.length d),(23,I (Z.length:Int)),(24,I (y.1:Int))]) (λy=>[aL (lq F y.2.1 y.2.2.1),bz cg wv t y.2.2.2]) (λy=>Z.length-y.1) (0,Yx,Yy,[]) ⟨cO _,_,n6.new i.n Yh Yi J Yp,λx c h=>Ua⟩ ?_;rintro⟨k,T,u,m⟩ ds⟨cc,G,hz,dO⟩ K cA;dsimp only at cc hz dO;refine bl ?_;by_cases Yf:k<Z.length
 .obtain⟨a,fI⟩:=cl Yf;have Yt:=cG a (jX fI);have Yq:=hz.dZ;have nb:=Js F T u a _ hz.y ac ac Yt.2;refine aq 15 λsR=>?_;refine aa 8 ?_;rintro _ _⟨w,P,Yi,rfl,rfl⟩;refine aa 9 ?_;rotate_left;obtain⟨lr,E,Yo⟩:=hz.ZT ac TX;have Yl:=dO.go Yo;have Yz:=E.un.2;refine ah.V5 (be:=lq F w P) ?_;unfold lq b5;refine bl ?_;refine ah.abH [22,23,24,6,5,4,0] (λy:Nat×ab (ag×aN)=>y.1<=n.toNat/\qf n lr P.c.aH y.2) (λy=>[(9,I (y.1:Int))]) (λy=>[fq P.c.aH,bz cg wv t y.2]) (λy=>n.toNat-y.1) (0,m) ⟨cO _,Yl⟩ ?_;rintro⟨j,lh⟩ Yv⟨dR,f⟩ zf N;dsimp only at dR f;refine bl ?_;have dQ:=IT w.na w.L P.c (j:Int) E.y.toClN;unfold b5 at dQ;by_cases Yr:(j:Int)<n
  .obtain⟨lF,Q⟩:=cl (t:=P.c.aH) (k:=j) (by have:=E.y.len;omega);rw[Jw (by rw[Yz];omega) Q]at dQ;cases lF with
   |up kr L s=>
    have YB:=Ju Q;have YC:=Jv Q;refine aa 25 ?_;rintro _ _⟨M,rfl,rfl⟩;refine aa 4 ?_;rotate_left;have Yu:=(E.y.up _ _ _ _ Q).y.aA.p.towf;refine ah.rg (tU M s.X.ee s.X.R s.aA.p Yu) (λy:ab (ag×aN)=>[cells fT 4 [B false],cells nj 27 [.map (some t)],bz cg wv t y]) (λ_ y=>qf n lr P.c.aH y) (λ_ _ _=>False) lh f ?_ ?_ ?_
    .rintro pre x Ye lJ cp rec C Y c1 eI jk fM U;dsimp only[encI,List.cons_append,List.nil_append];have dO:x∈s.aA.p.all:=by rw[C];simp
     by_cases cd:x.2.Status=3
     .have gm:bd .neq x.2.Status 3=some false:=by simp[bd,cd]
      obtain⟨s6,jI⟩:=E.done Q dO cd;have Ys:=Y.put s6 jI;cases bF:a8 lJ x.1 with
      |none=>
       refine OE λYm Yk Yn=>?_;refine aa 24 ?_;refine ai.o (av.UC (l:=lJ) (k:=x.1) (v:=x.2.Call) (b1:=cg) (aU:=wv) ct ym rfl rfl rfl T2 ?_);refine aa 2 ?_;all_goals exact Out.rd U _ Ys
      |some c=>
       obtain rfl:=Y.same Yj E bF jI;have lE (q:Nat):c6 prog (q+3) 52 (A ((some x.2.Call).getD aN.z).c) (A x.2.Call.c) true:=by have:=aN.R' x.2.Call x.2.Call q;simpa using this
       refine OE λYm Yk Yn=>?_;refine aa 13 ?_;refine ai.v (V.ne (lE _)) ?_;refine aa 11 ?_;refine ai.o (av.UC (l:=lJ) (k:=x.1) (v:=x.2.Call) (b1:=cg) (aU:=wv) ct ym rfl rfl rfl T2 ?_);refine aa 2 ?_;rotate_left;all_goals exact Out.rd U _ Ys
     .have gm:bd .neq x.2.Status 3=some true:=by simp[bd,cd]
      refine aq 2 λYm=>?_;refine aq 4 λYk=>?_;refine aa 9 ?_;refine ai.v (V.cmp rfl rfl gm) ?_;refine aa 6 ?_;all_goals exact Out.rd U _ Y
    .rintro lJ c Y;refine bl ?_;refine Out.pt (Jt Q) ?_;refine aa 8 ?_;exact Out.Wt N [c] (j+1,lJ) ⟨SB,Y⟩ (by show n.toNat-(j+1)<n.toNat-j;omega)
    exact Sw
   |dn bQ dH l b9 ja=>
    refine aa 22 ?_;refine ai.o (av.fn rfl (Ii) ?_);refine ai.p' rfl (GH) ?_;rintro _ _⟨M,Yw,YA,rfl,rfl⟩;refine aa 4 ?_;rotate_left;refine ah.rg (tU M Yw YA (aJ.new 0) (aJ.UL 0).towf) (λ_:Unit=>[]) (λ_ _=>True) (λ_ _ _=>False) () trivial ?_ ?_ ?_
    .rintro pre x Ye _ cp rec C;rw[show(aJ.new 0:aJ aX).all=[]from rfl]at C;simp at C
    .rintro _ c _;refine bl ?_;refine aa 8 ?_;exact Out.Wt N [c] (j+1,lh) ⟨SB,f⟩ (by show n.toNat-(j+1)<n.toNat-j;omega)
    exact Sw
  .clear N;refine ah.pt (rj:=lq F w P) (wk:=[aL (lq F w P)]) aO.aL.symm ?_;refine bl ?_;refine aa 19 ?_;exact Out.abI cA (k+1,_,_,lh) ⟨QR,lr,E,f⟩ Ob
 .obtain rfl:k=Z.length:=by omega
  clear cA;refine ah.V5 (be:=lq F T u) ?_;unfold lq b5;refine bl ?_;refine ah.V5 (be:=fY ds) ?_;refine bl ?_;refine aa 18 ?_;refine Out.dx rfl (e1.hV ad) ?_
  .exact⟨_,_,⟨rfl,rfl⟩,Jp (l:=[_,_,_,_,_,_,_,_,_,_,_,_,_,_]) Uc⟩
end Go.Proofs.YteogojgnkjegmaaGreatDoor
namespace Go.Proofs.YteogojgnkjegmaaGreatDoor
open Go Go.ay Go.ChangeShapes Go.WideShapes Go.ChangeAt Go.RowKit Go.Proofs.Tryz
def agp:(Tryz.f3.params.toList.all λt=>prog.readableRec t&&decide (t<prog.types.size))=true:=T7
set_option maxRecDepth 100000 in
def ait(z:Go.Os)(k:z.Started)(H:Type)(g:a7×aj->H):ReturnsInHanded {} Tryz.checked z 3 .any (λw args=>(Rows.coreAgreesSpec.pre g prog Tryz.f3 Rows.coreAgreesRow.domain false w args/\laidMetH prog [("caucus/mail.kinds",Rows.laid_caucus_mail_kinds)] w)/\sizedMet g prog Tryz.f3 (OpenSpec.ofChange Rows.coreAgreesSpec) false w args) (Rows.coreAgreesSpec.post g prog Tryz.f3 false true false false):=by
 refine TL (C:=Tryz.checked) (X:=λw _=>laidMetH prog [("caucus/mail.kinds",Rows.laid_caucus_mail_kinds)] w) (λ_ _ _ r h=>h.of_heap r) own k T7 func3
  (TM (enc:=g) (C:=Tryz.checked) (os:=z) (X:=λw _=>laidMetH prog [("caucus/mail.kinds",Rows.laid_caucus_mail_kinds)] w) false (World.laidAll prog z [("caucus/mail.kinds",Rows.laid_caucus_mail_kinds)]) #[I 0,.slice none 0 0] 8 (World.laidAll_os _ _ _)
   (World.shaped_of_ZipB T7 T7) T7 T7 T7
   RW) ?_
 intro W G args ds ua d Z k1 Yj n lj _;have N:(DataW.weightsEach prog (Tryz.f3.params.toList++Rows.coreAgreesSpec.plain.varTypes prog) (ds++ua)).all (·<=reachBytes)=true:=n;have D:∀(j:Nat) t v,Tryz.f3.params[j]?=some t->args[j]?=some v->Value.okWide prog W .any G t v:=Z;have F:=k1;obtain⟨p,q,Yh,qU,rfl,Yg,Yc⟩:=k1;have b:DataW.TrodAll g prog W 0 (λ_=>true) true Tryz.f3.params.toList args.toList ds p:=Yh;have dJ:=b;rw[Tryz.params3]at dJ D N;obtain⟨v0,Yl,d0,Yf,af5,ahH,s,rfl,rfl,P,DT⟩:=trodAll_cons dJ;obtain⟨j7,Ym,yj,Yi,oO,kU,rfl,rfl,rfl,bg,kD⟩:=trodAll_cons DT;obtain⟨rfl,rfl,rfl⟩:=trodAll_nil kD;obtain rfl:args=#[v0,j7]:=by cases args;simp_all
 obtain⟨rfl,rfl⟩:=trodVars_none qU;obtain⟨sC,rfl,rfl,rfl,Gc⟩:=open_int Tryz.underlying3 (D 0 3 v0 rfl rfl) P;obtain⟨Q,Y,J,T,K,Ye,rfl,y,u,R,L,E,i,Yk⟩:=EA Tryz.underlying22 fS.leaves T7 T6 (D 1 22 j7 rfl rfl) bg (Ez N 1 rfl rfl);obtain⟨M,rfl,a⟩:=AR fS.c fS.wf i fS.fit;obtain rfl:T=M.length:=by simpa using y.symm
 simp only[dT]at F b;have m:∀p:Nat×Nat,p∈[(M.length,Y)]->0<p.1->p.2<W.heap.size:=MI
 have l:Rd (snap W (lv [(M.length,Y)])) Q M.length Y J 11 (M.map fS.c):=Rd.snap T3 (jy u R) L E (λh=>AS (g:=M.length) T3 h);have fk:0∉lv [(M.length,Y)]:=by
  unfold lv;split
  .rename_i h;intro o;rcases dk.1 o with e|e
   .exact J1 lj E h.1 e.symm
   .cases e
  .intro o;cases o
 have f:Ab M:=λx U=>⟨⟨(a x U).2.2.1.2.1,(a x U).2.2.1.2.2.1⟩,Rf⟩
 letI:b4:=⟨W.heap[0]?⟩
 refine(ar.runK rfl (J0 lj) (λw h=>h.1) (yB _) (AT m) fk (ag0 sC _ Q K Y J M f l)).mono λe eI r=>?_;obtain⟨rfl,hJ⟩:=r;exact⟨_,rfl,EC (P:=prog) (f:=Tryz.f3) (Ye:=4) F b rfl rfl hJ EZ agp rfl Tryz.underlying4⟩
def TP:joinedFacts prog 3 Tryz.f3 Rows.coreAgreesSpec Rows.coreAgreesRow=true:=Ox
def TQ:Rows.CoreAgreesSaid:=
 TR 3 Tryz.f3 rfl rfl rfl rfl rfl rfl rfl ⟨rfl,rfl,rfl,rfl,rfl⟩ rfl rfl rfl rfl rfl T7 func3 TP
  (wK T7) Nz
  (λz k H t _=>ait z k H t)
theorem coreAgrees_proved:Rows.CoreAgreesCardSaid:=
 TS .later [] [.data] true (true,"2bd43b8b9bab49a80501c85ad9c4676e1fa8e753d1aa75001a15b32b7b28cf8f") false
  TQ (λ_ h=>Ua) T7 (λ_ h=>Ua) coreAgrees_row_tie rfl ⟨rfl,rfl⟩ T7 rfl
  (λf fn k p=>by
   obtain rfl:f=3:=hc ((show prog.funcNamed "caucus/caucustop.CoreAgrees" =some 3 by kernel_rfl).symm.trans k)|>.symm;obtain rfl:fn=Tryz.f3:=(hc (func3.symm.trans p)).symm;exact⟨T7,λj t r=>by
    rw[Tryz.params3]at r;have K:t∈[3,22]:=by simpa using wJ r
    have r:([3,22].all λu=>!prog.wantsStandIn u)=true:=T7
    exact(show prog.wantsStandIn t=false by simpa using hq.1 r t K)⟩)
  T7
end Go.Proofs.YteogojgnkjegmaaGreatDoor
