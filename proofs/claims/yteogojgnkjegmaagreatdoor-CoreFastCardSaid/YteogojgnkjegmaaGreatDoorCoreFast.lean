/-
  Proved is the given statement CoreFastCardSaid: where nothing else is under way a deed is told behind one way there and back.
  Conditions: those of the row itself (3, 5 or 7 replicas, 10 deeds ahead, texts of 100 bytes), nothing else.
-/
import Derived.Test.YteogojgnkjegmaaGreatDoorBk
import Derived.Test.YteogojgnkjegmaaGreatDoorCards
import Derived.Test.YteogojgnkjegmaaGreatDoorTie
set_option linter.all false
set_option maxRecDepth 8000
set_option maxHeartbeats 8000000
namespace Go.Proofs.YteogojgnkjegmaaGreatDoor
open Go Go.az Go.ChangeShapes Go.WideShapes Go.ChangeAt Go.RowKit Go.Proofs.Tryz
def ahB:(Tryz.f6.params.toList.all λt=>prog.readableRec t&&decide (t<prog.types.size))=true:=Vw
set_option maxRecDepth 100000 in
def aip(N:Go.Os)(y:N.Started)(H:Type)(J:a8×aj->H):ReturnsInHanded {} Tryz.checked N 6 .any (λw args=>(Rows.coreFastSpec.pre J prog Tryz.f6 Rows.coreFastRow.domain false w args/\laidMetH prog [("caucus/mail.kinds",Rows.laid_caucus_mail_kinds)] w)/\sizedMet J prog Tryz.f6 (OpenSpec.ofChange Rows.coreFastSpec) false w args) (Rows.coreFastSpec.post J prog Tryz.f6 false true false false):=by
 refine BE (C:=Tryz.checked) (X:=λw _=>laidMetH prog [("caucus/mail.kinds",Rows.laid_caucus_mail_kinds)] w) (λ_ _ _ E h=>h.of_heap E) own y Vw func6
  (BF (enc:=J) (C:=Tryz.checked) (os:=N) (X:=λw _=>laidMetH prog [("caucus/mail.kinds",Rows.laid_caucus_mail_kinds)] w) false (World.laidAll prog N [("caucus/mail.kinds",Rows.laid_caucus_mail_kinds)]) #[I 0,.slice none 0 0,I 0,A bF.z.c,I 0] 8 (BG _ _ _)
   (BH Vw Vw) Vw Vw Vw
   R0) ?_
 intro W m args ds pz M L ie Yk l iQ _;have n:(DataW.weightsEach prog (Tryz.f6.params.toList++Rows.coreFastSpec.plain.varTypes prog) (ds++pz)).all (·<=reachBytes)=true:=l;have a:∀(j:Nat) t v,Tryz.f6.params[j]?=some t->args[j]?=some v->Value.okWide prog W .any m t v:=L;have r:=ie;obtain⟨p,q,Yf,nG,rfl,Yi,Yc⟩:=ie;have o:DataW.TrodAll J prog W 0 (λ_=>true) true Tryz.f6.params.toList args.toList ds p:=Yf;have dd:=o;rw[Tryz.params6]at dd a n;obtain⟨v0,Ym,d0,Yg,BJ,BK,Yh,rfl,rfl,f,sX⟩:=trodAll_cons dd;obtain⟨hh,Yn,om,Yj,nH,j3,rfl,rfl,rfl,bf,ji⟩:=trodAll_cons sX;obtain⟨lL,Yo,pO,Yp,oO,qL,rfl,rfl,rfl,bW,vP⟩:=trodAll_cons ji;obtain⟨v3,Yq,r2,Yr,gD,zq,rfl,rfl,rfl,cd,qp⟩:=trodAll_cons vP;obtain⟨v4,Ys,vO,Yt,fO,K9,rfl,rfl,rfl,gw,aiC⟩:=trodAll_cons qp;obtain⟨rfl,rfl,rfl⟩:=trodAll_nil aiC;obtain rfl:args=#[v0,hh,lL,v3,v4]:=EE
 obtain⟨rfl,rfl⟩:=trodVars_none nG;obtain⟨oH,rfl,rfl,rfl,yt⟩:=open_int Tryz.underlying3 (a 0 3 v0 rfl rfl) f;obtain⟨i,k,b,P,G,Ye,rfl,Q,s,Y,F,Z,d,Yl⟩:=xM Tryz.underlying22 ea.leaves Vw VI (a 1 22 hh rfl rfl) bf (v7 n 1 rfl rfl);obtain⟨K,rfl,D⟩:=wa ea.c ea.wf d ea.fit;obtain rfl:P=K.length:=by simpa using Q.symm
 obtain⟨ahj,rfl,rfl,rfl,oE⟩:=open_int Tryz.underlying3 (a 2 3 lL rfl rfl) bW;obtain⟨rW,rfl,f3⟩:=afq bF.leaves ⟨_,Tryz.underlying29⟩ (a 3 29 v3 rfl rfl) cd (v7 n 3 rfl rfl);obtain⟨aiW,rfl,mn⟩:=bF.fit f3;obtain⟨aih,rfl,rfl,rfl,Dm⟩:=open_int Tryz.underlying3 (a 4 3 v4 rfl rfl) gw;simp only[db]at r o;have g:∀p:Nat×Nat,p∈[(K.length,k)]->0<p.1->p.2<W.heap.size:=Qa
 have R:Rd (snap W (i1 [(K.length,k)])) i K.length k b 11 (K.map ea.c):=Rd.snap VK (iB s Y) F Z (λh=>wb (o:=K.length) VK h);have gL:0∉i1 [(K.length,k)]:=by
  unfold i1;split
  .rename_i h;intro u;rcases cQ.1 u with e|e
   exact zi
   .cases e
  .intro u;cases u
 have U:r0 K:=λx T=>⟨⟨(D x T).2.2.1.2.1,(D x T).2.2.1.2.2.1⟩,(by have h:=bounds_u8 (D x T).2.2.2.2.2;omega)⟩
 letI:b5:=⟨W.heap[0]?⟩
 refine(ar.runK rfl (ze iQ) (λw h=>h.1) (uN _) (wc g) gL (amj oH _ i G k b K ahj aiW aih U ⟨mn.2.1,mn.2.2.1⟩ R)).mono λe eK E=>?_;obtain⟨rfl,gy⟩:=E;exact⟨_,rfl,xN (P:=prog) (f:=Tryz.f6) (Ye:=4) r o rfl rfl gy xX ahB rfl Tryz.underlying4⟩
def akk:joinedFacts prog 6 Tryz.f6 Rows.coreFastSpec Rows.coreFastRow=true:=Q9
def Vm:Rows.CoreFastSaid:=
 BL 6 Tryz.f6 rfl rfl rfl rfl rfl rfl rfl ⟨rfl,rfl,rfl,rfl,rfl⟩ rfl rfl rfl rfl rfl Vw func6 akk
  (tk Vw) Mf
  (λY a H J _=>aip Y a H J)
theorem coreFast_proved:Rows.CoreFastCardSaid:=
 BM .later [] [.data] true (true,"2bd43b8b9bab49a80501c85ad9c4676e1fa8e753d1aa75001a15b32b7b28cf8f") false
  Vm (λ_ h=>VL) Vw (λ_ h=>VL) coreFast_row_tie rfl ⟨rfl,rfl⟩ Vw rfl
  (λf fn l Q=>by
   obtain rfl:f=6:=gs ((show prog.funcNamed "caucus/caucustop.CoreFast" =some 6 by kernel_rfl).symm.trans l)|>.symm;obtain rfl:fn=Tryz.f6:=(gs (func6.symm.trans Q)).symm;exact⟨Vw,λj t f=>by
    rw[Tryz.params6]at f;have K:t∈[3,22,3,29,3]:=HQ
    have J:([3,22,3,29,3].all λu=>!prog.wantsStandIn u)=true:=Vw
    exact(show prog.wantsStandIn t=false by simpa using hk.1 J t K)⟩)
  Vw
end Go.Proofs.YteogojgnkjegmaaGreatDoor
