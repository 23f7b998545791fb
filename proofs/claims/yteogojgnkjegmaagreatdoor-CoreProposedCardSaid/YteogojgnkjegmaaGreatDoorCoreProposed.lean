/-
  Proved is the given statement CoreProposedCardSaid: what is committed was submitted by a client as that item, or is the Nop; what is voted, too.
  Conditions: those of the row itself (3, 5 or 7 replicas, 50 acts, texts of 100 bytes), nothing else.
-/
import Derived.Test.YteogojgnkjegmaaGreatDoorBe
import Derived.Test.YteogojgnkjegmaaGreatDoorCards
import Derived.Test.YteogojgnkjegmaaGreatDoorTie
set_option linter.all false
set_option maxRecDepth 8000
set_option maxHeartbeats 8000000
namespace Go.Proofs.YteogojgnkjegmaaGreatDoor
open Go Go.ay Go.ChangeShapes Go.WideShapes Go.ChangeAt Go.RowKit Go.Proofs.Tryz
def ajd:(Tryz.f4.params.toList.all λt=>prog.readableRec t&&decide (t<prog.types.size))=true:=T7
set_option maxRecDepth 100000 in
def ad1(z:Go.Os)(k:z.Started)(H:Type)(g:a7×aj->H):ReturnsInHanded {} Tryz.checked z 4 .any (λw args=>(Rows.coreProposedSpec.pre g prog Tryz.f4 Rows.coreProposedRow.domain false w args/\laidMetH prog [("caucus/mail.kinds",Rows.laid_caucus_mail_kinds)] w)/\sizedMet g prog Tryz.f4 (OpenSpec.ofChange Rows.coreProposedSpec) false w args) (Rows.coreProposedSpec.post g prog Tryz.f4 false true false false):=by
 refine TL (C:=Tryz.checked) (X:=λw _=>laidMetH prog [("caucus/mail.kinds",Rows.laid_caucus_mail_kinds)] w) (λ_ _ _ r h=>h.of_heap r) own k T7 func4
  (TM (enc:=g) (C:=Tryz.checked) (os:=z) (X:=λw _=>laidMetH prog [("caucus/mail.kinds",Rows.laid_caucus_mail_kinds)] w) false (World.laidAll prog z [("caucus/mail.kinds",Rows.laid_caucus_mail_kinds)]) #[I 0,.slice none 0 0] 8 (World.laidAll_os _ _ _)
   (World.shaped_of_ZipB T7 T7) T7 T7 T7
   RW) ?_
 intro W G args ds ua d Z k1 Yj n lj _;have N:(DataW.weightsEach prog (Tryz.f4.params.toList++Rows.coreProposedSpec.plain.varTypes prog) (ds++ua)).all (·<=reachBytes)=true:=n;have D:∀(j:Nat) t v,Tryz.f4.params[j]?=some t->args[j]?=some v->Value.okWide prog W .any G t v:=Z;have F:=k1;obtain⟨p,q,Yh,qU,rfl,Yg,Yc⟩:=k1;have b:DataW.TrodAll g prog W 0 (λ_=>true) true Tryz.f4.params.toList args.toList ds p:=Yh;have dJ:=b;rw[Tryz.params4]at dJ D N;obtain⟨v0,Yl,d0,Yf,af5,ahH,s,rfl,rfl,P,DT⟩:=trodAll_cons dJ;obtain⟨j7,Ym,yj,Yi,oO,kU,rfl,rfl,rfl,bg,kD⟩:=trodAll_cons DT;obtain⟨rfl,rfl,rfl⟩:=trodAll_nil kD;obtain rfl:args=#[v0,j7]:=by cases args;simp_all
 obtain⟨rfl,rfl⟩:=trodVars_none qU;obtain⟨sC,rfl,rfl,rfl,Gc⟩:=open_int Tryz.underlying3 (D 0 3 v0 rfl rfl) P;obtain⟨Q,Y,J,T,K,Ye,rfl,y,u,R,L,E,i,Yk⟩:=EA Tryz.underlying22 fS.leaves T7 T6 (D 1 22 j7 rfl rfl) bg (Ez N 1 rfl rfl);obtain⟨M,rfl,a⟩:=AR fS.c fS.wf i fS.fit;obtain rfl:T=M.length:=by simpa using y.symm
 simp only[dT]at F b;have m:∀p:Nat×Nat,p∈[(M.length,Y)]->0<p.1->p.2<W.heap.size:=MI
 have l:Rd (snap W (lv [(M.length,Y)])) Q M.length Y J 11 (M.map fS.c):=Rd.snap T3 (jy u R) L E (λh=>AS (g:=M.length) T3 h);have fk:0∉lv [(M.length,Y)]:=by
  unfold lv;split
  .rename_i h;intro o;rcases dk.1 o with e|e
   .exact J1 lj E h.1 e.symm
   .cases e
  .intro o;cases o
 have f:Ab M:=λx U=>⟨⟨(a x U).2.2.1.2.1,(a x U).2.2.1.2.2.1⟩,Rf⟩
 letI:b4:=⟨W.heap[0]?⟩
 refine(ar.runK rfl (J0 lj) (λw h=>h.1) (yB _) (AT m) fk (ai6 sC _ Q K Y J M f l)).mono λe eI r=>?_;obtain⟨rfl,hJ⟩:=r;exact⟨_,rfl,EC (P:=prog) (f:=Tryz.f4) (Ye:=4) F b rfl rfl hJ EZ ajd rfl Tryz.underlying4⟩
def TV:joinedFacts prog 4 Tryz.f4 Rows.coreProposedSpec Rows.coreProposedRow=true:=Ox
def TW:Rows.CoreProposedSaid:=
 TR 4 Tryz.f4 rfl rfl rfl rfl rfl rfl rfl ⟨rfl,rfl,rfl,rfl,rfl⟩ rfl rfl rfl rfl rfl T7 func4 TV
  (wK T7) Nz
  (λz k H t _=>ad1 z k H t)
theorem coreProposed_proved:Rows.CoreProposedCardSaid:=
 TS .later [] [.data] true (true,"2bd43b8b9bab49a80501c85ad9c4676e1fa8e753d1aa75001a15b32b7b28cf8f") false
  TW (λ_ h=>Ua) T7 (λ_ h=>Ua) coreProposed_row_tie rfl ⟨rfl,rfl⟩ T7 rfl
  (λf fn k p=>by
   obtain rfl:f=4:=hc ((show prog.funcNamed "caucus/caucustop.CoreProposed" =some 4 by kernel_rfl).symm.trans k)|>.symm;obtain rfl:fn=Tryz.f4:=(hc (func4.symm.trans p)).symm;exact⟨T7,λj t r=>by
    rw[Tryz.params4]at r;have K:t∈[3,22]:=by simpa using wJ r
    have r:([3,22].all λu=>!prog.wantsStandIn u)=true:=T7
    exact(show prog.wantsStandIn t=false by simpa using hq.1 r t K)⟩)
  T7
end Go.Proofs.YteogojgnkjegmaaGreatDoor
