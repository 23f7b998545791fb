/-
 Part of the proof.
-/
import Derived.Test.YteogojgnkjegmaaGreatDoorAt
set_option linter.all false
set_option maxRecDepth 8000
set_option maxHeartbeats 8000000
namespace Go.Proofs.YteogojgnkjegmaaGreatDoor
open Go.az Go.Proofs.Tryz
variable[Go.az.b5]
section
variable{P:b1}{f:fb}{args:ab aj}{Y U:Type}{b3:eI Y->ab ay}{l:ab (ag×eI Y)}{x:ag}{e:eI Y}
def ar.XL{Q:aj->U->Prop}{T:U->ay}(G:aZ l x=some e)(h:ar P f args (b3 e) (λr Z=>∃z,Q r z/\Z=T z::b3 e)):ar P f args [fA b3 l] (λr Z=>∃z,Q r z/\Z=[T z,fA b3 l]):=by refine ar.eqv (yV b3 G) (ar.frame (bg:=[fA b3 (fm l x)]) h) ?_;rintro r Z⟨_,⟨z,J,rfl⟩,rfl⟩;exact⟨_,⟨z,J,rfl⟩,aP.cons _ (yV b3 G).symm⟩
end
def ah.ZE{P:b1}{r:aT Nat}{W:a2}{D:ab Nat}{n:dF}{Q:da}{M:bJ}{F v:ab ay}{c:Go.Code}{p h:ay}(j:p=h)(k:ah P r W D n Q c M (h::v))(E:ak F [p] v:=by(repeat(first|exact ak.nil|exact al.here|apply ak.cons|apply al.there))):ah P r W D n Q c M F:=
 ah.iE (λw s=>by subst j;exact s.Wy E) k
def aA.Wa(s:aA)(m:aD):ab (ag×bp):=if m.Kind=8 then bA s.high m.Item (lE [(aZ s.high m.Item).getD bp.z,m.bC])else s.high
noncomputable def aA.V1(s:aA)(m:aD)(n:Nat):aA:=match aZ s.bq m.Item with
 |none=>s
 |some e=>
  if(e.v.B' m).2=true then
   (if(e.v.B' m).1.lost=true then{({s with bq:=bA s.bq m.Item ⟨e.p,n,(e.v.B' m).1⟩}:aA).send (e.v.B' m).1.H' with bq:=fm (bA s.bq m.Item ⟨e.p,n,(e.v.B' m).1⟩) m.Item}
   else({s with bq:=bA s.bq m.Item ⟨e.p,n,(e.v.B' m).1⟩}:aA).send (e.v.B' m).1.H')
  else{s with bq:=bA s.bq m.Item ⟨e.p,n,(e.v.B' m).1⟩}
noncomputable def aA.V7(s:aA)(m:aD):aA:=match aZ s.leads m.Item with
 |none=>s
 |some e=>
  if(e.v.B' m).2=true then
   (if(e.v.B' m).1.phase=4 then{({s with leads:=bA s.leads m.Item ⟨e.p,e.q,(e.v.B' m).1⟩}:aA).send (e.v.B' m).1.H' with leads:=fm (bA s.leads m.Item ⟨e.p,e.q,(e.v.B' m).1⟩) m.Item}
   else({s with leads:=bA s.leads m.Item ⟨e.p,e.q,(e.v.B' m).1⟩}:aA).send (e.v.B' m).1.H')
  else{s with leads:=bA s.leads m.Item ⟨e.p,e.q,(e.v.B' m).1⟩}
def uc(s:aA)(m:aD)(L:aA):Prop:=∃n,L=(({s with high:=s.Wa m}:aA).V1 m n).V7 m
structure RepW(s:aA):Prop where
 ce:∀x e,aZ s.leads x=some e->hU e.v s.n s.self x e.v.bm
 rs:∀x e,aZ s.bq x=some e->e.v.ok/\e.v.x.n=s.n
def sL(b:Nat)(L:cT)(s:aA)(E:ab (ag×eI a6))(ct:ab (ag×eI bM)):ab ay:=
 [cells b 95 (e5 L s),fR L.ef s.bU s.X s.ax,bz b9 di L.et s.leads,fA jQ E,bz b9 di L.fS s.bq,fA hi ct,lf L s,ky L.eC L.eg s.run,na s.M,bz b9 hA L.dW s.cR,bz b9 mc L.bN s.high,
  eB aD.c L.e9 176 25 s.inbox,rows b2.c L.dw 143 3 s.out,rows gf.c L.bY 65 6 s.told]
def bM.WT{r:bM}(h:r.ok):r.H'.length<=7:=by
 have:=h.n;unfold bM.H';split
 .simp
 .split
  .rename_i l u;have k:=h.ce l u;unfold a6.H';split
   .rw[a6.XQ,k.n];omega
   .simp
  .rw[dZ,List.length_range];omega
def a6.WT{l:a6}{n c:Int}{it:ag}{J:bp}(k:hU l n c it J)(y:n<=7):l.H'.length<=7:=by
 unfold a6.H';split
 .rw[a6.XQ,k.n];omega
 .simp
def ud(s:aA)(l:ab aD):(s.send l).inbox.length<=s.inbox.length+l.length/\(s.send l).out.length<=s.out.length+l.length:=by unfold aA.send;dsimp only;rw[bQ,bQ];have:=JE s.self l;have:=JF s.n s.self l;omega
def Ew{s:aA}(m:aD)(i:Nat)(L:∀x e,aZ s.bq x=some e->e.v.ok):(s.V1 m i).leads=s.leads/\(s.V1 m i).n=s.n/\(s.V1 m i).self=s.self/\(s.V1 m i).inbox.length<=s.inbox.length+7/\(s.V1 m i).out.length<=s.out.length+7:=by
 unfold aA.V1;split
 .exact⟨rfl,rfl,rfl,ac,ac⟩
 .rename_i e r;have w:=bM.WT ((L _ _ r).B' m);have u:=ud ({s with bq:=bA s.bq m.Item ⟨e.p,i,(e.v.B' m).1⟩}:aA) (e.v.B' m).1.H';dsimp only at u;split
  .split
   exact Se
   .exact⟨rfl,rfl,rfl,ac,ac⟩
  exact Se
def alY(b:Nat)(L:cT)(s:aA)(m:aD)(cN:3<=s.n/\s.n<=7)(ie:RepW s)(am:s.inbox.length<=999000)(ej:s.out.length<=999000):ar prog 127 [av b 0,A m.c] (ch b L s++[cM]) (λr C=>∃bD o,uc s m o/\r=.tuple #[]/\C=ch b bD o++[cM]):=by
 suffices Yc:ar prog 127 [av b 0,A m.c] (ch b L s++[cM]) (λr C=>∃bD o pl,(uc s m o/\(pl=o.leads\/o.leads=fm pl m.Item))/\r=.tuple #[]/\C=sL b bD o pl o.bq++[cM]) by
  refine ar.Wg Yc ?_;rintro v C W D w⟨bD,o,pl,⟨dT,Yh⟩,rfl,rfl⟩ cr;refine⟨_,⟨bD,o,dT,rfl,rfl⟩,?_⟩;rcases Yh with rfl|Yh
  .exact cr.hv (v:=[]) Qe
  .have bf:=cr.Wy (bg:=[fA jQ pl]) QV;have bW:=vs jQ pl m.Item bf;rw[<-Yh]at bW;exact bW.hv (v:=[]) Un
 obtain⟨ef,et,fS,ei,wp,cV,eU,eC,eg,dW,d,e9,dw,bY⟩:=L;unfold ch e5;refine bh ?_;have Yj:∀x e,aZ s.leads x=some e->hU e.v s.n s.self x e.v.bm:=ie.ce;refine aF func127 λW=>?_;generalize br _=D;refine aq 2 λgD=>?_;refine aa 2 ?_;refine ah.mt [0,3] (λ_:Unit=>True) (λ_=>[]) (λ_=>[bz b9 mc d (s.Wa m)]) (s:=[bz b9 mc d s.high]) ?_ ?_
 .intro fP Z;unfold aA.Wa at Z;by_cases Yp:m.Kind=8
  .have c5:bb .eql m.Kind 8=some true:=by simp[bb,Yp]
   rw[aJ Yp]at Z;have Yq (g:Nat):ar prog 138 [.slice (some ⟨g,0,none⟩) 2 2] [rows bp.c (.slice (some ⟨g,0,none⟩) 2 2) 48 2 [(aZ s.high m.Item).getD bp.z,m.bC]] _:=He _ _ 2 g 0 [(aZ s.high m.Item).getD bp.z,m.bC] (Rd.rows (l:=[(aZ s.high m.Item).getD bp.z,m.bC]) bp.len VK);refine aa 4 ?_;refine ai.v (V.cmp rfl rfl c5) ?_;refine aa 3 ?_;refine ah.p' ?_ aC.j.j.j.j.j.j.j.j.j.j.j.j.j.j.d'.d';refine ae 12 0 ?_;refine ae 2 13 ?_;refine af.y' 12 rfl (aw.z' (aN.Wj (l:=s.high) (k:=m.Item) (aU:=mc) bp.z cw yY JG rfl rfl VF) ?_);refine au ?_;refine af.y' 15 rfl (O.V' ad bp.c [(aZ s.high m.Item).getD bp.z,m.bC] rfl (bP.agg rfl (bP.agg rfl bP.nil)) rfl rfl (λYl=>?_));refine au ?_;refine af.x' 16 rfl rfl (Yq _) ?_;refine aa 2 ?_;refine af.y' 17 rfl (aw.Wh (l:=s.high) (k:=m.Item) (v:=lE [(aZ s.high m.Item).getD bp.z,m.bC]) (b8:=b9) (aU:=mc) cw yY rfl rfl rfl VS ?_);refine aa 2 ?_;all_goals exact Out.C' Z () trivial trivial
  .have c5:bb .eql m.Kind 8=some false:=by simp[bb,Yp]
   rw[aG Yp]at Z;refine aa 4 ?_;refine ai.v (V.cmp rfl rfl c5) ?_;refine aa 4 ?_;all_goals exact Out.C' Z () trivial trivial
 rintro⟨⟩-;refine bh ?_;have u:∃X:aA,X=({s with high:=s.Wa m}:aA):=⟨_,rfl⟩
 obtain⟨X,u⟩:=u;unfold uc;rw[<-u];refine ah.mt [0,3] (λz:cT×aA×ab (ag×eI bM)=>(∃sM,z.2.1=X.V1 m sM)/\(z.2.2=z.2.1.bq\/z.2.1.bq=fm z.2.2 m.Item)) (λ_=>[]) (λz=>sL b z.1 z.2.1 z.2.1.leads z.2.2++[cM]) (s:=sL b ⟨ef,et,fS,ei,wp,cV,eU,eC,eg,dW,d,e9,dw,bY⟩ X X.leads X.bq++[cM]) ?_ ?_ (t:=SU)
 .intro fP Z;have Yi:X.bq=s.bq:=by rw[u]
  cases K:aZ s.bq m.Item with
  |none=>
   have eV:=akZ m;refine O1 ?_;refine ae 6 0 ?_;refine af.y' 6 rfl (aw.z' (aN.WP (l:=s.bq) (k:=m.Item) (aU:=di) K cw lh nI rfl rfl VF) ?_);refine au ?_;refine ae 1 7 ?_;refine aa 11 ?_;all_goals(refine Out.C' Z (⟨ef,et,fS,ei,wp,cV,eU,eC,eg,dW,d,e9,dw,bY⟩,X,X.bq) ?_ trivial (g:=SU);exact ⟨⟨0,by unfold aA.V1;rw[Yi,K]⟩,.inl rfl⟩)
  |some e=>
   obtain⟨Ye,Yu⟩:=ie.rs _ _ K;have cr:=ar.Z8 (b3:=hi) (Q:=λr (_:Nat)=>r=B (e.v.B' m).2) (R:=λsM=>⟨e.p,sM,(e.v.B' m).1⟩) K (ael e.p e.q e.v Ye m);cases cB:(e.v.B' m).2<;>rw[cB]at cr
   .refine O1 ?_;refine S8 λJ=>?_;refine aa 5 ?_;all_goals(refine Out.C' Z (⟨ef,et,fS,ei,wp,cV,eU,eC,eg,dW,d,e9,dw,bY⟩,{X with bq:=bA s.bq m.Item ⟨e.p,J,(e.v.B' m).1⟩},bA s.bq m.Item ⟨e.p,J,(e.v.B' m).1⟩) ?_ trivial (g:=by subst u;unfold sL;dsimp only[List.cons_append,List.nil_append];rw[yW fS (U:=⟨e.p,J,(e.v.B' m).1⟩) K rfl];(repeat(first|exact ak.nil|exact al.here|apply ak.cons|apply al.there)));exact ⟨⟨J,by unfold aA.V1;rw[Yi,K];dsimp only;rw[aG (by rw[cB];decide)]⟩,.inl rfl⟩)
   .have y:=Ye.B' m;refine O1 ?_;refine S8 λJ=>?_;refine aa 4 ?_;refine ah.ZE (yW fS (U:=⟨e.p,J,(e.v.B' m).1⟩) K rfl).symm ?_;generalize F:bA s.bq m.Item ⟨e.p,J,(e.v.B' m).1⟩=N;have bG:aZ N m.Item=some ⟨e.p,J,(e.v.B' m).1⟩:=by rw[<-F,gX,aJ rfl]
    have t:=ar.XL (b3:=hi) (Q:=λr (z:aT Go.Addr×Nat)=>r=.slice z.1 (e.v.B' m).1.H'.length z.2) (T:=λz=>rows aD.c (.slice z.1 (e.v.B' m).1.H'.length z.2) 176 25 (e.v.B' m).1.H') bG (ar.post (Ee e.p J (e.v.B' m).1 y) QC);have R:=ar.hi (b3:=hi) bG (Rf e.p J (e.v.B' m).1 y);have i (cK:aT Go.Addr) (G:Nat):=vt b ⟨ef,et,fS,ei,wp,cV,eU,eC,eg,dW,d,e9,dw,bY⟩ {X with bq:=N} cK G (e.v.B' m).1.H' (by rw[u];exact cN.2) (by have:=bM.WT y;omega) (by rw[u];dsimp only;omega) (by rw[u];dsimp only;omega);unfold ch e5 at i;dsimp only[List.cons_append,List.nil_append]at i t R;rw[u]at i;dsimp only at i;cases M:(e.v.B' m).1.lost<;>rw[M]at R
    .refine Th λYr a=>?_;refine aa 12 ?_;all_goals(refine Out.C' Z (a,({X with bq:=N}:aA).send (e.v.B' m).1.H',N) ?_ trivial (g:=SU);exact ⟨⟨J,by unfold aA.V1;rw[Yi,K];dsimp only;rw[aJ cB,aG (by rw[M];decide),F]⟩,.inl rfl⟩)
    .refine Th λYr a=>?_;refine aa 11 ?_;refine ah.p' ?_ aC.d'.j.j.j.j.j.j.j.j.j.j.j.j.j.d'.j;refine ae 6 0 ?_;refine af.y' 6 rfl (aw.WS (l:=N) (k:=m.Item) (aU:=di) cw lh rfl rfl VS ?_);refine aa 2 ?_;all_goals(refine Out.C' Z (a,{({X with bq:=N}:aA).send (e.v.B' m).1.H' with bq:=fm N m.Item},N) ?_ trivial (g:=SU);exact ⟨⟨J,by unfold aA.V1;rw[Yi,K];dsimp only;rw[aJ cB,aJ M,F]⟩,.inr rfl⟩)
 rintro⟨fr,j,ct⟩⟨⟨sM,aV⟩,Ym⟩;dsimp only at aV Ym;dsimp only;refine ah.iE (a7:=ch b fr j++[cM,cells gD 176 m.c]) (λw cE=>?_) ?_
 .rcases Ym with rfl|Ym
  .exact cE.hv (v:=[]) Qe
  .have bf:=cE.Wy (bg:=[fA hi ct]) QV;have bW:=vs hi ct m.Item bf;rw[<-Ym]at bW;exact bW.hv (v:=[]) Un
 have E:=Ew (s:=X) m sM (by rw[u];exactλx e dg=>(ie.rs x e dg).1);rw[<-aV]at E;have Yf:j.leads=s.leads:=by rw[E.1,u]
 have Yo:j.n=s.n:=by rw[E.2.1,u]
 have Yt:j.self=s.self:=by rw[E.2.2.1,u]
 have Yk:j.inbox.length<=999100:=by have:=E.2.2.2.1;rw[u]at this;dsimp only at this;omega
 have Yn:j.out.length<=999100:=by have:=E.2.2.2.2;rw[u]at this;dsimp only at this;omega
 rw[<-Yf]at Yj;clear E u;obtain⟨ef,et,fS,ei,wp,cV,eU,eC,eg,dW,d,e9,dw,bY⟩:=fr;unfold ch e5;refine bh ?_;cases K:aZ j.leads m.Item with
 |none=>
  have eV:=aet m;refine au ?_;refine ah.p' ?_ aC.d'.j.j.j.j.j.j.j.j.j.j.j.j.j.j.d';refine ae 6 0 ?_;refine af.y' 6 rfl (aw.z' (aN.WP (l:=j.leads) (k:=m.Item) (aU:=di) K cw lg nc rfl rfl VF) ?_);refine au ?_;refine ae 1 7 ?_;refine aa 12 ?_;all_goals exact⟨_,_,⟨⟨ef,et,fS,ei,wp,cV,eU,eC,eg,dW,d,e9,dw,bY⟩,j,j.leads,⟨⟨sM,by rw[<-aV];unfold aA.V7;rw[K]⟩,.inl rfl⟩,rfl,rfl⟩,VH⟩
 |some e=>
  have ca:=Yj _ _ K;have cr:=ar.Z8 (b3:=jQ) (Q:=λr (_:Unit)=>r=B (e.v.B' m).2) (R:=λ_=>⟨e.p,e.q,(e.v.B' m).1⟩) K (ar.post (DX e.p e.v ca.wf m (by rw[ca.n];omega)) (by rintro v C⟨rfl,rfl⟩;exact⟨_,⟨(),rfl,rfl⟩,λ_ _ _ h=>h⟩));have Yg:=vk ca m;cases cB:(e.v.B' m).2<;>rw[cB]at cr
  .refine Nh λYs=>?_;refine aa 6 ?_;all_goals exact⟨_,_,⟨⟨ef,et,fS,ei,wp,cV,eU,eC,eg,dW,d,e9,dw,bY⟩,{j with leads:=bA j.leads m.Item ⟨e.p,e.q,(e.v.B' m).1⟩},bA j.leads m.Item ⟨e.p,e.q,(e.v.B' m).1⟩,⟨⟨sM,by rw[<-aV];unfold aA.V7;rw[K];dsimp only;rw[aG (by rw[cB];decide)]⟩,.inl rfl⟩,rfl,rfl⟩,(by unfold sL;dsimp only[List.cons_append,List.nil_append];rw[yW et (U:=⟨e.p,e.q,(e.v.B' m).1⟩) K rfl];(repeat(first|exact ak.nil|exact al.here|apply ak.cons|apply al.there)))⟩
  .refine Nh λYs=>?_;refine aa 4 ?_;refine ah.ZE (yW et (U:=⟨e.p,e.q,(e.v.B' m).1⟩) K rfl).symm ?_;generalize F:bA j.leads m.Item ⟨e.p,e.q,(e.v.B' m).1⟩=N;have bG:aZ N m.Item=some ⟨e.p,e.q,(e.v.B' m).1⟩:=by rw[<-F,gX,aJ rfl]
   have t:=ar.XL (b3:=jQ) (Q:=λr (z:aT Go.Addr×Nat)=>r=.slice z.1 (e.v.B' m).1.H'.length z.2) (T:=λz=>rows aD.c (.slice z.1 (e.v.B' m).1.H'.length z.2) 176 25 (e.v.B' m).1.H') bG (ar.post (ar.qh aD.len (AM e.p (e.v.B' m).1 (by rw[Yg.n];omega))) QC);have C:=ar.hi (b3:=jQ) bG (DV e.p (e.v.B' m).1);have i (cK:aT Go.Addr) (G:Nat):=vt b ⟨ef,et,fS,ei,wp,cV,eU,eC,eg,dW,d,e9,dw,bY⟩ {j with leads:=N} cK G (e.v.B' m).1.H' (by show j.n<=7;omega) (by have:=a6.WT Yg cN.2;omega) (by show j.inbox.length<=_;omega) (by show j.out.length<=_;omega);unfold ch e5 at i;dsimp only[List.cons_append,List.nil_append]at i t C;by_cases M:(e.v.B' m).1.phase=4
   .have J:bb .eql (e.v.B' m).1.phase 4=some true:=by simp[bb,M]
    refine Th λC w=>?_;refine aa 8 ?_;refine ai.v (V.cmp rfl rfl J) ?_;refine aa 3 ?_;refine ah.p' ?_ aC.d'.j.j.j.j.j.j.j.j.j.j.j.j.j.d'.j;refine ae 6 0 ?_;refine af.y' 6 rfl (aw.WS (l:=N) (k:=m.Item) (aU:=di) cw lg rfl rfl VS ?_);refine aa 3 ?_;all_goals exact⟨_,_,⟨w,{({j with leads:=N}:aA).send (e.v.B' m).1.H' with leads:=fm N m.Item},N,⟨⟨sM,by rw[<-aV];unfold aA.V7;rw[K];dsimp only;rw[aJ cB,aJ M,F]⟩,.inr rfl⟩,rfl,rfl⟩,VH⟩
   .have J:bb .eql (e.v.B' m).1.phase 4=some false:=by simp[bb,M]
    refine Th λC w=>?_;refine aa 8 ?_;refine ai.v (V.cmp rfl rfl J) ?_;refine aa 5 ?_;all_goals exact⟨_,_,⟨w,({j with leads:=N}:aA).send (e.v.B' m).1.H',N,⟨⟨sM,by rw[<-aV];unfold aA.V7;rw[K];dsimp only;rw[aJ cB,aG M,F]⟩,.inl rfl⟩,rfl,rfl⟩,VH⟩
end Go.Proofs.YteogojgnkjegmaaGreatDoor
namespace Go.Proofs.YteogojgnkjegmaaGreatDoor
open Go.az Go.Proofs.Tryz
variable[Go.az.b5]
variable{m:aD}{it:ag}
def afl(P R:Nat)(X:eY)(s:bS)(E:Int)(m:aD)(G:c4 m s.n=false\/m.bI≠E):ar prog 125 [av P 0,I E,A m.c] [fR P R X s,cM] (λr J=>r=.tuple #[A aD.z.c,B false]/\J=[fR P R X s,cM]):=by
 have g:=JA P R X s;have T:=Aq m s.n;by_cases J:m.bI=E
 .have X:c4 m s.n=false:=by
   rcases G with h|h
   .exact h
   .exact absurd J h
  rw[X]at T;refine QA λW a p=>?_;exact aQ 13
 .refine aF func125 λW=>?_;refine Q2 λa p=>?_;refine ah.p' ?_ aC.j.j.d'.j;refine ae 9 0 ?_;refine bK 23 ?_;refine ae 6 9 ?_;exact aQ 13
noncomputable def cH(s:bS)(E:Int)(m:aD):bS×aD×Bool:=if c4 m s.n=true/\m.bI=E then mb s m else(s,aD.z,false)
def aeS(P R:Nat)(X:eY)(s:bS)(E:Int)(m:aD)(h:s.ok)(y:iw X.L s.p)(T:X.L.dv<=1000000000000):ar prog 125 [av P 0,I E,A m.c] [fR P R X s,cM] (λr J=>∃u:eY,(u.L.dv<=X.L.dv+3/\iw u.L (cH s E m).1.p)/\r=.tuple #[A (cH s E m).2.1.c,B (cH s E m).2.2]/\J=[fR P R u (cH s E m).1,cM]):=by
 unfold cH;by_cases G:c4 m s.n=true/\m.bI=E
 .simp only[aJ G];exact ajp P R X s E m h (gZ.1 G.1) G.2 y T
 .simp only[aG G];refine ar.post (afl P R X s E m ?_) ?_
  .by_cases f:m.bI=E
   .refine .inl ?_;cases h:c4 m s.n with
    |false=>rfl
    |true=>exact absurd ⟨h,f⟩ G
   .exact .inr f
  .rintro v J⟨rfl,rfl⟩;exact⟨_,⟨X,⟨ks _ _,y⟩,rfl,rfl⟩,λ_ _ _ h=>h⟩
noncomputable def aA.U'(s:aA)(m:aD)(T:eY):aA:=
 if(cH s.ax s.self m).2.2=true then({s with ax:=(cH s.ax s.self m).1,X:=T}:aA).send [(cH s.ax s.self m).2.1]else{s with ax:=(cH s.ax s.self m).1,X:=T}
def mF(m:aD):Prop:=m.Kind=1\/m.Kind=3\/m.Kind=6\/m.Kind=5
def fs(s:aA)(m:aD)(t:aA):Prop:=
 (mF m/\∃T,T.L.dv<=s.X.L.dv+3/\iw T.L (cH s.ax s.self m).1.p/\
  (((bn (cH s.ax s.self m).1.p m.Item).Status=3/\od (s.U' m T) m.Item t)\/((bn (cH s.ax s.self m).1.p m.Item).Status≠3/\je (s.U' m T) m.Item t)))\/
 (¬mF m/\uc s m t)
structure JH(k:Nat)(s:aA):Prop extends RepI k s,RepW s where
 ax:s.ax.ok
 en:s.ax.n=s.n
 sp:iw s.X.L s.ax.p
 dv:s.X.L.dv<=k
def akC(b:Nat)(L:cT)(s:aA)(k:Nat)(h:RepI k s)(T:k<=1000000000000)(u:s.ax.ok)(x:ag)(G:bt x 7=true):ar prog 126 [av b 0,A x.c] (ch b L s) (λr J=>∃F t,(((bn s.ax.p x).Status=3/\od s x t)\/((bn s.ax.p x).Status≠3/\je s x t))/\r=.tuple #[]/\J=ch b F t):=by
 by_cases U:(bn s.ax.p x).Status=3
 .refine ar.post (ae7 b L s k h u x U) ?_;rintro v J⟨F,t,Y,rfl,rfl⟩;exact⟨_,⟨F,t,.inl ⟨U,Y⟩,rfl,rfl⟩,λ_ _ _ h=>h⟩
 .refine ar.post (aiq b L s k h T u x G U) ?_;rintro v J⟨F,t,Y,rfl,rfl⟩;exact⟨_,⟨F,t,.inr ⟨U,Y⟩,rfl,rfl⟩,λ_ _ _ h=>h⟩
instance(m:aD):Decidable (mF m):=by unfold mF;infer_instance
def AY{s:bS}{x:ag}{Z N:aY}(h:s.ok)(U:bt x s.n=true)(am:ff N s.n=true):(ma s x Z N).ok/\(ma s x Z N).n=s.n:=by
 unfold ma;split
 .exact⟨h,rfl⟩
 .exact⟨bS.ac0 h U am,bS.XP ..⟩
def ak9{s:bS}(h:s.ok)(K:hz m s.n):(mb s m).1.ok/\(mb s m).1.n=s.n:=by
 have am:=w2 h m.Item;unfold mb;dsimp only;split
 .exact⟨h,rfl⟩
 split
 .rename_i T;have q:=qU K PS;unfold j4;dsimp only;split
  .exact AY h K.item (w3 am K.bm (.inl rfl) (AV h q))
  .exact⟨h,rfl⟩
 split
 .rename_i T;have q:=qU K PS;unfold j5;dsimp only;split
  .exact AY h K.item (w3 am K.bm (.inr rfl) q)
  .exact⟨h,rfl⟩
 split
 .unfold nb;dsimp only;split
  .exact AY h K.item (AU am K.bm)
  .exact⟨h,rfl⟩
 split
 .rename_i T;have q:=qU K PS;exact AY h K.item (ys am q)
 .exact⟨h,rfl⟩
def JI{s:bS}(E:Int)(h:s.ok):(cH s E m).1.ok/\(cH s E m).1.n=s.n:=by
 unfold cH;split
 .rename_i G;exact ak9 h (gZ.1 G.1)
 .exact⟨h,rfl⟩
def RepI.U'{k:Nat}{s:aA}(h:RepI k s)(m:aD)(X:eY):RepI k (s.U' m X):=by
 unfold aA.U';split
 exact Sg
 exact Sg
def ue(s:aA)(m:aD)(X:eY):(s.U' m X).ax=(cH s.ax s.self m).1:=by unfold aA.U';split<;>rfl
def afB(b:Nat)(L:cT)(s:aA)(k:Nat)(h:RepI k s)(T:k<=1000000000000)(u:s.ax.ok)(x:ag)(G:bt x 7=true):ar prog 126 [av b 0,A x.c] (ch b L s++[cM]) (λr J=>∃F t,(((bn s.ax.p x).Status=3/\od s x t)\/((bn s.ax.p x).Status≠3/\je s x t))/\r=.tuple #[]/\J=ch b F t++[cM]):=by refine ar.post (ar.frame (bg:=[cM]) (akC b L s k h T u x G)) ?_;rintro v J⟨_,⟨F,t,Y,rfl,rfl⟩,rfl⟩;exact⟨_,⟨F,t,Y,rfl,rfl⟩,λ_ _ _ h=>h⟩
def yZ{s:aA}(T:eY)(h:(cH s.ax s.self m).2.2=false):s.U' m T={s with ax:=(cH s.ax s.self m).1,X:=T}:=by unfold aA.U';rw[aG (by rw[h];decide)]
def y0{s:aA}(T:eY)(h:(cH s.ax s.self m).2.2=true):s.U' m T=({s with ax:=(cH s.ax s.self m).1,X:=T}:aA).send [(cH s.ax s.self m).2.1]:=by unfold aA.U';rw[aJ h]
def JJ(b:Nat)(L:cT)(s:aA)(k:Nat)(m:aD)(h:JH k s)(ca:k<=1000000000000)(bG:bt m.Item 7=true)(am:s.inbox.length<=900000)(ej:s.out.length<=900000):ar prog 90 [av b 0,A m.c] (ch b L s++[cM]) (λr Z=>∃F cL,fs s m cL/\r=.tuple #[]/\Z=ch b F cL++[cM]):=by
 have lD:=h.gF;have Yg:=h.dv;have P:=aeS L.ef s.bU s.X s.ax s.self m h.ax h.sp ac;have K:=alY b L s m lD h.toRepW ac ac;have i (E:eY) (g:Nat):=vt b L {s with ax:=(cH s.ax s.self m).1,X:=E} (some ⟨g,0,none⟩) 1 [(cH s.ax s.self m).2.1] NW VK PY R6;have w (E:eY) (F:cT):=(afB b F (s.U' m E) k (h.toRepI.U' m E) ca (by rw[ue];exact(JI s.self h.ax).1) m.Item bG)
 have Yf:∀E,s.U' m E=s.U' m E:=λ_=>rfl;obtain⟨x,et,fS,ei,wp,cV,eU,eC,eg,dW,bN,e9,dw,bY⟩:=L;unfold ch e5 at i K;unfold ch e5;simp only[nX]at i;dsimp only[List.cons_append,List.nil_append]at i P K w⊢;refine aF func90 λW=>?_;generalize br _=D;refine aq 2 λgD=>?_;refine aa 9 ?_;refine ah.mt [0,3] (λ_:Unit=>True) (λ_=>[(11,B (decide (mF m)))]) (λ_=>[]) (s:=[]) ?_ ?_
 .intro fP l;clear i K w P;by_cases N:m.Kind=1
  .have y:bb .eql m.Kind 1=some true:=by simp[bb,N]
   rw[iq (show mF m from .inl N)]at l;refine aa 2 ?_;refine ai.v (V.cmp rfl rfl y) ?_;refine aa 5 ?_;all_goals exact Out.C' l () trivial trivial
  have y:bb .eql m.Kind 1=some false:=by simp[bb,N]
  by_cases d:m.Kind=3
  .have j:bb .eql m.Kind 3=some true:=by simp[bb,d]
   rw[iq (show mF m from .inr (.inl d))]at l;refine aa 2 ?_;refine ai.v (V.cmp rfl rfl y) ?_;refine aa 6 ?_;refine ai.v (V.cmp rfl rfl j) ?_;refine aa 5 ?_;all_goals exact Out.C' l () trivial trivial
  have j:bb .eql m.Kind 3=some false:=by simp[bb,d]
  by_cases j8:m.Kind=6
  .have U:bb .eql m.Kind 6=some true:=by simp[bb,j8]
   rw[iq (show mF m from .inr (.inr (.inl j8)))]at l;refine Qx ?_;all_goals exact Out.C' l () trivial trivial
  have U:bb .eql m.Kind 6=some false:=by simp[bb,j8]
  by_cases f:m.Kind=5
  .have t:bb .eql m.Kind 5=some true:=by simp[bb,f]
   rw[iq (show mF m from .inr (.inr (.inr f)))]at l;refine Qx ?_;refine ai.v (V.cmp rfl rfl t) ?_;refine aa 2 ?_;all_goals exact Out.C' l () trivial trivial
  .have t:bb .eql m.Kind 5=some false:=by simp[bb,f]
   rw[l5 (show¬mF m fromλdT=>by unfold mF at dT;omega)]at l;refine Qx ?_;refine ai.v (V.cmp rfl rfl t) ?_;refine aa 2 ?_;all_goals exact Out.C' l () trivial trivial
 rintro⟨⟩-;refine bh ?_;by_cases T:mF m
 .rw[iq T];refine au ?_;refine ah.mt [0,3] (λz:cT×eY=>z.2.L.dv<=s.X.L.dv+3/\iw z.2.L (cH s.ax s.self m).1.p) (λ_=>[]) (λz=>ch b z.1 (s.U' m z.2)++[cM]) (s:=ch b ⟨x,et,fS,ei,wp,cV,eU,eC,eg,dW,bN,e9,dw,bY⟩ s++[cM]) ?_ ?_ (t:=Mc)
  .intro fP l;refine ah.mt [0,3] (λz:Nat×eY=>z.2.L.dv<=s.X.L.dv+3/\iw z.2.L (cH s.ax s.self m).1.p) (λz=>[(4,av z.1 0),(5,B (cH s.ax s.self m).2.2)]) (λz=>[cells z.1 176 (cH s.ax s.self m).2.1.c,fR x s.bU z.2 (cH s.ax s.self m).1,cM]) (s:=[fR x s.bU s.X s.ax,cM]) ?_ ?_
   .intro tX R;refine ah.p' ?_ aC.j.j.j.j.j.j.j.j.j.j.j.j.j.j.d'.d';refine ae 9 0 ?_;refine af.bx 9 13 rfl rfl ?_ ?_;refine aw.V0 rfl (P) VH ?_;rintro lL kt⟨Yi,⟨⟨q,Yc⟩,rfl,rfl⟩⟩;refine aa 2 ?_;refine ae 3 10 ?_;refine dr 13 λfO=>?_;refine ae 2 14 ?_;refine au ?_;rotate_left;refine O.Q' ad (λfO=>?_);refine au ?_;refine af.x' 9 rfl rfl (P) ?_;rintro vc ahC⟨G,⟨⟨Ye,Yh⟩,rfl,rfl⟩⟩;refine aa 2 ?_;refine ae 3 10 ?_;refine ae 2 14 ?_;refine au ?_;rotate_left;all_goals exact Out.C' R (_,_) ⟨VV,VV⟩ trivial
   rintro⟨fO,Q⟩⟨u,J⟩;dsimp only at u J;refine bh ?_;cases a:(cH s.ax s.self m).2.2
   .refine aa 7 ?_;all_goals exact Out.C' l (⟨x,et,fS,ei,wp,cV,eU,eC,eg,dW,bN,e9,dw,bY⟩,Q) ⟨u,J⟩ trivial (g:=by rw[yZ Q a];unfold ch e5;(repeat(first|exact ak.nil|exact al.here|apply ak.cons|apply al.there)))
   .refine aa 9 ?_;refine ai.o (O.V' ad aD.c [(cH s.ax s.self m).2.1] rfl (bP.agg rfl bP.nil) rfl rfl (λYj=>?_));refine ai.x' rfl (i _ _) ?_;rintro _ _⟨Y,rfl,rfl⟩;refine aa 2 ?_;all_goals exact Out.C' l (Y,Q) ⟨u,J⟩ trivial (g:=by rw[y0 Q a];unfold ch e5;(repeat(first|exact ak.nil|exact al.here|apply ak.cons|apply al.there)))
  rintro⟨fr,Q⟩⟨u,J⟩;have cJ:=w Q fr;clear w i P K;have C:=ue s m Q;generalize M:s.U' m Q=s2 at*;unfold ch e5 at cJ⊢;dsimp only[List.cons_append,List.nil_append]at cJ⊢;refine aa 5 ?_;refine N9 λD G q=>?_;all_goals exact⟨_,_,⟨_,_,.inl ⟨T,Q,u,J,by rw[M,<-C];assumption⟩,rfl,rfl⟩,VH⟩
 .rw[l5 T];clear i w P;refine aa 5 ?_;refine N9 λu G q=>?_;all_goals exact⟨_,_,⟨_,_,.inr ⟨T,VV⟩,rfl,rfl⟩,VH⟩
def a6.VZ(l:a6):Nat:=(4-l.phase).toNat
def bM.VZ(r:bM):Nat:=if r.x.lost=true then 0 else match r.ld with|some l=>l.VZ|none=>4
def a6.XV{l:a6}{n y:Int}{x:bp}(k:hU l n y it x):l.VZ<=3:=by have:=k.phase;unfold a6.VZ;omega
def ahN{x:a6}(m:aD)(z:x.phase=1):(x.Ws m).1.VZ<=x.VZ/\((x.Ws m).2=true->(x.Ws m).1.VZ<x.VZ):=by
 unfold a6.Ws;(repeat' split);all_goals first
  |exact⟨cx _,λh=>VL⟩
  |(refine⟨?_,λ_=>?_⟩<;>(unfold a6.VZ;simp only[a6.put,a6.kw,z];decide))
  |exact⟨by unfold a6.VZ a6.put;exact cx _,λh=>VL⟩
def JK{x:a6}(m:aD){n y:Int}{Y:bp}(k:hU x n y it Y):(x.B' m).1.VZ<=x.VZ/\((x.B' m).2=true->(x.B' m).1.VZ<x.VZ):=by
 have T:=k.phase;unfold a6.B';split
 exact Mr
 rename_i W;have z:x.phase=1\/x.phase=2:=by
  rcases T with h|h|h|h
  .exact .inl h
  .exact .inr h
  .exact absurd (.inl ac) W
  .exact absurd (.inl ac) W
 split
 exact LR
 split
 exact LR
 split
 exact Mr
 split
 .rename_i h;exact ahN m h.2
 split
 .rename_i h;have Z:=h.2;split
  .split
   .refine⟨?_,λ_=>?_⟩<;>(unfold a6.VZ a6.WM;dsimp only;omega)
   .exact⟨by unfold a6.VZ a6.WM;exact cx _,λh=>VL⟩
  exact Mr
 exact Mr
def ai2{r:bM}(h:r.ok)(m:aD):(r.B' m).1.VZ<=r.VZ/\((r.B' m).2=true->(r.B' m).1.VZ<r.VZ):=by
 unfold bM.B';split
 exact Mr
 rename_i X;have J:=(b0.XK X).ls;obtain⟨x,o⟩:=r;dsimp only at J;cases o with
 |some l=>
  have:=JK m (h.ce l rfl);unfold bM.VZ;dsimp only;rw[J];exact this
 |none=>
  have Y:(bM.mk x none).VZ=4:=by unfold bM.VZ;dsimp only;rw[J];rfl
  dsimp only;rw[Y];split
  .have p:(bM.mk x (some (hL x m.Call))).VZ=1:=by unfold bM.VZ;dsimp only;rw[J];rfl
   rw[p];exact⟨VI,λ_=>VI⟩
  split
  .have p:(bM.mk {x with lost:=true} none).VZ=0:=rfl;rw[p];exact⟨VI,λ_=>VI⟩
  split
  .split
   .exact⟨by rw[Y];exact cx _,λh=>VL⟩
   .split
    .have p:(bM.mk (eb x m) none).VZ=4:=by unfold bM.VZ;dsimp only;rw[show(eb x m).lost=false from J];rfl
     exact⟨by dsimp only;rw[p];exact cx _,λh=>VL⟩
    .have k:=Jm (eb x m);have D:=a6.XV k;have p:(bM.mk (eb x m) (some (eb x m).Wt)).VZ=(eb x m).Wt.VZ:=by unfold bM.VZ;dsimp only;rw[show(eb x m).lost=false from J];rfl
     rw[p];exact⟨ac,λ_=>ac⟩
  .exact⟨by rw[Y];exact cx _,λh=>VL⟩
def nJ(m:aD):Nat:=if m.Kind=1\/m.Kind=3\/m.Kind=6 then 3 else if m.Kind=5 then 1 else 2
def vu(m:aD):1<=nJ m/\nJ m<=3:=by
 unfold nJ;split
 .omega
 .split<;>omega
def gh(l:ab aD):Nat:=(l.map nJ).sum
def w7(l m:ab aD):gh (l++m)=gh l+gh m:=by unfold gh;rw[hJ,AO]
def JL(a:Int):∀k:Nat,((List.range k).filter λi:Nat=>decide ((i:Int)=a)).length<=(if 0<=a/\a<k then 1 else 0)
 |0=>VK
 |k+1=>by
  have X:=JL a k;rw[sk,nA,bQ];by_cases h:(k:Int)=a
  .have:¬(0<=a/\a<(k:Int)):=by omega
   rw[aG this]at X;rw[aJ ac];simp[h];simp[h]at X;omega
  .simp only[ro,yN,cO,h,iH,gv,hj];refine iB X ?_;split
   .rw[aJ ac];exact cx _
   .exact cG _
def JM:∀l:ab aD,gh l<=3*l.length
 |[]=>cG _
 |m::l=>by have:=JM l;have:=(vu m).2;simp only[gh,eE,sG,df]at*;omega
def JN(E:Int)(k:Nat)(f:Nat->aD)(l:∀i,(f i).bI=(i:Int)):gh (fa E ((List.range k).map f))<=3:=by
 have e:fa E ((List.range k).map f)=((List.range k).filter λi:Nat=>decide ((i:Int)=E)).map f:=by unfold fa;rw[Ex];congr 1;refine JO λi _=>?_;simp only[Function.comp,l]
 rw[e];have Y:=JM (((List.range k).filter λi:Nat=>decide ((i:Int)=E)).map f);rw[dZ]at Y;have Z:=JL E k;have D:(if 0<=E/\E<(k:Int)then 1 else 0)<=1:=by split<;>omega
 omega
def vv(E:Int)(l:a6):gh (fa E l.H')<=3:=by
 unfold a6.H';split
 .exact JN E _ _ λi=>rfl
 .exact cG _
def Ey(E:Int)(r:bM):gh (fa E r.H')<=3:=by
 unfold bM.H';split
 .exact cG _
 .split
  .exact vv ..
  .exact JN E _ _ λi=>rfl
def ahR{l m:ab Nat}(h:l.Sublist m):l.sum<=m.sum:=by
 induction h with
 |slnil=>exact cx _
 |cons a _ X=>rw[sG];omega
 |cons_cons a _ X=>rw[sG,sG];omega
def w8{k:Int}(h:m.Kind=k)(T:k≠1/\k≠3/\k≠6):nJ m<3:=by unfold nJ;rw[aG ac];split<;>omega
section
variable{U:Type}(Y:U->Nat)
def nK(l:ab (ag×eI U)):Nat:=(l.map λy=>Y y.2.v).sum
def Ez(l:ab (ag×eI U))(k:ag)(e:eI U):nK Y (bA l k e)=Y e.v+nK Y (fm l k):=by unfold nK;rw[((Ep l k e).map _).sum_nat,eE,sG]
def JP{l:ab (ag×eI U)}{k:ag}{e:eI U}(h:aZ l k=some e):nK Y l=Y e.v+nK Y (fm l k):=by have:=Ez Y l k e;rwa[Er h]at this
def w9(l:ab (ag×eI U))(k:ag):nK Y (fm l k)<=nK Y l:=by unfold nK;exact ahR ((pp l k).map _)
end
def aA.R'(s:aA):Nat:=4*(nK a6.VZ s.leads+nK bM.VZ s.bq)+gh s.inbox
def EA(s:aA)(l:ab aD):(s.send l).R'=s.R'+gh (fa s.self l):=by unfold aA.send aA.R';dsimp only;rw[w7];omega
def od.R'{s L:aA}{x:ag}(h:od s x L):L.R'<=s.R':=by obtain⟨w,_,rfl⟩:=h.go;unfold aA.R';dsimp only;have:=w9 a6.VZ s.leads x;have:=w9 bM.VZ s.bq x;omega
def je.R'{s L:aA}{x:ag}(h:je s x L):L.R'<=s.R':=by
 have e:=h;unfold je at e;subst e;have J:nK a6.VZ (s.Wu x (bn s.ax.p x).bO)<=nK a6.VZ s.leads:=by
  unfold aA.Wu;split
  .split
   .exact w9 ..
   .exact cx _
  .exact cx _
 have Z:nK bM.VZ (s.Wv x (bn s.ax.p x).bO)<=nK bM.VZ s.bq:=by
  unfold aA.Wv;split
  .split
   .exact w9 ..
   .exact cx _
  .exact cx _
 unfold aA.R';dsimp only;omega
def aep{s:bS}{E:Int}(h:(cH s E m).2.2=true):nJ (cH s E m).2.1<nJ m:=by
 unfold cH at h⊢;split at h
 .rename_i G;rw[aJ G];have x:∀(h:m.Kind=1\/m.Kind=3\/m.Kind=6),nJ m=3:=λh=>by unfold nJ;rw[aJ h]
  unfold mb at h⊢;dsimp only at h⊢;split at h
  .rename_i J;rw[aJ J,x J.1];exact w8 (k:=5) rfl VI
  .rename_i J;rw[aG J];have g (i:aY):nJ (l9 m i).1<3:=by
    unfold l9;split
    .exact w8 (k:=8) rfl VI
    .exact w8 (k:=0) rfl VI
   split at h
   .rename_i Z;rw[aJ Z,x (.inl Z)];unfold j4;dsimp only;split
    .exact w8 (k:=2) rfl VI
    .exact g _
   .rename_i Z;rw[aG Z];split at h
    .rename_i D;rw[aJ D,x (.inr (.inl D))];unfold j5;dsimp only;split
     .exact w8 (k:=4) rfl VI
     .exact g _
    .rename_i D;rw[aG D];split at h
     .rename_i n;rw[aJ n,x (.inr (.inr n))];unfold nb;dsimp only;split
      .exact w8 (k:=7) rfl VI
      .exact g _
     .split at h<;>cases h
 .cases h
def ajD(s:aA)(m:aD)(X:eY):(s.U' m X).R'<s.R'+nJ m:=by
 have x:=(vu m).1;cases h:(cH s.ax s.self m).2.2
 .rw[yZ X h];show s.R'<_
  omega
 .rw[y0 X h,EA];have J:=aep h;have Z:gh (fa s.self [(cH s.ax s.self m).2.1])<=nJ (cH s.ax s.self m).2.1:=by unfold fa gh;rw[ro];split<;>simp
  show s.R'+gh (fa s.self [(cH s.ax s.self m).2.1])<_
  omega
def afA{s:aA}(m:aD)(i:Nat)(L:∀x e,aZ s.bq x=some e->e.v.ok):(s.V1 m i).R'<=s.R':=by
 unfold aA.V1;split
 .exact cx _
 .rename_i e P;have J:=JP bM.VZ P;have Z:=Ez bM.VZ s.bq m.Item (⟨e.p,i,(e.v.B' m).1⟩:eI bM);have D:=ai2 (L _ _ P) m;have n:=Ey s.self (e.v.B' m).1;have t:=w9 bM.VZ (bA s.bq m.Item (⟨e.p,i,(e.v.B' m).1⟩:eI bM)) m.Item;dsimp only at Z;have K:(({s with bq:=bA s.bq m.Item ⟨e.p,i,(e.v.B' m).1⟩}:aA).send (e.v.B' m).1.H').R'=({s with bq:=bA s.bq m.Item ⟨e.p,i,(e.v.B' m).1⟩}:aA).R'+gh (fa s.self (e.v.B' m).1.H'):=EA ..;split
  .rename_i f;have b:=D.2 f;split
   exact No
   .rw[K];exact QH
  .have b:=D.1;exact QH
def agF{s:aA}(m:aD)(L:∀x e,aZ s.leads x=some e->∃n y it N,hU e.v n y it N):(s.V7 m).R'<=s.R':=by
 unfold aA.V7;split
 .exact cx _
 .rename_i e P;obtain⟨n,y,it,N,T⟩:=L _ _ P;have J:=JP a6.VZ P;have Z:=Ez a6.VZ s.leads m.Item (⟨e.p,e.q,(e.v.B' m).1⟩:eI a6);have D:=JK m T;have i:=vv s.self (e.v.B' m).1;have t:=w9 a6.VZ (bA s.leads m.Item (⟨e.p,e.q,(e.v.B' m).1⟩:eI a6)) m.Item;dsimp only at Z;have K:(({s with leads:=bA s.leads m.Item ⟨e.p,e.q,(e.v.B' m).1⟩}:aA).send (e.v.B' m).1.H').R'=({s with leads:=bA s.leads m.Item ⟨e.p,e.q,(e.v.B' m).1⟩}:aA).R'+gh (fa s.self (e.v.B' m).1.H'):=EA ..;split
  .rename_i f;have b:=D.2 f;split
   exact No
   .rw[K];exact QH
  .have b:=D.1;exact QH
def fs.R'{s L:aA}(t:RepW s)(h:fs s m L):L.R'<s.R'+nJ m:=by
 rcases h with⟨_,X,_,_,h⟩|⟨_,n,rfl⟩
 .have J:=ajD s m X;rcases h with⟨_,h⟩|⟨_,h⟩
  .have:=h.R';omega
  .have:=h.R';omega
 .have J:=(vu m).1;have Z:=afA (s:={s with high:=s.Wa m}) m n (λx e P=>(t.rs x e P).1);have W:({s with high:=s.Wa m}:aA).R'=s.R':=rfl;have E:=Ew (s:={s with high:=s.Wa m}) m n (λx e P=>(t.rs x e P).1);have D:=agF (s:=({s with high:=s.Wa m}:aA).V1 m n) m (λx e P=>by rw[E.1]at P;exact⟨_,_,_,_,t.ce x e P⟩)
  omega
end Go.Proofs.YteogojgnkjegmaaGreatDoor
namespace Go.Proofs.YteogojgnkjegmaaGreatDoor
open Go.az Go.Proofs.Tryz
variable[Go.az.b5]
variable{k:Nat}{m:aD}
def JQ{n E M:Int}{t:n7}:∀(N:ab ag) (st:Int×ab bw),mz st.1 st.2->(∀y∈st.2,bt y.key 7=true)->(∀x∈N,bt x 7=true)->∀y∈(ib n E M t N st).2,bt y.key 7=true
 |[],_,_,h,_=>h
 |x::N,st,s,h,U=>by
  have e:ib n E M t (x::N) st=ib n E M t N (qb n E M t st x):=rfl;rw[e];refine JQ N _ (II s).1 ?_ λy C=>U y (e0 _ C);intro y C;unfold qb at C;split at C
  .exact h y C
  .rcases JB s C with rfl|C
   .exact U x (er ..)
   .exact h y C
def lP.mono{u:Nat}{s:aA}(h:lP k s)(T:k<=u):lP u s:=
 ⟨h.w,by have:=h.t;omega,h.aW,h.td,λx=>by have:=h.bY x;omega⟩
def lP.iE{k:Nat}{s:aA}(h:lP k s)(l:ab ag)(u:∀x∈l,bt x 7=true){L:aA}(p:L.dS=(ib s.n s.self s.now s.fB l (s.dS,s.pl)).1)(U:L.pl=(ib s.n s.self s.now s.fB l (s.dS,s.pl)).2)(j:L.fB=s.fB):lP (k+l.length) L:=by
 have Y:=DH (n:=s.n) (E:=s.self) (M:=s.now) (z:=s.fB) l (s.dS,s.pl) h.w;have f:=h.t;refine⟨by rw[p,U];exact Y.1,?_,?_,by rw[j];exact h.td,λx=>by rw[j];have:=h.bY x;omega⟩
 .rw[p];have:=Y.2.2;dsimp only at this;omega
 .rw[U];exact JQ l (s.dS,s.pl) h.w h.aW u
def GoR.adk{n:Int}{s L:dl}{N:ab ag}(W:hp n s)(h:GoR n s N L):s.done.length+N.length<=L.done.length:=by
 rw[<-bQ];refine D1 ?_ ?_
 .rw[gr];refine⟨W.dn,h.h1,λa J b X e=>?_⟩;subst e;have:=(W.vl a).1 J;rw[(h.is a X).2]at this;cases this
 .intro x U;rw[h.ok.vl x,h.dw x,hc,cO];rcases eh.1 U with U|U
  .exact .inl ((W.vl x).1 U)
  .exact .inr U
def kP.cu{s L:aA}(h:RepI k s)(J:kP s L):RepI (k+448) L:=by obtain⟨N,w,x,q,j,G,K,f,R,rfl⟩:=J.go;have E:=K.len;refine⟨h.n,h.self,h.now,G.ok,R.1.mono (GoR.adk h.run G.toGoR),?_⟩;refine lP.mono (k:=k+j.length) (lP.iE h.gg j (λx U=>(K.aW x U).2) ?_ ?_ ?_) ac<;>rfl
def kP.same{s L:aA}(J:kP s L):L.ax=s.ax/\L.X=s.X/\L.leads=s.leads/\L.bq=s.bq/\L.n=s.n/\L.self=s.self/\L.inbox=s.inbox/\L.out=s.out/\L.cR=s.cR/\L.high=s.high/\L.now=s.now/\L.bU=s.bU:=by obtain⟨N,w,h,q,j,G,K,f,R,rfl⟩:=J.go;exact⟨rfl,rfl,rfl,rfl,rfl,rfl,rfl,rfl,rfl,rfl,rfl,rfl⟩
def lP.drop{s:aA}(h:lP k s)(x:ag){L:aA}(p:L.dS=s.dS)(Y:L.pl=iN x s.pl)(j:L.fB=fm s.fB x):lP k L:=by
 refine⟨by rw[p,Y];exact h.w.del x,by rw[p];exact h.t,?_,by rw[j];exact tI h.td,λy=>?_⟩
 .rw[Y,AE h.w.m3];intro y C;exact h.aW y ((AG x s.pl).subset C)
 .rw[j];have:=h.bY y;unfold Go.Proofs.YteogojgnkjegmaaGreatDoor.bY at*;rw[oJ h.td];split
  .simp
  .exact this
def od.cu{s L:aA}{x:ag}(h:RepI k s)(J:od s x L):RepI k L:=by
 obtain⟨w,q,rfl⟩:=J.go;refine⟨h.n,h.self,h.now,h.run.Wf q,?_,?_⟩
 .show kN w.done.length s.M;rw[q.2.1];exact h.M
 .refine lP.drop h.gg x ?_ ?_ ?_<;>rfl
def je.cu{s L:aA}{x:ag}(h:RepI k s)(U:bt x 7=true)(J:je s x L):RepI (k+1) L:=by unfold je at J;subst J;refine⟨h.n,h.self,h.now,h.run,h.M,?_⟩;refine lP.iE h.gg [x] (by simpa using U) ?_ ?_ ?_<;>rfl
def RepI.mono{u:Nat}{s:aA}(h:RepI k s)(T:k<=u):RepI u s:=⟨h.n,h.self,h.now,h.run,h.M,h.gg.mono T⟩
def RepI.of{s L:aA}(h:RepI k s)(e:(L.n,L.self,L.now,L.run,L.M,L.dS,L.pl,L.fB)=(s.n,s.self,s.now,s.run,s.M,s.dS,s.pl,s.fB)):RepI k L:=by simp only[nV]at e;obtain⟨p,Y,j,U,z,i,q,P⟩:=e;exact⟨by rw[p];exact h.n,by rw[p,Y];exact h.self,by rw[j];exact h.now,by rw[p,U];exact h.run,by rw[U,z];exact h.M,⟨by rw[i,q];exact h.gg.w,by rw[i];exact h.gg.t,by rw[q];exact h.gg.aW,by rw[P];exact h.gg.td,λx=>by rw[P];exact h.gg.bY x⟩⟩
def li{o T:Type}[DecidableEq o]:∀{l:ab (o×T)} {k:o} {v:T},aZ l k=some v->(k,v)∈l
 |[],k,v,h=>MD
 |p::l,k,v,h=>by
  rw[kE]at h;split at h
  .rename_i e;obtain⟨a,b⟩:=p;simp only at e h;rw[e,gs h];exact er ..
  .exact e0 _ (li h)
def qV{o T:Type}[DecidableEq o]{l:ab (o×T)}{k:o}{v:T}{y:o×T}(h:y∈bA l k v):y=(k,v)\/y∈l:=by
 induction l with
 |nil=>rw[qC]at h;exact .inl VR
 |cons p l X=>
  rw[lB]at h;split at h
  .rcases cQ.1 h with h|h
   .exact .inl h
   .exact .inr (e0 _ h)
  .rcases cQ.1 h with h|h
   .exact .inr (by rw[h];exact er ..)
   .rcases X h with h|h
    .exact .inl h
    .exact .inr (e0 _ h)
structure RepG(s:aA):Prop where
 ce:∀y∈s.leads,hU y.2.v s.n s.self y.1 y.2.v.bm/\bt y.1 7=true
 rs:∀y∈s.bq,y.2.v.ok/\y.2.v.x.n=s.n/\y.2.v.x.self=s.self/\y.2.v.x.item=y.1/\bt y.1 7=true
 bu:∀m∈s.inbox,bt m.Item 7=true
def RepG.w{s:aA}(h:RepG s):RepW s:=
 ⟨λx e P=>(h.ce _ (li P)).1,λx e P=>⟨(h.rs _ (li P)).1,(h.rs _ (li P)).2.1⟩⟩
structure ek(k:Nat)(s:aA):Prop extends RepI k s,RepG s where
 ax:s.ax.ok
 en:s.ax.n=s.n
 sp:iw s.X.L s.ax.p
 dv:s.X.L.dv<=k
def ek.z{s:aA}(h:ek k s):JH k s:=⟨h.toRepI,h.toRepG.w,h.ax,h.en,h.sp,h.dv⟩
def RepG.send{s:aA}(h:RepG s){l:ab aD}(u:∀m∈l,bt m.Item 7=true):RepG (s.send l):=by
 refine⟨h.ce,h.rs,λm K=>?_⟩;have K:m∈s.inbox++fa s.self l:=K;rcases eh.1 K with K|K
 .exact h.bu m K
 .exact u m (mU.1 K).1
def od.XW{s L:aA}{x:ag}(h:RepG s)(J:od s x L):RepG L:=by obtain⟨w,q,rfl⟩:=J.go;exact⟨λy C=>h.ce y ((pp _ _).subset C),λy C=>h.rs y ((pp _ _).subset C),h.bu⟩
def je.XW{s L:aA}{x:ag}(h:RepG s)(J:je s x L):RepG L:=by
 unfold je at J;subst J;refine⟨λy C=>?_,λy C=>?_,h.bu⟩
 .have C:y∈s.Wu x (bn s.ax.p x).bO:=C;unfold aA.Wu at C;split at C
  .split at C
   .exact h.ce y ((pp _ _).subset C)
   .exact h.ce y C
  .exact h.ce y C
 .have C:y∈s.Wv x (bn s.ax.p x).bO:=C;unfold aA.Wv at C;split at C
  .split at C
   .exact h.rs y ((pp _ _).subset C)
   .exact h.rs y C
  .exact h.rs y C
def vw{l:a6}{n y:Int}{it:ag}{x:bp}(k:hU l n y it x):∀m∈l.H',m.Item=it:=by
 unfold a6.H';split
 .intro m K;unfold a6.Wc at K;obtain⟨i,_,rfl⟩:=dQ.1 K;exact k.item
 .intro m K;cases K
def xa{r:bM}(h:r.ok):∀m∈r.H',m.Item=r.x.item:=by
 unfold bM.H';split
 .intro m K;cases K
 .split
  .rename_i l u;exact vw (h.ce l u)
  .intro m K;obtain⟨i,_,rfl⟩:=dQ.1 K;rfl
def JR(r:bM)(m:aD):(r.B' m).1.x.n=r.x.n/\(r.B' m).1.x.self=r.x.self/\(r.B' m).1.x.item=r.x.item/\(r.B' m).1.x.bm=r.x.bm:=by
 unfold bM.B';split
 .exact⟨rfl,rfl,rfl,rfl⟩
 .split
  .exact⟨rfl,rfl,rfl,rfl⟩
  . (repeat' split);all_goals exact⟨rfl,rfl,rfl,rfl⟩
def ahw{s:aA}(h:RepG s)(m:aD)(i:Nat):RepG (s.V1 m i):=by
 unfold aA.V1;split
 .exact h
 .rename_i e P;obtain⟨Y,Z,D,n,t⟩:=h.rs _ (li P);have E:=JR e.v m;have r:=Y.B' m;have b:RepG {s with bq:=bA s.bq m.Item ⟨e.p,i,(e.v.B' m).1⟩}:=by
   refine⟨h.ce,λy C=>?_,h.bu⟩;rcases qV C with rfl|C
   .exact⟨r,E.1.trans Z,E.2.1.trans D,E.2.2.1.trans n,t⟩
   .exact h.rs y C
  have w:RepG (({s with bq:=bA s.bq m.Item ⟨e.p,i,(e.v.B' m).1⟩}:aA).send (e.v.B' m).1.H'):=b.send λd i=>by rw[xa r d i,E.2.2.1,n];exact t
  split
  .split
   .exact⟨w.ce,λy C=>w.rs y ((pp _ _).subset C),w.bu⟩
   .exact w
  .exact b
def ahX{s:aA}(h:RepG s)(m:aD):RepG (s.V7 m):=by
 unfold aA.V7;split
 .exact h
 .rename_i e P;obtain⟨Y,t⟩:=h.ce _ (li P);have T:=vk Y m;have r:hU (e.v.B' m).1 s.n s.self m.Item (e.v.B' m).1.bm:=⟨T.wf,T.n,T.self,T.item,rfl,T.phase⟩
  have b:RepG {s with leads:=bA s.leads m.Item ⟨e.p,e.q,(e.v.B' m).1⟩}:=by
   refine⟨λy C=>?_,h.rs,h.bu⟩;rcases qV C with rfl|C
   .exact⟨r,t⟩
   .exact h.ce y C
  have w:RepG (({s with leads:=bA s.leads m.Item ⟨e.p,e.q,(e.v.B' m).1⟩}:aA).send (e.v.B' m).1.H'):=b.send λd i=>by rw[vw r d i];exact t
  split
  .split
   .exact⟨λy C=>w.ce y ((pp _ _).subset C),w.rs,w.bu⟩
   .exact w
  .exact b
structure aA.core(s cL:aA):Prop where
 a:(cL.n,cL.self,cL.now,cL.run,cL.M,cL.dS,cL.pl,cL.fB)=(s.n,s.self,s.now,s.run,s.M,s.dS,s.pl,s.fB)
 b:(cL.ax,cL.X,cL.bU,cL.cR,cL.told)=(s.ax,s.X,s.bU,s.cR,s.told)
variable{L:aA}
def aA.core.trans{s t u:aA}(h:aA.core s t)(k:aA.core t u):aA.core s u:=⟨k.a.trans h.a,k.b.trans h.b⟩
def EB(s:aA)(m:aD)(n:Nat):aA.core s (s.V1 m n):=by unfold aA.V1;(repeat' split);all_goals exact⟨lj _,lj _⟩
def JS(s:aA)(m:aD):aA.core s (s.V7 m):=by unfold aA.V7;(repeat' split);all_goals exact⟨lj _,lj _⟩
def uc.core{s:aA}(h:uc s m L):aA.core s L:=by obtain⟨n,rfl⟩:=h;exact((⟨lj _,lj _⟩:aA.core s {s with high:=s.Wa m}).trans (EB _ m n)).trans (JS _ m)
def uc.XW{s:aA}(h:RepG s)(q:uc s m L):RepG L:=by obtain⟨n,rfl⟩:=q;exact ahX (ahw (s:={s with high:=s.Wa m}) ⟨h.ce,h.rs,h.bu⟩ m n) m
def EC{i:aY}(h:(l9 m i).2=true):(l9 m i).1.Item=m.Item:=by
 unfold l9 at h⊢;split at h
 .rename_i g;rw[aJ g];rfl
 .cases h
def agq{s:bS}(h:(mb s m).2.2=true):(mb s m).2.1.Item=m.Item:=by
 unfold mb at h⊢;dsimp only at h⊢;split at h
 .rename_i Y;rw[aJ Y];rfl
 .rename_i Y;rw[aG Y];split at h
  .rename_i Z;rw[aJ Z];unfold j4 at h⊢;dsimp only at h⊢;split at h
   .rename_i D;rw[aJ D];rfl
   .rename_i D;rw[aG D];exact EC h
  .rename_i Z;rw[aG Z];split at h
   .rename_i D;rw[aJ D];unfold j5 at h⊢;dsimp only at h⊢;split at h
    .rename_i n;rw[aJ n];rfl
    .rename_i n;rw[aG n];exact EC h
   .rename_i D;rw[aG D];split at h
    .rename_i n;rw[aJ n];unfold nb at h⊢;dsimp only at h⊢;split at h
     .rename_i t;rw[aJ t];rfl
     .rename_i t;rw[aG t];exact EC h
    .split at h<;>cases h
def JT{s:bS}{E:Int}(h:(cH s E m).2.2=true):(cH s E m).2.1.Item=m.Item:=by
 unfold cH at h⊢;split at h
 .rename_i Y;rw[aJ Y];exact agq h
 .cases h
def akB{s:aA}(h:RepG s)(K:bt m.Item 7=true)(T:eY):RepG (s.U' m T):=by
 have Y:RepG {s with ax:=(cH s.ax s.self m).1,X:=T}:=⟨h.ce,h.rs,h.bu⟩
 cases a:(cH s.ax s.self m).2.2
 .rw[yZ T a];exact Y
 .rw[y0 T a];refine Y.send λd i=>?_;rw[fF.1 i,JT a];exact K
def Sq(s:aA)(m:aD)(T:eY):(s.U' m T).X=T/\(s.U' m T).n=s.n:=by unfold aA.U';split<;>exact⟨rfl,rfl⟩
def od.ax{s:aA}{x:ag}(h:od s x L):L.ax=s.ax/\L.X=s.X/\L.n=s.n:=by obtain⟨w,_,rfl⟩:=h.go;exact⟨rfl,rfl,rfl⟩
def je.ax{s:aA}{x:ag}(h:je s x L):L.ax=s.ax/\L.X=s.X/\L.n=s.n:=by unfold je at h;subst h;exact⟨rfl,rfl,rfl⟩
def fs.cu{s:aA}(h:ek k s)(K:bt m.Item 7=true)(q:fs s m L):ek (k+3) L:=by
 have w:bt m.Item 7=true:=K;rcases q with⟨_,T,X,E,q⟩|⟨_,q⟩
 .have l:=h.toRepI.U' m T;have Q:=akB h.toRepG K T;have u:=ue s m T;have d:=Sq s m T;have a:=JI s.self (m:=m) h.ax;have y:=h.dv;rcases q with⟨_,q⟩|⟨_,q⟩
  .obtain⟨p,x,j⟩:=q.ax;exact⟨(q.cu l).mono ac,q.XW Q,by rw[p,u];exact a.1,by rw[p,u,j,d.2,a.2];exact h.en,by rw[p,x,u,d.1];exact E,by rw[x,d.1];omega⟩
  .obtain⟨p,x,j⟩:=q.ax;exact⟨(q.cu l w).mono ac,q.XW Q,by rw[p,u];exact a.1,by rw[p,u,j,d.2,a.2];exact h.en,by rw[p,x,u,d.1];exact E,by rw[x,d.1];omega⟩
 .have T:=q.core;have X:=T.b;have J:=T.a;simp only[nV]at X J;have y:=h.dv;exact⟨(h.toRepI.of T.a).mono ac,q.XW h.toRepG,by rw[X.1];exact h.ax,by rw[X.1,J.1];exact h.en,by rw[X.1,X.2.1];exact h.sp,by rw[X.2.1];omega⟩
inductive ig:aA->aA->Prop where
 |refl (s:aA):ig s s
 |step {s s1 s2:aA} {m:aD} {rest:List aD} (h:ig s s1) (am:s1.inbox=m::rest) (dI:fs {s1 with inbox:=rest} m s2):ig s s2
def jB(s L:aA):Prop:=∃r,ig s r/\r.inbox=[]/\kP r L
def ahV(s:aA):s.inbox.length<=s.R':=by
 unfold aA.R' gh;have:∀l:ab aD,l.length<=(l.map nJ).sum:=λl=>by
  induction l with
  |nil=>exact cx _
  |cons m l X=>
   have:=(vu m).1;rw[eE,sG,df];omega
 have:=this s.inbox;omega
def ek.rest{s:aA}(h:ek k s){rest:ab aD}(am:s.inbox=m::rest):ek k {s with inbox:=rest}/\bt m.Item 7=true/\({s with inbox:=rest}:aA).R'+nJ m=s.R':=by refine⟨⟨h.toRepI.of rfl,⟨h.ce,h.rs,λd i=>h.bu d (by rw[am];exact e0 _ i)⟩,h.ax,h.en,h.sp,h.dv⟩,h.bu m Qt,?_⟩;unfold aA.R' gh;dsimp only;rw[am,eE,sG];omega
def agU{s:aA}(m:aD)(L:∀x e,aZ s.leads x=some e->hU e.v s.n s.self x e.v.bm)(y:s.n<=7):(s.V7 m).out.length<=s.out.length+7:=by
 unfold aA.V7;split
 .omega
 .rename_i e P;have w:=a6.WT (vk (L _ _ P) m) y;have u:=ud ({s with leads:=bA s.leads m.Item ⟨e.p,e.q,(e.v.B' m).1⟩}:aA) (e.v.B' m).1.H';dsimp only at u;split
  .split
   .dsimp only;omega
   .omega
  .dsimp only;omega
def fs.out{s:aA}(h:ek k s)(q:fs s m L):L.out.length<=s.out.length+14:=by
 rcases q with⟨_,X,_,_,q⟩|⟨_,n,rfl⟩
 .have Y:(s.U' m X).out.length<=s.out.length+1:=by
   cases a:(cH s.ax s.self m).2.2
   .rw[yZ X a];dsimp only;omega
   .rw[y0 X a];exact(ud _ _).2
  rcases q with⟨_,q⟩|⟨_,q⟩
  .obtain⟨w,_,rfl⟩:=q.go;dsimp only;omega
  .unfold je at q;subst q;dsimp only;omega
 .have Y:=Ew (s:={s with high:=s.Wa m}) m n (λx e P=>(h.w.rs x e P).1);have Z:=agU (s:=({s with high:=s.Wa m}:aA).V1 m n) m (λx e P=>by rw[Y.1]at P;rw[Y.2.1,Y.2.2.1];exact h.w.ce x e P) (by rw[Y.2.1];exact h.gF.2)
  have D:=Y.2.2.2.2;dsimp only at D;omega
end Go.Proofs.YteogojgnkjegmaaGreatDoor
