/-
 Part of the proof.
-/
import Derived.Test.YteogojgnkjegmaaGreatDoorAk
set_option linter.all false
set_option maxRecDepth 8000
set_option maxHeartbeats 8000000
namespace Go.Proofs.YteogojgnkjegmaaGreatDoor
open Go.az Go.Proofs.Tryz
variable[Go.az.b5]
def k7(g:ab cY):Nat:=(g.map (·.2.length)).sum
def Ig{g k:ab cY}(h:g.Perm k):k7 g=k7 k:=(h.map _).sum_nat
def rI(y:cY)(g:ab cY):k7 (y::g)=y.2.length+k7 g:=by simp[k7]
def oQ.dv{g k:ab cY}{y:cY}(h:oQ g y k):k7 g=y.2.length+k7 k:=by
 rcases h with h|⟨rfl,h⟩
 .rw[Ig h,rI]
 .rw[<-Ig h];simp[cY.z]
def g1.dv(L:g1):Nat:=k7 L.g+L.keys.length
def Ih(a N:Nat)(L:g1)(x:ag)(d:bF)(X:L.dv<=1000000000000):ar prog 102 [av a 0,A x.c,A d.c] (i9 a N L) (λr J=>∃F:g1,F.dv<=L.dv+3/\Found L F x d/\r=.tuple #[]/\J=i9 a N F):=by
 by_cases f:d.Kind=0
 .have w:Found L L x d:=⟨by simp[f],λk=>by simp[f],λs=>by simp[f],λB h _=>h⟩
  have h:ar prog 102 [av a 0,A x.c,A d.c] (i9 a N L) (λr J=>r=.tuple #[]/\J=i9 a N L):=by unfold i9;refine aF func102 λW=>?_;refine aq 2 λq=>?_;refine aq 0 λp=>?_;exact aQ 21
  refine ar.post h ?_;rintro r J⟨rfl,rfl⟩;exact⟨_,⟨L,ac,w,rfl,rfl⟩,λ_ _ _ h=>h⟩
 .by_cases j:d.Kind=5
  .have m:=L.acY;have D:=m.dv;by_cases E:d.c3=0
   .have h:ar prog 102 [av a 0,A x.c,A d.c] (i9 a N L) (λr J=>∃P,r=.tuple #[]/\J=[cells a 101 (kp.c ⟨av N 0,.map (some L.iv),P,.map (some L.dW)⟩),bz m2 fo L.iv L.keys,bz rH fo L.dW L.e3]++(rows ag.c P 46 2 (L.lists++[x])::dt (L.keys.map (·.2)++L.e3.map (·.2))::[])):=by unfold i9;unfold g1.dv at X;dsimp only at D;refine aF func102 λW=>?_;refine ah.dc m ?_;dsimp only;refine aq 2 λq=>?_;refine aq 0 λp=>?_;refine aa 24 ?_;refine ah.V9 [10] ?_ aC.j.j.d'.j.j.d'.j aC.j.j.j.j.j.d'.j;refine ae 4 0 ?_;refine ae 1 5 ?_;refine af.t 4 rfl (V.F' ad) ?_;refine af.y' 6 rfl (O.V' ad ag.c [_] rfl (bP.agg rfl bP.nil) rfl rfl (λYo=>?_));refine au ?_;refine af.y' 7 rfl (O.Z' ad rfl rfl Vz (cz.rows ad VF ag.J') (λYp Yl=>?_));refine au ?_;refine ae 2 8 ?_;refine af.l 10 rfl (O.O' ad ?_);exact aQ 14
    refine ar.post h ?_;rintro r J⟨P,rfl,rfl⟩;refine⟨_,⟨⟨L.iv,L.dW,P,L.lists++[x],L.keys,L.e3,(P,L.lists++[x])::(L.keys.map (·.2)++L.e3.map (·.2)),hI _⟩,?_,⟨Vx,λk=>Vx,λs=>by simp[E],λB h _=>h⟩,rfl,rfl⟩,λ_ _ _ h=>dt.shut h⟩;show k7 ((P,L.lists++[x])::_)+L.keys.length<=k7 L.g+L.keys.length+3
    rw[D,rI];simp only[bQ,df,gv];omega
   .obtain⟨⟨Z,U⟩,n⟩:∃y,gE L.e3 d.c3=y:=⟨_,rfl⟩
    have i:∀P,∃Y,oQ ((P,L.lists++[x])::(L.keys.map (·.2)++L.e3.map (·.2))) (Z,U) Y/\∀M,(M::Y).Perm ((P,L.lists++[x])::(L.keys.map (·.2)++(bA L.e3 d.c3 M).map (·.2))):=λP=>by have:=g1.abf ⟨L.iv,L.dW,P,L.lists++[x],L.keys,L.e3,(P,L.lists++[x])::(L.keys.map (·.2)++L.e3.map (·.2)),hI _⟩ d.c3;dsimp only at this;rwa[n]at this
    have h:ar prog 102 [av a 0,A x.c,A d.c] (i9 a N L) (λr J=>∃P K Y,(∀M,(M::Y).Perm ((P,L.lists++[x])::(L.keys.map (·.2)++(bA L.e3 d.c3 M).map (·.2))))/\k7 ((P,L.lists++[x])::(L.keys.map (·.2)++L.e3.map (·.2)))=U.length+k7 Y/\r=.tuple #[]/\
      J=[cells a 101 (kp.c ⟨av N 0,.map (some L.iv),P,.map (some L.dW)⟩),bz m2 fo L.iv L.keys,bz rH fo L.dW (bA L.e3 d.c3 (K,U++[x]))]++(rows ag.c K 46 2 (U++[x])::dt Y::[])):=by
     unfold i9
     unfold g1.dv at X
     dsimp only at D
     refine aF func102 λW=>?_
     refine ah.dc m ?_
     dsimp only
     refine aq 2 λq=>?_
     refine aq 0 λp=>?_
     refine aa 24 ?_
     refine ah.V9 [10] ?_ aC.j.j.d'.j.j.d'.j aC.j.j.j.j.j.d'.j
     refine ae 4 0 ?_
     refine ae 1 5 ?_
     refine af.t 4 rfl (V.F' ad) ?_
     refine af.y' 6 rfl (O.V' ad ag.c [_] rfl (bP.agg rfl bP.nil) rfl rfl (λYo=>?_))
     refine au ?_
     refine af.y' 7 rfl (O.Z' ad rfl rfl Vz (cz.rows ad VF ag.J') (λYp Yl=>?_))
     refine au ?_
     refine ae 2 8 ?_
     refine af.l 10 rfl (O.O' ad ?_)
     refine aa 4 ?_
     rotate_left
     refine ah.ZY (l:=L.lists++[x]) ?_
     obtain⟨Y,u,C⟩:=i _
     have Yc:=u.dv
     have Yg:=Yc
     rw[rI]at Yg
     simp only[bQ,df,gv]at Yg
     refine ah.dc u ?_
     dsimp only
     refine aa 8 ?_
     refine ah.p' ?_ aC.j.j.d'.d'.d'.j.j.j
     refine ae 12 0 ?_
     refine ae 1 13 ?_
     refine af.bx 12 14 rfl rfl ?_ ?_
     refine aw.z' (aN.Wr (l:=L.e3) (k:=d.c3) (R:=(Z,U)) (aU:=fo) cY.z n pw px qa rfl rfl VF) ?_
     refine au ?_
     refine af.y' 14 rfl (O.V' ad ag.c [_] rfl (bP.agg rfl bP.nil) rfl rfl (λYh=>?_))
     refine au ?_
     refine af.y' 15 rfl (O.Z' ad rfl rfl Vz (cz.rows ad VF ag.J') (λYj Yi=>?_))
     refine au ?_
     refine af.y' 16 rfl (aw.Wh (l:=L.e3) (k:=d.c3) (v:=((_,U++[x]):cY)) (aU:=fo) pw px rfl rfl rfl VJ ?_)
     refine aa 3 ?_
     rotate_left
     refine O.V' ad ag.c [_] rfl (bP.agg rfl bP.nil) rfl rfl (λYh=>?_)
     refine au ?_
     refine af.y' 12 rfl (aw.z' (aN.Wr (l:=L.e3) (k:=d.c3) (R:=(Z,U)) (aU:=fo) cY.z n pw px qa rfl rfl VF) ?_)
     refine au ?_
     refine af.y' 15 rfl (O.Z' ad rfl rfl Vz (cz.rows ad VF ag.J') (λYj Yi=>?_))
     refine au ?_
     refine af.y' 16 rfl (aw.Wh (l:=L.e3) (k:=d.c3) (v:=((_,U++[x]):cY)) (aU:=fo) pw px rfl rfl rfl VJ ?_)
     refine aa 3 ?_
     rotate_left
     all_goals exact⟨_,_,⟨_,_,Y,C,Yc,rfl,rfl⟩,VH⟩
    refine ar.post h ?_;rintro r J⟨P,K,Y,C,Yc,rfl,rfl⟩;refine⟨_,⟨⟨L.iv,L.dW,P,L.lists++[x],L.keys,bA L.e3 d.c3 (K,U++[x]),(K,U++[x])::Y,C _⟩,?_,⟨Vx,λk=>Vx,λs=>?_,λB h _=>h⟩,rfl,rfl⟩,λ_ _ _ h=>dt.shut h⟩
    .show k7 ((K,U++[x])::Y)+L.keys.length<=k7 L.g+L.keys.length+3;rw[D,rI];rw[rI]at Yc;simp only[bQ,df,gv]at Yc⊢;omega
    .show(gE (bA L.e3 d.c3 (K,U++[x])) s).2=_;rw[AA];by_cases e:s=d.c3
     .rw[aJ e,aJ ⟨f,E,e⟩,e,n]
     exact Pp
  .obtain⟨⟨ju,Q⟩,G⟩:∃y,gE L.keys d.Key=y:=⟨_,rfl⟩
   obtain⟨o,m,Yn⟩:=L.acZ d.Key;rw[G]at m;have D:=m.dv;by_cases E:d.c3=0
   .have h:ar prog 102 [av a 0,A x.c,A d.c] (i9 a N L) (λr J=>∃K,r=.tuple #[]/\
      J=[cells a 101 (kp.c ⟨av N 0,.map (some L.iv),L.gW,.map (some L.dW)⟩),bz m2 fo L.iv (bA L.keys d.Key (K,Q++[x])),bz rH fo L.dW L.e3]++(rows ag.c K 46 2 (Q++[x])::dt o::[])):=by
     unfold i9
     unfold g1.dv at X
     dsimp only at D
     refine aF func102 λW=>?_
     refine ah.dc m ?_
     dsimp only
     refine aq 2 λq=>?_
     refine aq 0 λp=>?_
     refine aa 24 ?_
     refine ah.p' ?_ aC.j.j.d'.j.j.d'.d'
     refine ae 12 0 ?_
     refine ae 1 13 ?_
     refine af.bx 12 14 rfl rfl ?_ ?_
     refine aw.z' (aN.Wr (l:=L.keys) (k:=d.Key) (R:=(ju,Q)) (aU:=fo) cY.z G ho rG qa rfl rfl VF) ?_
     refine au ?_
     refine af.y' 14 rfl (O.V' ad ag.c [_] rfl (bP.agg rfl bP.nil) rfl rfl (λYf=>?_))
     refine au ?_
     refine af.y' 15 rfl (O.Z' ad rfl rfl Vz (cz.rows ad VF ag.J') (λYm Yk=>?_))
     refine au ?_
     refine af.y' 16 rfl (aw.Wh (l:=L.keys) (k:=d.Key) (v:=((_,Q++[x]):cY)) (aU:=fo) ho rG rfl rfl rfl VJ ?_)
     exact aQ 14
     refine O.V' ad ag.c [_] rfl (bP.agg rfl bP.nil) rfl rfl (λYf=>?_)
     refine au ?_
     refine af.y' 12 rfl (aw.z' (aN.Wr (l:=L.keys) (k:=d.Key) (R:=(ju,Q)) (aU:=fo) cY.z G ho rG qa rfl rfl VF) ?_)
     refine au ?_
     refine af.y' 15 rfl (O.Z' ad rfl rfl Vz (cz.rows ad VF ag.J') (λYm Yk=>?_))
     refine au ?_
     refine af.y' 16 rfl (aw.Wh (l:=L.keys) (k:=d.Key) (v:=((_,Q++[x]):cY)) (aU:=fo) ho rG rfl rfl rfl VJ ?_)
     exact aQ 14
    refine ar.post h ?_;rintro r J⟨K,rfl,rfl⟩;refine⟨_,⟨⟨L.iv,L.dW,L.gW,L.lists,bA L.keys d.Key (K,Q++[x]),L.e3,(K,Q++[x])::o,Yn _⟩,?_,⟨Vx,λk=>?_,λs=>by simp[E],λB h b k T=>(Ic T).elim (λe=>e▸b) (h k)⟩,rfl,rfl⟩,λ_ _ _ h=>dt.shut h⟩
    .have Ye:=Ie L.keys d.Key ((K,Q++[x]):cY);show k7 ((K,Q++[x])::o)+(bA L.keys d.Key (K,Q++[x])).length<=k7 L.g+L.keys.length+3
     rw[D,rI];simp only[bQ,df,gv];omega
    .show(gE (bA L.keys d.Key (K,Q++[x])) k).2=_;rw[AA];by_cases e:k=d.Key
     .rw[aJ e,aJ ⟨f,j,e⟩,e,G]
     exact Pp
   .obtain⟨⟨Z,U⟩,n⟩:∃y,gE L.e3 d.c3=y:=⟨_,rfl⟩
    have i:∀K,∃Y,oQ ((K,Q++[x])::o) (Z,U) Y/\∀M,(M::Y).Perm ((L.gW,L.lists)::((bA L.keys d.Key (K,Q++[x])).map (·.2)++(bA L.e3 d.c3 M).map (·.2))):=λK=>by have:=g1.abf ⟨L.iv,L.dW,L.gW,L.lists,bA L.keys d.Key (K,Q++[x]),L.e3,(K,Q++[x])::o,Yn _⟩ d.c3;dsimp only at this;rwa[n]at this
    have h:ar prog 102 [av a 0,A x.c,A d.c] (i9 a N L) (λr J=>∃K R Y,(∀M,(M::Y).Perm ((L.gW,L.lists)::((bA L.keys d.Key (K,Q++[x])).map (·.2)++(bA L.e3 d.c3 M).map (·.2))))/\k7 ((K,Q++[x])::o)=U.length+k7 Y/\r=.tuple #[]/\
      J=[cells a 101 (kp.c ⟨av N 0,.map (some L.iv),L.gW,.map (some L.dW)⟩),bz m2 fo L.iv (bA L.keys d.Key (K,Q++[x])),bz rH fo L.dW (bA L.e3 d.c3 (R,U++[x]))]++(rows ag.c R 46 2 (U++[x])::dt Y::[])):=by
     unfold i9
     unfold g1.dv at X
     dsimp only at D
     refine aF func102 λW=>?_
     refine ah.dc m ?_
     dsimp only
     refine aq 2 λq=>?_
     refine aq 0 λp=>?_
     refine aa 24 ?_
     refine ah.p' ?_ aC.j.j.d'.j.j.d'.d'
     refine ae 12 0 ?_
     refine ae 1 13 ?_
     refine af.bx 12 14 rfl rfl ?_ ?_
     refine aw.z' (aN.Wr (l:=L.keys) (k:=d.Key) (R:=(ju,Q)) (aU:=fo) cY.z G ho rG qa rfl rfl VF) ?_
     refine au ?_
     refine af.y' 14 rfl (O.V' ad ag.c [_] rfl (bP.agg rfl bP.nil) rfl rfl (λYf=>?_))
     refine au ?_
     refine af.y' 15 rfl (O.Z' ad rfl rfl Vz (cz.rows ad VF ag.J') (λYm Yk=>?_))
     refine au ?_
     refine af.y' 16 rfl (aw.Wh (l:=L.keys) (k:=d.Key) (v:=((_,Q++[x]):cY)) (aU:=fo) ho rG rfl rfl rfl VJ ?_)
     refine aa 4 ?_
     rotate_left
     refine O.V' ad ag.c [_] rfl (bP.agg rfl bP.nil) rfl rfl (λYf=>?_)
     refine au ?_
     refine af.y' 12 rfl (aw.z' (aN.Wr (l:=L.keys) (k:=d.Key) (R:=(ju,Q)) (aU:=fo) cY.z G ho rG qa rfl rfl VF) ?_)
     refine au ?_
     refine af.y' 15 rfl (O.Z' ad rfl rfl Vz (cz.rows ad VF ag.J') (λYm Yk=>?_))
     refine au ?_
     refine af.y' 16 rfl (aw.Wh (l:=L.keys) (k:=d.Key) (v:=((_,Q++[x]):cY)) (aU:=fo) ho rG rfl rfl rfl VJ ?_)
     refine aa 4 ?_
     rotate_left
     .refine ah.ZY (l:=Q++[x]) ?_
      obtain⟨Y,u,C⟩:=i _
      have Yc:=u.dv
      have Yg:=Yc
      rw[rI]at Yg
      simp only[bQ,df,gv]at Yg
      refine ah.dc u ?_
      dsimp only
      refine aa 8 ?_
      refine ah.p' ?_ aC.j.j.d'.d'.d'.j.j.j
      refine ae 12 0 ?_
      refine ae 1 13 ?_
      refine af.bx 12 14 rfl rfl ?_ ?_
      refine aw.z' (aN.Wr (l:=L.e3) (k:=d.c3) (R:=(Z,U)) (aU:=fo) cY.z n pw px qa rfl rfl VF) ?_
      refine au ?_
      refine af.y' 14 rfl (O.V' ad ag.c [_] rfl (bP.agg rfl bP.nil) rfl rfl (λYh=>?_))
      refine au ?_
      refine af.y' 15 rfl (O.Z' ad rfl rfl Vz (cz.rows ad VF ag.J') (λYj Yi=>?_))
      refine au ?_
      refine af.y' 16 rfl (aw.Wh (l:=L.e3) (k:=d.c3) (v:=((_,U++[x]):cY)) (aU:=fo) pw px rfl rfl rfl VJ ?_)
      refine aa 3 ?_
      rotate_left
      refine O.V' ad ag.c [_] rfl (bP.agg rfl bP.nil) rfl rfl (λYh=>?_)
      refine au ?_
      refine af.y' 12 rfl (aw.z' (aN.Wr (l:=L.e3) (k:=d.c3) (R:=(Z,U)) (aU:=fo) cY.z n pw px qa rfl rfl VF) ?_)
      refine au ?_
      refine af.y' 15 rfl (O.Z' ad rfl rfl Vz (cz.rows ad VF ag.J') (λYj Yi=>?_))
      refine au ?_
      refine af.y' 16 rfl (aw.Wh (l:=L.e3) (k:=d.c3) (v:=((_,U++[x]):cY)) (aU:=fo) pw px rfl rfl rfl VJ ?_)
      refine aa 3 ?_
      rotate_left
      all_goals exact⟨_,_,⟨_,_,Y,C,Yc,rfl,rfl⟩,VH⟩
     .refine ah.ZY (l:=Q++[x]) ?_
      obtain⟨Y,u,C⟩:=i _
      have Yc:=u.dv
      have Yg:=Yc
      rw[rI]at Yg
      simp only[bQ,df,gv]at Yg
      refine ah.dc u ?_
      dsimp only
      refine aa 8 ?_
      refine ah.p' ?_ aC.j.j.d'.d'.d'.j.j.j
      refine ae 12 0 ?_
      refine ae 1 13 ?_
      refine af.bx 12 14 rfl rfl ?_ ?_
      refine aw.z' (aN.Wr (l:=L.e3) (k:=d.c3) (R:=(Z,U)) (aU:=fo) cY.z n pw px qa rfl rfl VF) ?_
      refine au ?_
      refine af.y' 14 rfl (O.V' ad ag.c [_] rfl (bP.agg rfl bP.nil) rfl rfl (λYh=>?_))
      refine au ?_
      refine af.y' 15 rfl (O.Z' ad rfl rfl Vz (cz.rows ad VF ag.J') (λYj Yi=>?_))
      refine au ?_
      refine af.y' 16 rfl (aw.Wh (l:=L.e3) (k:=d.c3) (v:=((_,U++[x]):cY)) (aU:=fo) pw px rfl rfl rfl VJ ?_)
      refine aa 3 ?_
      rotate_left
      refine O.V' ad ag.c [_] rfl (bP.agg rfl bP.nil) rfl rfl (λYh=>?_)
      refine au ?_
      refine af.y' 12 rfl (aw.z' (aN.Wr (l:=L.e3) (k:=d.c3) (R:=(Z,U)) (aU:=fo) cY.z n pw px qa rfl rfl VF) ?_)
      refine au ?_
      refine af.y' 15 rfl (O.Z' ad rfl rfl Vz (cz.rows ad VF ag.J') (λYj Yi=>?_))
      refine au ?_
      refine af.y' 16 rfl (aw.Wh (l:=L.e3) (k:=d.c3) (v:=((_,U++[x]):cY)) (aU:=fo) pw px rfl rfl rfl VJ ?_)
      refine aa 3 ?_
      rotate_left
      all_goals exact⟨_,_,⟨_,_,Y,C,Yc,rfl,rfl⟩,VH⟩
    refine ar.post h ?_;rintro r J⟨K,R,Y,C,Yc,rfl,rfl⟩;refine⟨_,⟨⟨L.iv,L.dW,L.gW,L.lists,bA L.keys d.Key (K,Q++[x]),bA L.e3 d.c3 (R,U++[x]),(R,U++[x])::Y,C _⟩,?_,⟨Vx,λk=>?_,λs=>?_,λB h b k T=>(Ic T).elim (λe=>e▸b) (h k)⟩,rfl,rfl⟩,λ_ _ _ h=>dt.shut h⟩
    .have Ye:=Ie L.keys d.Key ((K,Q++[x]):cY);show k7 ((R,U++[x])::Y)+(bA L.keys d.Key (K,Q++[x])).length<=k7 L.g+L.keys.length+3
     rw[D,rI];rw[rI]at Yc;simp only[bQ,df,gv]at Yc⊢;omega
    .show(gE (bA L.keys d.Key (K,Q++[x])) k).2=_;rw[AA];by_cases e:k=d.Key
     .rw[aJ e,aJ ⟨f,j,e⟩,e,G]
     exact Pp
    .show(gE (bA L.e3 d.c3 (R,U++[x])) s).2=_;rw[AA];by_cases e:s=d.c3
     .rw[aJ e,aJ ⟨f,E,e⟩,e,n]
     exact Pp
structure eY where
 et:Nat
 eu:Nat
 L:g1
 R:lH
 dJ:aj
def hM(P G:Nat)(X:eY)(s:bS):ab ay:=i9 P X.et X.L++g0 X.et X.eu G X.R X.dJ s
def Loc(L:g1)(x:ag)(d:bF):Prop:=d.Kind≠0->(d.Kind=5->x∈L.lists)/\(d.Kind≠5->x∈(gE L.keys d.Key).2)/\(d.c3≠0->x∈(gE L.e3 d.c3).2)
def iw(L:g1)(p:aL aY):Prop:=(∀x i,p.at x=some i->Loc L x i.Call.cv)/\∀k∈L.keys.map (·.1),k.length<=16
def Found.here{L F:g1}{x:ag}{d:bF}(h:Found L F x d):Loc F x d:=λW=>by
 refine⟨λt=>?_,λt=>?_,λE=>?_⟩
 .rw[h.lists,aJ t];simp
 .rw[h.keys,aJ ⟨W,t,rfl⟩];simp
 .rw[h.e3,aJ ⟨W,E,rfl⟩];simp
def Found.cu{L F:g1}{x y:ag}{d e:bF}(h:Found L F x d)(u:Loc L y e):Loc F y e:=λW=>by
 obtain⟨Y,Z,D⟩:=u W;refine⟨λt=>?_,λt=>?_,λE=>?_⟩
 .rw[h.lists];have:=Y t;split<;>simp[this]
 .rw[h.keys];have:=Z t;split<;>simp[this]
 .rw[h.e3];have:=D E;split<;>simp[this]
def wO{n:Int}{p:aL aY}(z:p.ok):k5 n p.all↔∀x i,p.at x=some i->bt x n=true/\ff i n=true:=
 ⟨λh x i am=>h (x,i) ((aL.WJ z).2 am),λh y C=>h y.1 y.2 ((aL.WJ z).1 C)⟩
def bS.wP(s:bS)(x:ag)(i:aY):(s.add x i).p=s.p.set x i:=by unfold bS.add;split<;>rfl
def bS.XP(s:bS)(x:ag)(i:aY):(s.add x i).n=s.n:=by unfold bS.add;split<;>rfl
def bS.ac0{s:bS}(h:s.ok){x:ag}{i:aY}(U:bt x s.n=true)(am:ff i s.n=true):(s.add x i).ok:=by
 have k:s.n<=7:=T6
 have g:=yA k U am;have u:=bS.Xc h;have z:(s.p.set x i).ok:=aL.Xe h.p x i;refine⟨by rw[bS.XP];exact h.size,by rw[bS.wP];exact z,by rw[bS.wP,bS.XP,aL.Xd];exact h.aE,?_,?_⟩
 .rw[bS.wP,bS.XP,wO z];intro y j C;rw[aL.WN h.p]at C;split at C
  .rename_i q;cases C;rw[q.2];exact⟨U,am⟩
  .exact(wO h.p).1 h.hy y j C
 .unfold bS.add;split
  .show(cp s.p.all++gb x i).length<=65536;rw[bQ];omega
  .show(s.data++gb x i).length<=65536;rw[bQ];omega
def bS.abg{s:bS}(h:s.ok){x:ag}{i:aY}(U:bt x s.n=true)(y:ag):(s.add x i).p.at y=if y=x then some i else s.p.at y:=by rw[bS.wP,aL.WN h.p,h.aE];simp[U]
def OO(P G:Nat)(X:eY)(s:bS)(x:ag)(i:aY)(h:s.ok)(U:bt x s.n=true)(am:ff i s.n=true)(l:iw X.L s.p)(u:X.L.dv<=1000000000000):ar prog 236 [av P 0,A x.c,A i.c] (hM P G X s) (λr J=>∃E:eY,E.L.dv<=X.L.dv+3/\iw E.L (s.add x i).p/\r=I 0/\J=hM P G E (s.add x i)):=by
 obtain⟨Y,R,N,k,F⟩:=X;dsimp only at l u⊢;have z:=DB Y R G k F s x h.p.towf;have K:=afm Y R G k F s x i h U am;have w:=Ih P Y N x i.Call.cv u;by_cases b:(bn s.p x).Call.cv=i.Call.cv
 .have a:iw N (s.add x i).p:=by
   refine⟨?_,l.2⟩;intro y j C;rw[bS.abg h U]at C;split at C
   .rename_i e;cases C;subst e;cases Z:s.p.at y with
    |none=>
     intro f;rw[<-b,bn,Z]at f;exact absurd rfl f
    |some Q=>
     have:=l.1 y Q Z;rw[bn,Z]at b;rw[<-b];exact this
   .exact l.1 y j C
  unfold hM i9 g0 at*;refine NM (λW q m=>?_) λW q m=>?_;refine Q4 ?_;refine dr 8 λo=>?_;refine Rg λd Ye=>?_;refine aa 14 ?_;rotate_left;refine RH λo=>?_;refine Q4 ?_;refine Rg λYk Yh=>?_;refine aa 14 ?_;rotate_left;all_goals exact⟨_,_,⟨⟨Y,R,N,_,_⟩,(by exact ks _ _),(by exact a),rfl,rfl⟩,VH⟩
 .unfold hM i9 g0 at*;refine NM (λW q m=>?_) λW q m=>?_;refine Q4 ?_;refine dr 8 λo=>?_;refine Rg λd Ye=>?_;refine aa 11 ?_;rintro _ _⟨Yf,M,g,rfl,rfl⟩;refine aa 11 ?_;rotate_left;refine RH λo=>?_;refine Q4 ?_;refine Rg λYi Yg=>?_;refine aa 11 ?_;rintro _ _⟨Yj,t,Yc,rfl,rfl⟩;refine aa 11 ?_;rotate_left;all_goals
   have D:=(by assumption:Found N _ x i.Call.cv)
   refine⟨_,_,⟨⟨Y,R,_,_,_⟩,VV,?_,rfl,rfl⟩,VH⟩;refine⟨?_,D.If 16 l.2 (tO (pt (nB am).2.2.2.2.1).1).2.2.1⟩;intro y j C;rw[bS.abg h U]at C;split at C
   .rename_i e;cases C;subst e;exact D.here
   .exact D.cu (l.1 y j C)
def amf(P G:Nat)(X:eY)(s:bS):ar prog 91 [av P 0] (hM P G X s) (λr J=>r=I 0/\J=hM P G X {s with safe:=(s.data.length:Int)}):=by have y:=OE X.et X.eu G X.R X.dJ s;unfold hM i9 g0 at*;refine bh ?_;refine aF func91 λW=>?_;exact aQ 28
def afk(P G:Nat)(X:eY)(s:bS)(x:ag)(h:s.p.wf):ar prog 16 [av P 0,A x.c] (hM P G X s) (λr J=>r=A (bn s.p x).c/\J=hM P G X s):=by have z:=DB X.et X.eu G X.R X.dJ s x h;unfold hM i9 g0 at*;refine bh ?_;refine aF func16 λW=>?_;refine aq 2 λx=>?_;refine aq 0 λq=>?_;refine aa 13 ?_;refine ah.p' ?_ aC.j.j.j.j.j.j.j.d'.d'.j;refine ae 5 0 ?_;refine af.x' 5 rfl rfl (z) ?_;refine aa 2 ?_;refine ae 1 6 ?_;exact aQ 4
def OR(P G:Nat)(X:eY)(s:bS):ar prog 14 [av P 0] (hM P G X s) (λr J=>∃q,r=.func (.func 80) #[] #[av q 0]/\J=cells q 117 [av X.eu 0]::hM P G X s):=by have z:=H9 X.et X.eu G X.R X.dJ s;unfold hM i9 g0 at*;refine bh ?_;refine aF func14 λW=>?_;refine aa 22 ?_;rintro _ _⟨E,rfl,rfl⟩;exact aQ 6
def DC:ar prog 14 [.pointer none] [] (λr J=>∃q b L,r=.func (.func 80) #[] #[av q 0]/\J=[cells q 117 [av b 0],lI b L (aL.new 0)]):=by
 refine aF func14 λW=>?_;refine aa 15 ?_;refine ai.x' rfl (OH) ?_;rintro _ _⟨K,q,D,rfl,rfl⟩;refine aa 7 ?_
 exact Nv
def aid(P G:Nat)(X:eY)(s:bS)(M:Int)(h:s.p.wf):ar prog 83 [av P 0,I M] (hM P G X s) (λr J=>r=I (s.p.top M:Int)/\J=hM P G X s):=by have z:=af2 X.et X.eu G X.R X.dJ s M h;unfold hM i9 g0 at*;refine bh ?_;refine aF func83 λW=>?_;exact aQ 29
def Ii(P G:Nat)(X:eY)(s:bS):ar prog 84 [av P 0] (hM P G X s) (λr J=>r=I s.n/\J=hM P G X s):=by have z:=OG X.et X.eu G X.R X.dJ s;unfold hM i9 g0 at*;refine bh ?_;refine aF func84 λW=>?_;exact aQ 28
def fz(s:bS)(M:Int):ag:=⟨M,(s.p.top M:Int)+1⟩
def agn(P G:Nat)(X:eY)(s:bS)(M:Int)(h:s.p.wf)(W:0<=M)(Y:M<s.n):ar prog 55 [av P 0,I M] (hM P G X s) (λr J=>r=.tuple #[A (fz s M).c,B (decide ((s.p.top M:Int)+1<=64))]/\J=hM P G X s):=by have j:=aid P G X s M h;have g:=Ii P G X s;have o:=aL.aa6 h M;unfold fz;unfold hM i9 g0 at*;refine bh ?_;refine aF func55 λW=>?_;refine aq 2 λq=>?_;refine aq 12 λp=>?_;refine aa 4 ?_;refine ah.p' ?_ aC.j.j.j.j.j.j.j.j.j.d';refine ae 8 0 ?_;refine bK 20 ?_;refine ae 2 8 ?_;refine af.x' 10 rfl rfl (g) ?_;refine aa 2 ?_;refine ae 3 11 ?_;refine bK 26 ?_;refine ae 6 14 ?_;exact aQ 4
def qK(e:ay)(v:aj)(l:ab ag):Prop:=∃n Q b off,v=.slice n l.length Q/\Rd e n l.length b off 2 (l.map ag.c)
def qK.of{g:ab cY}{v:aj}{k:ab ag}(K:(v,k)∈g){W:a2}{D:ab Nat}{F:ab ay}(G:dt g∈F):∀w,H W D F w->qK (dt g) v k:=λw s=>by
 have p:=s.mem G;unfold dt at p⊢;rw[se]at p;have d:rows ag.c v 46 2 k∈g.map yD:=dQ.2 ⟨(v,k),K,rfl⟩;have y:=p.1 _ d;have Y:(v=.slice none 0 0/\k=[])\/∃g Q,v=.slice (some ⟨g,0,none⟩) k.length Q/\k.length<=Q/\Q<=Go.maxLen:=
  h6 (f:=ag.c) (E:=46) (aM:=2) (W:=w) (D:=br [rows ag.c v 46 2 k]) (aH []) w ⟨λe P=>by
   obtain rfl:e=_:=by simpa using P
   exact y,OA,λb X=>.inl X,λ_ _ _=>rfl,cx _,rfl,rfl,rfl,cx _⟩
 rcases Y with⟨rfl,rfl⟩|⟨z,Q,rfl,_,Z⟩
 exact OT
 .have o:=Rd.rows (f:=ag.c) (g:=z) (E:=46) (aM:=2) (cap:=Q) (l:=k) ag.len UN;exact PC
def qK.all{g:ab cY}{W:a2}{D:ab Nat}{F:ab ay}(G:dt g∈F):∀w,H W D F w->∀y,y∈g\/y=cY.z->qK (dt g) y.1 y.2:=λw s y C=>by
 rcases C with C|rfl
 .exact qK.of (by simpa using C) G w s
 exact OT
structure hg where
 cK:aT Go.Addr
 cap:Nat
 l:ab ag
def hg.c(y:hg):ab aj:=[.slice y.cK y.l.length y.cap]
def hg.len(y:hg):y.c.length=1:=rfl
def hg.J':jU hg.c:=λ_=>rfl
def AB(L:g1)(d:bF)(N:ab ag):Prop:=∀x,
 (x∈L.lists->x∈N)/\(x∈(gE L.e3 d.c3).2->x∈N)/\(d.Kind≠5->x∈(gE L.keys d.Key).2->x∈N)/\(d.Kind=5->∀k,tT k d.Key=true->x∈(gE L.keys k).2->x∈N)
def aem(s:aj)(E:s.oneCell'=true)(d:bF):ar prog 85 [s,A d.c] [] (λr J=>∃q h,r=.func (.func 118) #[] #[av q 0,av h 0]/\J=[cells q 35 [s],cells h 29 d.c]):=by
 refine aF func85 λW=>?_;refine aa 2 ?_;refine ai.o (O.Wz (λx=>?_));refine aq 0 λx=>?_;refine aa 11 ?_
 exact Mx
def ajv(x:ag):ab aj:=[A x.c]
def Ij{o:Type}[DecidableEq o](m:ab (o×cY))(k:o):gE m k∈m.map (·.2)\/gE m k=cY.z:=by
 induction m with
 |nil=>exact .inr rfl
 |cons p m X=>
  unfold gE at X⊢;rw[kE];by_cases h:k=p.1
  .rw[aJ h];exact .inl VK
  .rw[aG h];rcases X with X|X
   .exact .inl (by simp only[eE];exact e0 _ X)
   .exact .inr X
def agh{o:Type}[DecidableEq o]{m:ab (o×cY)}{k:o}{x:ag}(h:x∈(gE m k).2):∃y,(k,y)∈m/\x∈y.2:=by
 induction m with
 |nil=>simp[gE,aZ,hd,cY.z]at h
 |cons p m X=>
  unfold gE at X h;rw[kE]at h;by_cases e:k=p.1
  .rw[aJ e]at h;exact⟨p.2,by rw[e];simp,h⟩
  .rw[aG e]at h;obtain⟨y,Y,Z⟩:=X h;exact⟨y,e0 _ Y,Z⟩
def Ik{o:Type}:∀{l:ab o} {j:Nat} {x:o},l[j]?=some x->(x::l.eraseIdx j).Perm l
 |a::l,0,x,h=>by
  have:a=x:=VR
  subst this;exact hI _
 |a::l,j+1,x,h=>by
  have X:=Ik (l:=l) (j:=j) (x:=x) VR;show(x::a::l.eraseIdx j).Perm (a::l)
  exact(hV a x _).trans (X.cons a)
def DD(P N:Nat)(L:g1):ab ay:=[cells P 101 (kp.c ⟨av N 0,.map (some L.iv),L.gW,.map (some L.dW)⟩),bz m2 fo L.iv L.keys,bz rH fo L.dW L.e3]
def alt(j3 qL ef et:Nat)(L:g1)(d:bF)(Yu:∀k∈L.keys.map (·.1),k.length<=9223372036854775807)(YA:d.Key.length<=9223372036854775807)(bN:L.keys.length<=1000000000000):yC prog 118 [av j3 0,av qL 0] (DD ef et L) [cells j3 35 [av ef 0],cells qL 29 d.c,dt L.g] ajv (AB L d) [cells j3 35 [av ef 0],cells qL 29 d.c,dt L.g]:=by
 intro l km G X yE fx Yv jv;obtain⟨iv,dW,gW,P,U,J,g,bG⟩:=L;unfold DD at*;dsimp only[List.cons_append,List.nil_append]at*;refine aF func118 λW=>?_;refine ah.Ww ?_;refine bh ?_;refine ah.fact (qK.all (g:=g) VF) λcJ=>?_;have YZ:qK (dt g) gW P:=cJ (gW,P) (.inl (bG.mem_iff.2 VK));obtain⟨N,s,Y7,Y4,rfl,YK⟩:=YZ;obtain⟨⟨cU,D⟩,t⟩:∃y,gE J d.c3=y:=⟨_,rfl⟩
 have Yr:qK (dt g) cU D:=cJ (cU,D) (by
  rcases Ij J d.c3 with h|h
  .exact .inl (bG.mem_iff.2 (by rw[<-t];simp only[cQ,eh];exact .inr (.inr h)))
  .exact .inr (by rw[<-t,h]))
 obtain⟨a,R,Y8,Yx,rfl,Yp⟩:=Yr;refine au ?_;refine ah.p' ?_ aC.d'.d'.d'.d'.d'.d'.j;refine ae 10 0 ?_;refine af.y' 10 rfl (aw.z' (aN.Wr (l:=J) (k:=d.c3) (R:=(.slice a D.length R,D)) (aU:=fo) cY.z t pw px qa rfl rfl VF) ?_);refine au ?_;refine af.y' 11 rfl (O.V' ad hg.c [⟨N,s,P⟩,⟨a,R,D⟩] rfl (bP.one rfl (bP.one rfl bP.nil)) rfl rfl (λYD=>?_));refine au ?_;refine ae 1 12 ?_;refine aa 2 ?_;refine ah.mt [2,1,0] (λz:ab hg×Nat×Nat=>(∀y∈z.1,∃b off,Rd (dt g) y.cK y.l.length b off 2 (y.l.map ag.c))/\z.1.length<=U.length+3/\AB ⟨iv,dW,.slice N P.length s,P,U,J,g,bG⟩ d (z.1.flatMap (·.l)))
  (λz=>[(4,.slice (some ⟨z.2.1,0,none⟩) z.1.length z.2.2)]) (λz=>[rows hg.c (.slice (some ⟨z.2.1,0,none⟩) z.1.length z.2.2) 98 1 z.1]) (s:=[rows hg.c (.slice (some ⟨YD,0,none⟩) 2 2) 98 1 [⟨N,s,P⟩,⟨a,R,D⟩]]) ?_ ?_
 .intro fP Yc;by_cases jJ:d.Kind=5
  .refine aa 14 ?_;refine ai.o (aw.aaY rG rfl Vz (λYV=>?_));refine aa 3 ?_;rotate_left;refine ah.cq [2,1,0,30] (λy:ab (ab aS×cY)×ab (ab aS×cY)×aT (ab aS×cY)×ab hg×Nat×Nat=>
     (y.1++y.2.1).Perm U/\(∀p∈y.1,tT p.1 d.Key=true->∃z∈y.2.2.2.1,z.l=p.2.2)/\(∀z∈y.2.2.2.1,∃b off,Rd (dt g) z.cK z.l.length b off 2 (z.l.map ag.c))/\y.2.2.2.1.length<=y.1.length+2/\(⟨N,s,P⟩:hg)∈y.2.2.2.1/\(⟨a,R,D⟩:hg)∈y.2.2.2.1)
    (λy=>[(4,.slice (some ⟨y.2.2.2.2.1,0,none⟩) y.2.2.2.1.length y.2.2.2.2.2)]) (λy=>[lC m2 fo iv YV U y.2.1 y.2.2.1,rows hg.c (.slice (some ⟨y.2.2.2.2.1,0,none⟩) y.2.2.2.1.length y.2.2.2.2.2) 98 1 y.2.2.2.1]) (λy=>y.2.1.length)
    ([],U,none,[⟨N,s,P⟩,⟨a,R,D⟩],_,_) ⟨hI _,VK,by
     intro z w;simp only[cQ,kq,gl]at w;rcases w with rfl|rfl
     .exact⟨_,_,YK⟩
     .exact⟨_,_,Yp⟩,VK,VK,VK⟩ ?_
   rintro⟨pre,n,Yn,Z,nC,mx⟩⟨cn,r,C,F,Ys,Yl⟩ K u;dsimp only at cn r C F Ys Yl;refine bh ?_;by_cases eV:n=[]
   .subst eV;clear u;rw[db]at cn;refine aa 2 ?_;refine ai.o (aw.aaZ rfl VF ?_);refine aa 9 ?_;refine Out.Zv ?_;refine Out.C' Yc (Z,nC,mx) ⟨C,by have:=cn.length_eq;show Z.length<=_;omega,?_⟩ trivial;intro x;refine⟨λh=>wB.2 ⟨_,Ys,h⟩,λh=>wB.2 ⟨_,Yl,?_⟩,λh=>absurd jJ h,λ_ k ca h=>?_⟩
    .have hH:x∈(gE J d.c3).2:=h;rw[t]at hH;exact hH
    .obtain⟨y,bf,bW⟩:=agh (m:=U) h;obtain⟨z,YH,YS⟩:=r (k,y) (cn.mem_iff.2 bf) ca;exact wB.2 ⟨z,YH,by rw[YS];exact bW⟩
   .refine aa 2 ?_;refine ai.o (aw.aa0 eV rfl Nc (λq Y0 YT=>?_));refine aa 8 ?_;obtain⟨E,ju,Q⟩:=Y0;have Yw:=(cF.1 YT).1;have YB:((E,ju,Q)::n.eraseIdx q).Perm n:=Ik YT;have Yf:((pre++[(E,ju,Q)])++n.eraseIdx q).Perm U:=by rw[ck];exact(YB.append_left pre).trans cn
    have YI:(E,ju,Q)∈U:=Yf.mem_iff.1 VK;have YE:qK (dt g) ju Q:=cJ (ju,Q) (.inl (bG.mem_iff.2 (by simp only[cQ,eh];exact .inr (.inl (dQ.2 ⟨_,YI,rfl⟩)))))
    obtain⟨T,M,Y1,YR,rfl,Yz⟩:=YE;have YX:=Yu E (dQ.2 ⟨_,YI,rfl⟩);have Yo:pre.length+n.length=U.length:=by rw[<-bQ];exact cn.length_eq
    have YC:(n.eraseIdx q).length<n.length:=by rw[DE,aJ Yw];omega
    have YU:=Ia E d.Key YX YA;by_cases YO:tT E d.Key=true
    .rw[YO]at YU;refine aa 2 ?_;refine ai.v (aN.Xb (p:=((E,Go.Value.slice T Q.length M,Q):ab aS×cY)) rfl VF) ?_;refine aa 18 ?_;refine ai.o (O.V' ad hg.c [⟨T,M,Q⟩] rfl (bP.one rfl bP.nil) rfl rfl (λYM=>?_));refine ai.o (O.Z' ad rfl rfl Vz (cz.rows ad VF hg.J') (λYN YL=>?_));refine aa 3 ?_;refine Out.C' u (pre++[(E,.slice T Q.length M,Q)],n.eraseIdx q,_,Z++[⟨T,M,Q⟩],_,_) ?_ YC;exact ⟨Yf,by
      intro p Y YJ;rcases eh.1 Y with Y|Y
      .obtain⟨z,bf,bW⟩:=r p Y YJ;exact⟨z,oR _ bf,bW⟩
      .obtain rfl:p=_:=by simpa using Y
       exact⟨⟨T,M,Q⟩,VK,rfl⟩,by
      intro z w;rcases eh.1 w with w|w
      .exact C z w
      .obtain rfl:z=_:=by simpa using w
       exact⟨_,_,Yz⟩,L0,oR _ Ys,oR _ Yl⟩
    .rw[show tT E d.Key=false by simpa using YO]at YU;refine aa 2 ?_;refine ai.v (aN.Xb (p:=((E,Go.Value.slice T Q.length M,Q):ab aS×cY)) rfl VF) ?_;refine aa 17 ?_;refine Out.C' u (pre++[(E,.slice T Q.length M,Q)],n.eraseIdx q,_,Z,_,_) ?_ YC;exact ⟨Yf,by
      intro p Y YJ;rcases eh.1 Y with Y|Y
      .exact r p Y YJ
      .obtain rfl:p=_:=by simpa using Y
       exact absurd YJ YO,C,L0,Ys,Yl⟩
  .obtain⟨⟨ju,Q⟩,Yj⟩:∃y,gE U d.Key=y:=⟨_,rfl⟩
   have YE:qK (dt g) ju Q:=cJ (ju,Q) (by
    rcases Ij U d.Key with h|h
    .exact .inl (bG.mem_iff.2 (by rw[<-Yj];simp only[cQ,eh];exact .inr (.inl h)))
    .exact .inr (by rw[<-Yj,h]))
   obtain⟨T,M,Y1,YR,rfl,Yz⟩:=YE;refine aa 8 ?_;refine ah.p' ?_ aC.j.d'.d'.j.j.j.j.j;refine ae 4 0 ?_;refine ae 2 5 ?_;refine ae 1 4 ?_;refine af.y' 7 rfl (aw.z' (aN.Wr (l:=U) (k:=d.Key) (R:=(Go.Value.slice T Q.length M,Q)) (aU:=fo) cY.z Yj ho rG qa rfl rfl VF) ?_);refine au ?_;refine af.y' 8 rfl (O.V' ad hg.c [⟨T,M,Q⟩] rfl (bP.one rfl bP.nil) rfl rfl (λYW=>?_));refine au ?_;refine af.y' 9 rfl (O.Z' ad rfl rfl Vz (cz.rows ad VF hg.J') (λY9 Y2=>?_));refine au ?_;refine ae 1 10 ?_;refine au ?_;all_goals(refine Out.C' Yc ([⟨N,s,P⟩,⟨a,R,D⟩]++[⟨T,M,Q⟩],_,_) ?_ trivial;exact ⟨by
    intro z w;simp only[eh,cQ,kq,gl]at w;rcases w with(rfl|rfl)|rfl
    .exact⟨_,_,YK⟩
    .exact⟨_,_,Yp⟩
    .exact⟨_,_,Yz⟩,VK,by
    intro x;refine⟨λh=>by simp[show x∈P from h],λh=>?_,λ_ h=>?_,λh=>absurd h jJ⟩
    .have hH:x∈(gE J d.c3).2:=h;rw[t]at hH;simp[show x∈D from hH]
    .have hH:x∈(gE U d.Key).2:=h;rw[Yj]at hH;simp[show x∈Q from hH]⟩)
 .rintro⟨Z,nC,mx⟩⟨C,F,oI⟩;dsimp only at C F oI;refine bh ?_;refine ah.acW (bg:=[yE fx,cells ef 101 (kp.c ⟨av et 0,.map (some iv),.slice N P.length s,.map (some dW)⟩),bz m2 fo iv U,bz rH fo dW J]) ?_;refine aa 8 ?_;refine ah.cq [2,1,0,54,55] (λz:Nat×km=>z.1<=Z.length/\G ((Z.take z.1).flatMap (·.l)) z.2) (λz=>[(56,I (z.1:Int))]) (λz=>[aK (yE z.2::[cells ef 101 (kp.c ⟨av et 0,.map (some iv),.slice N P.length s,.map (some dW)⟩),bz m2 fo iv U,bz rH fo dW J])]) (λz=>Z.length-z.1) (0,fx) ⟨cG _,Yv⟩ ?_;rintro⟨i,gj⟩⟨am,Yk⟩ K u;dsimp only at am Yk;refine bh ?_;by_cases Ye:i<Z.length
  .obtain⟨y,fX⟩:=cl Ye;obtain⟨aie,adK,YP⟩:=C y (im fX);have Yy:=YP.len;have c5:(Z.take (i+1)).flatMap (·.l)=(Z.take i).flatMap (·.l)++y.l:=by rw[mm fX,l3];simp
   obtain⟨eO,bx⟩:∃eO,Z.flatMap (·.l)=(Z.take i).flatMap (·.l)++(y.l++eO):=by refine⟨(Z.drop (i+1)).flatMap (·.l),?_⟩;rw[<-ck,<-c5,<-l3,nU]
   obtain⟨Za,Y5,f⟩:=y;dsimp only at YP Yy c5 bx;generalize(Z.take i).flatMap (·.l)=ct at*;refine aa 13 ?_;refine ai.v (V.E' ad rfl rfl) ?_;refine ai.v (V.Wm ad rfl VF (λ_=>rfl) VV) ?_;refine aa 11 ?_;rotate_left;refine ah.cq [2,1,0,54,55,56,60,61] (λz:Nat×km=>z.1<=f.length/\G (ct++f.take z.1) z.2) (λz=>[(62,I (z.1:Int))]) (λz=>[aK (yE z.2::[cells ef 101 (kp.c ⟨av et 0,.map (some iv),.slice N P.length s,.map (some dW)⟩),bz m2 fo iv U,bz rH fo dW J])]) (λz=>f.length-z.1) (0,gj) ⟨cG _,by simpa using Yk⟩ ?_;rintro⟨j,gN⟩⟨dK,Yq⟩ Il YF;dsimp only at dK Yq;refine bh ?_;by_cases Yw:j<f.length
   .obtain⟨x,b6⟩:=cl Yw;have YG:f=f.take j++x::f.drop (j+1):=by obtain⟨ca,rfl⟩:=cF.1 b6;rw[<-wF ca,nU]
    have Yi:Z.flatMap (·.l)=(ct++f.take j)++x::(f.drop (j+1)++eO):=by
     rw[bx];conv=>lhs;rw[YG]
     simp only[ck,mQ]
    have YQ:=oI;rw[Yi]at YQ;have Yt:=jv _ _ _ gN YQ Yq;have Y3:f.take (j+1)=f.take j++[x]:=mm b6;refine aa 14 ?_;refine ai.v (V.Wb ad rfl YP (kk b6)) ?_;refine aq 0 λYm=>?_;refine aa 7 ?_;refine ai.o (aw.WX rfl rfl (Yt) VH ?_);rintro v3 tU⟨Y6,Zb,rfl,Yg,Yh,rfl⟩;refine US (λYY=>?_) λYY=>?_;refine aa 10 ?_
    .exact⟨_,_,⟨_,.inr ⟨(ct++f.take j)++[x],f.drop (j+1)++eO,by rw[ck];exact YQ,L7⟩,rfl⟩,VH⟩
    refine aa 7 ?_;rotate_left;refine Out.C' YF (j+1,_) ?_ (by show f.length-(j+1)<f.length-j;omega);exact ⟨EY,by show G (ct++f.take (j+1)) _;rw[Y3,<-ck];apply_assumption;assumption⟩
   .obtain rfl:j=f.length:=by omega
    rw[iI]at Yq;refine aa 17 ?_;refine Out.C' u (i+1,gN) ?_ (by show Z.length-(i+1)<Z.length-i;omega);exact ⟨VU,by show G ((Z.take (i+1)).flatMap (·.l)) gN;rw[c5];exact Yq⟩
  .obtain rfl:i=Z.length:=by omega
   rw[iI]at Yk;refine aa 12 ?_
   .exact⟨_,_,⟨gj,.inl ⟨_,oI,Yk⟩,rfl⟩,VH⟩
end Go.Proofs.YteogojgnkjegmaaGreatDoor
namespace Go.Proofs.YteogojgnkjegmaaGreatDoor
open Go.az Go.Proofs.Tryz
def my(G:Int):Nat:=(Min.min (Max.max G 0) 4).toNat
def ajj(G:Int):my G<=4:=by unfold my;omega
def oS(n E M G:Int):Int:=if n<1 then 4 else 4*(1+(E-M)%n)*2^my G
def Im(G:Int):(1:Int)<=2^my G/\(2:Int)^my G<=16:=by have:=ajj G;generalize my G=k at*;rcases(by omega:k=0\/k=1\/k=2\/k=3\/k=4)with rfl|rfl|rfl|rfl|rfl<;>decide
def In{a b:Int}(J:4<=a)(K:a<=8388608)(h:1<=b/\b<=16):4<=a*b/\a*b<=134217728:=by have Y:a*1<=a*b:=OZ h.1 ac;have Z:a*b<=a*16:=OZ h.2 ac;omega
def Io(n E M G:Int)(y:n<=1048576):4<=oS n E M G/\oS n E M G<=134217728:=by
 unfold oS;split
 .decide
 .have Y:=Int.emod_nonneg (E-M) (by omega:n≠0);have Z:=Ip (E-M) (by omega:0<n);exact In ac ac (Im G)
def al7{a n:Int}(y:1<=n):(a.tmod n=a%n\/a.tmod n=a%n-n)/\0<=a%n/\a%n<n/\(a.tmod n<0->a.tmod n+n=a%n)/\(0<=a.tmod n->a.tmod n=a%n)/\(a.tmod n+n).tmod n=a%n:=by
 have Y:=Int.emod_nonneg a (by omega:n≠0);have Z:=Ip a (by omega:0<n);have D:a.tmod n=a%n\/a.tmod n=a%n-n:=by
  rw[Int.tmod_eq_emod];split
  .left;omega
  .right;omega
 have m:0<=a.tmod n+n:=ac
 refine⟨D,Y,Z,ac,ac,?_⟩;rw[Int.tmod_eq_emod_of_nonneg m,Int.add_emod_right];rcases D with h|h
 .rw[h,Int.emod_emod_of_dvd a (Int.dvd_refl n)]
 .rw[h,Int.sub_emod_right,Int.emod_emod_of_dvd a (Int.dvd_refl n)]
def Iq(n Q:Int)(x:ag)(G:Int)(y:n<=1048576)(E:-1048576<=Q/\Q<=1048576)(g:-1048576<=x.a1/\x.a1<=1048576):dH prog 112 [I n,I Q,A x.c,I G] (I (oS n Q x.a1 G)):=by
 unfold oS;by_cases h:n<1
 .rw[aJ h];refine aF func112 λW=>?_;refine aq 2 λi=>?_;exact aQ 19
 .rw[aG h];obtain⟨Y,Z,D,m,t,b⟩:=al7 (a:=Q-x.a1) (n:=n) ac;have aV:=Im G;generalize(Q-x.a1)%n=l at*;have p:(Go.IntKind.i64.wrap (4*(1+l)*2^(Min.min (Min.min (Max.max G 0) 4).toNat Go.IntKind.i64.bits)))=4*(1+l)*2^my G:=by rw[show Min.min (Min.min (Max.max G 0) 4).toNat Go.IntKind.i64.bits=my G by unfold my;show Min.min _ 64=_;omega];have:=In (a:=4*(1+l)) ac ac aV;exact Cv (nl.ZJ ac)
  refine aF func112 λW=>?_;refine aq 2 λi=>?_;refine aa 20 ?_;refine ai.v (V.aaz rfl rfl) ?_;refine aa 3 ?_;refine ai.v (V.aaz rfl rfl) ?_;refine aa 7 ?_;refine ai.v (V.mul) ?_;refine aa 3 ?_;refine ai.v (V.shl) ?_;refine aa 5 ?_
  .rw[b];exact c7 (λz:Int=>I z) p
def iM(a b:bw):Bool:=decide (a.due<b.due)||(decide (a.due=b.due)&&decide (a.jT<b.jT))
def vd(a b:bw):Int:=if iM a b=true then-1 else if a.due=b.due/\a.jT=b.jT then 0 else 1
def wQ{a b:bw}:iM a b=true↔a.due<b.due\/a.due=b.due/\a.jT<b.jT:=by simp[iM]
def Ir(a b:bw):dH prog 155 [A a.c,A b.c] (I (vd a b)):=by
 unfold vd;by_cases Y:a.due<b.due
 .rw[aJ (wQ.2 (.inl Y))];refine M6 λW Y x=>?_;exact aQ 40
 by_cases Z:a.due=b.due
 .by_cases D:a.jT<b.jT
  .rw[aJ (wQ.2 (.inr ⟨Z,D⟩))];refine M6 λW Y x=>?_;exact aQ 41
  .rw[aG (λh=>by rcases wQ.1 h with h|h<;>omega)];by_cases m:a.jT=b.jT
   .rw[aJ ⟨Z,m⟩];refine M6 λW Y x=>?_;exact aQ 60
   .rw[aG (λh=>m h.2)];refine M6 λW Y x=>?_;exact aQ 61
 .rw[aG (λh=>by rcases wQ.1 h with h|h<;>omega),aG (λh=>Z h.1)];refine M6 λW Y x=>?_;exact aQ 61
def ajR(a b:bw):decide (vd a b<0)=iM a b:=by
 unfold vd;by_cases h:iM a b=true
 .rw[aJ h,h];decide
 .rw[aG h,show iM a b=false by simpa using h];split<;>decide
def DF{a b c:bw}(Y:iM a b=true)(Z:iM b c=true):iM a c=true:=by rw[wQ]at*;omega
def Is{o:Type}{R:o->o->Prop}{l:ab o}(h:l.Pairwise R){i j:Nat}{a b:o}(J:l[i]?=some a)(X:l[j]?=some b)(n:i<j):R a b:=by obtain⟨Y,rfl⟩:=cF.1 J;obtain⟨Z,rfl⟩:=cF.1 X;exact List.pairwise_iff_getElem.1 h i j Y Z n
def AC(l:ab bw)(s:bw)(p:Nat):Prop:=p<=l.length/\∀(j:Nat) (a:bw),l[j]?=some a->(iM a s=true↔j<p)
def ag7(i j:Nat)(h:i+j<4611686018427387904):(((i+j:Nat):Int)).fdiv (2^(Min.min ((1:Int)).toNat Go.IntKind.u64.bits))=(((i+j)/2:Nat):Int):=by
 show(((i+j:Nat):Int)).fdiv 2=_
 rw[C6 _ ac];omega
def It(m:Nat)(h:m<4611686018427387904):Go.IntKind.i64.wrap (m:Int)=(m:Int):=Cv (nl.ZJ ac)
def ad9(m:Nat)(h:m<4611686018427387904):Go.IntKind.u64.wrap (m:Int)=(m:Int):=by simp only[Go.IntKind.wrap,Go.IntKind.signed,Go.IntKind.bits];simp;omega
def aec(v:aj)(l:ab bw)(s:bw)(E:l.Pairwise (λa b=>iM a b=true))(u:l.length<=100000):ar prog 154 [v,A s.c,.func (.func 155) #[] #[]] [rows bw.c v 271 4 l] (λr J=>∃(p:Nat) (f:Bool),AC l s p/\r=.tuple #[I (p:Int),B f]/\J=[rows bw.c v 271 4 l]):=by
 refine aF func154 λW=>?_;refine ah.fact (h6 (aH _)) λz=>?_;refine aq 2 λq=>?_;refine aa 20 ?_;refine ah.cq [8,4,0,2] (λy:Nat×Nat=>y.1<=y.2/\y.2<=l.length/\(∀(j:Nat) (a:bw),l[j]?=some a->j<y.1->iM a s=true)/\(∀(j:Nat) (a:bw),l[j]?=some a->y.2<=j->iM a s=false)) (λy=>[(10,I (y.2:Int)),(9,I (y.1:Int))]) (λ_=>[]) (λy=>y.2-y.1) (0,l.length) ⟨cG _,cx _,λj a _ h=>absurd h (yo _),λj a h Z=>absurd (cF.1 h).1 ac⟩ ?_;rintro⟨d,am⟩⟨Y,Z,D,i⟩ K N;dsimp only at Y Z D i;refine bh ?_;by_cases X:d<am
 .obtain⟨Yc,Yi⟩:∃m,m=(d+am)/2:=⟨_,rfl⟩
  have Yf:Yc<l.length:=ac
  obtain⟨x,U⟩:=cl Yf;rcases z with⟨rfl,rfl⟩|⟨g,Q,rfl,L,R⟩
  .simp at Yf
  have n:bb .lss (d:Int) (am:Int)=some true:=by simp[bb,X]
  have M:Go.IntKind.u64.wrap ((d:Int)+(am:Int))=((d+am:Nat):Int):=by rw[<-Int.natCast_add];exact ad9 _ ac
  have F:=ag7 d am ac;rw[<-Yi]at F;have T:Go.IntKind.i64.wrap (Yc:Int)=(Yc:Int):=It _ ac;have o:=Ir x s;have t:decide (vd x s<0)=iM x s:=ajR x s;cases Ye:iM x s with
  |true=>
   have P:bb .lss (vd x s) 0=some true:=by simp only[bb];rw[t,Ye]
   refine Tb ?_;refine aa 9 ?_;refine Out.C' N (Yc+1,am) ?_ (by show am-(Yc+1)<am-d;omega);exact ⟨by show Yc+1<=am;omega,Z,λj a C w=>by
    by_cases Yh:j=Yc
    .subst Yh;rw[U]at C;rw[<-gs C];exact Ye
    .exact DF (Is E C U (by have:j<Yc+1:=w;omega)) Ye,i⟩
  |false=>
   have P:bb .lss (vd x s) 0=some false:=by simp only[bb];rw[t,Ye]
   refine Tb ?_;refine aa 8 ?_;refine Out.C' N (d,Yc) ?_ (by show Yc-d<am-d;omega);exact ⟨by show d<=Yc;omega,by show Yc<=_;omega,D,λj a C w=>by
    by_cases Yh:j=Yc
    .subst Yh;rw[U]at C;rw[<-gs C];exact Ye
    .cases Yj:iM a s with
     |false=>rfl
     |true=>
      have:=DF (Is E U C (by have:Yc<=j:=w;omega)) Yj;rw[Ye]at this;cases this⟩
 .obtain rfl:d=am:=by omega
  have G:AC l s d:=⟨Z,λj a C=>Iff.intro (λh=>(Decidable.of_not_not λw=>by rw[i j a C ac]at h;cases h)) (λh=>D j a C h)⟩
  clear N;by_cases Yg:d<l.length
  .obtain⟨x,U⟩:=cl Yg;rcases z with⟨rfl,rfl⟩|⟨g,Q,rfl,L,R⟩
   .simp at Yg
   have o:=Ir x s;refine aa 15 ?_;refine ah.p' ?_ aC.d'.d';refine ae 5 0 ?_;refine bK 39 ?_;refine ae 3 5 ?_;refine af.n' 8 rfl (V.E' ad (k:=d) rfl rfl rfl rfl ac) ?_;refine af.n' 9 rfl (V.K' ad rfl VF bw.len U) ?_;refine ae 1 10 ?_;refine af.y' 11 rfl (aw.X5 rfl rfl (o) ?_);refine au ?_;refine ae 4 12 ?_;refine aa 4 ?_
   exact SV
  .refine aa 15 ?_;refine ah.p' ?_ aC.d'.d';refine ae 5 0 ?_;refine bK 39 ?_;refine ae 11 5 ?_;refine aa 4 ?_
   exact SV
def agQ(l:ab bw)(v:aj)(s:bw)(h:Nat)(K:l.length<=1000):ar prog 156 [v,I (l.length:Int),.slice (some ⟨h,0,none⟩) 1 1] [rows bw.c v 271 4 l,rows bw.c (.slice (some ⟨h,0,none⟩) 1 1) 271 4 [s]] (λr J=>∃k i,r=.slice (some ⟨k,0,none⟩) (l++[s]).length i/\J=[rows bw.c (.slice (some ⟨k,0,none⟩) (l++[s]).length i) 271 4 (l++[s])]):=by
 have t:(l.length+1)*1000<=10000000:=ac
 refine aF func156 λW=>?_;refine ah.fact (h6 (aH _)) λx=>?_;rcases x with⟨rfl,rfl⟩|⟨g,Q,rfl,F,p⟩
 .refine aa 9 ?_;refine ai.v (V.WD ad (i:=0) rfl rfl ac) ?_;refine aa 39 ?_;refine ai.o (O.Z' ad rfl rfl Vz (cz.rows ad VF bw.J') (λY U=>?_));refine aa 6 ?_
  exact Mx
 .refine aa 9 ?_;refine ai.v (V.WD ad (i:=l.length) rfl rfl ac) ?_;refine aa 34 ?_;refine ah.c (λd=>?_) (λd=>?_);replace d:=g5 d;refine aa 4 ?_;refine ai.o (O.Z' ad rfl rfl Vz (cz.rows ad VF bw.J') (λY U=>?_));refine aa 6 ?_
  exact Mx
  exact mq d
def afY:prog.funcs[219]?=some Tryz.f219:=Vw
def ai4{o:Type}{l:ab o}{i:Nat}{s:o}(h:i<l.length):(l.take (i+1)++l.drop i).take i++([s]++(l.take (i+1)++l.drop i).drop (i+[s].length))=l.take i++s::l.drop i:=by rw[oA VG,tE,qw ac,nX,x8 VG,List.drop_take_self];simp
def aiS{o:Type}{l:ab o}{i:Nat}{s z:o}(h:i<l.length)(C:ab o)(K:C=(l.take i++List.replicate (l.length+1-i) z).take i++([s]++(l.take i++List.replicate (l.length+1-i) z).drop (i+[s].length))):C.take (i+1)++((l.drop i).take (l.length-i)++C.drop (i+1+((l.drop i).take (l.length-i)).length))=l.take i++s::l.drop i:=by
 have p:(l.take i++List.replicate (l.length+1-i) z).take i=l.take i:=by rw[oA VG,tE,Nat.min_self]
 have u:C.length=l.length+1:=by rw[K];simp;omega
 have h:(l.drop i).take (l.length-i)=l.drop i:=lr VK;have k:(l.take i).length=i:=VG
 have j:C.drop (i+1+(l.drop i).length)=[]:=sc (by rw[u];simp;omega);rw[h,j,K,p];rw[db,<-ck (l.take i),oA VG,lr VG];simp
def alR(l:ab bw)(g Q:Nat)(s:bw)(U i:Nat)(am:i<l.length)(K:l.length<=1000):ar prog 156 [.slice (some ⟨g,0,none⟩) l.length Q,I (i:Int),.slice (some ⟨U,0,none⟩) 1 1] [rows bw.c (.slice (some ⟨g,0,none⟩) l.length Q) 271 4 l,rows bw.c (.slice (some ⟨U,0,none⟩) 1 1) 271 4 [s]] (λr J=>∃k N,r=.slice (some ⟨k,0,none⟩) (l.length+1) N/\J=[rows bw.c (.slice (some ⟨k,0,none⟩) (l.length+1) N) 271 4 (l.take i++s::l.drop i)]):=by
 have p:bb .eql (i:Int) (l.length:Int)=some false:=VA
 refine aF func156 λW=>?_;refine ah.fact (h6 (aH _)) λM=>?_;refine ah.fact (λw x=>Mi x) λZ=>?_;have y:l.length<=Q:=by
  rcases M with⟨h,_⟩|⟨k,N,h,Y,_⟩
  .cases h
  .cases h;exact Y
 by_cases G:l.length+1<=Q
 .have h:bb .gtr ((l.length:Int)+1) (Q:Int)=some false:=by simp[bb];omega
  have C:l.length+1<=l.length+1:=cx _;refine Nu ?_;refine aa 11 ?_;refine ai.v (V.Xm ad (j:=l.length+1) rfl rfl G) ?_;refine aa 11 ?_;refine ai.v (V.WD ad (i:=i+1) rfl rfl ac) ?_;refine ai.v (V.acF ad (i:=i+1) (L:=l.length) (l:=l) (t:=[s]) (x5:=252) (CV:=4) afY Vw Vw Vw Vw rfl rfl VF VF Z ac) ?_;refine aa 5 ?_;refine ah.p' ?_ aC.j.j;refine Oz ?_;refine af.y' 8 rfl (aw.acD ad (i:=i) (o:=l.length) (l:=l) rfl rfl VJ ac rfl am G bw.len bw.J' ?_);refine aa 7 ?_;refine ai.v (V.WD ad (i:=i) rfl rfl ac) ?_;refine au ?_;refine ai.o (aw.ZQ ad (o:=i) (s:=[s]) (j:=l.take (i+1)++l.drop i) rfl rfl (cz.rows ad VF bw.J') VJ VG ac ac bw.len bw.J' ?_);refine aa 11 ?_
  .rw[ai4 am];exact⟨_,_,⟨_,_,rfl,rfl⟩,VH⟩
 .have h:bb .gtr ((l.length:Int)+1) (Q:Int)=some true:=by simp[bb];omega
  have w:zJ .sub .i64 ((l.length:Int)+1) (i:Int)=some ((l.length+1-i:Nat):Int):=by simp only[zJ,fj];rw[show(l.length:Int)+1-(i:Int)=((l.length+1-i:Nat):Int) by omega];exact It _ ac
  have P:i+(l.length+1-i)=l.length+1:=ac
  refine Nu ?_;refine aa 7 ?_;refine ai.v (V.Xm ad (j:=i) rfl rfl ac) ?_;refine aa 4 ?_;refine ai.v (V.acp rfl rfl w) ?_;refine ai.o (aw.acE ad (i:=i) (Yc:=l.length) (l:=l) (k:=l.length+1-i) bw.z rfl rfl VF ac ac ac bw.len (λh k p=>?_));refine aa 7 ?_;refine ai.v (V.WD ad (i:=i) rfl rfl ac) ?_;refine au ?_;refine ai.o (aw.ZQ ad (o:=i) (s:=[s]) (j:=l.take i++List.replicate (l.length+1-i) bw.z) rfl rfl (cz.rows ad VF bw.J') VJ VG ac ac bw.len bw.J' ?_);refine aa 3 ?_;refine ah.p' ?_ aC.j.j.j;refine Oz ?_;refine af.y' 8 rfl (aw.ZQ ad (o:=i+1) (s:=(l.drop i).take (l.length-i)) rfl rfl (cz.part ad (i:=i) (j:=l.length) (l:=l) rfl VF ac ac bw.len bw.J') VJ VG ac ac bw.len bw.J' ?_);refine aa 12 ?_
  .rw[aiS am _ rfl,P];exact⟨_,_,⟨_,_,rfl,rfl⟩,VH⟩
end Go.Proofs.YteogojgnkjegmaaGreatDoor
