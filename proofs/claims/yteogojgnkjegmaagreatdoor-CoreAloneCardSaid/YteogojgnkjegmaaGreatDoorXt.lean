/-
 Part of the proof.
-/
import Derived.Test.YteogojgnkjegmaaGreatDoorXs
set_option linter.all false
set_option maxRecDepth 8000
set_option maxHeartbeats 8000000
namespace Go.Proofs.YteogojgnkjegmaaGreatDoor
open Go.ay Go.Proofs.Tryz
variable[Go.ay.bR]
def ez(U:Int)(l:ab aD):ab aD:=l.filter λm=>decide (m.b3=U)
noncomputable def gx(n U:Int)(l:ab aD):ab b0:=(l.filter λm=>!decide (m.b3=U)&&eo m n).map λm=>⟨U,m.b3,gj m⟩
def abS(U:Int)(l:ab aD)(m:aD):ez U (l++[m])=ez U l++(if m.b3=U then[m]else[]):=by unfold ez;rw[mq];congr 1;by_cases h:m.b3=U<;>simp[h]
def abC(n U:Int)(l:ab aD)(m:aD):gx n U (l++[m])=gx n U l++(if m.b3=U then[]else if eo m n=true then[⟨U,m.b3,gj m⟩]else[]):=by
 unfold gx;rw[mq,iA];congr 1;by_cases h:m.b3=U
 .simp[h]
 .cases q:eo m n<;>simp[h,q]
theorem FJ(U:Int)(l:ab aD):(ez U l).length<=l.length:=ri _ _
theorem FK(n U:Int)(l:ab aD):(gx n U l).length<=l.length:=by unfold gx;rw[ev];exact ri _ _
def ad9(b:Nat)(R:fH)(P:ab aD)(u:ab b0)(s:aQ Go.Addr)(C:Nat)(l:ab aD)(F:R.n<=7)(fE:l.length<=1000)(ao:P.length<=1000000)(dz:u.length<=1000000):ar prog 59 [au b 0,.slice s l.length C] [cells b 95 R.c,dF aD.c R.inbox 176 25 P,rows b0.c R.out 143 3 u,cv,rows aD.c (.slice s l.length C) 176 25 l] (λr Y=>∃J a,r=.tuple #[]/\Y=[cells b 95 ({R with inbox:=J,out:=a}:fH).c,dF aD.c J 176 25 (P++ez R.self l),rows b0.c a 143 3 (u++gx R.n R.self l),cv,rows aD.c (.slice s l.length C) 176 25 l]):=by
 refine aB func59 λW=>?_;refine ah.fact (hM (f:=aD.c) (v:=.slice s l.length C) (l:=l) aD.len XB) λX=>?_;obtain⟨Yc,E,eE,d,T⟩:=X;simp only[rk]at d;obtain⟨rfl,-,rfl⟩:=d;obtain⟨n,U,h,g,M,v3,v4,v5,mz,vD,uc,J,a,bC⟩:=R;dsimp only at F⊢;refine aa 8 ?_;refine ah.cb [9,8,0] (λz:Nat×aj×aj=>z.1<=l.length) (λz=>[(10,I (z.1:Int))])
  (λz=>[cells b 95 (fH.c ⟨n,U,h,g,M,v3,v4,v5,mz,vD,uc,z.2.1,z.2.2,bC⟩),dF aD.c z.2.1 176 25 (P++ez U (l.take z.1)),rows b0.c z.2.2 143 3 (u++gx n U (l.take z.1))]) (λz=>l.length-z.1) (0,J,a) (cw _) ?_ (d:=by rw[uU,show ez U []=[]from rfl,show gx n U []=[]from rfl,dk,dk];(repeat(first|exact ak.nil|exact al.here|apply ak.cons|apply al.there)))
 rintro⟨k,J,a⟩ L K p;dsimp only at L;refine bh ?_;by_cases x:k<l.length
 .obtain⟨m,X⟩:=b8 x;have q:l.take (k+1)=l.take k++[m]:=by rw[mY,X];rfl
  have cm:(P++ez U (l.take k)).length<=1001000:=by have:=FJ U (l.take k);rw[eX]at this;rw[bM];omega
  have dd:(u++gx n U (l.take k)).length<=1001000:=by have:=FK n U (l.take k);rw[eX]at this;rw[bM];omega
  have Z:P++ez U (l.take (k+1))=(P++ez U (l.take k))++(if m.b3=U then[m]else[]):=by rw[q,abS,cd]
  have N:u++gx n U (l.take (k+1))=(u++gx n U (l.take k))++(if m.b3=U then[]else if eo m n=true then[⟨U,m.b3,gj m⟩]else[]):=by rw[q,abC,cd]
  have o:=agj m n F;have j:=λ(y:aj×aj) (_:True) (_:True)=>p (k+1,y.1,y.2) (by show k+1<=l.length;omega) Ht;dsimp only at j;rw[Z,N]at j;clear Z N p;generalize P++ez U (l.take k)=dy at*;generalize u++gx n U (l.take k)=bG at*;by_cases i:m.b3=U
  .refine aa 14 ?_;refine ai.v (V.RP ad rfl T (iM X)) ?_;refine aq 0 λQ=>?_;refine aa 4 ?_;refine ah.n' ?_ aA.j.j.j.j.d'.d';refine ae 7 0 ?_;refine aa 3 ?_;refine ah.RN [10] ?_ aA.j.j.j.j.d'.d' aA.j.j.j.j.j.d';refine P2 ?_;refine af.p' 6 rfl (O.N' ad aD.c [m] rfl (bx.agg rfl bx.nil) rfl rfl (λYg=>?_));refine av ?_;refine af.p' 7 rfl (O.Va ad rfl rfl XJ (ce.rows (l:=[m]) ad XB aD.B') (λYh G=>?_));refine av ?_;refine ae 2 8 ?_;refine af.l 10 rfl (O.G' ad ?_);refine aa 8 ?_;rotate_left;rw[aT i,aT i,dk]at j;all_goals exact Out.t' j (_,a) trivial trivial
  .cases D:eo m n
   .rw[D,aN XG]at o;refine QK λQ=>?_;refine aa 16 ?_;rotate_left;rw[aN i,aN i,aN (by rw[D];decide),dk,dk]at j;all_goals exact Out.t' j (J,a) trivial trivial
   .rw[D,aT rfl]at o;refine QK λQ=>?_;refine aa 9 ?_;refine ah.RN [17] ?_ aA.j.j.j.d'.d'.j aA.j.j.j.j.d'.j;refine ae 4 0 ?_;refine ae 3 5 ?_;refine ae 3 9 ?_;refine Pw ?_;refine af.i' 12 rfl (V.Sj ad) ?_;refine c1 13 λYe=>?_;refine af.p' 14 rfl (O.O' ad rfl rfl XJ (ce.one ad XB b0.B') (λYf w=>?_));refine av ?_;refine ae 2 15 ?_;refine af.l 17 rfl (O.G' ad ?_);refine aa 8 ?_;rotate_left;rw[aN i,aN i,aT D,dk]at j;all_goals exact Out.t' j (J,_) trivial trivial
 .obtain rfl:k=l.length:=by omega
  clear p;rw[hE];refine aa 12 ?_;all_goals exact⟨_,_,⟨_,_,rfl,rfl⟩,XC⟩
noncomputable def aC.send(s:aC)(l:ab aD):aC:={s with inbox:=s.inbox++ez s.self l,out:=s.out++gx s.n s.self l}
def sA(b:Nat)(L:cO)(s:aC)(m:aQ Go.Addr)(C:Nat)(l:ab aD)(a:s.n<=7)(E:l.length<=1000)(ao:s.inbox.length<=1000000)(Z:s.out.length<=1000000):ar prog 59 [au b 0,.slice m l.length C] (rows aD.c (.slice m l.length C) 176 25 l::(bX b L s++[cv])) (λr Y=>∃i,r=.tuple #[]/\Y=bX b i (s.send l)++[cv]):=by
 have u:=ad9 b ⟨s.n,s.self,s.now,au L.dC 0,.map (some L.eE),.map (some L.gH),au L.dt 0,au L.dJ 0,au s.M.b 0,.map (some L.dA),.map (some L.bY),L.ey,L.dH,L.bC⟩ s.inbox s.out m C l a E ao Z;have k:=ar.frame (bc:=[fe L.dC s.bD s.X s.aH,bn bW cL L.eE s.leads,eS iq s.leads,bn bW cL L.gH s.bp,eS gg s.bp,jy L s,i0 L.dJ L.dr s.run,k1 s.M,bn bW h6 L.dA s.dw,bn bW kh L.bY s.high,rows ff.c L.bC 65 6 s.told]) u;have Q:ak (rows aD.c (.slice m l.length C) 176 25 l::(bX b L s++[cv])) [cells b 95 (ec L s),dF aD.c L.ey 176 25 s.inbox,rows b0.c L.dH 143 3 s.out,cv,rows aD.c (.slice m l.length C) 176 25 l] [fe L.dC s.bD s.X s.aH,bn bW cL L.eE s.leads,eS iq s.leads,bn bW cL L.gH s.bp,eS gg s.bp,jy L s,i0 L.dJ L.dr s.run,k1 s.M,bn bW h6 L.dA s.dw,bn bW kh L.bY s.high,rows ff.c L.bC 65 6 s.told]:=XC
 refine ar.RR (ar.eqv (aL.RS Q.perm) k (R:=_) λr Y h=>⟨Y,h,aL.refl _⟩) ?_;rintro v Y W D w⟨_,⟨U,P,rfl,rfl⟩,rfl⟩ f;refine⟨_,⟨{L with ey:=U,dH:=P},rfl,rfl⟩,?_⟩;refine f.gB (o:=[rows aD.c (.slice m l.length C) 176 25 l]) ?_;unfold bX aC.send ec jy;refine bh ?_;exact XC
def jz:g1 prog 86 46 132=true:=rfl
def jA:g1 prog 87 46 196=true:=rfl
def v2:g1 prog 91 46 48=true:=rfl
def FL(w:aY):(Go.zeroValue 48).run prog w=.ok (A bk.z.c) w:=rfl
def N5(L:cO)(s:aC)(x:ag)(m:aQ Go.Addr)(C:Nat)(E:s.pl.length<=1000):ar prog 184 [au L.dt 0,.slice m 1 C] [jy L s,rows ag.c (.slice m 1 C) 46 2 [x]] (λr Y=>∃X,r=.tuple #[]/\Y=[jy {L with dI:=X} {s with pl:=hv x s.pl,eT:=eC s.eT x},rows ag.c (.slice m 1 C) 46 2 [x]]):=by
 refine ar.known (p:=∃b,Rd (rows ag.c (.slice m 1 C) 46 2 [x]) m 1 b 0 2 ([x].map ag.c)) (λw y=>?_) ?_
 .obtain⟨k,Q,b,d,T⟩:=hM (f:=ag.c) (v:=.slice m 1 C) (l:=[x]) ag.len (aF _ (aE _)) w y;simp only[rk]at d;obtain⟨rfl,-,rfl⟩:=d;exact⟨b,T⟩
 .rintro⟨b,T⟩;have a:=NX L.dt s.n s.self L.wp L.c4 L.dI s.de s.pl s.eT x m C b 0 _ T E;exact Ln
structure mA(s:aC)(x:ag)(cn:aC):Prop where
 go:∃ub,s.run.S8 x (b7 s.aH.p x).Call ub/\
  cn={s with leads:=eC s.leads x,bp:=eC s.bp x,high:=eC s.high x,pl:=hv x s.pl,eT:=eC s.eT x,run:=ub}
def adx(b:Nat)(L:cO)(s:aC)(k:Nat)(h:RepI k s)(E:s.aH.ok)(x:ag)(U:(b7 s.aH.p x).Status=3):ar prog 126 [au b 0,A x.c] (bX b L s) (λr Y=>∃n z,mA s x z/\r=.tuple #[]/\Y=bX b n z):=by
 have F:ar prog 126 [au b 0,A x.c] (bX b L s) (λr Y=>∃Yf Yj Yc,s.run.S8 x (b7 s.aH.p x).Call Yc/\r=.tuple #[]/\
   Y=[eS iq s.leads,eS gg s.bp,cells b 95 (ec L s),fe L.dC s.bD s.X s.aH,bn bW cL L.eE (eC s.leads x),bn bW cL L.gH (eC s.bp x),jy {L with dI:=Yf} {s with pl:=hv x s.pl,eT:=eC s.eT x},i0 L.dJ Yj Yc,k1 s.M,bn bW h6 L.dA s.dw,bn bW kh L.bY (eC s.high x),
    dF aD.c L.ey 176 25 s.inbox,rows b0.c L.dH 143 3 s.out,rows ff.c L.bC 65 6 s.told]):=by
  have d:=xQ L.dC s.bD s.X s.aH x E.p.towf
  have N (g:Nat):=N5 L s x (some ⟨g,0,none⟩) 1 (by have:=h.fs.len;omega)
  have T:=E5 L.dJ L.dr s.run h.run.g (by have:=h.run.Tq;omega) x (b7 s.aH.p x).Call
  obtain⟨q,m,G,t,Q,Z,o,dJ,C,j,R,K,P,bC⟩:=L
  unfold bX ec
  dsimp only at d N T⊢
  generalize b7 s.aH.p x=i at*
  refine aB func126 λW=>?_
  have y:a8 .eql i.Status 3=some true:=by simp[a8,U]
  refine aq 2 λa=>?_
  refine aa 3 ?_
  refine ah.n' ?_ aA.j.j.j.j.j.j.j.j.j.j.j.j.j.d'.d'
  refine ae 5 0 ?_
  refine af.bu 5 6 rfl rfl ?_ ?_
  refine aw.R' rfl (d) XC ?_
  refine aa 2 ?_
  refine c1 6 λJ=>?_
  refine ae 1 7 ?_
  refine aa 7 ?_
  refine ai.v (V.cmp rfl rfl y) ?_
  refine aa 4 ?_
  refine ah.n' ?_ aA.j.j.j.j.j.j.j.j.j.j.j.j.d'.d'.j.j
  refine ae 5 0 ?_
  refine af.p' 5 rfl (aw.St (l:=s.leads) (k:=x) (aR:=cL) cq jz rfl rfl XH ?_)
  refine aa 4 ?_
  refine ah.n' ?_ aA.j.j.j.j.j.j.j.j.j.j.j.j.d'.d'.j.j
  refine ae 5 0 ?_
  refine af.p' 5 rfl (aw.St (l:=s.bp) (k:=x) (aR:=cL) cq jA rfl rfl XH ?_)
  refine aa 4 ?_
  refine ah.n' ?_ aA.j.j.j.j.j.j.j.j.j.j.j.j.d'.d'.j.j
  refine ae 5 0 ?_
  refine af.p' 5 rfl (aw.St (l:=s.high) (k:=x) (aR:=kh) cq v2 rfl rfl XH ?_)
  refine aa 4 ?_
  refine ah.n' ?_ aA.j.j.j.j.j.j.j.j.j.j.j.j.d'.d'.j.j
  refine ae 5 0 ?_
  refine af.p' 5 rfl (O.N' ad ag.c [x] rfl (bx.agg rfl bx.nil) rfl rfl (λYk=>?_))
  refine av ?_
  refine af.o' 6 rfl rfl (N _) ?_
  rintro _ _⟨Yn,rfl,rfl⟩
  refine aa 5 ?_
  refine ah.n' ?_ aA.j.j.j.j.j.j.j.j.j.j.j.d'.d'.j.d'.j.j
  refine ae 7 0 ?_
  refine af.o' 7 rfl rfl (T) ?_
  rintro v5 E9⟨Yo,⟨⟨rfl,Ye⟩,rfl⟩⟩
  refine aa 7 ?_
  rotate_left
  refine O.K' ad (λJ=>?_)
  refine av ?_
  refine af.o' 5 rfl rfl (d) ?_
  refine aa 2 ?_
  refine ae 1 7 ?_
  refine aa 7 ?_
  refine ai.v (V.cmp rfl rfl y) ?_
  refine aa 4 ?_
  refine ah.n' ?_ aA.j.j.j.j.j.j.j.j.j.j.j.j.d'.d'.j.j
  refine ae 5 0 ?_
  refine af.p' 5 rfl (aw.St (l:=s.leads) (k:=x) (aR:=cL) cq jz rfl rfl XH ?_)
  refine aa 4 ?_
  refine ah.n' ?_ aA.j.j.j.j.j.j.j.j.j.j.j.j.d'.d'.j.j
  refine ae 5 0 ?_
  refine af.p' 5 rfl (aw.St (l:=s.bp) (k:=x) (aR:=cL) cq jA rfl rfl XH ?_)
  refine aa 4 ?_
  refine ah.n' ?_ aA.j.j.j.j.j.j.j.j.j.j.j.j.d'.d'.j.j
  refine ae 5 0 ?_
  refine af.p' 5 rfl (aw.St (l:=s.high) (k:=x) (aR:=kh) cq v2 rfl rfl XH ?_)
  refine aa 4 ?_
  refine ah.n' ?_ aA.j.j.j.j.j.j.j.j.j.j.j.j.d'.d'.j.j
  refine ae 5 0 ?_
  refine af.p' 5 rfl (O.N' ad ag.c [x] rfl (bx.agg rfl bx.nil) rfl rfl (λYk=>?_))
  refine av ?_
  refine af.o' 6 rfl rfl (N _) ?_
  rintro _ _⟨Yl,rfl,rfl⟩
  refine aa 5 ?_
  refine ah.n' ?_ aA.j.j.j.j.j.j.j.j.j.j.j.d'.d'.d'.j.j.j
  refine ae 7 0 ?_
  refine af.o' 7 rfl rfl (T) ?_
  rintro Yh Yi⟨Ym,⟨⟨rfl,Yg⟩,rfl⟩⟩
  refine aa 7 ?_
  rotate_left
  all_goals exact⟨_,_,⟨_,_,_,XF,rfl,rfl⟩,XC⟩
 refine ar.RR F ?_;rintro v Y W D w⟨Yf,Yj,Yc,u,rfl,rfl⟩ f;have F:=sz gg s.bp x ((sz iq s.leads x f).perm (gZ ..));refine⟨_,⟨{L with dI:=Yf,dr:=Yj},_,⟨⟨Yc,u,rfl⟩⟩,rfl,rfl⟩,F.gB (o:=[]) ?_⟩;unfold bX;exact XC
end Go.Proofs.YteogojgnkjegmaaGreatDoor
namespace Go.ay
open Go
variable[Go.ay.bR]
section
variable{P:bF}{r:aQ Nat}{W:aY}{D:ab Nat}{n:c7}{Q:cE}{Y:bv}{F:ab ax}{J:Nat}{C:aZ}{U:String}{M:Array Edge}{G:aQ (Nat×Bool)}{Z R:Type}[DecidableEq Z]{N:Z->aj}{aR:R->aj}{K:aZ}{l:ab (Z×R)}
def aK.Sr{t e:aZ}{x y:bd}{b:Nat}{k:Z}{o:aj}(q:br l k=none)(a:gO P K N)(j:g1 P t K e=true)(c:∀w,(zeroValue e).run P w=.ok o w) (u:aO Y x=some (.map (some b))) (T:aO Y y=some (N k)) (E:bn N aR b l∈F):aK P n Y F ⟨some J,.lookup t x y false,C,U,M,G⟩ o:=Mj
def aK.hj{t e:aZ}{x y:bd}{b:Nat}{k:Z}{u:aj}{v:R}(q:br l k=some v)(a:gO P K N)(j:g1 P t K e=true)(c:∀w,(zeroValue e).run P w=.ok u w) (u:aO Y x=some (.map (some b))) (T:aO Y y=some (N k)) (E:bn N aR b l∈F):aK P n Y F ⟨some J,.lookup t x y false,C,U,M,G⟩ (aR v):=Mj
end
end Go.ay
namespace Go.Proofs.YteogojgnkjegmaaGreatDoor
open Go.ay Go.Proofs.Tryz
variable[Go.ay.bR]
def k4(w:aY):(Go.zeroValue 132).run prog w=.ok (.pointer none) w:=rfl
def lE(w:aY):(Go.zeroValue 196).run prog w=.ok (.pointer none) w:=rfl
section
variable{P:bF}{f:eg}{args:ab aj}{Z X:Type}{bG:dQ Z->ab ax}{l:ab (ag×dQ Z)}{x:ag}{e:dQ Z}
def ar.Uk{Q:aj->X->Prop}{c:X->dQ Z}(q:br l x=some e)(h:ar P f args (bG e) (λr u=>∃z,Q r z/\u=bG (c z))):ar P f args [eS bG l] (λr u=>∃z,Q r z/\u=[eS bG (bw l x (c z))]):=by refine ar.eqv (vY bG q) (ar.frame (bc:=[eS bG (eC l x)]) h) ?_;rintro r u⟨_,⟨z,T,rfl⟩,rfl⟩;exact⟨_,⟨z,T,rfl⟩,(AE bG l x (c z)).symm⟩
def ar.gg{Q:aj->Prop}(q:br l x=some e)(h:ar P f args (bG e) (λr u=>Q r/\u=bG e)):ar P f args [eS bG l] (λr u=>Q r/\u=[eS bG l]):=by refine ar.eqv (vY bG q) (ar.frame (bc:=[eS bG (eC l x)]) h) ?_;rintro r u⟨_,⟨T,rfl⟩,rfl⟩;exact⟨_,⟨T,rfl⟩,(vY bG q).symm⟩
end
def aC.Sb(s:aC)(x:ag)(b:bk):ab (ag×dQ a2):=match br s.leads x with
 |some e=>if g2 e.v.b2 b=true then eC s.leads x else s.leads
 |none=>s.leads
def aC.Sc(s:aC)(x:ag)(b:bk):ab (ag×dQ bO):=match br s.bp x with
 |some e=>if g2 e.v.x.b2 b=true then eC s.bp x else s.bp
 |none=>s.bp
def h8(s:aC)(x:ag)(z:aC):Prop:=
 z={s with leads:=s.Sb x (b7 s.aH.p x).cJ,bp:=s.Sc x (b7 s.aH.p x).cJ,de:=(g5 s.n s.self s.now s.eT [x] (s.de,s.pl)).1,pl:=(g5 s.n s.self s.now s.eT [x] (s.de,s.pl)).2}
def N7(b:Nat)(L:cO)(s:aC)(k:Nat)(h:RepI k s)(t:k<=1000000000000)(d:s.aH.ok)(x:ag)(z:bB x 7=true)(T:(b7 s.aH.p x).Status≠3):ar prog 126 [au b 0,A x.c] (bX b L s) (λr u=>∃gm j,h8 s x j/\r=.tuple #[]/\u=bX b gm j):=by
 have Yf:ar prog 126 [au b 0,A x.c] (bX b L s) (λr u=>∃Yg,r=.tuple #[]/\
   u=[eS iq s.leads,eS gg s.bp,cells b 95 (ec L s),fe L.dC s.bD s.X s.aH,bn bW cL L.eE (s.Sb x (b7 s.aH.p x).cJ),bn bW cL L.gH (s.Sc x (b7 s.aH.p x).cJ),jy {L with dI:=Yg} {s with de:=(g5 s.n s.self s.now s.eT [x] (s.de,s.pl)).1,pl:=(g5 s.n s.self s.now s.eT [x] (s.de,s.pl)).2},i0 L.dJ L.dr s.run,k1 s.M,bn bW h6 L.dA s.dw,bn bW kh L.bY s.high,
    dF aD.c L.ey 176 25 s.inbox,rows b0.c L.dH 143 3 s.out,rows ff.c L.bC 65 6 s.told]):=by
  have dO:=xQ L.dC s.bD s.X s.aH x d.p.towf
  have hB (g:Nat):=AG L s k h t s.now h.now (some ⟨g,0,none⟩) 1 [x] XE ZG
  obtain⟨m,eE,gH,dt,wp,c4,dI,dJ,dr,dA,o,ey,dH,bC⟩:=L
  unfold bX ec
  simp only[m4]at hB
  dsimp only at dO hB⊢
  generalize b7 s.aH.p x=i at*
  refine aB func126 λW=>?_
  have y:a8 .eql i.Status 3=some false:=by simp[a8,T]
  refine aq 2 λfI=>?_
  refine aa 2 ?_
  refine ah.mt [0,3] (λ_:Nat=>True) (λp=>[(4,au p 0)]) (λp=>[cells p 54 i.c]) (b:=[]) ?_ ?_
  .intro fa Yc
   refine ah.n' ?_ aA.j.j.j.j.j.j.j.j.j.j.j.j.j.d'.d'
   refine ae 5 0 ?_
   refine af.bu 5 6 rfl rfl ?_ ?_
   refine aw.R' rfl (dO) XC ?_
   refine aa 2 ?_
   refine c1 6 λfp=>?_
   refine ae 1 7 ?_
   refine av ?_
   rotate_left
   refine O.K' ad (λfp=>?_)
   refine av ?_
   refine af.o' 5 rfl rfl (dO) ?_
   refine aa 2 ?_
   refine ae 1 7 ?_
   refine av ?_
   rotate_left
   all_goals exact Out.t' Yc _ trivial trivial
  rintro fp-
  refine bh ?_
  refine aa 5 ?_
  refine ai.v (V.cmp rfl rfl y) ?_
  refine aa 5 ?_
  refine ah.mt [0,3,4] (λ_:Unit=>True) (λ_=>[]) (λ_=>[bn bW cL eE (s.Sb x i.cJ)]) (b:=[bn bW cL eE s.leads]) ?_ ?_
  .intro fa Yc
   unfold aC.Sb at Yc
   cases E:br s.leads x with
   |none=>
    rw[E]at Yc;refine Ny ?_;refine ae 5 0 ?_;refine af.p' 5 rfl (aw.q' (aK.Sr (l:=s.leads) (k:=x) (aR:=cL) E cq jz k4 rfl rfl XB) ?_);refine av ?_;refine ae 1 6 ?_;refine aa 3 ?_;refine ah.n' ?_ aA.j.j.j.j.j.j.j.j.j.j.j.j.j.j.j.d';refine ae 9 0 ?_;refine aa 4 ?_;all_goals exact Out.t' Yc () trivial trivial
   |some e=>
    rw[E]at Yc;have ly:=ar.gg (bG:=iq) E (aeN e.p e.v);have lA:=r6 e.v.b2 i.cJ;dsimp only at Yc;cases Ye:g2 e.v.b2 i.cJ
    .rw[Ye]at lA Yc;rw[aN XG]at Yc;refine KX ?_;refine aa 4 ?_;all_goals exact Out.t' Yc () trivial trivial
    .rw[Ye]at lA Yc;rw[aT rfl]at Yc;refine KX ?_;refine aa 3 ?_;refine ah.n' ?_ aA.j.j.j.j.j.j.j.j.j.j.j.j.d'.d'.j.j;refine ae 5 0 ?_;refine af.p' 5 rfl (aw.St (l:=s.leads) (k:=x) (aR:=cL) cq jz rfl rfl XH ?_);refine aa 2 ?_;all_goals exact Out.t' Yc () trivial trivial
  rintro⟨⟩-
  refine bh ?_
  generalize s.Sb x i.cJ=Yh
  refine ah.mt [0,3,4] (λ_:Unit=>True) (λ_=>[]) (λ_=>[bn bW cL gH (s.Sc x i.cJ)]) (b:=[bn bW cL gH s.bp]) ?_ ?_
  .intro fa Yc
   unfold aC.Sc at Yc
   cases E:br s.bp x with
   |none=>
    rw[E]at Yc;refine av ?_;refine ah.n' ?_ aA.j.j.j.j.j.j.j.j.j.j.j.j.d'.d'.j.j;refine ae 5 0 ?_;refine af.p' 5 rfl (aw.q' (aK.Sr (l:=s.bp) (k:=x) (aR:=cL) E cq jA lE rfl rfl XB) ?_);refine av ?_;refine ae 1 6 ?_;refine aa 3 ?_;refine ah.n' ?_ aA.j.j.j.j.j.j.j.j.j.j.j.j.j.j.d'.j;refine ae 9 0 ?_;refine aa 4 ?_;all_goals exact Out.t' Yc () trivial trivial
   |some e=>
    rw[E]at Yc;have ly:=ar.gg (bG:=gg) E (Au e.p e.q e.v);have lA:=r6 e.v.x.b2 i.cJ;dsimp only at Yc;cases Ye:g2 e.v.x.b2 i.cJ
    .rw[Ye]at lA Yc;rw[aN XG]at Yc;refine JR ?_;refine aa 4 ?_;all_goals exact Out.t' Yc () trivial trivial
    .rw[Ye]at lA Yc;rw[aT rfl]at Yc;refine JR ?_;refine aa 3 ?_;refine ah.n' ?_ aA.j.j.j.j.j.j.j.j.j.j.j.d'.d'.j.j.j;refine ae 5 0 ?_;refine af.p' 5 rfl (aw.St (l:=s.bp) (k:=x) (aR:=cL) cq jA rfl rfl XH ?_);refine aa 2 ?_;all_goals exact Out.t' Yc () trivial trivial
  rintro⟨⟩-
  refine bh ?_
  generalize s.Sc x i.cJ=Yi
  refine ah.n' ?_ aA.j.j.j.j.j.j.j.j.j.j.j.d'.d'.j.j.j
  refine ae 9 0 ?_
  refine af.p' 9 rfl (O.N' ad ag.c [x] rfl (bx.agg rfl bx.nil) rfl rfl (λYk=>?_))
  refine av ?_
  refine af.o' 10 rfl rfl (hB _) ?_
  rintro _ _⟨Yj,rfl,rfl⟩
  exact aM 4
  all_goals exact⟨_,_,⟨_,rfl,rfl⟩,XC⟩
 refine ar.RR Yf ?_;rintro v u W D w⟨Yg,rfl,rfl⟩ a;have g {F:ab ax} (a:H W D (eS iq s.leads::F) w):H W D (eS iq (s.Sb x (b7 s.aH.p x).cJ)::F) w:=by
  unfold aC.Sb;split
  .split
   .exact sz iq s.leads x a
   .exact a
  .exact a
 have T {F:ab ax} (a:H W D (eS gg s.bp::F) w):H W D (eS gg (s.Sc x (b7 s.aH.p x).cJ)::F) w:=by
  unfold aC.Sc;split
  .split
   .exact sz gg s.bp x a
   .exact a
  .exact a
 have u:=T ((g a).perm (gZ ..));refine⟨_,⟨{L with dI:=Yg},_,rfl,rfl,rfl⟩,u.gB (o:=[]) ?_⟩;unfold bX;exact XC
end Go.Proofs.YteogojgnkjegmaaGreatDoor
namespace Go.Proofs.YteogojgnkjegmaaGreatDoor
open Go.ay Go.Proofs.Tryz
variable[Go.ay.bR]
section
variable{P:bF}{f:eg}{args:ab aj}{Y F:Type}{bG:dQ Y->ab ax}{l:ab (ag×dQ Y)}{x:ag}{e:dQ Y}
def ar.Tj{Q:aj->F->Prop}{T:F->ax}(q:br l x=some e)(h:ar P f args (bG e) (λr U=>∃z,Q r z/\U=T z::bG e)):ar P f args [eS bG l] (λr U=>∃z,Q r z/\U=[T z,eS bG l]):=by refine ar.eqv (vY bG q) (ar.frame (bc:=[eS bG (eC l x)]) h) ?_;rintro r U⟨_,⟨z,J,rfl⟩,rfl⟩;exact⟨_,⟨z,J,rfl⟩,aL.cons _ (vY bG q).symm⟩
end
def ah.TR{P:bF}{r:aQ Nat}{W:aY}{D:ab Nat}{n:c7}{Q:cE}{J:bv}{N K:ab ax}{c:Go.Code}{y Z:ax}(d:y=Z)(k:ah P r W D n Q c J (Z::K))(u:ak N [y] K:=by(repeat(first|exact ak.nil|exact al.here|apply ak.cons|apply al.there))):ah P r W D n Q c J N:=
 ah.hC (λw m=>by subst d;exact m.Se u) k
def aC.RT(s:aC)(m:aD):ab (ag×bk):=if m.Kind=8 then bw s.high m.Item (kb [(br s.high m.Item).getD bk.z,m.ch])else s.high
noncomputable def aC.RO(s:aC)(m:aD)(w:Nat):aC:=match br s.bp m.Item with
 |none=>s
 |some e=>
  if(e.v.z' m).2=true then
   (if(e.v.z' m).1.lost=true then{({s with bp:=bw s.bp m.Item ⟨e.p,w,(e.v.z' m).1⟩}:aC).send (e.v.z' m).1.C' with bp:=eC (bw s.bp m.Item ⟨e.p,w,(e.v.z' m).1⟩) m.Item}
   else({s with bp:=bw s.bp m.Item ⟨e.p,w,(e.v.z' m).1⟩}:aC).send (e.v.z' m).1.C')
  else{s with bp:=bw s.bp m.Item ⟨e.p,w,(e.v.z' m).1⟩}
noncomputable def aC.R5(s:aC)(m:aD):aC:=match br s.leads m.Item with
 |none=>s
 |some e=>
  if(e.v.z' m).2=true then
   (if(e.v.z' m).1.phase=4 then{({s with leads:=bw s.leads m.Item ⟨e.p,e.q,(e.v.z' m).1⟩}:aC).send (e.v.z' m).1.C' with leads:=eC (bw s.leads m.Item ⟨e.p,e.q,(e.v.z' m).1⟩) m.Item}
   else({s with leads:=bw s.leads m.Item ⟨e.p,e.q,(e.v.z' m).1⟩}:aC).send (e.v.z' m).1.C')
  else{s with leads:=bw s.leads m.Item ⟨e.p,e.q,(e.v.z' m).1⟩}
def rv(s:aC)(m:aD)(z:aC):Prop:=∃w,z=(({s with high:=s.RT m}:aC).RO m w).R5 m
structure RepW(s:aC):Prop where
 cC:∀x e,br s.leads x=some e->hp e.v s.n s.self x e.v.b2
 rs:∀x e,br s.bp x=some e->e.v.ok/\e.v.x.n=s.n
def qm(b:Nat)(L:cO)(s:aC)(k:ab (ag×dQ a2))(b4:ab (ag×dQ bO)):ab ax:=
 [cells b 95 (ec L s),fe L.dC s.bD s.X s.aH,bn bW cL L.eE s.leads,eS iq k,bn bW cL L.gH s.bp,eS gg b4,jy L s,i0 L.dJ L.dr s.run,k1 s.M,bn bW h6 L.dA s.dw,bn bW kh L.bY s.high,
  dF aD.c L.ey 176 25 s.inbox,rows b0.c L.dH 143 3 s.out,rows ff.c L.bC 65 6 s.told]
theorem bO.Su{r:bO}(h:r.ok):r.C'.length<=7:=by
 have:=h.n;unfold bO.C';split
 .simp
 .split
  .rename_i l E;have k:=h.cC l E;unfold a2.C';split
   .rw[a2.Tp,k.n];omega
   .simp
  .grind
theorem a2.Su{l:a2}{n W:Int}{it:ag}{D:bk}(k:hp l n W it D)(v:n<=7):l.C'.length<=7:=by
 unfold a2.C';split
 .rw[a2.Tp,k.n];omega
 .simp
def rx(s:aC)(l:ab aD):(s.send l).inbox.length<=s.inbox.length+l.length/\(s.send l).out.length<=s.out.length+l.length:=by grind [aC.send,List.length_append,FJ,FK]
def AI{s:aC}(m:aD)(w:Nat)(a:∀x e,br s.bp x=some e->e.v.ok):(s.RO m w).leads=s.leads/\(s.RO m w).n=s.n/\(s.RO m w).self=s.self/\(s.RO m w).inbox.length<=s.inbox.length+7/\(s.RO m w).out.length<=s.out.length+7:=by
 unfold aC.RO;split
 .grind
 .rename_i e d;have k:=bO.Su ((a _ _ d).z' m);have E:=rx ({s with bp:=bw s.bp m.Item ⟨e.p,w,(e.v.z' m).1⟩}:aC) (e.v.z' m).1.C';dsimp only at E;split
  .split
   .exact⟨rfl,rfl,rfl,X5,X5⟩
   .exact⟨rfl,rfl,rfl,ac,ac⟩
  .grind
def N8(b:Nat)(L:cO)(s:aC)(m:aD)(c6:3<=s.n/\s.n<=7)(my:RepW s)(ao:s.inbox.length<=999000)(dz:s.out.length<=999000):ar prog 127 [au b 0,A m.c] (bX b L s++[cv]) (λr J=>∃gm u,rv s m u/\r=.tuple #[]/\J=bX b gm u++[cv]):=by
 suffices Yc:ar prog 127 [au b 0,A m.c] (bX b L s++[cv]) (λr J=>∃gm u pl,(rv s m u/\(pl=u.leads\/u.leads=eC pl m.Item))/\r=.tuple #[]/\J=qm b gm u pl u.bp++[cv]) by
  refine ar.RR Yc ?_;rintro v J W D w⟨gm,u,pl,⟨eJ,Yh⟩,rfl,rfl⟩ cM;refine⟨_,⟨gm,u,eJ,rfl,rfl⟩,?_⟩;rcases Yh with rfl|Yh
  .exact cM.gB (o:=[]) PB
  .have cm:=cM.Se (bc:=[eS iq pl]) KJ;have dd:=sz iq pl m.Item cm;rw[<-Yh]at dd;exact dd.gB (o:=[]) Qz
 obtain⟨dC,E,o,dt,wp,c4,dI,dJ,dr,dA,X,ey,dH,bC⟩:=L;unfold bX ec;refine bh ?_;have Yo:∀x e,br s.leads x=some e->hp e.v s.n s.self x e.v.b2:=my.cC;refine aB func127 λW=>?_;generalize bg _=D;refine aq 2 λfI=>?_;refine aa 2 ?_;refine ah.mt [0,3] (λ_:Unit=>True) (λ_=>[]) (λ_=>[bn bW kh X (s.RT m)]) (b:=[bn bW kh X s.high]) ?_ ?_
 .intro fa j;unfold aC.RT at j;by_cases Yq:m.Kind=8
  .have eu:a8 .eql m.Kind 8=some true:=by simp[a8,Yq]
   rw[aT Yq]at j;have Ys (g:Nat):ar prog 138 [.slice (some ⟨g,0,none⟩) 2 2] [rows bk.c (.slice (some ⟨g,0,none⟩) 2 2) 48 2 [(br s.high m.Item).getD bk.z,m.ch]] _:=Dd _ _ 2 g 0 [(br s.high m.Item).getD bk.z,m.ch] (Rd.rows (l:=[(br s.high m.Item).getD bk.z,m.ch]) bk.len XE);refine aa 4 ?_;refine ai.v (V.cmp rfl rfl eu) ?_;refine aa 3 ?_;refine ah.n' ?_ aA.j.j.j.j.j.j.j.j.j.j.j.j.j.j.d'.d';refine ae 12 0 ?_;refine ae 2 13 ?_;refine af.p' 12 rfl (aw.q' (aK.RW (l:=s.high) (k:=m.Item) (aR:=kh) bk.z cq v2 FL rfl rfl XB) ?_);refine av ?_;refine af.p' 15 rfl (O.N' ad bk.c [(br s.high m.Item).getD bk.z,m.ch] rfl (bx.agg rfl (bx.agg rfl bx.nil)) rfl rfl (λYl=>?_));refine av ?_;refine af.o' 16 rfl rfl (Ys _) ?_;refine aa 2 ?_;refine af.p' 17 rfl (aw.R1 (l:=s.high) (k:=m.Item) (v:=kb [(br s.high m.Item).getD bk.z,m.ch]) (bN:=bW) (aR:=kh) cq v2 rfl rfl rfl XH ?_);refine aa 2 ?_;all_goals exact Out.t' j () trivial trivial
  .have eu:a8 .eql m.Kind 8=some false:=by simp[a8,Yq]
   rw[aN Yq]at j;refine aa 4 ?_;refine ai.v (V.cmp rfl rfl eu) ?_;refine aa 4 ?_;all_goals exact Out.t' j () trivial trivial
 rintro⟨⟩-;refine bh ?_;have y:∃Z:aC,Z=({s with high:=s.RT m}:aC):=⟨_,rfl⟩
 obtain⟨Z,y⟩:=y;unfold rv;rw[<-y];refine ah.mt [0,3] (λz:cO×aC×ab (ag×dQ bO)=>(∃t,z.2.1=Z.RO m t)/\(z.2.2=z.2.1.bp\/z.2.1.bp=eC z.2.2 m.Item)) (λ_=>[]) (λz=>qm b z.1 z.2.1 z.2.1.leads z.2.2++[cv]) (b:=qm b ⟨dC,E,o,dt,wp,c4,dI,dJ,dr,dA,X,ey,dH,bC⟩ Z Z.leads Z.bp++[cv]) ?_ ?_ (d:=Jq)
 .intro fa j;have Yk:Z.bp=s.bp:=by rw[y]
  cases K:br s.bp m.Item with
  |none=>
   have ep:=aeB m;refine Ny ?_;refine ae 6 0 ?_;refine af.p' 6 rfl (aw.q' (aK.Sr (l:=s.bp) (k:=m.Item) (aR:=cL) K cq jA lE rfl rfl XB) ?_);refine av ?_;refine ae 1 7 ?_;refine aa 11 ?_;all_goals(refine Out.t' j (⟨dC,E,o,dt,wp,c4,dI,dJ,dr,dA,X,ey,dH,bC⟩,Z,Z.bp) ?_ trivial (q:=Jq);exact ⟨⟨0,by unfold aC.RO;rw[Yk,K]⟩,.inl rfl⟩)
  |some e=>
   obtain⟨Ye,Yw⟩:=my.rs _ _ K;have cM:=ar.Uk (bG:=gg) (Q:=λr (_:Nat)=>r=B (e.v.z' m).2) (c:=λt=>⟨e.p,t,(e.v.z' m).1⟩) K (aft e.p e.q e.v Ye m);cases c8:(e.v.z' m).2<;>rw[c8]at cM
   .refine Ny ?_;refine ck λi=>?_;refine aa 5 ?_;all_goals(refine Out.t' j (⟨dC,E,o,dt,wp,c4,dI,dJ,dr,dA,X,ey,dH,bC⟩,{Z with bp:=bw s.bp m.Item ⟨e.p,i,(e.v.z' m).1⟩},bw s.bp m.Item ⟨e.p,i,(e.v.z' m).1⟩) ?_ trivial (q:=by subst y;unfold qm;dsimp only[List.cons_append,List.nil_append];rw[vZ o (c:=⟨e.p,i,(e.v.z' m).1⟩) K rfl];(repeat(first|exact ak.nil|exact al.here|apply ak.cons|apply al.there)));exact ⟨⟨i,by unfold aC.RO;rw[Yk,K];dsimp only;rw[aN (by rw[c8];decide)]⟩,.inl rfl⟩)
   .have Yr:=Ye.z' m;refine Ny ?_;refine ck λi=>?_;refine aa 4 ?_;refine ah.TR (vZ o (c:=⟨e.p,i,(e.v.z' m).1⟩) K rfl).symm ?_;generalize Yi:bw s.bp m.Item ⟨e.p,i,(e.v.z' m).1⟩=U;have bU:br U m.Item=some ⟨e.p,i,(e.v.z' m).1⟩:=by grind [kM]
    have G:=ar.Tj (bG:=gg) (Q:=λr (z:aQ Go.Addr×Nat)=>r=.slice z.1 (e.v.z' m).1.C'.length z.2) (T:=λz=>rows aD.c (.slice z.1 (e.v.z' m).1.C'.length z.2) 176 25 (e.v.z' m).1.C') bU (ar.post (As e.p i (e.v.z' m).1 Yr) Nx);have R:=ar.gg (bG:=gg) bU (acm e.p i (e.v.z' m).1 Yr);have a (cG:aQ Go.Addr) (C:Nat):=sA b ⟨dC,E,o,dt,wp,c4,dI,dJ,dr,dA,X,ey,dH,bC⟩ {Z with bp:=U} cG C (e.v.z' m).1.C' (by rw[y];exact c6.2) (by grind [bO.Su]) XK XK;unfold bX ec at a;dsimp only[List.cons_append,List.nil_append]at a G R;rw[y]at a;dsimp only at a;cases d:(e.v.z' m).1.lost<;>rw[d]at R
    .refine aa 5 ?_;refine Rn λYt M=>?_;refine aa 12 ?_;all_goals(refine Out.t' j (M,({Z with bp:=U}:aC).send (e.v.z' m).1.C',U) ?_ trivial (q:=Jq);exact ⟨⟨i,by unfold aC.RO;rw[Yk,K];dsimp only;rw[aT c8,aN (by rw[d];decide),Yi]⟩,.inl rfl⟩)
    .refine aa 5 ?_;refine Rn λYt M=>?_;refine aa 11 ?_;refine ah.n' ?_ aA.d'.j.j.j.j.j.j.j.j.j.j.j.j.j.d'.j;refine ae 6 0 ?_;refine af.p' 6 rfl (aw.St (l:=U) (k:=m.Item) (aR:=cL) cq jA rfl rfl XH ?_);refine aa 2 ?_;all_goals(refine Out.t' j (M,{({Z with bp:=U}:aC).send (e.v.z' m).1.C' with bp:=eC U m.Item},U) ?_ trivial (q:=Jq);exact ⟨⟨i,by unfold aC.RO;rw[Yk,K];dsimp only;rw[aT c8,aT d,Yi]⟩,.inr rfl⟩)
 rintro⟨fX,s1,b4⟩⟨⟨t,bb⟩,Ym⟩;dsimp only at bb Ym;dsimp only;refine ah.hC (aX:=bX b fX s1++[cv,cells fI 176 m.c]) (λw cB=>?_) ?_
 .rcases Ym with rfl|Ym
  .exact cB.gB (o:=[]) PB
  .have cm:=cB.Se (bc:=[eS gg b4]) KJ;have dd:=sz gg b4 m.Item cm;rw[<-Ym]at dd;exact dd.gB (o:=[]) Qz
 have N:=AI (s:=Z) m t (by rw[y];exactλx e ea=>(my.rs x e ea).1);rw[<-bb]at N;have Yg:s1.leads=s.leads:=by rw[N.1,y]
 have Yp:s1.n=s.n:=by rw[N.2.1,y]
 have Yv:s1.self=s.self:=by rw[N.2.2.1,y]
 have Yj:s1.inbox.length<=999100:=XK
 have Yn:s1.out.length<=999100:=XK
 rw[<-Yg]at Yo;clear N y;obtain⟨dC,E,o,dt,wp,c4,dI,dJ,dr,dA,X,ey,dH,bC⟩:=fX;unfold bX ec;refine bh ?_;cases K:br s1.leads m.Item with
 |none=>
  have ep:=L0 m;refine av ?_;refine ah.n' ?_ aA.d'.j.j.j.j.j.j.j.j.j.j.j.j.j.j.d';refine ae 6 0 ?_;refine af.p' 6 rfl (aw.q' (aK.Sr (l:=s1.leads) (k:=m.Item) (aR:=cL) K cq jz k4 rfl rfl XB) ?_);refine av ?_;refine ae 1 7 ?_;refine aa 12 ?_;all_goals exact⟨_,_,⟨⟨dC,E,o,dt,wp,c4,dI,dJ,dr,dA,X,ey,dH,bC⟩,s1,s1.leads,⟨⟨t,JM⟩,.inl rfl⟩,rfl,rfl⟩,XC⟩
 |some e=>
  have cc:=Yo _ _ K;have cM:=ar.Uk (bG:=iq) (Q:=λr (_:Unit)=>r=B (e.v.z' m).2) (c:=λ_=>⟨e.p,e.q,(e.v.z' m).1⟩) K (ar.post (Af e.p e.v cc.wf m (by rw[cc.n];omega)) (by rintro v J⟨rfl,rfl⟩;exact⟨_,⟨(),rfl,rfl⟩,λ_ _ _ h=>h⟩));have Yf:=xJ cc m;cases c8:(e.v.z' m).2<;>rw[c8]at cM
  .refine Pt λYu=>?_;refine aa 6 ?_;all_goals exact⟨_,_,⟨⟨dC,E,o,dt,wp,c4,dI,dJ,dr,dA,X,ey,dH,bC⟩,{s1 with leads:=bw s1.leads m.Item ⟨e.p,e.q,(e.v.z' m).1⟩},bw s1.leads m.Item ⟨e.p,e.q,(e.v.z' m).1⟩,⟨⟨t,JM⟩,.inl rfl⟩,rfl,rfl⟩,(by unfold qm;dsimp only[List.cons_append,List.nil_append];rw[vZ E (c:=⟨e.p,e.q,(e.v.z' m).1⟩) K rfl];(repeat(first|exact ak.nil|exact al.here|apply ak.cons|apply al.there)))⟩
  .refine Pt λYu=>?_;refine aa 4 ?_;refine ah.TR (vZ E (c:=⟨e.p,e.q,(e.v.z' m).1⟩) K rfl).symm ?_;generalize Yi:bw s1.leads m.Item ⟨e.p,e.q,(e.v.z' m).1⟩=U;have bU:br U m.Item=some ⟨e.p,e.q,(e.v.z' m).1⟩:=by grind [kM]
   have G:=ar.Tj (bG:=iq) (Q:=λr (z:aQ Go.Addr×Nat)=>r=.slice z.1 (e.v.z' m).1.C'.length z.2) (T:=λz=>rows aD.c (.slice z.1 (e.v.z' m).1.C'.length z.2) 176 25 (e.v.z' m).1.C') bU (ar.post (ar.nY aD.len (xI e.p (e.v.z' m).1 (by rw[Yf.n];omega))) Nx);have j:=ar.gg (bG:=iq) bU (Ad e.p (e.v.z' m).1);have a (cG:aQ Go.Addr) (C:Nat):=sA b ⟨dC,E,o,dt,wp,c4,dI,dJ,dr,dA,X,ey,dH,bC⟩ {s1 with leads:=U} cG C (e.v.z' m).1.C' (by show s1.n<=7;omega) (by grind [a2.Su]) XK XK;unfold bX ec at a;dsimp only[List.cons_append,List.nil_append]at a G j;by_cases d:(e.v.z' m).1.phase=4
   .have T:a8 .eql (e.v.z' m).1.phase 4=some true:=by simp[a8,d]
    refine aa 5 ?_;refine Rn λj b=>?_;refine aa 8 ?_;refine ai.v (V.cmp rfl rfl T) ?_;refine aa 3 ?_;refine ah.n' ?_ aA.d'.j.j.j.j.j.j.j.j.j.j.j.j.j.d'.j;refine ae 6 0 ?_;refine af.p' 6 rfl (aw.St (l:=U) (k:=m.Item) (aR:=cL) cq jz rfl rfl XH ?_);refine aa 3 ?_;all_goals exact⟨_,_,⟨b,{({s1 with leads:=U}:aC).send (e.v.z' m).1.C' with leads:=eC U m.Item},U,⟨⟨t,JM⟩,.inr rfl⟩,rfl,rfl⟩,XC⟩
   .have T:a8 .eql (e.v.z' m).1.phase 4=some false:=by simp[a8,d]
    refine aa 5 ?_;refine Rn λj b=>?_;refine aa 8 ?_;refine ai.v (V.cmp rfl rfl T) ?_;refine aa 5 ?_;all_goals exact⟨_,_,⟨b,({s1 with leads:=U}:aC).send (e.v.z' m).1.C',U,⟨⟨t,JM⟩,.inl rfl⟩,rfl,rfl⟩,XC⟩
end Go.Proofs.YteogojgnkjegmaaGreatDoor
namespace Go.Proofs.YteogojgnkjegmaaGreatDoor
open Go.ay Go.Proofs.Tryz
variable[Go.ay.bR]
variable{m:aD}{it:ag}
def N9(E Q:Nat)(X:dZ)(s:bE)(U:Int)(m:aD)(q:eo m s.n=false\/m.b3≠U):ar prog 125 [au E 0,I U,A m.c] [fe E Q X s,cv] (λr Y=>r=.tuple #[A aD.z.c,B false]/\Y=[fe E Q X s,cv]):=by
 have D:=FE E Q X s;have J:=xm m s.n;by_cases i:m.b3=U
 .have R:eo m s.n=false:=by
   rcases q with h|h
   .exact h
   .exact absurd i h
  rw[R]at J;refine JZ λW C K=>?_;refine ae 2 9 ?_;refine af.o' 11 rfl rfl (D) ?_;refine aa 2 ?_;refine af.o' 12 rfl rfl (J) ?_;refine aa 2 ?_;refine ae 2 13 ?_;exact aM 13
 .refine JZ λW C K=>?_;refine ae 6 9 ?_;exact aM 13
noncomputable def cN(s:bE)(U:Int)(m:aD):bE×aD×Bool:=if eo m s.n=true/\m.b3=U then kz s m else(s,aD.z,false)
def acH(E Q:Nat)(X:dZ)(s:bE)(U:Int)(m:aD)(h:s.ok)(o:hg X.L s.p)(R:X.L.cU<=1000000000000):ar prog 125 [au E 0,I U,A m.c] [fe E Q X s,cv] (λr Y=>∃G:dZ,(G.L.cU<=X.L.cU+3/\hg G.L (cN s U m).1.p)/\r=.tuple #[A (cN s U m).2.1.c,B (cN s U m).2.2]/\Y=[fe E Q G (cN s U m).1,cv]):=by
 unfold cN;by_cases q:eo m s.n=true/\m.b3=U
 .simp only[aT q];exact acR E Q X s U m h (iY.1 q.1) q.2 o R
 .simp only[aN q];refine ar.post (N9 E Q X s U m ?_) ?_
  .by_cases j:m.b3=U
   .refine .inl ?_;cases h:eo m s.n with
    |false=>rfl
    |true=>exact absurd ⟨h,j⟩ q
   .exact .inr j
  .rintro v Y⟨rfl,rfl⟩;exact⟨_,⟨X,⟨iZ _ _,o⟩,rfl,rfl⟩,λ_ _ _ h=>h⟩
noncomputable def aC.Z'(s:aC)(m:aD)(G:dZ):aC:=
 if(cN s.aH s.self m).2.2=true then({s with aH:=(cN s.aH s.self m).1,X:=G}:aC).send [(cN s.aH s.self m).2.1]else{s with aH:=(cN s.aH s.self m).1,X:=G}
def l5(m:aD):Prop:=m.Kind=1\/m.Kind=3\/m.Kind=6\/m.Kind=5
def fK(s:aC)(m:aD)(z:aC):Prop:=
 (l5 m/\∃G,G.L.cU<=s.X.L.cU+3/\hg G.L (cN s.aH s.self m).1.p/\
  (((b7 (cN s.aH s.self m).1.p m.Item).Status=3/\mA (s.Z' m G) m.Item z)\/((b7 (cN s.aH s.self m).1.p m.Item).Status≠3/\h8 (s.Z' m G) m.Item z)))\/
 (¬l5 m/\rv s m z)
structure FM(k:Nat)(s:aC):Prop extends RepI k s,RepW s where
 aH:s.aH.ok
 eF:s.aH.n=s.n
 sp:hg s.X.L s.aH.p
 cU:s.X.L.cU<=k
def Ob(b:Nat)(L:cO)(s:aC)(k:Nat)(h:RepI k s)(T:k<=1000000000000)(E:s.aH.ok)(x:ag)(q:bB x 7=true):ar prog 126 [au b 0,A x.c] (bX b L s) (λr Y=>∃n z,(((b7 s.aH.p x).Status=3/\mA s x z)\/((b7 s.aH.p x).Status≠3/\h8 s x z))/\r=.tuple #[]/\Y=bX b n z):=by
 by_cases U:(b7 s.aH.p x).Status=3
 .refine ar.post (adx b L s k h E x U) ?_;rintro v Y⟨n,z,F,rfl,rfl⟩;exact⟨_,⟨n,z,.inl ⟨U,F⟩,rfl,rfl⟩,λ_ _ _ h=>h⟩
 .refine ar.post (N7 b L s k h T E x q U) ?_;rintro v Y⟨n,z,F,rfl,rfl⟩;exact⟨_,⟨n,z,.inr ⟨U,F⟩,rfl,rfl⟩,λ_ _ _ h=>h⟩
instance(m:aD):Decidable (l5 m):=by unfold l5;infer_instance
def xT{s:bE}{x:ag}{C k:ba}(h:s.ok)(U:bB x s.n=true)(ao:fb k s.n=true):(k2 s x C k).ok/\(k2 s x C k).n=s.n:=by
 unfold k2;split
 .exact⟨h,rfl⟩
 .exact⟨bE.W1 h U ao,bE.To ..⟩
def agd{s:bE}(h:s.ok)(K:gQ m s.n):(kz s m).1.ok/\(kz s m).1.n=s.n:=by
 have ao:=tZ h m.Item;unfold kz;dsimp only;split
 .exact⟨h,rfl⟩
 split
 .rename_i T;have u:=oJ K ZE;unfold k3;dsimp only;split
  .exact xT h K.item (ua ao K.b2 (.inl rfl) (xP h u))
  .exact⟨h,rfl⟩
 split
 .rename_i T;have u:=oJ K ZE;unfold lC;dsimp only;split
  .exact xT h K.item (ua ao K.b2 (.inr rfl) u)
  .exact⟨h,rfl⟩
 split
 .unfold lD;dsimp only;split
  .exact xT h K.item (xO ao K.b2)
  .exact⟨h,rfl⟩
 split
 .rename_i T;have u:=oJ K ZE;exact xT h K.item (vv ao u)
 .exact⟨h,rfl⟩
def FN{s:bE}(U:Int)(h:s.ok):(cN s U m).1.ok/\(cN s U m).1.n=s.n:=by
 unfold cN;split
 .rename_i q;exact agd h (iY.1 q.1)
 .exact⟨h,rfl⟩
def RepI.Z'{k:Nat}{s:aC}(h:RepI k s)(m:aD)(G:dZ):RepI k (s.Z' m G):=by
 unfold aC.Z';split
 exact Jv
 exact Jv
theorem ud(s:aC)(m:aD)(G:dZ):(s.Z' m G).aH=(cN s.aH s.self m).1:=by unfold aC.Z';split<;>rfl
def Od(b:Nat)(L:cO)(s:aC)(k:Nat)(h:RepI k s)(T:k<=1000000000000)(E:s.aH.ok)(x:ag)(q:bB x 7=true):ar prog 126 [au b 0,A x.c] (bX b L s++[cv]) (λr Y=>∃n z,(((b7 s.aH.p x).Status=3/\mA s x z)\/((b7 s.aH.p x).Status≠3/\h8 s x z))/\r=.tuple #[]/\Y=bX b n z++[cv]):=by refine ar.post (ar.frame (bc:=[cv]) (Ob b L s k h T E x q)) ?_;rintro v Y⟨_,⟨n,z,F,rfl,rfl⟩,rfl⟩;exact⟨_,⟨n,z,F,rfl,rfl⟩,λ_ _ _ h=>h⟩
theorem v6{s:aC}(G:dZ)(h:(cN s.aH s.self m).2.2=false):s.Z' m G={s with aH:=(cN s.aH s.self m).1,X:=G}:=by unfold aC.Z';rw[aN (by rw[h];decide)]
def v7{s:aC}(G:dZ)(h:(cN s.aH s.self m).2.2=true):s.Z' m G=({s with aH:=(cN s.aH s.self m).1,X:=G}:aC).send [(cN s.aH s.self m).2.1]:=by unfold aC.Z';rw[aT h]
def FO(b:Nat)(L:cO)(s:aC)(k:Nat)(m:aD)(h:FM k s)(cc:k<=1000000000000)(bU:bB m.Item 7=true)(ao:s.inbox.length<=900000)(dz:s.out.length<=900000):ar prog 90 [au b 0,A m.c] (bX b L s++[cv]) (λr F=>∃U cn,fK s m cn/\r=.tuple #[]/\F=bX b U cn++[cv]):=by
 have p0:=h.hN;have Yf:=h.cU;have d:=acH L.dC s.bD s.X s.aH s.self m h.aH h.sp ac;have K:=N8 b L s m p0 h.toRepW ac ac;have a (G:dZ) (g:Nat):=sA b L {s with aH:=(cN s.aH s.self m).1,X:=G} (some ⟨g,0,none⟩) 1 [(cN s.aH s.self m).2.1] Q4 XE NI Z0;have C (G:dZ) (U:cO):=(Od b U (s.Z' m G) k (h.toRepI.Z' m G) cc (by rw[ud];exact(FN s.self h.aH).1) m.Item bU)
 have Yh:∀G,s.Z' m G=s.Z' m G:=λ_=>rfl;obtain⟨E,eE,gH,dt,wp,c4,dI,dJ,dr,dA,bY,ey,dH,bC⟩:=L;unfold bX ec at a K;unfold bX ec;simp only[m4]at a;dsimp only[List.cons_append,List.nil_append]at a d K C⊢;refine aB func90 λW=>?_;generalize bg _=D;refine aq 2 λfI=>?_;refine aa 9 ?_;refine ah.mt [0,3] (λ_:Unit=>True) (λ_=>[(11,B (decide (l5 m)))]) (λ_=>[]) (b:=[]) ?_ ?_
 .intro fa j;clear a K C d;by_cases N:m.Kind=1
  .have i:a8 .eql m.Kind 1=some true:=by simp[a8,N]
   rw[iE (show l5 m from .inl N)]at j;refine aa 2 ?_;refine ai.v (V.cmp rfl rfl i) ?_;refine aa 5 ?_;all_goals exact Out.t' j () trivial trivial
  have i:a8 .eql m.Kind 1=some false:=by simp[a8,N]
  by_cases t:m.Kind=3
  .have l:a8 .eql m.Kind 3=some true:=by simp[a8,t]
   rw[iE (show l5 m from .inr (.inl t))]at j;refine aa 2 ?_;refine ai.v (V.cmp rfl rfl i) ?_;refine aa 6 ?_;refine ai.v (V.cmp rfl rfl l) ?_;refine aa 5 ?_;all_goals exact Out.t' j () trivial trivial
  have l:a8 .eql m.Kind 3=some false:=by simp[a8,t]
  by_cases sB:m.Kind=6
  .have T:a8 .eql m.Kind 6=some true:=by simp[a8,sB]
   rw[iE (show l5 m from .inr (.inr (.inl sB)))]at j;refine MT ?_;all_goals exact Out.t' j () trivial trivial
  have T:a8 .eql m.Kind 6=some false:=by simp[a8,sB]
  by_cases P:m.Kind=5
  .have J:a8 .eql m.Kind 5=some true:=by simp[a8,P]
   rw[iE (show l5 m from .inr (.inr (.inr P)))]at j;refine MT ?_;refine ai.v (V.cmp rfl rfl J) ?_;refine aa 2 ?_;all_goals exact Out.t' j () trivial trivial
  .have J:a8 .eql m.Kind 5=some false:=by simp[a8,P]
   rw[kc (show¬l5 m fromλeJ=>by unfold l5 at eJ;omega)]at j;refine MT ?_;refine ai.v (V.cmp rfl rfl J) ?_;refine aa 2 ?_;all_goals exact Out.t' j () trivial trivial
 rintro⟨⟩-;refine bh ?_;by_cases u:l5 m
 .rw[iE u];refine av ?_;refine ah.mt [0,3] (λz:cO×dZ=>z.2.L.cU<=s.X.L.cU+3/\hg z.2.L (cN s.aH s.self m).1.p) (λ_=>[]) (λz=>bX b z.1 (s.Z' m z.2)++[cv]) (b:=bX b ⟨E,eE,gH,dt,wp,c4,dI,dJ,dr,dA,bY,ey,dH,bC⟩ s++[cv]) ?_ ?_ (d:=Z1)
  .intro fa j;refine ah.mt [0,3] (λz:Nat×dZ=>z.2.L.cU<=s.X.L.cU+3/\hg z.2.L (cN s.aH s.self m).1.p) (λz=>[(4,au z.1 0),(5,B (cN s.aH s.self m).2.2)]) (λz=>[cells z.1 176 (cN s.aH s.self m).2.1.c,fe E s.bD z.2 (cN s.aH s.self m).1,cv]) (b:=[fe E s.bD s.X s.aH,cv]) ?_ ?_
   .intro ro q;refine ah.n' ?_ aA.j.j.j.j.j.j.j.j.j.j.j.j.j.j.d'.d';refine ae 9 0 ?_;refine af.bu 9 13 rfl rfl ?_ ?_;refine aw.R' rfl (d) XC ?_;rintro ni i9⟨Yi,⟨⟨R,Yc⟩,rfl,rfl⟩⟩;refine aa 2 ?_;refine ae 3 10 ?_;refine c1 13 λfp=>?_;refine ae 2 14 ?_;refine av ?_;rotate_left;refine O.K' ad (λfp=>?_);refine av ?_;refine af.o' 9 rfl rfl (d) ?_;rintro vD adK⟨Z,⟨⟨Ye,Yg⟩,rfl,rfl⟩⟩;refine aa 2 ?_;refine ae 3 10 ?_;refine ae 2 14 ?_;refine av ?_;rotate_left;all_goals exact Out.t' q (_,_) ⟨XF,XF⟩ trivial
   rintro⟨fp,w⟩⟨x,y⟩;dsimp only at x y;refine bh ?_;cases f:(cN s.aH s.self m).2.2
   .refine aa 7 ?_;all_goals exact Out.t' j (⟨E,eE,gH,dt,wp,c4,dI,dJ,dr,dA,bY,ey,dH,bC⟩,w) ⟨x,y⟩ trivial (q:=by rw[v6 w f];unfold bX ec;(repeat(first|exact ak.nil|exact al.here|apply ak.cons|apply al.there)))
   .refine aa 9 ?_;refine ai.o (O.N' ad aD.c [(cN s.aH s.self m).2.1] rfl (bx.agg rfl bx.nil) rfl rfl (λYj=>?_));refine ai.o' rfl (a _ _) ?_;rintro _ _⟨Y,rfl,rfl⟩;refine aa 2 ?_;all_goals exact Out.t' j (Y,w) ⟨x,y⟩ trivial (q:=by rw[v7 w f];unfold bX ec;(repeat(first|exact ak.nil|exact al.here|apply ak.cons|apply al.there)))
  rintro⟨fX,w⟩⟨x,y⟩;have cu:=C w fX;clear C a d K;have Q:=ud s m w;generalize M:s.Z' m w=s2 at*;unfold bX ec at cu⊢;dsimp only[List.cons_append,List.nil_append]at cu⊢;refine aa 5 ?_;rintro _ _⟨G,K,R,rfl,rfl⟩;refine aa 4 ?_;all_goals exact⟨_,_,⟨_,_,.inl ⟨u,w,x,y,by rw[M,<-Q];assumption⟩,rfl,rfl⟩,XC⟩
 .rw[kc u];clear a C d;refine aa 5 ?_;rintro _ _⟨Z,C,R,rfl,rfl⟩;refine aa 4 ?_;all_goals exact⟨_,_,⟨_,_,.inr ⟨u,XF⟩,rfl,rfl⟩,XC⟩
def a2.U'(l:a2):Nat:=(4-l.phase).toNat
def bO.U'(r:bO):Nat:=if r.x.lost=true then 0 else match r.l2 with|some l=>l.U'|none=>4
theorem a2.Ts{l:a2}{n W:Int}{D:bk}(k:hp l n W it D):l.U'<=3:=by have:=k.phase;unfold a2.U';omega
theorem Oe{x:a2}(m:aD)(r:x.phase=1):(x.Sa m).1.U'<=x.U'/\((x.Sa m).2=true->(x.Sa m).1.U'<x.U'):=by
 unfold a2.Sa;repeat' split
 all_goals first
  |exact⟨cl _,λh=>XT⟩
  |(refine⟨?_,λ_=>?_⟩<;>(unfold a2.U';simp only[a2.put,a2.Th,r];decide))
  |exact⟨by unfold a2.U' a2.put;exact cl _,λh=>XT⟩
def FP{x:a2}(m:aD){n W:Int}{D:bk}(k:hp x n W it D):(x.z' m).1.U'<=x.U'/\((x.z' m).2=true->(x.z' m).1.U'<x.U'):=by
 have T:=k.phase;unfold a2.z';split
 .grind
 rename_i f;have r:x.phase=1\/x.phase=2:=XK
 split
 .grind [a2.U']
 split
 .grind [a2.U']
 split
 .grind
 split
 .grind [Oe]
 split
 .rename_i h;have M:=h.2;split
  .split
   .grind [a2.U',a2.SE]
   .exact⟨by unfold a2.U' a2.SE;exact cl _,λh=>XT⟩
  .grind
 .grind
def Of{r:bO}(h:r.ok)(m:aD):(r.z' m).1.U'<=r.U'/\((r.z' m).2=true->(r.z' m).1.U'<r.U'):=by
 unfold bO.z';split
 .exact⟨cl _,λh=>by cases h⟩
 rename_i R;have L:=(bK.Tr R).ls;obtain⟨x,X⟩:=r;dsimp only at L;cases X with
 |some l=>
  have:=FP m (h.cC l rfl);unfold bO.U';dsimp only;rw[L];exact this
 |none=>
  have T:(bO.mk x none).U'=4:=by unfold bO.U';dsimp only;rw[L];rfl
  dsimp only;rw[T];split
  .have y:(bO.mk x (some (gD x m.Call))).U'=1:=by unfold bO.U';dsimp only;rw[L];rfl
   rw[y];exact⟨by decide,λ_=>by decide⟩
  split
  .have y:(bO.mk {x with lost:=true} none).U'=0:=rfl;rw[y];exact⟨by decide,λ_=>by decide⟩
  split
  .split
   .exact⟨by rw[T];exact cl _,λh=>by cases h⟩
   .split
    .have y:(bO.mk (gf x m) none).U'=4:=by unfold bO.U';dsimp only;rw[show(gf x m).lost=false from L];rfl
     exact⟨by dsimp only;rw[y];exact cl _,λh=>by cases h⟩
    .have k:=Fq (gf x m);have g:=a2.Ts k;have y:(bO.mk (gf x m) (some (gf x m).Sq)).U'=(gf x m).Sq.U':=by unfold bO.U';dsimp only;rw[show(gf x m).lost=false from L];rfl
     rw[y];exact⟨by omega,λ_=>by omega⟩
  .exact⟨by rw[T];exact cl _,λh=>by cases h⟩
def lF(m:aD):Nat:=if m.Kind=1\/m.Kind=3\/m.Kind=6 then 3 else if m.Kind=5 then 1 else 2
theorem sC(m:aD):1<=lF m/\lF m<=3:=by grind [lF]
def fg(l:ab aD):Nat:=(l.map lF).sum
theorem ue(l m:ab aD):fg (l++m)=fg l+fg m:=by unfold fg;rw[iA,List.sum_append]
def FQ(a:Int):∀k:Nat,((List.range k).filter λi:Nat=>decide ((i:Int)=a)).length<=(if 0<=a/\a<k then 1 else 0)
 |0=>XE
 |k+1=>by have u:=FQ a k;rw[se,mq,bM];grind
def FR:∀l:ab aD,fg l<=3*l.length
 |[]=>cw _
 |m::l=>by have:=FR l;grind [sC,fg,List.length_cons]
def FT(U:Int)(k:Nat)(f:Nat->aD)(l:∀i,(f i).b3=(i:Int)):fg (ez U ((List.range k).map f))<=3:=by
 have e:ez U ((List.range k).map f)=((List.range k).filter λi:Nat=>decide ((i:Int)=U)).map f:=by grind [ez,List.filter_congr]
 rw[e];have F:=FR (((List.range k).filter λi:Nat=>decide ((i:Int)=U)).map f);rw[ev]at F;have M:=FQ U k;grind
theorem sD(U:Int)(l:a2):fg (ez U l.C')<=3:=by
 unfold a2.C';split
 .exact FT U _ _ λi=>rfl
 .exact cw _
theorem AJ(U:Int)(r:bO):fg (ez U r.C')<=3:=by
 unfold bO.C';split
 .exact cw _
 .split
  .exact sD ..
  .exact FT U _ _ λi=>rfl
end Go.Proofs.YteogojgnkjegmaaGreatDoor
