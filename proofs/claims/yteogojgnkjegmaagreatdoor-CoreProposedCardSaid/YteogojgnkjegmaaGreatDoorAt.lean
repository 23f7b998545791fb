/-
 Part of the proof.
-/
import Derived.Test.YteogojgnkjegmaaGreatDoorAs
set_option linter.all false
set_option maxRecDepth 8000
set_option maxHeartbeats 8000000
namespace Go.Proofs.YteogojgnkjegmaaGreatDoor
open Go.ay Go.Proofs.Tryz
variable[Go.ay.b4]
def fa(X:Int)(l:ab aD):ab aD:=l.filter λm=>decide (m.bK=X)
noncomputable def hD(n X:Int)(l:ab aD):ab b8:=(l.filter λm=>!decide (m.bK=X)&&c3 m n).map λm=>⟨X,m.bK,gM m⟩
def ajn(X:Int)(l:ab aD)(m:aD):fa X (l++[m])=fa X l++(if m.bK=X then[m]else[]):=by unfold fa;rw[nH];congr 1;by_cases h:m.bK=X<;>simp[h]
def adJ(n X:Int)(l:ab aD)(m:aD):hD n X (l++[m])=hD n X l++(if m.bK=X then[]else if c3 m n=true then[⟨X,m.bK,gM m⟩]else[]):=by
 unfold hD;rw[nH,jo];congr 1;by_cases h:m.bK=X
 .simp[h]
 .cases G:c3 m n<;>simp[h,G]
theorem H2(X:Int)(l:ab aD):(fa X l).length<=l.length:=sP _ _
theorem H3(n X:Int)(l:ab aD):(hD n X l).length<=l.length:=by unfold hD;rw[eT];exact sP _ _
def ajq(b:Nat)(R:gp)(M:ab aD)(g:ab b8)(i:aT Go.Addr)(E:Nat)(l:ab aD)(a:R.n<=7)(dz:l.length<=1000)(ao:M.length<=1000000)(dy:g.length<=1000000):ar prog 59 [aw b 0,.slice i l.length E] [cells b 95 R.c,ej aD.c R.inbox 176 25 M,rows b8.c R.out 143 3 g,cJ,rows aD.c (.slice i l.length E) 176 25 l] (λr J=>∃o x,r=.tuple #[]/\J=[cells b 95 ({R with inbox:=o,out:=x}:gp).c,ej aD.c o 176 25 (M++fa R.self l),rows b8.c x 143 3 (g++hD R.n R.self l),cJ,rows aD.c (.slice i l.length E) 176 25 l]):=by
 refine aE func59 λW=>?_;refine ah.fact (iD (f:=aD.c) (v:=.slice i l.length E) (l:=l) aD.len T1) λF=>?_;obtain⟨Yc,T,e3,P,d⟩:=F;simp only[sQ]at P;obtain⟨rfl,-,rfl⟩:=P;obtain⟨n,X,N,D,q,v3,v4,v5,nO,tT,vU,o,x,bS⟩:=R;dsimp only at a⊢;refine aa 8 ?_;refine ah.cp [9,8,0] (λz:Nat×aj×aj=>z.1<=l.length) (λz=>[(10,I (z.1:Int))])
  (λz=>[cells b 95 (gp.c ⟨n,X,N,D,q,v3,v4,v5,nO,tT,vU,z.2.1,z.2.2,bS⟩),ej aD.c z.2.1 176 25 (M++fa X (l.take z.1)),rows b8.c z.2.2 143 3 (g++hD n X (l.take z.1))]) (λz=>l.length-z.1) (0,o,x) (cO _) ?_ (o:=by rw[wR,show fa X []=[]from rfl,show hD n X []=[]from rfl,dT,dT];(repeat(first|exact ak.nil|exact al.here|apply ak.cons|apply al.there)))
 rintro⟨k,o,x⟩ Q K Y;dsimp only at Q;refine bl ?_;by_cases U:k<l.length
 .obtain⟨m,F⟩:=cl U;have h:l.take (k+1)=l.take k++[m]:=by rw[oj,F];rfl
  have bg:(M++fa X (l.take k)).length<=1001000:=by have:=H2 X (l.take k);rw[fp]at this;rw[b2];omega
  have bY:(g++hD n X (l.take k)).length<=1001000:=by have:=H3 n X (l.take k);rw[fp]at this;rw[b2];omega
  have Z:M++fa X (l.take (k+1))=(M++fa X (l.take k))++(if m.bK=X then[m]else[]):=by rw[h,ajn,cn]
  have C:g++hD n X (l.take (k+1))=(g++hD n X (l.take k))++(if m.bK=X then[]else if c3 m n=true then[⟨X,m.bK,gM m⟩]else[]):=by rw[h,adJ,cn]
  have s:=acK m n a;have w:=λ(y:aj×aj) (_:True) (_:True)=>Y (k+1,y.1,y.2) (by show k+1<=l.length;omega) Nb;dsimp only at w;rw[Z,C]at w;clear Z C Y;generalize M++fa X (l.take k)=bt at*;generalize g++hD n X (l.take k)=bW at*;by_cases j:m.bK=X
  .refine aa 14 ?_;refine ai.v (V.Ux ad rfl d (jB F)) ?_;refine aq 0 λp=>?_;refine aa 4 ?_;refine ah.n' ?_ aB.j.j.j.j.d'.d';refine ae 7 0 ?_;refine aa 3 ?_;refine ah.Uv [10] ?_ aB.j.j.j.j.d'.d' aB.j.j.j.j.j.d';refine Rg ?_;refine af.q' 6 rfl (O.Q' ad aD.c [m] rfl (bI.agg rfl bI.nil) rfl rfl (λYg=>?_));refine au ?_;refine af.q' 7 rfl (O.X2 ad rfl rfl T8 (cq.rows (l:=[m]) ad T1 aD.F') (λYh u=>?_));refine au ?_;refine ae 2 8 ?_;refine af.l 10 rfl (O.K' ad ?_);refine aa 8 ?_;rotate_left;rw[aQ j,aQ j,dT]at w;all_goals exact Out.z' w (_,x) trivial trivial
  .cases G:c3 m n
   .rw[G,aM T6]at s;refine Rm λp=>?_;refine aa 16 ?_;rotate_left;rw[aM j,aM j,aM (by rw[G];decide),dT,dT]at w;all_goals exact Out.z' w (o,x) trivial trivial
   .rw[G,aQ rfl]at s;refine Rm λp=>?_;refine aa 9 ?_;refine ah.Uv [17] ?_ aB.j.j.j.d'.d'.j aB.j.j.j.j.d'.j;refine ae 4 0 ?_;refine ae 3 5 ?_;refine ae 3 9 ?_;refine NI ?_;refine af.i' 12 rfl (V.UZ ad) ?_;refine df 13 λYe=>?_;refine af.q' 14 rfl (O.U' ad rfl rfl T8 (cq.one ad T1 b8.F') (λYf L=>?_));refine au ?_;refine ae 2 15 ?_;refine af.l 17 rfl (O.K' ad ?_);refine aa 8 ?_;rotate_left;rw[aM j,aM j,aQ G,dT]at w;all_goals exact Out.z' w (o,_) trivial trivial
 .obtain rfl:k=l.length:=by omega
  clear Y;rw[ir];refine aa 12 ?_;all_goals exact⟨_,_,⟨_,_,rfl,rfl⟩,Uc⟩
noncomputable def aC.send(s:aC)(l:ab aD):aC:={s with inbox:=s.inbox++fa s.self l,out:=s.out++hD s.n s.self l}
def uk(b:Nat)(L:cW)(s:aC)(m:aT Go.Addr)(E:Nat)(l:ab aD)(p:s.n<=7)(T:l.length<=1000)(ao:s.inbox.length<=1000000)(y:s.out.length<=1000000):ar prog 59 [aw b 0,.slice m l.length E] (rows aD.c (.slice m l.length E) 176 25 l::(cb b L s++[cJ])) (λr J=>∃u,r=.tuple #[]/\J=cb b u (s.send l)++[cJ]):=by
 have q:=ajq b ⟨s.n,s.self,s.now,aw L.ec 0,.map (some L.e3),.map (some L.hi),aw L.dS 0,aw L.el 0,aw s.M.b 0,.map (some L.eb),.map (some L.bH),L.e0,L.dN,L.bS⟩ s.inbox s.out m E l p T ao y;have k:=ar.frame (be:=[fE L.ec s.bQ s.X s.aA,bz cg c0 L.e3 s.leads,fh jd s.leads,bz cg c0 L.hi s.bp,fh gQ s.bp,kv L s,jP L.el L.dP s.run,mg s.M,bz cg iX L.eb s.dX,bz cg ln L.bH s.high,rows fF.c L.bS 65 6 s.told]) q;have Q:ak (rows aD.c (.slice m l.length E) 176 25 l::(cb b L s++[cJ])) [cells b 95 (eN L s),ej aD.c L.e0 176 25 s.inbox,rows b8.c L.dN 143 3 s.out,cJ,rows aD.c (.slice m l.length E) 176 25 l] [fE L.ec s.bQ s.X s.aA,bz cg c0 L.e3 s.leads,fh jd s.leads,bz cg c0 L.hi s.bp,fh gQ s.bp,kv L s,jP L.el L.dP s.run,mg s.M,bz cg iX L.eb s.dX,bz cg ln L.bH s.high,rows fF.c L.bS 65 6 s.told]:=Uc
 refine ar.UB (ar.eqv (aO.UA Q.perm) k (R:=_) λr J h=>⟨J,h,aO.refl _⟩) ?_;rintro v J W D w⟨_,⟨o,x,rfl,rfl⟩,rfl⟩ a;refine⟨_,⟨{L with e0:=o,dN:=x},rfl,rfl⟩,?_⟩;refine a.gW (g:=[rows aD.c (.slice m l.length E) 176 25 l]) ?_;unfold cb aC.send eN kv;refine bl ?_;exact Uc
def kw:hv prog 86 46 132=true:=rfl
def kx:hv prog 87 46 196=true:=rfl
def xS:hv prog 91 46 48=true:=rfl
def H4(w:aZ):(Go.zeroValue 48).run prog w=.ok (A bm.z.c) w:=rfl
def agX(L:cW)(s:aC)(x:ag)(m:aT Go.Addr)(E:Nat)(T:s.pl.length<=1000):ar prog 184 [aw L.dS 0,.slice m 1 E] [kv L s,rows ag.c (.slice m 1 E) 46 2 [x]] (λr J=>∃g,r=.tuple #[]/\J=[kv {L with ek:=g} {s with pl:=ii x s.pl,fi:=e9 s.fi x},rows ag.c (.slice m 1 E) 46 2 [x]]):=by
 refine ar.known (p:=∃b,Rd (rows ag.c (.slice m 1 E) 46 2 [x]) m 1 b 0 2 ([x].map ag.c)) (λw i=>?_) ?_
 .obtain⟨k,y,b,z,t⟩:=iD (f:=ag.c) (v:=.slice m 1 E) (l:=[x]) ag.len (aG _ (aF _)) w i;simp only[sQ]at z;obtain⟨rfl,-,rfl⟩:=z;exact⟨b,t⟩
 .rintro⟨b,t⟩;have a:=ahT L.dS s.n s.self L.wp L.dZ L.ek s.dA s.pl s.fi x m E b 0 _ t T;exact O7
structure nl(s:aC)(x:ag)(cE:aC):Prop where
 go:∃vT,s.run.VS x (bP s.aA.p x).Call vT/\
  cE={s with leads:=e9 s.leads x,bp:=e9 s.bp x,high:=e9 s.high x,pl:=ii x s.pl,fi:=e9 s.fi x,run:=vT}
def acs(b:Nat)(L:cW)(s:aC)(k:Nat)(h:RepI k s)(u:s.aA.ok)(x:ag)(U:(bP s.aA.p x).Status=3):ar prog 126 [aw b 0,A x.c] (cb b L s) (λr J=>∃E d,nl s x d/\r=.tuple #[]/\J=cb b E d):=by
 have N:ar prog 126 [aw b 0,A x.c] (cb b L s) (λr J=>∃Yf Yj Yc,s.run.VS x (bP s.aA.p x).Call Yc/\r=.tuple #[]/\
   J=[fh jd s.leads,fh gQ s.bp,cells b 95 (eN L s),fE L.ec s.bQ s.X s.aA,bz cg c0 L.e3 (e9 s.leads x),bz cg c0 L.hi (e9 s.bp x),kv {L with ek:=Yf} {s with pl:=ii x s.pl,fi:=e9 s.fi x},jP L.el Yj Yc,mg s.M,bz cg iX L.eb s.dX,bz cg ln L.bH (e9 s.high x),
    ej aD.c L.e0 176 25 s.inbox,rows b8.c L.dN 143 3 s.out,rows fF.c L.bS 65 6 s.told]):=by
  have n:=zH L.ec s.bQ s.X s.aA x u.p.towf
  have Q (g:Nat):=agX L s x (some ⟨g,0,none⟩) 1 (by have:=h.fX.len;omega)
  have f:=Ht L.el L.dP s.run h.run.g (by have:=h.run.Wb;omega) x (bP s.aA.p x).Call
  obtain⟨o,Z,R,y,t,G,j,el,z,K,T,P,F,bS⟩:=L
  unfold cb eN
  dsimp only at n Q f⊢
  generalize bP s.aA.p x=i at*
  refine aE func126 λW=>?_
  have m:bd .eql i.Status 3=some true:=by simp[bd,U]
  refine aq 2 λY=>?_
  refine aa 3 ?_
  refine ah.n' ?_ aB.j.j.j.j.j.j.j.j.j.j.j.j.j.d'.d'
  refine ae 5 0 ?_
  refine af.bv 5 6 rfl rfl ?_ ?_
  refine av.Z' rfl (n) Uc ?_
  refine aa 2 ?_
  refine df 6 λC=>?_
  refine ae 1 7 ?_
  refine aa 7 ?_
  refine ai.v (V.cmp rfl rfl m) ?_
  refine aa 4 ?_
  refine ah.n' ?_ aB.j.j.j.j.j.j.j.j.j.j.j.j.d'.d'.j.j
  refine ae 5 0 ?_
  refine af.q' 5 rfl (av.U9 (l:=s.leads) (k:=x) (aU:=c0) ct kw rfl rfl T2 ?_)
  refine aa 4 ?_
  refine ah.n' ?_ aB.j.j.j.j.j.j.j.j.j.j.j.j.d'.d'.j.j
  refine ae 5 0 ?_
  refine af.q' 5 rfl (av.U9 (l:=s.bp) (k:=x) (aU:=c0) ct kx rfl rfl T2 ?_)
  refine aa 4 ?_
  refine ah.n' ?_ aB.j.j.j.j.j.j.j.j.j.j.j.j.d'.d'.j.j
  refine ae 5 0 ?_
  refine af.q' 5 rfl (av.U9 (l:=s.high) (k:=x) (aU:=ln) ct xS rfl rfl T2 ?_)
  refine aa 4 ?_
  refine ah.n' ?_ aB.j.j.j.j.j.j.j.j.j.j.j.j.d'.d'.j.j
  refine ae 5 0 ?_
  refine af.q' 5 rfl (O.Q' ad ag.c [x] rfl (bI.agg rfl bI.nil) rfl rfl (λYk=>?_))
  refine au ?_
  refine af.p' 6 rfl rfl (Q _) ?_
  rintro _ _⟨Yn,rfl,rfl⟩
  refine aa 5 ?_
  refine ah.n' ?_ aB.j.j.j.j.j.j.j.j.j.j.j.d'.d'.j.d'.j.j
  refine ae 7 0 ?_
  refine af.p' 7 rfl rfl (f) ?_
  rintro v5 Hw⟨Yo,⟨⟨rfl,Ye⟩,rfl⟩⟩
  refine aa 7 ?_
  rotate_left
  refine O.N' ad (λC=>?_)
  refine au ?_
  refine af.p' 5 rfl rfl (n) ?_
  refine aa 2 ?_
  refine ae 1 7 ?_
  refine aa 7 ?_
  refine ai.v (V.cmp rfl rfl m) ?_
  refine aa 4 ?_
  refine ah.n' ?_ aB.j.j.j.j.j.j.j.j.j.j.j.j.d'.d'.j.j
  refine ae 5 0 ?_
  refine af.q' 5 rfl (av.U9 (l:=s.leads) (k:=x) (aU:=c0) ct kw rfl rfl T2 ?_)
  refine aa 4 ?_
  refine ah.n' ?_ aB.j.j.j.j.j.j.j.j.j.j.j.j.d'.d'.j.j
  refine ae 5 0 ?_
  refine af.q' 5 rfl (av.U9 (l:=s.bp) (k:=x) (aU:=c0) ct kx rfl rfl T2 ?_)
  refine aa 4 ?_
  refine ah.n' ?_ aB.j.j.j.j.j.j.j.j.j.j.j.j.d'.d'.j.j
  refine ae 5 0 ?_
  refine af.q' 5 rfl (av.U9 (l:=s.high) (k:=x) (aU:=ln) ct xS rfl rfl T2 ?_)
  refine aa 4 ?_
  refine ah.n' ?_ aB.j.j.j.j.j.j.j.j.j.j.j.j.d'.d'.j.j
  refine ae 5 0 ?_
  refine af.q' 5 rfl (O.Q' ad ag.c [x] rfl (bI.agg rfl bI.nil) rfl rfl (λYk=>?_))
  refine au ?_
  refine af.p' 6 rfl rfl (Q _) ?_
  rintro _ _⟨Yl,rfl,rfl⟩
  refine aa 5 ?_
  refine ah.n' ?_ aB.j.j.j.j.j.j.j.j.j.j.j.d'.d'.d'.j.j.j
  refine ae 7 0 ?_
  refine af.p' 7 rfl rfl (f) ?_
  rintro Yh Yi⟨Ym,⟨⟨rfl,Yg⟩,rfl⟩⟩
  refine aa 7 ?_
  rotate_left
  all_goals exact⟨_,_,⟨_,_,_,TX,rfl,rfl⟩,Uc⟩
 refine ar.UB N ?_;rintro v J W D w⟨Yf,Yj,Yc,q,rfl,rfl⟩ a;have Y:=uj gQ s.bp x ((uj jd s.leads x a).perm (hK ..));refine⟨_,⟨{L with ek:=Yf,dP:=Yj},_,⟨⟨Yc,q,rfl⟩⟩,rfl,rfl⟩,Y.gW (g:=[]) ?_⟩;unfold cb;exact Uc
end Go.Proofs.YteogojgnkjegmaaGreatDoor
namespace Go.ay
open Go
variable[Go.ay.b4]
section
variable{P:bU}{r:aT Nat}{W:aZ}{D:ab Nat}{n:dq}{Q:cU}{Y:bC}{U:ab ax}{Z:Nat}{C:a7}{J:String}{M:Array Edge}{F:aT (Nat×Bool)}{N T:Type}[DecidableEq N]{K:N->aj}{aU:T->aj}{X:a7}{l:ab (N×T)}
def aK.U6{t e:a7}{x y:bf}{b:Nat}{k:N}{a:aj}(p:a8 l k=none)(m:ht P X K)(j:hv P t X e=true)(v:∀w,(zeroValue e).run P w=.ok a w) (E:aR Y x=some (.map (some b))) (G:aR Y y=some (K k)) (q:bz K aU b l∈U):aK P n Y U ⟨some Z,.lookup t x y false,C,J,M,F⟩ a:=by have h:=aK.look (P:=P) (n:=n) (am:=Y) (an:=U) (dst:=Z) (ba:=C) (bb:=J) (bc:=M) (aV:=F) (l:=l) (k:=k) m j v E G q;rw[p]at h;exact h
def aK.h4{t e:a7}{x y:bf}{b:Nat}{k:N}{c:aj}{v:T}(p:a8 l k=some v)(m:ht P X K)(j:hv P t X e=true)(a:∀w,(zeroValue e).run P w=.ok c w) (E:aR Y x=some (.map (some b))) (G:aR Y y=some (K k)) (q:bz K aU b l∈U):aK P n Y U ⟨some Z,.lookup t x y false,C,J,M,F⟩ (aU v):=by have h:=aK.look (P:=P) (n:=n) (am:=Y) (an:=U) (dst:=Z) (ba:=C) (bb:=J) (bc:=M) (aV:=F) (l:=l) (k:=k) m j a E G q;rw[p]at h;exact h
end
end Go.ay
namespace Go.Proofs.YteogojgnkjegmaaGreatDoor
open Go.ay Go.Proofs.Tryz
variable[Go.ay.b4]
def mi(w:aZ):(Go.zeroValue 132).run prog w=.ok (.pointer none) w:=rfl
def mR(w:aZ):(Go.zeroValue 196).run prog w=.ok (.pointer none) w:=rfl
section
variable{P:bU}{f:eR}{args:ab aj}{N u:Type}{bW:er N->ab ax}{l:ab (ag×er N)}{x:ag}{e:er N}
def ar.W6{Q:aj->u->Prop}{i:u->er N}(G:a8 l x=some e)(h:ar P f args (bW e) (λr q=>∃z,Q r z/\q=bW (i z))):ar P f args [fh bW l] (λr q=>∃z,Q r z/\q=[fh bW (bx l x (i z))]):=by refine ar.eqv (xP bW G) (ar.frame (be:=[fh bW (e9 l x)]) h) ?_;rintro r q⟨_,⟨z,E,rfl⟩,rfl⟩;exact⟨_,⟨z,E,rfl⟩,(CO bW l x (i z)).symm⟩
def ar.gQ{Q:aj->Prop}(G:a8 l x=some e)(h:ar P f args (bW e) (λr q=>Q r/\q=bW e)):ar P f args [fh bW l] (λr q=>Q r/\q=[fh bW l]):=by refine ar.eqv (xP bW G) (ar.frame (be:=[fh bW (e9 l x)]) h) ?_;rintro r q⟨_,⟨E,rfl⟩,rfl⟩;exact⟨_,⟨E,rfl⟩,(xP bW G).symm⟩
end
def aC.UW(s:aC)(x:ag)(b:bm):ab (ag×er a6):=match a8 s.leads x with
 |some e=>if fL e.v.bj b=true then e9 s.leads x else s.leads
 |none=>s.leads
def aC.UX(s:aC)(x:ag)(b:bm):ab (ag×er bL):=match a8 s.bp x with
 |some e=>if fL e.v.x.bj b=true then e9 s.bp x else s.bp
 |none=>s.bp
def iF(s:aC)(x:ag)(d:aC):Prop:=
 d={s with leads:=s.UW x (bP s.aA.p x).bO,bp:=s.UX x (bP s.aA.p x).bO,dA:=(hP s.n s.self s.now s.fi [x] (s.dA,s.pl)).1,pl:=(hP s.n s.self s.now s.fi [x] (s.dA,s.pl)).2}
def ahB(b:Nat)(L:cW)(s:aC)(k:Nat)(h:RepI k s)(o:k<=1000000000000)(d:s.aA.ok)(x:ag)(z:bq x 7=true)(E:(bP s.aA.p x).Status≠3):ar prog 126 [aw b 0,A x.c] (cb b L s) (λr G=>∃y j,iF s x j/\r=.tuple #[]/\G=cb b y j):=by
 have Yf:ar prog 126 [aw b 0,A x.c] (cb b L s) (λr G=>∃Yg,r=.tuple #[]/\
   G=[fh jd s.leads,fh gQ s.bp,cells b 95 (eN L s),fE L.ec s.bQ s.X s.aA,bz cg c0 L.e3 (s.UW x (bP s.aA.p x).bO),bz cg c0 L.hi (s.UX x (bP s.aA.p x).bO),kv {L with ek:=Yg} {s with dA:=(hP s.n s.self s.now s.fi [x] (s.dA,s.pl)).1,pl:=(hP s.n s.self s.now s.fi [x] (s.dA,s.pl)).2},jP L.el L.dP s.run,mg s.M,bz cg iX L.eb s.dX,bz cg ln L.bH s.high,
    ej aD.c L.e0 176 25 s.inbox,rows b8.c L.dN 143 3 s.out,rows fF.c L.bS 65 6 s.told]):=by
  have dJ:=zH L.ec s.bQ s.X s.aA x d.p.towf
  have hJ (g:Nat):=CQ L s k h o s.now h.now (some ⟨g,0,none⟩) 1 [x] T3 LX
  obtain⟨ec,e3,hi,dS,wp,dZ,ek,el,dP,eb,t,e0,dN,bS⟩:=L
  unfold cb eN
  simp only[ox]at hJ
  dsimp only at dJ hJ⊢
  generalize bP s.aA.p x=i at*
  refine aE func126 λW=>?_
  have m:bd .eql i.Status 3=some false:=by simp[bd,E]
  refine aq 2 λgq=>?_
  refine aa 2 ?_
  refine ah.mt [0,3] (λ_:Nat=>True) (λp=>[(4,aw p 0)]) (λp=>[cells p 54 i.c]) (i:=[]) ?_ ?_
  .intro fM Yc
   refine ah.n' ?_ aB.j.j.j.j.j.j.j.j.j.j.j.j.j.d'.d'
   refine ae 5 0 ?_
   refine af.bv 5 6 rfl rfl ?_ ?_
   refine av.Z' rfl (dJ) Uc ?_
   refine aa 2 ?_
   refine df 6 λfT=>?_
   refine ae 1 7 ?_
   refine au ?_
   rotate_left
   refine O.N' ad (λfT=>?_)
   refine au ?_
   refine af.p' 5 rfl rfl (dJ) ?_
   refine aa 2 ?_
   refine ae 1 7 ?_
   refine au ?_
   rotate_left
   all_goals exact Out.z' Yc _ trivial trivial
  rintro fT-
  refine bl ?_
  refine aa 5 ?_
  refine ai.v (V.cmp rfl rfl m) ?_
  refine aa 5 ?_
  refine ah.mt [0,3,4] (λ_:Unit=>True) (λ_=>[]) (λ_=>[bz cg c0 e3 (s.UW x i.bO)]) (i:=[bz cg c0 e3 s.leads]) ?_ ?_
  .intro fM Yc
   unfold aC.UW at Yc
   cases R:a8 s.leads x with
   |none=>
    rw[R]at Yc;refine TO ?_;refine ae 5 0 ?_;refine af.q' 5 rfl (av.x' (aK.U6 (l:=s.leads) (k:=x) (aU:=c0) R ct kw mi rfl rfl T1) ?_);refine au ?_;refine ae 1 6 ?_;refine aa 3 ?_;refine ah.n' ?_ aB.j.j.j.j.j.j.j.j.j.j.j.j.j.j.j.d';refine ae 9 0 ?_;refine aa 4 ?_;all_goals exact Out.z' Yc () trivial trivial
   |some e=>
    rw[R]at Yc;have mN:=ar.gQ (bW:=jd) R (OC e.p e.v);have lj:=tI e.v.bj i.bO;dsimp only at Yc;cases Ye:fL e.v.bj i.bO
    .rw[Ye]at lj Yc;rw[aM T6]at Yc;refine M9 ?_;refine aa 4 ?_;all_goals exact Out.z' Yc () trivial trivial
    .rw[Ye]at lj Yc;rw[aQ rfl]at Yc;refine M9 ?_;refine aa 3 ?_;refine ah.n' ?_ aB.j.j.j.j.j.j.j.j.j.j.j.j.d'.d'.j.j;refine ae 5 0 ?_;refine af.q' 5 rfl (av.U9 (l:=s.leads) (k:=x) (aU:=c0) ct kw rfl rfl T2 ?_);refine aa 2 ?_;all_goals exact Out.z' Yc () trivial trivial
  rintro⟨⟩-
  refine bl ?_
  generalize s.UW x i.bO=Yh
  refine ah.mt [0,3,4] (λ_:Unit=>True) (λ_=>[]) (λ_=>[bz cg c0 hi (s.UX x i.bO)]) (i:=[bz cg c0 hi s.bp]) ?_ ?_
  .intro fM Yc
   unfold aC.UX at Yc
   cases R:a8 s.bp x with
   |none=>
    rw[R]at Yc;refine au ?_;refine ah.n' ?_ aB.j.j.j.j.j.j.j.j.j.j.j.j.d'.d'.j.j;refine ae 5 0 ?_;refine af.q' 5 rfl (av.x' (aK.U6 (l:=s.bp) (k:=x) (aU:=c0) R ct kx mR rfl rfl T1) ?_);refine au ?_;refine ae 1 6 ?_;refine aa 3 ?_;refine ah.n' ?_ aB.j.j.j.j.j.j.j.j.j.j.j.j.j.j.d'.j;refine ae 9 0 ?_;refine aa 4 ?_;all_goals exact Out.z' Yc () trivial trivial
   |some e=>
    rw[R]at Yc;have mN:=ar.gQ (bW:=gQ) R (CC e.p e.q e.v);have lj:=tI e.v.x.bj i.bO;dsimp only at Yc;cases Ye:fL e.v.x.bj i.bO
    .rw[Ye]at lj Yc;rw[aM T6]at Yc;refine QP ?_;refine aa 4 ?_;all_goals exact Out.z' Yc () trivial trivial
    .rw[Ye]at lj Yc;rw[aQ rfl]at Yc;refine QP ?_;refine aa 3 ?_;refine ah.n' ?_ aB.j.j.j.j.j.j.j.j.j.j.j.d'.d'.j.j.j;refine ae 5 0 ?_;refine af.q' 5 rfl (av.U9 (l:=s.bp) (k:=x) (aU:=c0) ct kx rfl rfl T2 ?_);refine aa 2 ?_;all_goals exact Out.z' Yc () trivial trivial
  rintro⟨⟩-
  refine bl ?_
  generalize s.UX x i.bO=Yi
  refine ah.n' ?_ aB.j.j.j.j.j.j.j.j.j.j.j.d'.d'.j.j.j
  refine ae 9 0 ?_
  refine af.q' 9 rfl (O.Q' ad ag.c [x] rfl (bI.agg rfl bI.nil) rfl rfl (λYk=>?_))
  refine au ?_
  refine af.p' 10 rfl rfl (hJ _) ?_
  rintro _ _⟨Yj,rfl,rfl⟩
  exact aP 4
  all_goals exact⟨_,_,⟨_,rfl,rfl⟩,Uc⟩
 refine ar.UB Yf ?_;rintro v G W D w⟨Yg,rfl,rfl⟩ a;have i {U:ab ax} (a:H W D (fh jd s.leads::U) w):H W D (fh jd (s.UW x (bP s.aA.p x).bO)::U) w:=by
  unfold aC.UW;split
  .split
   .exact uj jd s.leads x a
   .exact a
  .exact a
 have q {U:ab ax} (a:H W D (fh gQ s.bp::U) w):H W D (fh gQ (s.UX x (bP s.aA.p x).bO)::U) w:=by
  unfold aC.UX;split
  .split
   .exact uj gQ s.bp x a
   .exact a
  .exact a
 have E:=q ((i a).perm (hK ..));refine⟨_,⟨{L with ek:=Yg},_,rfl,rfl,rfl⟩,E.gW (g:=[]) ?_⟩;unfold cb;exact Uc
end Go.Proofs.YteogojgnkjegmaaGreatDoor
namespace Go.Proofs.YteogojgnkjegmaaGreatDoor
open Go.ay Go.Proofs.Tryz
variable[Go.ay.b4]
section
variable{P:bU}{f:eR}{args:ab aj}{Y U:Type}{bW:er Y->ab ax}{l:ab (ag×er Y)}{x:ag}{e:er Y}
def ar.V3{Q:aj->U->Prop}{T:U->ax}(G:a8 l x=some e)(h:ar P f args (bW e) (λr Z=>∃z,Q r z/\Z=T z::bW e)):ar P f args [fh bW l] (λr Z=>∃z,Q r z/\Z=[T z,fh bW l]):=by refine ar.eqv (xP bW G) (ar.frame (be:=[fh bW (e9 l x)]) h) ?_;rintro r Z⟨_,⟨z,J,rfl⟩,rfl⟩;exact⟨_,⟨z,J,rfl⟩,aO.cons _ (xP bW G).symm⟩
end
def ah.WD{P:bU}{r:aT Nat}{W:aZ}{D:ab Nat}{n:dq}{Q:cU}{M:bC}{C R:ab ax}{c:Go.Code}{b J:ax}(L:b=J)(k:ah P r W D n Q c M (J::R))(q:ak C [b] R:=by(repeat(first|exact ak.nil|exact al.here|apply ak.cons|apply al.there))):ah P r W D n Q c M C:=
 ah.iN (λw i=>by subst L;exact i.UP q) k
def aC.Uz(s:aC)(m:aD):ab (ag×bm):=if m.Kind=8 then bx s.high m.Item (kQ [(a8 s.high m.Item).getD bm.z,m.bB])else s.high
noncomputable def aC.Up(s:aC)(m:aD)(a:Nat):aC:=match a8 s.bp m.Item with
 |none=>s
 |some e=>
  if(e.v.y' m).2=true then
   (if(e.v.y' m).1.lost=true then{({s with bp:=bx s.bp m.Item ⟨e.p,a,(e.v.y' m).1⟩}:aC).send (e.v.y' m).1.E' with bp:=e9 (bx s.bp m.Item ⟨e.p,a,(e.v.y' m).1⟩) m.Item}
   else({s with bp:=bx s.bp m.Item ⟨e.p,a,(e.v.y' m).1⟩}:aC).send (e.v.y' m).1.E')
  else{s with bp:=bx s.bp m.Item ⟨e.p,a,(e.v.y' m).1⟩}
noncomputable def aC.Uw(s:aC)(m:aD):aC:=match a8 s.leads m.Item with
 |none=>s
 |some e=>
  if(e.v.y' m).2=true then
   (if(e.v.y' m).1.phase=4 then{({s with leads:=bx s.leads m.Item ⟨e.p,e.q,(e.v.y' m).1⟩}:aC).send (e.v.y' m).1.E' with leads:=e9 (bx s.leads m.Item ⟨e.p,e.q,(e.v.y' m).1⟩) m.Item}
   else({s with leads:=bx s.leads m.Item ⟨e.p,e.q,(e.v.y' m).1⟩}:aC).send (e.v.y' m).1.E')
  else{s with leads:=bx s.leads m.Item ⟨e.p,e.q,(e.v.y' m).1⟩}
def s3(s:aC)(m:aD)(d:aC):Prop:=∃a,d=(({s with high:=s.Uz m}:aC).Up m a).Uw m
structure RepW(s:aC):Prop where
 cw:∀x e,a8 s.leads x=some e->ip e.v s.n s.self x e.v.bj
 rs:∀x e,a8 s.bp x=some e->e.v.ok/\e.v.x.n=s.n
def rP(b:Nat)(L:cW)(s:aC)(R:ab (ag×er a6))(ch:ab (ag×er bL)):ab ax:=
 [cells b 95 (eN L s),fE L.ec s.bQ s.X s.aA,bz cg c0 L.e3 s.leads,fh jd R,bz cg c0 L.hi s.bp,fh gQ ch,kv L s,jP L.el L.dP s.run,mg s.M,bz cg iX L.eb s.dX,bz cg ln L.bH s.high,
  ej aD.c L.e0 176 25 s.inbox,rows b8.c L.dN 143 3 s.out,rows fF.c L.bS 65 6 s.told]
theorem bL.Va{r:bL}(h:r.ok):r.E'.length<=7:=by
 have:=h.n;unfold bL.E';split
 .simp
 .split
  .rename_i l T;have k:=h.cw l T;unfold a6.E';split
   .rw[a6.Wa,k.n];omega
   .simp
  .grind
theorem a6.Va{l:a6}{n c:Int}{it:ag}{h:bm}(k:ip l n c it h)(a:n<=7):l.E'.length<=7:=by
 unfold a6.E';split
 .rw[a6.Wa,k.n];omega
 .simp
def s4(s:aC)(l:ab aD):(s.send l).inbox.length<=s.inbox.length+l.length/\(s.send l).out.length<=s.out.length+l.length:=by grind [aC.send,List.length_append,H2,H3]
def CS{s:aC}(m:aD)(a:Nat)(b:∀x e,a8 s.bp x=some e->e.v.ok):(s.Up m a).leads=s.leads/\(s.Up m a).n=s.n/\(s.Up m a).self=s.self/\(s.Up m a).inbox.length<=s.inbox.length+7/\(s.Up m a).out.length<=s.out.length+7:=by
 unfold aC.Up;split
 .grind
 .rename_i e L;have y:=bL.Va ((b _ _ L).y' m);have T:=s4 ({s with bp:=bx s.bp m.Item ⟨e.p,a,(e.v.y' m).1⟩}:aC) (e.v.y' m).1.E';dsimp only at T;split
  .split
   .exact⟨rfl,rfl,rfl,Lk,Lk⟩
   .exact⟨rfl,rfl,rfl,ac,ac⟩
  .grind
def aeL(b:Nat)(L:cW)(s:aC)(m:aD)(cM:3<=s.n/\s.n<=7)(k1:RepW s)(ao:s.inbox.length<=999000)(dy:s.out.length<=999000):ar prog 127 [aw b 0,A m.c] (cb b L s++[cJ]) (λr Z=>∃bD C,s3 s m C/\r=.tuple #[]/\Z=cb b bD C++[cJ]):=by
 suffices Yc:ar prog 127 [aw b 0,A m.c] (cb b L s++[cJ]) (λr Z=>∃bD C pl,(s3 s m C/\(pl=C.leads\/C.leads=e9 pl m.Item))/\r=.tuple #[]/\Z=rP b bD C pl C.bp++[cJ]) by
  refine ar.UB Yc ?_;rintro v Z W D w⟨bD,C,pl,⟨dE,Yh⟩,rfl,rfl⟩ cy;refine⟨_,⟨bD,C,dE,rfl,rfl⟩,?_⟩;rcases Yh with rfl|Yh
  .exact cy.gW (g:=[]) Pg
  .have bg:=cy.UP (be:=[fh jd pl]) Ku;have bY:=uj jd pl m.Item bg;rw[<-Yh]at bY;exact bY.gW (g:=[]) Tf
 obtain⟨ec,u,R,dS,wp,dZ,ek,el,dP,eb,X,e0,dN,bS⟩:=L;unfold cb eN;refine bl ?_;have Yn:∀x e,a8 s.leads x=some e->ip e.v s.n s.self x e.v.bj:=k1.cw;refine aE func127 λW=>?_;generalize bn _=D;refine aq 2 λgq=>?_;refine aa 2 ?_;refine ah.mt [0,3] (λ_:Unit=>True) (λ_=>[]) (λ_=>[bz cg ln X (s.Uz m)]) (i:=[bz cg ln X s.high]) ?_ ?_
 .intro fM a;unfold aC.Uz at a;by_cases Yq:m.Kind=8
  .have dx:bd .eql m.Kind 8=some true:=by simp[bd,Yq]
   rw[aQ Yq]at a;have Ys (g:Nat):ar prog 138 [.slice (some ⟨g,0,none⟩) 2 2] [rows bm.c (.slice (some ⟨g,0,none⟩) 2 2) 48 2 [(a8 s.high m.Item).getD bm.z,m.bB]] _:=Fy _ _ 2 g 0 [(a8 s.high m.Item).getD bm.z,m.bB] (Rd.rows (l:=[(a8 s.high m.Item).getD bm.z,m.bB]) bm.len T3);refine aa 4 ?_;refine ai.v (V.cmp rfl rfl dx) ?_;refine aa 3 ?_;refine ah.n' ?_ aB.j.j.j.j.j.j.j.j.j.j.j.j.j.j.d'.d';refine ae 12 0 ?_;refine ae 2 13 ?_;refine af.q' 12 rfl (av.x' (aK.UD (l:=s.high) (k:=m.Item) (aU:=ln) bm.z ct xS H4 rfl rfl T1) ?_);refine au ?_;refine af.q' 15 rfl (O.Q' ad bm.c [(a8 s.high m.Item).getD bm.z,m.bB] rfl (bI.agg rfl (bI.agg rfl bI.nil)) rfl rfl (λYl=>?_));refine au ?_;refine af.p' 16 rfl rfl (Ys _) ?_;refine aa 2 ?_;refine af.q' 17 rfl (av.UC (l:=s.high) (k:=m.Item) (v:=kQ [(a8 s.high m.Item).getD bm.z,m.bB]) (b1:=cg) (aU:=ln) ct xS rfl rfl rfl T2 ?_);refine aa 2 ?_;all_goals exact Out.z' a () trivial trivial
  .have dx:bd .eql m.Kind 8=some false:=by simp[bd,Yq]
   rw[aM Yq]at a;refine aa 4 ?_;refine ai.v (V.cmp rfl rfl dx) ?_;refine aa 4 ?_;all_goals exact Out.z' a () trivial trivial
 rintro⟨⟩-;refine bl ?_;have i:∃d:aC,d=({s with high:=s.Uz m}:aC):=⟨_,rfl⟩
 obtain⟨d,i⟩:=i;unfold s3;rw[<-i];refine ah.mt [0,3] (λz:cW×aC×ab (ag×er bL)=>(∃t,z.2.1=d.Up m t)/\(z.2.2=z.2.1.bp\/z.2.1.bp=e9 z.2.2 m.Item)) (λ_=>[]) (λz=>rP b z.1 z.2.1 z.2.1.leads z.2.2++[cJ]) (i:=rP b ⟨ec,u,R,dS,wp,dZ,ek,el,dP,eb,X,e0,dN,bS⟩ d d.leads d.bp++[cJ]) ?_ ?_ (o:=Qn)
 .intro fM a;have Yi:d.bp=s.bp:=by rw[i]
  cases K:a8 s.bp m.Item with
  |none=>
   have eE:=aeb m;refine TO ?_;refine ae 6 0 ?_;refine af.q' 6 rfl (av.x' (aK.U6 (l:=s.bp) (k:=m.Item) (aU:=c0) K ct kx mR rfl rfl T1) ?_);refine au ?_;refine ae 1 7 ?_;refine aa 11 ?_;all_goals(refine Out.z' a (⟨ec,u,R,dS,wp,dZ,ek,el,dP,eb,X,e0,dN,bS⟩,d,d.bp) ?_ trivial (t:=Qn);exact ⟨⟨0,by unfold aC.Up;rw[Yi,K]⟩,.inl rfl⟩)
  |some e=>
   obtain⟨Ye,Yw⟩:=k1.rs _ _ K;have cy:=ar.W6 (bW:=gQ) (Q:=λr (_:Nat)=>r=B (e.v.y' m).2) (i:=λt=>⟨e.p,t,(e.v.y' m).1⟩) K (ag4 e.p e.q e.v Ye m);cases cN:(e.v.y' m).2<;>rw[cN]at cy
   .refine TO ?_;refine RE λJ=>?_;refine aa 5 ?_;all_goals(refine Out.z' a (⟨ec,u,R,dS,wp,dZ,ek,el,dP,eb,X,e0,dN,bS⟩,{d with bp:=bx s.bp m.Item ⟨e.p,J,(e.v.y' m).1⟩},bx s.bp m.Item ⟨e.p,J,(e.v.y' m).1⟩) ?_ trivial (t:=by subst i;unfold rP;dsimp only[List.cons_append,List.nil_append];rw[xQ R (i:=⟨e.p,J,(e.v.y' m).1⟩) K rfl];(repeat(first|exact ak.nil|exact al.here|apply ak.cons|apply al.there)));exact ⟨⟨J,by unfold aC.Up;rw[Yi,K];dsimp only;rw[aM (by rw[cN];decide)]⟩,.inl rfl⟩)
   .have Yr:=Ye.y' m;refine TO ?_;refine RE λJ=>?_;refine aa 4 ?_;refine ah.WD (xQ R (i:=⟨e.p,J,(e.v.y' m).1⟩) K rfl).symm ?_;generalize Yj:bx s.bp m.Item ⟨e.p,J,(e.v.y' m).1⟩=o;have bF:a8 o m.Item=some ⟨e.p,J,(e.v.y' m).1⟩:=by grind [hw]
    have j:=ar.V3 (bW:=gQ) (Q:=λr (z:aT Go.Addr×Nat)=>r=.slice z.1 (e.v.y' m).1.E'.length z.2) (T:=λz=>rows aD.c (.slice z.1 (e.v.y' m).1.E'.length z.2) 176 25 (e.v.y' m).1.E') bF (ar.post (CB e.p J (e.v.y' m).1 Yr) NW);have M:=ar.gQ (bW:=gQ) bF (PQ e.p J (e.v.y' m).1 Yr);have G (cV:aT Go.Addr) (E:Nat):=uk b ⟨ec,u,R,dS,wp,dZ,ek,el,dP,eb,X,e0,dN,bS⟩ {d with bp:=o} cV E (e.v.y' m).1.E' (by rw[i];exact cM.2) (by grind [bL.Va]) Uh Uh;unfold cb eN at G;dsimp only[List.cons_append,List.nil_append]at G j M;rw[i]at G;dsimp only at G;cases y:(e.v.y' m).1.lost<;>rw[y]at M
    .refine aa 5 ?_;refine M6 λYt N=>?_;refine aa 12 ?_;all_goals(refine Out.z' a (N,({d with bp:=o}:aC).send (e.v.y' m).1.E',o) ?_ trivial (t:=Qn);exact ⟨⟨J,by unfold aC.Up;rw[Yi,K];dsimp only;rw[aQ cN,aM (by rw[y];decide),Yj]⟩,.inl rfl⟩)
    .refine aa 5 ?_;refine M6 λYt N=>?_;refine aa 11 ?_;refine ah.n' ?_ aB.d'.j.j.j.j.j.j.j.j.j.j.j.j.j.d'.j;refine ae 6 0 ?_;refine af.q' 6 rfl (av.U9 (l:=o) (k:=m.Item) (aU:=c0) ct kx rfl rfl T2 ?_);refine aa 2 ?_;all_goals(refine Out.z' a (N,{({d with bp:=o}:aC).send (e.v.y' m).1.E' with bp:=e9 o m.Item},o) ?_ trivial (t:=Qn);exact ⟨⟨J,by unfold aC.Up;rw[Yi,K];dsimp only;rw[aQ cN,aQ y,Yj]⟩,.inr rfl⟩)
 rintro⟨gA,s1,ch⟩⟨⟨t,aW⟩,Ym⟩;dsimp only at aW Ym;dsimp only;refine ah.iN (a2:=cb b gA s1++[cJ,cells gq 176 m.c]) (λw cG=>?_) ?_
 .rcases Ym with rfl|Ym
  .exact cG.gW (g:=[]) Pg
  .have bg:=cG.UP (be:=[fh gQ ch]) Ku;have bY:=uj gQ ch m.Item bg;rw[<-Ym]at bY;exact bY.gW (g:=[]) Tf
 have F:=CS (s:=d) m t (by rw[i];exactλx e c9=>(k1.rs x e c9).1);rw[<-aW]at F;have Yg:s1.leads=s.leads:=by rw[F.1,i]
 have Yp:s1.n=s.n:=by rw[F.2.1,i]
 have Yv:s1.self=s.self:=by rw[F.2.2.1,i]
 have Yk:s1.inbox.length<=999100:=Uh
 have Yo:s1.out.length<=999100:=Uh
 rw[<-Yg]at Yn;clear F i;obtain⟨ec,u,R,dS,wp,dZ,ek,el,dP,eb,X,e0,dN,bS⟩:=gA;unfold cb eN;refine bl ?_;cases K:a8 s1.leads m.Item with
 |none=>
  have eE:=aiz m;refine au ?_;refine ah.n' ?_ aB.d'.j.j.j.j.j.j.j.j.j.j.j.j.j.j.d';refine ae 6 0 ?_;refine af.q' 6 rfl (av.x' (aK.U6 (l:=s1.leads) (k:=m.Item) (aU:=c0) K ct kw mi rfl rfl T1) ?_);refine au ?_;refine ae 1 7 ?_;refine aa 12 ?_;all_goals exact⟨_,_,⟨⟨ec,u,R,dS,wp,dZ,ek,el,dP,eb,X,e0,dN,bS⟩,s1,s1.leads,⟨⟨t,R4⟩,.inl rfl⟩,rfl,rfl⟩,Uc⟩
 |some e=>
  have cc:=Yn _ _ K;have cy:=ar.W6 (bW:=jd) (Q:=λr (_:Unit)=>r=B (e.v.y' m).2) (i:=λ_=>⟨e.p,e.q,(e.v.y' m).1⟩) K (ar.post (Cm e.p e.v cc.wf m (by rw[cc.n];omega)) (by rintro v Z⟨rfl,rfl⟩;exact⟨_,⟨(),rfl,rfl⟩,λ_ _ _ h=>h⟩));have Yf:=tZ cc m;cases cN:(e.v.y' m).2<;>rw[cN]at cy
  .refine Kz λYu=>?_;refine aa 6 ?_;all_goals exact⟨_,_,⟨⟨ec,u,R,dS,wp,dZ,ek,el,dP,eb,X,e0,dN,bS⟩,{s1 with leads:=bx s1.leads m.Item ⟨e.p,e.q,(e.v.y' m).1⟩},bx s1.leads m.Item ⟨e.p,e.q,(e.v.y' m).1⟩,⟨⟨t,R4⟩,.inl rfl⟩,rfl,rfl⟩,(by unfold rP;dsimp only[List.cons_append,List.nil_append];rw[xQ u (i:=⟨e.p,e.q,(e.v.y' m).1⟩) K rfl];(repeat(first|exact ak.nil|exact al.here|apply ak.cons|apply al.there)))⟩
  .refine Kz λYu=>?_;refine aa 4 ?_;refine ah.WD (xQ u (i:=⟨e.p,e.q,(e.v.y' m).1⟩) K rfl).symm ?_;generalize Yj:bx s1.leads m.Item ⟨e.p,e.q,(e.v.y' m).1⟩=o;have bF:a8 o m.Item=some ⟨e.p,e.q,(e.v.y' m).1⟩:=by grind [hw]
   have j:=ar.V3 (bW:=jd) (Q:=λr (z:aT Go.Addr×Nat)=>r=.slice z.1 (e.v.y' m).1.E'.length z.2) (T:=λz=>rows aD.c (.slice z.1 (e.v.y' m).1.E'.length z.2) 176 25 (e.v.y' m).1.E') bF (ar.post (ar.pr aD.len (zA e.p (e.v.y' m).1 (by rw[Yf.n];omega))) NW);have T:=ar.gQ (bW:=jd) bF (Ck e.p (e.v.y' m).1);have G (cV:aT Go.Addr) (E:Nat):=uk b ⟨ec,u,R,dS,wp,dZ,ek,el,dP,eb,X,e0,dN,bS⟩ {s1 with leads:=o} cV E (e.v.y' m).1.E' (by show s1.n<=7;omega) (by grind [a6.Va]) Uh Uh;unfold cb eN at G;dsimp only[List.cons_append,List.nil_append]at G j T;by_cases y:(e.v.y' m).1.phase=4
   .have N:bd .eql (e.v.y' m).1.phase 4=some true:=by simp[bd,y]
    refine aa 5 ?_;refine M6 λu c=>?_;refine aa 8 ?_;refine ai.v (V.cmp rfl rfl N) ?_;refine aa 3 ?_;refine ah.n' ?_ aB.d'.j.j.j.j.j.j.j.j.j.j.j.j.j.d'.j;refine ae 6 0 ?_;refine af.q' 6 rfl (av.U9 (l:=o) (k:=m.Item) (aU:=c0) ct kw rfl rfl T2 ?_);refine aa 3 ?_;all_goals exact⟨_,_,⟨c,{({s1 with leads:=o}:aC).send (e.v.y' m).1.E' with leads:=e9 o m.Item},o,⟨⟨t,R4⟩,.inr rfl⟩,rfl,rfl⟩,Uc⟩
   .have N:bd .eql (e.v.y' m).1.phase 4=some false:=by simp[bd,y]
    refine aa 5 ?_;refine M6 λu c=>?_;refine aa 8 ?_;refine ai.v (V.cmp rfl rfl N) ?_;refine aa 5 ?_;all_goals exact⟨_,_,⟨c,({s1 with leads:=o}:aC).send (e.v.y' m).1.E',o,⟨⟨t,R4⟩,.inl rfl⟩,rfl,rfl⟩,Uc⟩
end Go.Proofs.YteogojgnkjegmaaGreatDoor
namespace Go.Proofs.YteogojgnkjegmaaGreatDoor
open Go.ay Go.Proofs.Tryz
variable[Go.ay.b4]
variable{m:aD}{it:ag}
def QJ(o g:Nat)(X:eH)(s:bR)(T:Int)(m:aD)(G:c3 m s.n=false\/m.bK≠T):ar prog 125 [aw o 0,I T,A m.c] [fE o g X s,cJ] (λr J=>r=.tuple #[A aD.z.c,B false]/\J=[fE o g X s,cJ]):=by
 have L:=HY o g X s;have x:=zg m s.n;by_cases j:m.bK=T
 .have X:c3 m s.n=false:=by
   rcases G with h|h
   .exact h
   .exact absurd j h
  rw[X]at x;refine Qo λW g d=>?_;refine ae 2 9 ?_;refine af.p' 11 rfl rfl (L) ?_;refine aa 2 ?_;refine af.p' 12 rfl rfl (x) ?_;refine aa 2 ?_;refine ae 2 13 ?_;exact aP 13
 .refine Qo λW g d=>?_;refine ae 6 9 ?_;exact aP 13
noncomputable def c4(s:bR)(X:Int)(m:aD):bR×aD×Bool:=if c3 m s.n=true/\m.bK=X then lM s m else(s,aD.z,false)
def adz(o g:Nat)(X:eH)(s:bR)(u:Int)(m:aD)(h:s.ok)(w:h1 X.L s.p)(T:X.L.da<=1000000000000):ar prog 125 [aw o 0,I u,A m.c] [fE o g X s,cJ] (λr J=>∃d:eH,(d.L.da<=X.L.da+3/\h1 d.L (c4 s u m).1.p)/\r=.tuple #[A (c4 s u m).2.1.c,B (c4 s u m).2.2]/\J=[fE o g d (c4 s u m).1,cJ]):=by
 unfold c4;by_cases G:c3 m s.n=true/\m.bK=u
 .simp only[aQ G];exact ae4 o g X s u m h (hy.1 G.1) G.2 w T
 .simp only[aM G];refine ar.post (QJ o g X s u m ?_) ?_
  .by_cases j:m.bK=u
   .refine .inl ?_;cases h:c3 m s.n with
    |false=>rfl
    |true=>exact absurd ⟨h,j⟩ G
   .exact .inr j
  .rintro v J⟨rfl,rfl⟩;exact⟨_,⟨X,⟨jL _ _,w⟩,rfl,rfl⟩,λ_ _ _ h=>h⟩
noncomputable def aC.Uq(s:aC)(m:aD)(d:eH):aC:=
 if(c4 s.aA s.self m).2.2=true then({s with aA:=(c4 s.aA s.self m).1,X:=d}:aC).send [(c4 s.aA s.self m).2.1]else{s with aA:=(c4 s.aA s.self m).1,X:=d}
def mj(m:aD):Prop:=m.Kind=1\/m.Kind=3\/m.Kind=6\/m.Kind=5
def fG(s:aC)(m:aD)(d:aC):Prop:=
 (mj m/\∃o,o.L.da<=s.X.L.da+3/\h1 o.L (c4 s.aA s.self m).1.p/\
  (((bP (c4 s.aA s.self m).1.p m.Item).Status=3/\nl (s.Uq m o) m.Item d)\/((bP (c4 s.aA s.self m).1.p m.Item).Status≠3/\iF (s.Uq m o) m.Item d)))\/
 (¬mj m/\s3 s m d)
structure H5(k:Nat)(s:aC):Prop extends RepI k s,RepW s where
 aA:s.aA.ok
 en:s.aA.n=s.n
 sp:h1 s.X.L s.aA.p
 da:s.X.L.da<=k
def adT(b:Nat)(L:cW)(s:aC)(k:Nat)(h:RepI k s)(u:k<=1000000000000)(T:s.aA.ok)(x:ag)(G:bq x 7=true):ar prog 126 [aw b 0,A x.c] (cb b L s) (λr J=>∃E d,(((bP s.aA.p x).Status=3/\nl s x d)\/((bP s.aA.p x).Status≠3/\iF s x d))/\r=.tuple #[]/\J=cb b E d):=by
 by_cases U:(bP s.aA.p x).Status=3
 .refine ar.post (acs b L s k h T x U) ?_;rintro v J⟨E,d,Y,rfl,rfl⟩;exact⟨_,⟨E,d,.inl ⟨U,Y⟩,rfl,rfl⟩,λ_ _ _ h=>h⟩
 .refine ar.post (ahB b L s k h u T x G U) ?_;rintro v J⟨E,d,Y,rfl,rfl⟩;exact⟨_,⟨E,d,.inr ⟨U,Y⟩,rfl,rfl⟩,λ_ _ _ h=>h⟩
instance(m:aD):Decidable (mj m):=by unfold mj;infer_instance
def zK{s:bR}{x:ag}{G N:aX}(h:s.ok)(U:bq x s.n=true)(ao:eW N s.n=true):(mh s x G N).ok/\(mh s x G N).n=s.n:=by
 unfold mh;split
 .exact⟨h,rfl⟩
 .exact⟨bR.abg h U ao,bR.V9 ..⟩
def agi{s:bR}(h:s.ok)(K:hx m s.n):(lM s m).1.ok/\(lM s m).1.n=s.n:=by
 have ao:=vQ h m.Item;unfold lM;dsimp only;split
 .exact⟨h,rfl⟩
 split
 .rename_i u;have q:=p4 K LU;unfold jR;dsimp only;split
  .exact zK h K.item (vR ao K.bj (.inl rfl) (zG h q))
  .exact⟨h,rfl⟩
 split
 .rename_i u;have q:=p4 K LU;unfold jS;dsimp only;split
  .exact zK h K.item (vR ao K.bj (.inr rfl) q)
  .exact⟨h,rfl⟩
 split
 .unfold mQ;dsimp only;split
  .exact zK h K.item (zF ao K.bj)
  .exact⟨h,rfl⟩
 split
 .rename_i u;have q:=p4 K LU;exact zK h K.item (xr ao q)
 .exact⟨h,rfl⟩
def H6{s:bR}(X:Int)(h:s.ok):(c4 s X m).1.ok/\(c4 s X m).1.n=s.n:=by
 unfold c4;split
 .rename_i G;exact agi h (hy.1 G.1)
 .exact⟨h,rfl⟩
def RepI.Uq{k:Nat}{s:aC}(h:RepI k s)(m:aD)(d:eH):RepI k (s.Uq m d):=by
 unfold aC.Uq;split
 exact Ty
 exact Ty
theorem vV(s:aC)(m:aD)(d:eH):(s.Uq m d).aA=(c4 s.aA s.self m).1:=by unfold aC.Uq;split<;>rfl
def adY(b:Nat)(L:cW)(s:aC)(k:Nat)(h:RepI k s)(u:k<=1000000000000)(T:s.aA.ok)(x:ag)(G:bq x 7=true):ar prog 126 [aw b 0,A x.c] (cb b L s++[cJ]) (λr J=>∃E d,(((bP s.aA.p x).Status=3/\nl s x d)\/((bP s.aA.p x).Status≠3/\iF s x d))/\r=.tuple #[]/\J=cb b E d++[cJ]):=by refine ar.post (ar.frame (be:=[cJ]) (adT b L s k h u T x G)) ?_;rintro v J⟨_,⟨E,d,Y,rfl,rfl⟩,rfl⟩;exact⟨_,⟨E,d,Y,rfl,rfl⟩,λ_ _ _ h=>h⟩
theorem xT{s:aC}(d:eH)(h:(c4 s.aA s.self m).2.2=false):s.Uq m d={s with aA:=(c4 s.aA s.self m).1,X:=d}:=by unfold aC.Uq;rw[aM (by rw[h];decide)]
def xU{s:aC}(d:eH)(h:(c4 s.aA s.self m).2.2=true):s.Uq m d=({s with aA:=(c4 s.aA s.self m).1,X:=d}:aC).send [(c4 s.aA s.self m).2.1]:=by unfold aC.Uq;rw[aQ h]
def H7(b:Nat)(L:cW)(s:aC)(k:Nat)(m:aD)(h:H5 k s)(cc:k<=1000000000000)(bF:bq m.Item 7=true)(ao:s.inbox.length<=900000)(dy:s.out.length<=900000):ar prog 90 [aw b 0,A m.c] (cb b L s++[cJ]) (λr Z=>∃u cE,fG s m cE/\r=.tuple #[]/\Z=cb b u cE++[cJ]):=by
 have kP:=h.gO;have Yg:=h.da;have x:=adz L.ec s.bQ s.X s.aA s.self m h.aA h.sp ac;have J:=aeL b L s m kP h.toRepW ac ac;have Q (d:eH) (g:Nat):=uk b L {s with aA:=(c4 s.aA s.self m).1,X:=d} (some ⟨g,0,none⟩) 1 [(c4 s.aA s.self m).2.1] QD T3 OZ Q1;have i (d:eH) (u:cW):=(adY b u (s.Uq m d) k (h.toRepI.Uq m d) cc (by rw[vV];exact(H6 s.self h.aA).1) m.Item bF)
 have Yf:∀d,s.Uq m d=s.Uq m d:=λ_=>rfl;obtain⟨j,e3,hi,dS,wp,dZ,ek,el,dP,eb,bH,e0,dN,bS⟩:=L;unfold cb eN at Q J;unfold cb eN;simp only[ox]at Q;dsimp only[List.cons_append,List.nil_append]at Q x J i⊢;refine aE func90 λW=>?_;generalize bn _=D;refine aq 2 λgq=>?_;refine aa 9 ?_;refine ah.mt [0,3] (λ_:Unit=>True) (λ_=>[(11,B (decide (mj m)))]) (λ_=>[]) (i:=[]) ?_ ?_
 .intro fM w;clear Q J i x;by_cases y:m.Kind=1
  .have l:bd .eql m.Kind 1=some true:=by simp[bd,y]
   rw[ic (show mj m from .inl y)]at w;refine aa 2 ?_;refine ai.v (V.cmp rfl rfl l) ?_;refine aa 5 ?_;all_goals exact Out.z' w () trivial trivial
  have l:bd .eql m.Kind 1=some false:=by simp[bd,y]
  by_cases f:m.Kind=3
  .have P:bd .eql m.Kind 3=some true:=by simp[bd,f]
   rw[ic (show mj m from .inr (.inl f))]at w;refine aa 2 ?_;refine ai.v (V.cmp rfl rfl l) ?_;refine aa 6 ?_;refine ai.v (V.cmp rfl rfl P) ?_;refine aa 5 ?_;all_goals exact Out.z' w () trivial trivial
  have P:bd .eql m.Kind 3=some false:=by simp[bd,f]
  by_cases js:m.Kind=6
  .have F:bd .eql m.Kind 6=some true:=by simp[bd,js]
   rw[ic (show mj m from .inr (.inr (.inl js)))]at w;refine NZ ?_;all_goals exact Out.z' w () trivial trivial
  have F:bd .eql m.Kind 6=some false:=by simp[bd,js]
  by_cases t:m.Kind=5
  .have M:bd .eql m.Kind 5=some true:=by simp[bd,t]
   rw[ic (show mj m from .inr (.inr (.inr t)))]at w;refine NZ ?_;refine ai.v (V.cmp rfl rfl M) ?_;refine aa 2 ?_;all_goals exact Out.z' w () trivial trivial
  .have M:bd .eql m.Kind 5=some false:=by simp[bd,t]
   rw[lg (show¬mj m fromλdE=>by unfold mj at dE;omega)]at w;refine NZ ?_;refine ai.v (V.cmp rfl rfl M) ?_;refine aa 2 ?_;all_goals exact Out.z' w () trivial trivial
 rintro⟨⟩-;refine bl ?_;by_cases q:mj m
 .rw[ic q];refine au ?_;refine ah.mt [0,3] (λz:cW×eH=>z.2.L.da<=s.X.L.da+3/\h1 z.2.L (c4 s.aA s.self m).1.p) (λ_=>[]) (λz=>cb b z.1 (s.Uq m z.2)++[cJ]) (i:=cb b ⟨j,e3,hi,dS,wp,dZ,ek,el,dP,eb,bH,e0,dN,bS⟩ s++[cJ]) ?_ ?_ (o:=O2)
  .intro fM w;refine ah.mt [0,3] (λz:Nat×eH=>z.2.L.da<=s.X.L.da+3/\h1 z.2.L (c4 s.aA s.self m).1.p) (λz=>[(4,aw z.1 0),(5,B (c4 s.aA s.self m).2.2)]) (λz=>[cells z.1 176 (c4 s.aA s.self m).2.1.c,fE j s.bQ z.2 (c4 s.aA s.self m).1,cJ]) (i:=[fE j s.bQ s.X s.aA,cJ]) ?_ ?_
   .intro sW R;refine ah.n' ?_ aB.j.j.j.j.j.j.j.j.j.j.j.j.j.j.d'.d';refine ae 9 0 ?_;refine af.bv 9 13 rfl rfl ?_ ?_;refine av.Z' rfl (x) Uc ?_;rintro oK g0⟨Yi,⟨⟨G,Yc⟩,rfl,rfl⟩⟩;refine aa 2 ?_;refine ae 3 10 ?_;refine df 13 λfT=>?_;refine ae 2 14 ?_;refine au ?_;rotate_left;refine O.N' ad (λfT=>?_);refine au ?_;refine af.p' 9 rfl rfl (x) ?_;rintro tT agA⟨N,⟨⟨Ye,Yh⟩,rfl,rfl⟩⟩;refine aa 2 ?_;refine ae 3 10 ?_;refine ae 2 14 ?_;refine au ?_;rotate_left;all_goals exact Out.z' R (_,_) ⟨TX,TX⟩ trivial
   rintro⟨fT,K⟩⟨C,E⟩;dsimp only at C E;refine bl ?_;cases a:(c4 s.aA s.self m).2.2
   .refine aa 7 ?_;all_goals exact Out.z' w (⟨j,e3,hi,dS,wp,dZ,ek,el,dP,eb,bH,e0,dN,bS⟩,K) ⟨C,E⟩ trivial (t:=by rw[xT K a];unfold cb eN;(repeat(first|exact ak.nil|exact al.here|apply ak.cons|apply al.there)))
   .refine aa 9 ?_;refine ai.o (O.Q' ad aD.c [(c4 s.aA s.self m).2.1] rfl (bI.agg rfl bI.nil) rfl rfl (λYj=>?_));refine ai.p' rfl (Q _ _) ?_;rintro _ _⟨T,rfl,rfl⟩;refine aa 2 ?_;all_goals exact Out.z' w (T,K) ⟨C,E⟩ trivial (t:=by rw[xU K a];unfold cb eN;(repeat(first|exact ak.nil|exact al.here|apply ak.cons|apply al.there)))
  rintro⟨gA,K⟩⟨C,E⟩;have cA:=i K gA;clear i Q x J;have U:=vV s m K;generalize Y:s.Uq m K=s2 at*;unfold cb eN at cA⊢;dsimp only[List.cons_append,List.nil_append]at cA⊢;refine aa 5 ?_;rintro _ _⟨F,X,G,rfl,rfl⟩;refine aa 4 ?_;all_goals exact⟨_,_,⟨_,_,.inl ⟨q,K,C,E,by rw[Y,<-U];assumption⟩,rfl,rfl⟩,Uc⟩
 .rw[lg q];clear Q i x;refine aa 5 ?_;rintro _ _⟨L,F,G,rfl,rfl⟩;refine aa 4 ?_;all_goals exact⟨_,_,⟨_,_,.inr ⟨q,TX⟩,rfl,rfl⟩,Uc⟩
def a6.Ul(l:a6):Nat:=(4-l.phase).toNat
def bL.Ul(r:bL):Nat:=if r.x.lost=true then 0 else match r.k0 with|some l=>l.Ul|none=>4
theorem a6.Wd{l:a6}{n c:Int}{h:bm}(k:ip l n c it h):l.Ul<=3:=by have:=k.phase;unfold a6.Ul;omega
theorem QO{x:a6}(m:aD)(z:x.phase=1):(x.UM m).1.Ul<=x.Ul/\((x.UM m).2=true->(x.UM m).1.Ul<x.Ul):=by
 unfold a6.UM;repeat' split
 all_goals first
  |exact⟨cD _,λh=>Ua⟩
  |(refine⟨?_,λ_=>?_⟩<;>(unfold a6.Ul;simp only[a6.put,a6.jM,z];decide))
  |exact⟨by unfold a6.Ul a6.put;exact cD _,λh=>Ua⟩
def H8{x:a6}(m:aD){n c:Int}{Y:bm}(k:ip x n c it Y):(x.y' m).1.Ul<=x.Ul/\((x.y' m).2=true->(x.y' m).1.Ul<x.Ul):=by
 have u:=k.phase;unfold a6.y';split
 .grind
 rename_i o;have z:x.phase=1\/x.phase=2:=Uh
 split
 .grind [a6.Ul]
 split
 .grind [a6.Ul]
 split
 .grind
 split
 .grind [QO]
 split
 .rename_i h;have N:=h.2;split
  .split
   .grind [a6.Ul,a6.U4]
   .exact⟨by unfold a6.Ul a6.U4;exact cD _,λh=>Ua⟩
  .grind
 .grind
def ag9{r:bL}(h:r.ok)(m:aD):(r.y' m).1.Ul<=r.Ul/\((r.y' m).2=true->(r.y' m).1.Ul<r.Ul):=by
 unfold bL.y';split
 .grind
 rename_i X;have T:=(bV.Wc X).ls;obtain⟨x,g⟩:=r;dsimp only at T;cases g with
 |some l=>
  have:=H8 m (h.cw l rfl);grind [bL.Ul]
 |none=>
  have N:(bL.mk x none).Ul=4:=by grind [bL.Ul]
  dsimp only;rw[N];split
  .have c:(bL.mk x (some (hg x m.Call))).Ul=1:=by unfold bL.Ul;dsimp only;rw[T];rfl
   grind
  split
  .have c:(bL.mk {x with lost:=true} none).Ul=0:=rfl;grind
  split
  .split
   .grind
   .split
    .have c:(bL.mk (eC x m) none).Ul=4:=by grind [bL.Ul,eC]
     grind
    .grind [HK,eC,a6.Wd,bL.Ul]
  .grind
def mS(m:aD):Nat:=if m.Kind=1\/m.Kind=3\/m.Kind=6 then 3 else if m.Kind=5 then 1 else 2
theorem ul(m:aD):1<=mS m/\mS m<=3:=by grind [mS]
def fH(l:ab aD):Nat:=(l.map mS).sum
theorem vW(l m:ab aD):fH (l++m)=fH l+fH m:=by unfold fH;rw[jo,List.sum_append]
def H9(a:Int):∀k:Nat,((List.range k).filter λi:Nat=>decide ((i:Int)=a)).length<=(if 0<=a/\a<k then 1 else 0)
 |0=>T3
 |k+1=>by have d:=H9 a k;rw[tP,nH,b2];grind
def Ia:∀l:ab aD,fH l<=3*l.length
 |[]=>cO _
 |m::l=>by have:=Ia l;grind [ul,fH,List.length_cons]
def Ib(X:Int)(k:Nat)(f:Nat->aD)(h:∀i,(f i).bK=(i:Int)):fH (fa X ((List.range k).map f))<=3:=by
 have e:fa X ((List.range k).map f)=((List.range k).filter λi:Nat=>decide ((i:Int)=X)).map f:=by grind [fa,List.filter_congr]
 rw[e];have Y:=Ia (((List.range k).filter λi:Nat=>decide ((i:Int)=X)).map f);rw[eT]at Y;have N:=H9 X k;grind
theorem um(X:Int)(l:a6):fH (fa X l.E')<=3:=by
 unfold a6.E';split
 .exact Ib X _ _ λi=>rfl
 .exact cO _
theorem CT(X:Int)(r:bL):fH (fa X r.E')<=3:=by
 unfold bL.E';split
 .exact cO _
 .split
  .exact um ..
  .exact Ib X _ _ λi=>rfl
end Go.Proofs.YteogojgnkjegmaaGreatDoor
