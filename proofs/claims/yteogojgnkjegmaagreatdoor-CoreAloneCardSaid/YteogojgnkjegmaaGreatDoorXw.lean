/-
 Part of the proof.
-/
import Derived.Test.YteogojgnkjegmaaGreatDoorXv
set_option linter.all false
set_option maxRecDepth 8000
set_option maxHeartbeats 8000000
namespace Go.Proofs.YteogojgnkjegmaaGreatDoor
open Go.ay Go.Proofs.Tryz
variable[Go.ay.bR]
inductive oL(n Y F:Int):List dY->cQ->Int×List bi->Prop where
 |nil:oL n Y F [] (cQ.new n) (0,[])
 |sH {l:List dY} {r rP:cQ} {st:Int×List bi} {x:ag} {i:ba} (h:oL n Y F l r st) (cf:i.Status=3) (eJ:r.S8 x i.Call rP):oL n Y F (l++[(x,i)]) rP st
 |hC {l:List dY} {r:cQ} {st:Int×List bi} {x:ag} {i:ba} (h:oL n Y F l r st) (cf:i.Status≠3):oL n Y F (l++[(x,i)]) r (g5 n Y F [] [x] st)
def aC.Sv(n Y F:Int)(Q:Nat)(X:dZ)(Z:bE)(M:l4)(r:cQ)(st:Int×ab bi):aC:=
 ⟨n,Y,F,Q,X,Z,[],[],st.1,st.2,[],r,M,[],[],[],[],[]⟩
def lI(n Y F:Int)(Q:Nat)(Z:bE)(W:aC):Prop:=
 ∃X M r st,hg (dZ.L X) Z.p/\X.L.cU<=1345/\(jg 0 M/\M.s=gn.z)/\oL n Y F Z.p.all r st/\ki (aC.Sv n Y F Q X Z M r st) W
def AX{n Y F:Int}(v:n=3\/n=5\/n=7)(Q:0<=Y/\Y<n)(L:0<=F/\F<=1099511627776){l:ab dY}(E:jr n l){r:cQ}{st:Int×ab bi}(h:oL n Y F l r st)(T:Nat)(X:dZ)(Z:bE){M:l4}(N:jg 0 M):RepI l.length (aC.Sv n Y F T X Z M r st)/\r.done=[]:=by
 induction h with
 |nil=>
  have q:gS n (cQ.new n):=gS.new ac ac;refine⟨⟨v,Q,L,q,N,ku.zero,ju _,?_,oh,λx=>?_⟩,rfl⟩
  .intro y G;cases G
  .show 0<=bC [] x/\bC [] x<=_;unfold bC;rw[mi];exact⟨ju _,ju _⟩
 |@sH l r k st x i h g u q=>
  obtain⟨j,b⟩:=q λy G=>E y (qd _ G);have J:k.done=[]:=by rw[u.2.1,b]
  refine⟨⟨v,Q,L,j.run.R2 u,?_,?_⟩,J⟩
  .show jg k.done.length M;rw[J];exact N
  .have:=j.fs;rw[bM];exact(⟨this.w,this.t,this.aW,this.td,this.bC⟩:jX l.length (aC.Sv n Y F T X Z M k st)).mono (iZ _ _)
 |@hC l r st x i h g q=>
  obtain⟨j,b⟩:=q λy G=>E y (qd _ G);refine⟨⟨v,Q,L,j.run,by show jg r.done.length M;rw[b];exact N,?_⟩,b⟩;have q:bB x n=true:=(E (x,i) XE).1;rw[bM];exact jX.hC j.fs [x] (by simpa using ov q ac) rfl rfl rfl
def OW(Q:Nat)(v:aj)(n:Int)(l:ab dY)(bT:ab aP)(i:Int)(a:n=3\/n=5\/n=7)(E:jr n l)(c:(fV bT).2=0)(b:(b5 l++bT).length<=65536):ar prog 73 [au Q 0,I n] (fc Q v (b5 l++bT) i) (λr J=>∃U X,(hg (dZ.L X) (gG n l bT i).p/\X.L.cU<=1345)/\r=.tuple #[au U 0,I 0]/\J=[fe U Q X (gG n l bT i)]):=by refine ar.RR (age Q v n l bT i a E c b) ?_;rintro r J W D w⟨U,X,Z,M,rfl,rfl⟩ f;exact⟨_,⟨U,X,⟨Z,M⟩,rfl,rfl⟩,f.eqv aL.aI.symm⟩
structure jC where
 a4:Nat
 a5:Nat
 a12:Nat
 pC:Nat
 n1:Nat
 ry:Nat
 m8:Nat
 dG:Nat
 dr:ke
 M:l4
 l6:Nat
 pD:Nat
section
variable(n Y F:Int)(U:Nat)
def jC.rep(z:jC):ab aj:=fH.c ⟨n,Y,F,au U 0,.map (some z.a4),.map (some z.a5),au z.n1 0,au z.dG 0,au z.M.b 0,.map (some z.a12),.map (some z.pC),.slice none 0 0,.slice none 0 0,.slice none 0 0⟩
def jC.fm(z:jC)(f:Bool):Nat->ab ax
 |4=>[bn bW (cL (bl:=a2)) z.a4 []]
 |5=>[bn bW (cL (bl:=bO)) z.a5 []]
 |8=>h4 z.n1 n Y z.ry z.m8 (.slice none 0 0) 0 [] []
 |10=>[i0 z.dG z.dr (cQ.new n)]
 |11=>[k1 z.M]
 |12=>[bn bW h6 z.a12 []]
 |13=>[bn bW kh z.pC []]
 |15=>[cells z.l6 95 (z.rep n Y F U)]
 |16=>[cells z.pD 36 [if f then au z.l6 0 else .pointer none]]
 |_=>[]
def wd:Nat->Nat
 |4=>43|5=>44|8=>47|10=>49|11=>50|12=>51|13=>52|14=>53|15=>54|_=>12
def jC.val(z:jC):Nat->aj
 |4=>.map (some z.a4)
 |5=>.map (some z.a5)
 |8=>au z.n1 0
 |10=>au z.dG 0
 |11=>au z.M.b 0
 |12=>.map (some z.a12)
 |13=>.map (some z.pC)
 |14=>A (z.rep n Y F U)
 |15=>au z.l6 0
 |_=>au z.pD 0
def jh:ab Nat:=[4,5,8,10,11,12,13,14,15,16]
def jC.flat(z:jC)(l:Array Bool):ab ax:=jh.flatMap λj=>if l.getD j true=true then z.fm n Y F U (l.getD 17 true) j else[]
def rz(l:Array Bool):Prop:=l.getD 4 true=true/\l.getD 5 true=true/\l.getD 8 true=true/\l.getD 10 true=true/\l.getD 11 true=true/\l.getD 12 true=true/\l.getD 13 true=true
end
structure x2(n jU F:Int)(U:Nat)(fS:bv)(abt:ab ax)(l:Array Bool)(am:bv)(an:ab ax)(z:jC):Prop where
 aG:l.size=18
 d0:∀j∈[0,1,2,3,6,7,9],l.getD j true=true
 x3:l.getD 14 true=true->rz l
 pE:l.getD 15 true=true->l.getD 14 true=true
 OY:l.getD 17 true=true->l.getD 15 true=true/\l.getD 16 true=true
 e:∀q∈fS,dS am q.1=some q.2
 v:∀j∈jh,l.getD j true=true->dS am (wd j)=some (z.val n jU F U j)
 M:l.getD 11 true=true->jg 0 z.M/\z.M.s=gn.z
 p:an.Perm (z.flat n jU F U l++abt)
def ac6:∀i∈jh,wd i∈[43,44,47,49,50,51,52,53,54,12]:=XG
def ae8:∀i∈jh,∀j∈jh,wd i=wd j->j=i:=XG
def Gc{a b:Nat}{v:aj}{J:bv}(h:a≠b):dS ((a,v)::J) b=dS J b:=by simp only[dS];rw[show Nat.beq a b=false by rw[<-k7,wu];exact h];rfl
def O1{a:Nat}{v:aj}{J:bv}:dS ((a,v)::J) a=some v:=by simp only[dS];rw[show Nat.beq a a=true from uG a];rfl
def x2.up{n Y F:Int}{U:Nat}{W:bv}{C:ab ax}{l:Array Bool}{J:bv}{N:ab ax}{z:jC}(h:x2 n Y F U W C l J N z){i:Nat}(R:l.getD i true=false)(ao:i∈jh)(m:jC) (d:∀q∈W,q.1∉[43,44,47,49,50,51,52,53,54,12]) (t:∀j∈jh,j≠i->l.getD j true=true->m.val n Y F U j=z.val n Y F U j/\m.fm n Y F U false j=z.fm n Y F U false j) (X:i=14->rz l) (Z:i=15->l.getD 14 true=true) (G:l.getD 11 true=true\/i=11->jg 0 m.M/\m.M.s=gn.z) (v:aj) (x:v=m.val n Y F U i):x2 n Y F U W C (l.setIfInBounds i true) ((wd i,v)::J) (m.fm n Y F U false i++N) m:=by
 subst x;have k:i≠17:=λe=>by subst e;revert ao;decide
 have P:l.getD 17 true=false:=by
  cases P:l.getD 17 true with
  |false=>rfl
  |true=>
   have:=h.OY P;have K:=h.pE this.1;have r:=h.x3 K;unfold rz at r;simp only[jh,dq,iU,fU]at ao;rcases ao with rfl|rfl|rfl|rfl|rfl|rfl|rfl|rfl|rfl|rfl<;>simp_all
 have Q (j:Nat):=F7 (j:=j) R;have w:(l.setIfInBounds i true).getD 17 true=false:=by rw[Q,P];simp[nz k]
 refine⟨Nn,λj p=>by rw[Q,h.d0 j p,qn],λf=>?_,λf=>?_,λf=>(by rw[w]at f;cases f),λq bb=>?_,λj p f=>?_,λf=>?_,?_⟩
 .have:rz l:=by
   rw[Q,ib,da]at f;rcases f with f|f
   .exact X f.symm
   .exact h.x3 f
  unfold rz at this⊢;simp only[Q,this,qn,and_self]
 .have:l.getD 14 true=true:=by
   rw[Q,ib,da]at f;rcases f with f|f
   .exact Z f.symm
   .exact h.pE f
  rw[Q,this,qn]
 .rw[Gc (λe=>d q bb (by rw[<-e];exact ac6 i ao))];exact h.e q bb
 .by_cases e:j=i
  .subst e;exact O1
  .rw[Q,ib,da]at f;have f:=f.resolve_left e;rw[Gc (λJ=>e (ae8 i ao j p J))];rw[(t j p e f).1];exact h.v j p f
 .rw[Q,ib,da]at f;exact G (f.symm.imp id ht)
 .have r:=adp (w:=jh) XG ao (λj=>if l.getD j true=true then z.fm n Y F U (l.getD 17 true) j else[]) (λj=>if(l.setIfInBounds i true).getD j true=true then m.fm n Y F U ((l.setIfInBounds i true).getD 17 true) j else[]) (by rw[aN (by rw[R];decide)]) (λj p N=>by
   rw[Q,w,P];by_cases b:l.getD j true=true
   .rw[b,qn,aT rfl,aT rfl,(t j p N b).2]
   .rw[aN b,aN];rw[ib,da];rintro(h|h)
    .exact N h
    .exact b h)
  have y:(if(l.setIfInBounds i true).getD i true=true then m.fm n Y F U ((l.setIfInBounds i true).getD 17 true) i else[])=m.fm n Y F U false i:=by rw[w,Q,aT XE]
  rw[y]at r;refine(AW _ h.p).trans ?_;rw[<-cd];exact Gb _ r.symm
def rA(U Q:Nat)(X:dZ)(s:bE):ab ax:=hJ U X.eE X.L++[cells X.eE 120 (kK.c ⟨au Q 0,s.n,au X.dG 0⟩),cells Q 156 (kp.c ⟨X.du,s.safe⟩),dF c0 X.du 5 1 s.data]
def AY(U u:Nat)(X:dZ)(s:bE):aL [fe U u X s] [jP X.dG X.R s.p,aI (rA U u X s)]:=by
 have Q:ak (gF U u X s) (jP X.dG X.R s.p::rA U u X s) []:=by unfold gF rA fP hJ;refine bh ?_;(repeat(first|exact ak.nil|exact al.here|apply ak.cons|apply al.there))
 have r:=Q.perm;rw[dk]at r;exact(aL.aI.trans (aL.RS r)).trans (aL.cons _ aL.aI.symm)
def Gd(U Q:Nat)(X:dZ)(s:bE):ar prog 14 [au U 0] [fe U Q X s] (λr J=>∃q,r=.func (.func 80) #[] #[au q 0]/\J=[cells q 117 [au X.dG 0],jP X.dG X.R s.p,aI (rA U Q X s)]):=by refine ar.eqv aL.aI (KG U Q X s) ?_;rintro r J⟨q,rfl,rfl⟩;exact⟨_,⟨q,rfl,rfl⟩,aL.cons _ (aL.aI.symm.trans (AY U Q X s))⟩
def jC.lay(z:jC)(U:Nat)(y:ke×aj):cO:=⟨U,z.a4,z.a5,z.n1,z.ry,z.m8,y.2,z.dG,y.1,z.a12,z.pC,.slice none 0 0,.slice none 0 0,.slice none 0 0⟩
def Ge(bD:Nat)(v:aj)(n Y F:Int)(l:ab dY)(bT:ab aP)(P:Int)(c6:n=3\/n=5\/n=7)(cf:0<=Y/\Y<n)(Yo:0<=F/\F<=1099511627776)(fE:jr n l)(G:(fV bT).2=0)(k:(b5 l++bT).length<=65536):ar prog 47 [au bD 0,I n,I Y,I F] (fc bD v (b5 l++bT) P) (λr Z=>∃b L cn,lI n Y F bD (gG n l bT P) cn/\r=.tuple #[au b 0,I 0]/\Z=bX b L cn):=by
 have kP:=OW bD v n l bT P c6 fE G k;have Yg:=Ax (i:=P) c6 fE k;have Yq:(gG n l bT P).n=n:=rfl;have YM:=aaW n Y;have YG:=Ms n;generalize gG n l bT P=N at*;generalize b5 l++bT=Yj at*;unfold fc;unfold fc at kP;refine aB func47 λW=>?_;generalize bg _=D;refine aa 2 ?_;refine ai.o (O.R9 (λom=>?_));refine aa 35 ?_;rintro mz AA⟨t,⟨K,⟨⟨Yr,Ys⟩,rfl,rfl⟩⟩⟩;refine aa 18 ?_;refine ah.mt [7,1,10] (λz:jC=>jg 0 z.M/\z.M.s=gn.z) (λz=>[(12,au z.pD 0)]) (λz=>[cells z.pD 36 [au z.l6 0],cells z.l6 95 (z.rep n Y F t),bn bW (cL (bl:=a2)) z.a4 [],bn bW (cL (bl:=bO)) z.a5 [],aI (h4 z.n1 n Y z.ry z.m8 (.slice none 0 0) 0 [] []),i0 z.dG z.dr (cQ.new n),k1 z.M,bn bW h6 z.a12 [],bn bW kh z.pC []]) (b:=[]) ?_ ?_
 .intro fa Ye;refine ah.n' ?_ aA.d'.j;refine ae 4 0 ?_;refine ae 2 6 ?_;refine ae 1 9 ?_;refine af.inv (λl J a=>∃z,x2 n Y F t [(7,au om 0),(1,I n),(10,au t 0),(39,I n),(40,I Y),(41,I F),(42,au t 0),(45,I n),(46,I Y),(48,I n)] [fe t bD K N,cells om 3 [I F]] l J a z) ?_ ?_ ?_ _ _ _ _ _ XG ⟨⟨0,0,0,0,0,0,0,0,⟨0,⟨0,0,.new,.new⟩,.slice none 0 0,.slice none 0 0⟩,⟨0,0,0,0,gn.z,[],[]⟩,0,0⟩,?_⟩
  .rintro l J a⟨z,h⟩;have fF:cells om 3 [I F]∈a:=h.p.mem_iff.2 (O2 _ XE);exact⟨Cd fF Cc,Cd fF Cc⟩
  .rintro l J a i o⟨z,h⟩ dz hu ea;have Yf:i<18:=(ny.1 dz).1;have YN:i∉[0,1,2,3,6,7,9]:=λeJ=>by rw[h.d0 i eJ]at hu;cases hu
   have u:i=4\/i=5\/i=8\/i=10\/i=11\/i=12\/i=13->l.getD 14 true=true->False:=λeJ k=>by have:=h.x3 k;unfold rz at this;rcases eJ with rfl|rfl|rfl|rfl|rfl|rfl|rfl<;>simp_all
   have Yn:i=4\/i=5\/i=8\/i=10\/i=11\/i=12\/i=13\/i=14\/i=15\/i=16\/i=17:=by simp only[dq,iU,fU,q4]at YN;omega
   have E:∀q∈([(7,au om 0),(1,I n),(10,au t 0),(39,I n),(40,I Y),(41,I F),(42,au t 0),(45,I n),(46,I Y),(48,I n)]:bv),q.1∉[43,44,47,49,50,51,52,53,54,12]:=by intro q bb;simp only[dq,iU,fU]at bb;rcases bb with rfl|rfl|rfl|rfl|rfl|rfl|rfl|rfl|rfl|rfl<;>(dsimp only;decide)
   rcases Yn with rfl|rfl|rfl|rfl|rfl|rfl|rfl|rfl|rfl|rfl|rfl
   .cases gW dz;refine⟨rfl,aw.SA (C:=λd Z=>∃b,d=(43,.map (some b))::J/\Z=bn bW (cL (bl:=a2)) b []::a) (aw.mkMap bW (cL (bl:=a2)) rfl λb=>⟨b,rfl,rfl⟩) ?_⟩;rintro _ _⟨b,rfl,rfl⟩;exact⟨{z with a4:=b},h.up hu XG {z with a4:=b} E ZF (λe=>absurd e XG) (λe=>absurd e XG) (λf=>h.M (f.resolve_right XG)) _ rfl⟩
   .cases gW dz;refine⟨rfl,aw.SA (C:=λd Z=>∃b,d=(44,.map (some b))::J/\Z=bn bW (cL (bl:=bO)) b []::a) (aw.mkMap bW (cL (bl:=bO)) rfl λb=>⟨b,rfl,rfl⟩) ?_⟩;rintro _ _⟨b,rfl,rfl⟩;exact⟨{z with a5:=b},h.up hu XG {z with a5:=b} E ZF (λe=>absurd e XG) (λe=>absurd e XG) (λf=>h.M (f.resolve_right XG)) _ rfl⟩
   .cases gW dz;have YO:dS J 45=some (I n):=h.e (45,I n) XE;have YP:dS J 46=some (I Y):=h.e (46,I Y) XE;refine⟨rfl,aw.SA (C:=λd Z=>∃b p m,d=(47,au b 0)::J/\Z=h4 b n Y p m (.slice none 0 0) 0 [] []++a) (aw.call (args:=[I n,I Y]) (j2:=[]) (kB:=a) rfl XD (by simp only[ay.ha,aO,YO,YP]) (gA _) YM ?_) ?_⟩
    .rintro v Z⟨b,p,m,rfl,rfl⟩;exact⟨b,p,m,rfl,rfl⟩
    rintro _ _⟨b,p,m,rfl,rfl⟩;exact⟨{z with n1:=b,ry:=p,m8:=m},h.up hu XG {z with n1:=b,ry:=p,m8:=m} E ZF (λe=>absurd e XG) (λe=>absurd e XG) (λf=>h.M (f.resolve_right XG)) _ rfl⟩
   .cases gW dz;have YQ:dS J 48=some (I n):=h.e (48,I n) XE;refine⟨rfl,aw.SA (C:=λd Z=>∃dG X,d=(49,au dG 0)::J/\Z=[i0 dG X (cQ.new n)]++a) (aw.call (args:=[I n]) (j2:=[]) (kB:=a) rfl XD (by simp only[ay.ha,aO,YQ]) (gA _) YG ?_) ?_⟩
    .rintro v Z⟨dG,X,rfl,rfl⟩;exact⟨dG,X,rfl,rfl⟩
    rintro _ _⟨dG,X,rfl,rfl⟩;exact⟨{z with dG:=dG,dr:=X},h.up hu XG {z with dG:=dG,dr:=X} E ZF (λe=>absurd e XG) (λe=>absurd e XG) (λf=>h.M (f.resolve_right XG)) _ rfl⟩
   .cases gW dz;refine⟨rfl,aw.SA (C:=λd Z=>∃M,(jg 0 M/\M.s=gn.z)/\d=(50,au M.b 0)::J/\Z=[k1 M]++a) (aw.call (args:=[]) (j2:=[]) (kB:=a) rfl XD rfl (gA _) acj ?_) ?_⟩
    .rintro v Z⟨M,nW,rfl,rfl⟩;exact⟨M,nW,rfl,rfl⟩
    rintro _ _⟨M,nW,rfl,rfl⟩;exact⟨{z with M:=M},h.up hu XG {z with M:=M} E ZF (λe=>absurd e XG) (λe=>absurd e XG) (λ_=>nW) _ rfl⟩
   .cases gW dz;refine⟨rfl,aw.SA (C:=λd Z=>∃b,d=(51,.map (some b))::J/\Z=bn bW h6 b []::a) (aw.mkMap bW h6 rfl λb=>⟨b,rfl,rfl⟩) ?_⟩;rintro _ _⟨b,rfl,rfl⟩;exact⟨{z with a12:=b},h.up hu XG {z with a12:=b} E ZF (λe=>absurd e XG) (λe=>absurd e XG) (λf=>h.M (f.resolve_right XG)) _ rfl⟩
   .cases gW dz;refine⟨rfl,aw.SA (C:=λd Z=>∃b,d=(52,.map (some b))::J/\Z=bn bW kh b []::a) (aw.mkMap bW kh rfl λb=>⟨b,rfl,rfl⟩) ?_⟩;rintro _ _⟨b,rfl,rfl⟩;exact⟨{z with pC:=b},h.up hu XG {z with pC:=b} E ZF (λe=>absurd e XG) (λe=>absurd e XG) (λf=>h.M (f.resolve_right XG)) _ rfl⟩
   .cases gW dz;have k:∀j,j=4\/j=5\/j=8\/j=10\/j=11\/j=12\/j=13->l.getD j true=true:=by rintro j (rfl|rfl|rfl|rfl|rfl|rfl|rfl)<;>exact x1 (ea ⟨_,.data⟩ XE rfl)
    have YR:dS J 39=some (I n):=h.e (39,I n) XE;have YS:dS J 40=some (I Y):=h.e (40,I Y) XE;have YT:dS J 41=some (I F):=h.e (41,I F) XE;have YU:dS J 42=some (au t 0):=h.e (42,au t 0) XE;have v4:dS J 43=some (.map (some z.a4)):=h.v 4 XG (k 4 XG);have v5:dS J 44=some (.map (some z.a5)):=h.v 5 XG (k 5 XG);have uc:dS J 47=some (au z.n1 0):=h.v 8 XG (k 8 XG);have YC:dS J 49=some (au z.dG 0):=h.v 10 XG (k 10 XG);have Yu:dS J 50=some (au z.M.b 0):=h.v 11 XG (k 11 XG);have YD:dS J 51=some (.map (some z.a12)):=h.v 12 XG (k 12 XG);have YJ:dS J 52=some (.map (some z.pC)):=h.v 13 XG (k 13 XG);refine⟨rfl,aw.SA (C:=λd Z=>d=(53,A (z.rep n Y F t))::J/\Z=a) (aw.q' (V.Sj ad (t:=[(0,I n),(1,I Y),(2,I F),(3,au t 0),(4,.map (some z.a4)),(5,.map (some z.a5)),(6,au z.n1 0),(7,au z.dG 0),(8,au z.M.b 0),(9,.map (some z.a12)),(10,.map (some z.pC))]) (v:=z.rep n Y F t) (q:=by simp only[ay.lN,aO,YR,YS,YT,YU,v4,v5,uc,YC,Yu,YD,YJ])) ⟨rfl,rfl⟩) ?_⟩;rintro _ _⟨rfl,rfl⟩;exact⟨z,h.up hu XG z E (λ_ _ _ _=>⟨rfl,rfl⟩) (λ_=>⟨k 4 XG,k 5 XG,k 8 XG,k 10 XG,k 11 XG,k 12 XG,k 13 XG⟩) (λe=>absurd e XG) (λf=>h.M (f.resolve_right XG)) _ rfl⟩
   .cases gW dz;have Yv:l.getD 14 true=true:=x1 (ea ⟨14,.data⟩ XE rfl);have YA:dS J 53=some (A (z.rep n Y F t)):=h.v 14 XG Yv;refine⟨rfl,aw.SA (C:=λd Z=>∃b,d=(54,au b 0)::J/\Z=cells b 95 (z.rep n Y F t)::a) (O.TE (λb=>⟨b,rfl,rfl⟩) (q:=YA)) ?_⟩;rintro _ _⟨b,rfl,rfl⟩;exact⟨{z with l6:=b},h.up hu XG {z with l6:=b} E Nu (λe=>absurd e XG) (λ_=>Yv) (λf=>h.M (f.resolve_right XG)) _ rfl⟩
   .cases gW dz;refine⟨rfl,aw.SA (C:=λd Z=>∃b,d=(12,au b 0)::J/\Z=cells b 36 [.pointer none]::a) (O.K' ad (λb=>⟨b,rfl,rfl⟩)) ?_⟩;rintro _ _⟨b,rfl,rfl⟩;exact⟨{z with pD:=b},h.up hu XG {z with pD:=b} E Nu (λe=>absurd e XG) (λe=>absurd e XG) (λf=>h.M (f.resolve_right XG)) _ rfl⟩
   .cases gW dz;have Yy:l.getD 15 true=true:=x1 (ea ⟨15,.data⟩ XE rfl);have YB:l.getD 16 true=true:=x1 (ea ⟨16,.data⟩ XE rfl);have Yv:=h.pE Yy;have Yz:=h.x3 Yv;have YK:dS J 54=some (au z.l6 0):=h.v 15 XG Yy;have Yw:dS J 12=some (au z.pD 0):=h.v 16 XG YB;have ei:=h.p;unfold jC.flat jh at ei;unfold rz at Yz;simp only[fG,m2,Yz,Yv,Yy,YB,hu,hA,dk,jC.fm,ii,hr,cd,kn,gi]at ei;refine⟨rfl,aw.Xm ei (aw.SA (C:=λd Z=>d=J/\Z=_) (O.G' ad ⟨rfl,rfl⟩ (t:=Yw) (d:=YK)) ?_)⟩;rintro _ _⟨rfl,rfl⟩;refine⟨z,?_⟩;have cf (j:Nat):=F7 (j:=j) hu;refine⟨Nn,λj G=>by rw[cf,h.d0 j G,qn],λ_=>?_,λ_=>by rw[cf,Yv,qn],λ_=>⟨by rw[cf,Yy,qn],by rw[cf,YB,qn]⟩,h.e,λj G f=>?_,λ_=>h.M Yz.2.2.2.2.1,?_⟩
    .unfold rz;simp only[cf,Yz,qn,and_self]
    .refine h.v j G ?_;rw[cf,ib,da]at f;exact f.resolve_left λe=>by subst e;revert G;decide
    .unfold jC.flat jh;simp only[fG,m2,cf,Yz,Yv,Yy,YB,qn,hA,dk,jC.fm,decide_true,Bool.true_or,cd,kn,gi];exact gA _
  .rintro l J a⟨z,h⟩ e6;have Yk (j:Nat) (G:j<18):l.getD j true=true:=F9 e6 h.aG XD 18 j G G;have ei:=h.p;unfold jC.flat jh at ei;simp only[fG,m2,Yk,Nat.reduceLT,hA,dk,jC.fm,cd,kn,gi]at ei;refine Out.eqv (bc:=bn bW (cL (bl:=a2)) z.a4 []::bn bW (cL (bl:=bO)) z.a5 []::aI (h4 z.n1 n Y z.ry z.m8 (.slice none 0 0) 0 [] [])::i0 z.dG z.dr (cQ.new n)::k1 z.M::bn bW h6 z.a12 []::bn bW kh z.pC []::cells z.l6 95 (z.rep n Y F t)::cells z.pD 36 [au z.l6 0]::fe t bD K N::cells om 3 [I F]::[]) ((aL.RS ei).trans ?_) (Out.t' Ye z (h.M (Yk 11 XG)) trivial (g:=dg.cons (h.v 16 XG (Yk 16 XG)) rfl (dg.cons (h.e (7,au om 0) XE) rfl (dg.cons (h.e (1,I n) XE) rfl (dg.cons (h.e (10,au t 0) XE) rfl dg.nil)))) (o:=[]) (q:=?_))
   .exact aL.cons _ (aL.cons _ (aL.append (an:=h4 z.n1 n Y z.ry z.m8 (.slice none 0 0) 0 [] []) (bc:=[aI (h4 z.n1 n Y z.ry z.m8 (.slice none 0 0) 0 [] [])]) aL.aI.symm (aL.refl _)))
   exact XC
  .refine⟨rfl,XG,λf=>(by cases f),λf=>(by cases f),λf=>(by cases f),?_,λj G f=>?_,λf=>(by cases f),gA _⟩
   .intro q bb;simp only[dq,iU,fU]at bb;rcases bb with rfl|rfl|rfl|rfl|rfl|rfl|rfl|rfl|rfl|rfl<;>rfl
   .simp only[jh,dq,iU,fU]at G;rcases G with rfl|rfl|rfl|rfl|rfl|rfl|rfl|rfl|rfl|rfl<;>cases f
 rintro z YF;refine bh ?_;have YX:=Gd t bD K N;refine aa 5 ?_;rintro _ _⟨YZ,rfl,rfl⟩;refine aa 4 ?_;refine ah.rg (vE _ K.dG K.R N.p Yg.p.towf) (λy:(ke×aj)×(cQ×(Int×ab bi))=>[cells z.pD 36 [au z.l6 0],cells z.l6 95 (z.rep n Y F t),i0 z.dG y.1.1 y.2.1,jy (z.lay t y.1) (aC.Sv n Y F bD K N z.M y.2.1 y.2.2),cells om 3 [I F]])
  (λpre y=>oL n Y F pre y.2.1 y.2.2) (λ_ _ _=>False) ((z.dr,.slice none 0 0),(cQ.new n,(0,[]))) .nil ?_ ?_ ?_
 .rintro pre⟨x,i⟩ Yc⟨⟨dr,dI⟩,⟨T,st⟩⟩ cb rec cr hB e6 eh iP zC Ym;dsimp only at hB;have Yp:jr n N.p.all:=by have:=Yg.gE;rwa[Yq]at this
  have YH:jr n pre:=λy e7=>Yp y (by rw[cr];exact qd _ e7);obtain⟨hV,YI⟩:=AX c6 cf Yo YH hB bD K N YF.1;have Yx:=(Yp (x,i) (by rw[cr];simp)).1;have Yl:pre.length<=448:=by
   have cm:=aJ.SJ Yg.p.towf;have dd:pre.length<=N.p.all.length:=by rw[cr,bM];omega
   omega
  have YL:T.cF.length<=448:=hV.run.Tq;have eU:=E5 z.dG dr T hV.run.g ac x i.Call;have jv (g:Nat):=AG (z.lay t (dr,dI)) (aC.Sv n Y F bD K N z.M T st) pre.length hV ac F Yo (some ⟨g,0,none⟩) 1 [x] XE (by simpa using ov Yx ac);simp only[m4]at jv;refine bh ?_;unfold jC.rep;by_cases cp:i.Status=3
  .have hb:a8 .eql i.Status 3=some true:=by simp[a8,cp]
   refine aq 2 λYt=>?_;refine aq 4 λYE=>?_;refine aa 8 ?_;refine ai.v (V.cmp rfl rfl hb) ?_;refine aa 3 ?_;refine ah.n' ?_ aA.j.j.j.j.d'.j.d'.d';refine ae 3 0 ?_;refine ae 3 4 ?_;refine ae 1 3 ?_;refine af.o' 7 rfl rfl (eU) ?_;rintro l1 s2⟨Y0,⟨⟨rfl,Yi⟩,rfl⟩⟩;refine aa 4 ?_;all_goals exact Out.rd Ym ((_,dI),(_,st)) (.sH hB cp XF)
  .have hb:a8 .eql i.Status 3=some false:=by simp[a8,cp]
   refine aq 2 λYt=>?_;refine aq 4 λYE=>?_;refine aa 8 ?_;refine ai.v (V.cmp rfl rfl hb) ?_;refine aa 3 ?_;refine ah.n' ?_ aA.d'.j.j.j.d'.j.d'.j;refine ae 3 0 ?_;refine ae 2 4 ?_;refine af.bu 3 6 rfl rfl ?_ ?_;refine aw.q' (V.y' ad) ?_;refine av ?_;refine af.p' 6 rfl (O.N' ad ag.c [x] rfl (bx.agg rfl bx.nil) rfl rfl (λYV=>?_));refine av ?_;refine af.o' 7 rfl rfl (jv _) ?_;rintro _ _⟨YY,rfl,rfl⟩;refine aa 4 ?_;rotate_left;refine O.N' ad ag.c [x] rfl (bx.agg rfl bx.nil) rfl rfl (λYV=>?_);refine av ?_;refine ae 1 3 ?_;refine af.o' 7 rfl rfl (jv _) ?_;rintro _ _⟨YW,rfl,rfl⟩;refine aa 4 ?_;rotate_left;all_goals exact Out.rd Ym ((dr,_),(T,g5 n Y F [] [x] st)) (.hC hB cp)
 .rintro⟨⟨dr,dI⟩,⟨T,st⟩⟩ c hB;dsimp only at hB;have Yp:jr n N.p.all:=by have:=Yg.gE;rwa[Yq]at this
  obtain⟨hV,YI⟩:=AX c6 cf Yo Yp hB bD K N YF.1;have cm:=aJ.SJ Yg.p.towf;have dO:=FH z.l6 (z.lay t (dr,dI)) (aC.Sv n Y F bD K N z.M T st) N.p.all.length hV ac (by show 0<=_;omega);have Yh (cn:aC) (ic:ki (aC.Sv n Y F bD K N z.M T st) cn):lI n Y F bD N cn:=⟨K,z.M,T,st,XF,XF,YF,hB,ic⟩
  refine bh ?_;refine aa 2 ?_;refine ah.RK aD.c 176 25 ?_;refine ah.toX ?_;refine ah.RK b0.c 143 3 ?_;refine ah.RK ff.c 65 6 ?_;refine ah.hC (aX:=fC c::(bX z.l6 (z.lay t (dr,dI)) (aC.Sv n Y F bD K N z.M T st)++[cells z.pD 36 [au z.l6 0]])) (λw cB=>?_) ?_
  .have dd:=H.eqv ((AY t bD K N).symm.append (aL.refl _)) (cB.Se (bc:=[jP K.dG K.R N.p,aI (rA t bD K N)]) XC);have cp:=H.eqv ((FG iq).symm.append (aL.refl _)) dd;have fZ:=H.eqv ((FG gg).symm.append (aL.refl _)) cp;dsimp only[List.cons_append,List.nil_append]at fZ;exact fZ.gB Z1
  generalize aC.Sv n Y F bD K N z.M T st=nE at*;unfold bX ec at dO⊢;dsimp only[List.cons_append,List.nil_append]at dO⊢;refine aa 4 ?_;rintro _ _⟨o,s,Yi,rfl,rfl⟩;refine aa 12 ?_;all_goals exact⟨_,_,⟨_,_,_,Yh _ XF,rfl,rfl⟩,XC⟩
 exact X6
end Go.Proofs.YteogojgnkjegmaaGreatDoor
namespace Go.Proofs.YteogojgnkjegmaaGreatDoor
open Go.ay Go.Proofs.Tryz
variable{n:Int}
def g7(c:ab Bool):ab aj:=c.map λb=>B b
def dl(v:aj)(c:ab Bool)(n:Int):ab aj:=[v]++(g7 c++[I n])
def dl.len{v:aj}{c:ab Bool}:(dl v c n).length=c.length+2:=by simp[dl,g7]
def fl(b:Nat)(v:aj)(l:ab b0)(c:ab Bool)(n:Int):ab ax:=[cells b 126 (dl v c n),rows b0.c v 143 3 l]
def hx(a:Int):Bool:=decide (0<=a)&&decide (a<7)
def x4(a:Int):cX prog 68 [I a] (B (hx a)):=by
 refine aB func68 λW=>?_;refine Ru (λX=>?_) λX=>?_;refine aa 8 ?_
 .simp[hx, *]
 refine aa 8 ?_
 .simp[hx, *]
def abP:ar prog 45 [] [] (λv Y=>∃b,v=au b 0/\Y=fl b (.slice none 0 0) [] (List.replicate 49 false) 0):=by refine aB func45 λW=>?_;refine ah.RK b0.c 143 3 ?_;refine aq 8 λo=>?_;exact aM 5
def AZ(g C:Nat)(l:ab b0)(i:Nat)(ao:i<l.length)(K:l.length<=C)(u:C<=9223372036854775807):ar prog 64 [.slice (some ⟨g,0,none⟩) l.length C,I (i:Int),I ((i:Int)+1)] [rows b0.c (.slice (some ⟨g,0,none⟩) l.length C) 143 3 l] (λv Y=>v=.slice (some ⟨g,0,none⟩) (l.eraseIdx i).length C/\Y=[rows b0.c (.slice (some ⟨g,0,none⟩) (l.eraseIdx i).length C) 143 3 (l.eraseIdx i)]):=by
 have y:l.eraseIdx i=l.take i++l.drop (i+1):=by rw[Ey]
 have J:(l.eraseIdx i).length=i+(l.length-(i+1)):=by rw[zU,aT ao];omega
 rw[J,y];refine aB func64 λW=>?_;refine MN ?_;refine af.p' 6 rfl (O.UY ad (i:=i) (j:=i+1) rfl rfl XQ rfl ac ac b0.len b0.B' ?_);exact Ns
def hP(c:ab Bool)(a b:Int):Bool:=c.getD (a.toNat*7+b.toNat) false
def l7(c:ab Bool)(l:ab b0)(x:b0):Bool:=!hx x.bm||(!hx x.b3||(hP c x.bm x.b3||decide (256<=l.length)))
def ji(c:ab Bool)(s:ab b0×Int)(x:b0):ab b0×Int:=if l7 c s.1 x then(s.1,s.2+1)else(s.1++[x],s.2)
def gT(c:ab Bool)(l:ab b0)(Z:ab b0):ab b0×Int:=Z.foldl (ji c) (l,0)
def Gf(c l Z x):gT c l (Z++[x])=ji c (gT c l Z) x:=by simp[gT]
def uh{a:Int}(h:hx a=true):∃k:Nat,a=(k:Int)/\k<7:=by simp only[hx,cZ,da]at h;exact⟨a.toNat,ac,ac⟩
def dl.cut{v:aj}{c:ab Bool}{i j:Nat}(u:c.length=49)(ao:i<7)(p:j<7):(dl v c n)[1+i*7+j*1]?=some (B (hP c (i:Int) (j:Int))):=by
 have T:i*7+j<c.length:=ac
 rw[dl,show 1+i*7+j*1=(i*7+j)+1 by omega];simp only[tt,qJ];rw[pR Z2];simp only[g7,ho,hP,iB];rw[getD_some T];rfl
def dl.lost{v:aj}{c:ab Bool}(u:c.length=49):(dl v c n)[50]?=some (I n):=by simp only[dl,tt,qJ];rw[iu Z2];simp[g7,u]
theorem dl.Tu{v X:aj}{c:ab Bool}:bq 0 [X] (dl v c n) (dl X c n):=⟨by simp[dD,dl]⟩
theorem dl.SD{v:aj}{c:ab Bool}{q:Int}(u:c.length=49):bq 50 [I q] (dl v c n) (dl v c q):=⟨by
 have y:([v]++g7 c).length=50:=by simp[g7,u]
 have e:∀m:Int,dl v c m=([v]++g7 c)++[I m]:=λm=>by simp[dl]
 rw[e,e,dD,nB ac,j4 ac,uV,qN ac,qN (by simp[g7,u])];simp⟩
def af7(c:ab Bool)(l:ab b0)(E:l.length<=256)(Z:ab b0):(gT c l Z).1.length<=256/\0<=(gT c l Z).2/\(gT c l Z).2<=Z.length:=by
 suffices h:∀J:ab b0,(gT c l J.reverse).1.length<=256/\0<=(gT c l J.reverse).2/\(gT c l J.reverse).2<=J.length by have:=h Z.reverse;simpa using this
 intro J;induction J with
 |nil=>exact⟨E,by simp[gT],by simp[gT]⟩
 |cons y J u=>
  obtain⟨F,M,g⟩:=u;rw[List.reverse_cons,Gf,ji];cases R:l7 c (gT c l J.reverse).1 y with
  |true=>simp only[hA,dp];exact⟨F,ac,ZT⟩
  |false=>
   simp only[l7,E6,j8]at R;simp only[hr,ii,dp,bM,fY];exact⟨ac,M,ZT⟩
def dl.gN{v:aj}{c:ab Bool}:Nat.blt 0 (dl v c n).length=true:=J1
def dl.S7{v:aj}{c:ab Bool}(u:c.length=49):Nat.blt 50 (dl v c n).length=true:=J1
def O5(e:ax)(s:aQ Go.Addr)(C o off b:Nat)(v:aj)(l Z:ab b0)(c:ab Bool)(n:Int)(T:Rd e s Z.length o off 3 (Z.map b0.c))(u:c.length=49)(E:l.length<=256)(a:0<=n/\n<=1000000000000000)(U:Z.length<=1000000):ar prog 63 [au b 0,.slice s Z.length C] (e::fl b v l c n) (λr Y=>∃X,r=I (gT c l Z).2/\Y=e::fl b X (gT c l Z).1 c (n+(gT c l Z).2)):=by
 unfold fl;refine aB func63 λW=>?_;refine aa 29 ?_;refine ah.cb [13,12,0] (λy:Nat×aj×ab b0×Int=>y.1<=Z.length/\gT c l (Z.take y.1)=y.2.2) (λy=>[(14,I (y.1:Int)),(5,I y.2.2.2)]) (λy=>[cells b 126 (dl y.2.1 c n),rows b0.c y.2.1 143 3 y.2.2.1])
  (λy=>Z.length-y.1) (0,v,l,0) ⟨cw _,rfl⟩ ?_
 rintro⟨i,X,q,m⟩⟨ao,Q⟩ K p;dsimp only at ao Q;refine bh ?_;obtain⟨f,D,qb⟩:=af7 c l E (Z.take i);rw[Q]at f D qb;dsimp only at f D qb;have zE:m<=i:=by rw[eX]at qb;omega
 by_cases N:i<Z.length
 .obtain⟨x,U⟩:=b8 N;have k:=kl U;have J:gT c l (Z.take (i+1))=ji c (q,m) x:=by rw[k,Gf,Q]
  have Yh:l7 c q x=true->gT c l (Z.take (i+1))=(q,m+1):=λh=>by rw[J,ji,aT h]
  have L:=x4 x.bm;have G:=x4 x.b3;cases F:hx x.bm with
  |false=>
   rw[F]at L;have w:=Yh (by simp[l7,F]);refine aq 15 λR=>?_;refine aa 5 ?_;refine ah.n' ?_ aA.d'.d'.d'.d';refine ae 30 0 ?_;refine aa 18 ?_;rotate_left;exact LO
  |true=>
   rw[F]at L;cases M:hx x.b3 with
   |false=>
    rw[M]at G;have w:=Yh (by simp[l7,F,M]);refine aq 15 λR=>?_;refine aa 5 ?_;refine ah.n' ?_ aA.d'.d'.d'.d';refine ae 30 0 ?_;refine aa 18 ?_;rotate_left;exact LO
   |true=>
    rw[M]at G;obtain⟨j,Ye,Yf⟩:=uh F;obtain⟨d,P,Yg⟩:=uh M;have Yc:=λv n=>dl.cut (v:=v) (n:=n) u Yf Yg;rw[<-Ye,<-P]at Yc;cases g:hP c x.bm x.b3 with
    |true=>
     rw[g]at Yc;have w:=Yh (by simp[l7,F,M,g]);refine Ow λR=>?_;refine ae 9 21 ?_;refine aa 18 ?_;rotate_left;exact LO
    |false=>
     rw[g]at Yc;by_cases z:256<=q.length
     .have w:=Yh (by simp[l7,F,M,g,z]);have Yi:a8 .geq (q.length:Int) 256=some true:=by simp[a8];omega
      refine JQ λR=>?_;refine aa 18 ?_;rotate_left;exact LO
     .have Yi:a8 .geq (q.length:Int) 256=some false:=by simp[a8];omega
      have w:gT c l (Z.take (i+1))=(q++[x],m):=by rw[J,ji,aN (by simp[l7,F,M,g];omega)]
      refine JQ λR=>?_;refine aa 5 ?_;refine ah.RN [10] ?_ aA.j.j.d'.d' aA.j.j.j.d';refine P2 ?_;refine c1 6 λYk=>?_;refine af.p' 7 rfl (O.O' ad rfl rfl XJ (ce.one ad XB b0.B') (λYl Yj=>?_));refine av ?_;refine ae 2 8 ?_;refine af.l 10 rfl (O.G' ad ?_ (j:=dl.gN) (z:=dl.Tu));refine aa 8 ?_;rotate_left;exact Out.t' p (i+1,_,q++[x],m) ⟨XO,w⟩ XR
 .obtain rfl:i=Z.length:=by omega
  rw[hE]at Q;clear p;rw[Q];refine aa 17 ?_;refine ai.v (V.y' ad (g:=dl.lost u)) ?_;refine aa 4 ?_;refine ai.o (O.G' ad ?_ (j:=dl.S7 u) (z:=dl.SD u));exact aM 10
def aeF(b:Nat)(v:aj)(l:ab b0)(c:ab Bool)(n:Int):ar prog 35 [au b 0] (fl b v l c n) (λr Y=>r=I (l.length:Int)/\Y=fl b v l c n):=by unfold fl;refine aB func35 λW=>?_;exact aM 27
def hQ(l:ab b0)(i:Int):aQ b0:=if 0<=i then l[i.toNat]? else none
def ui{l:ab b0}{i:Int}{x:b0}(h:hQ l i=some x):∃k:Nat,i=(k:Int)/\l[k]?=some x/\k<l.length:=by
 unfold hQ at h;split at h
 .exact⟨i.toNat,ac,h,(cI.1 h).1⟩
 .cases h
def we{l:ab b0}{i:Int}(h:hQ l i=none):i<0\/(l.length:Int)<=i:=by
 unfold hQ at h;split at h
 .have:=List.getElem?_eq_none_iff.1 h;right;omega
 .left;omega
def sI(x:b0):Bool:=hx x.bm&&hx x.b3
def acb(b:Nat)(v:aj)(l:ab b0)(c:ab Bool)(n i:Int)(u:c.length=49)(a:0<=n/\n<=1000000000000000):ar prog 38 [au b 0,I i] (fl b v l c n) (λr Y=>∃X,r=B (hQ l i).isSome/\Y=(match hQ l i with|some _=>fl b X (l.eraseIdx i.toNat) c (n+1)|none=>fl b X l c n)):=by
 cases h:hQ l i with
 |none=>
  have p:=we h;unfold fl;refine aB func38 λW=>?_;refine P6 (λj=>?_) λj=>?_;exact aM 19;exact aM 19
 |some x=>
  obtain⟨k,rfl,T,m⟩:=ui h;unfold fl;refine aB func38 λW=>?_;refine ah.fact (hc (f:=b0.c) (v:=v) (l:=l) (E:=143) (aG:=3) XB) λt=>?_;rcases t with⟨_,rfl⟩|⟨g,C,rfl,s,z⟩
  .simp at m
  simp only[Go.maxLen]at z;have x:=AZ g C l k m s z;refine P6 (λj=>?_) λj=>?_;(exfalso;omega);refine aa 10 ?_;refine ah.cs (λF=>?_) (λF=>?_);(exfalso;omega);refine aa 12 ?_;refine ai.o' rfl (x) ?_;refine aa 3 ?_;refine ai.o (O.G' ad ?_ (j:=dl.gN) (z:=dl.Tu));refine aa 7 ?_;refine ai.v (V.y' ad (g:=dl.lost u)) ?_;refine aa 3 ?_;refine ai.o (O.G' ad ?_ (j:=dl.S7 u) (z:=dl.SD u));exact aM 9
def O8(b:Nat)(v:aj)(l:ab b0)(c:ab Bool)(n i:Int)(u:c.length=49)(a:0<=n/\n<=1000000000000000)(p:∀x∈l,sI x=true):ar prog 65 [au b 0,I i] (fl b v l c n) (λr Y=>∃X,(match hQ l i with
   |some x=>if hP c x.bm x.b3 then r=.tuple #[A b0.z.c,B false]/\Y=fl b X (l.eraseIdx i.toNat) c (n+1)else r=.tuple #[A x.c,B true]/\Y=fl b X (l.eraseIdx i.toNat) c n
   |none=>r=.tuple #[A b0.z.c,B false]/\Y=fl b X l c n)):=by
 cases h:hQ l i with
 |none=>
  have w:=we h
  unfold fl
  refine aB func65 λW=>?_
  refine aq 2 λF=>?_
  refine aa 13 ?_
  refine ai.aU (λP=>?_) (λP=>?_)
  exact aM 21
  exact aM 21
 |some x=>
  obtain⟨k,rfl,T,m⟩:=ui h
  have U:=p x (j5 T)
  simp only[sI,cZ]at U
  obtain⟨s,Z,G⟩:=uh U.1
  obtain⟨q,R,M⟩:=uh U.2
  have D:=λv n=>dl.cut (v:=v) (n:=n) u G M
  rw[<-Z,<-R]at D
  unfold fl
  dsimp only
  cases j:hP c x.bm x.b3 with
  |true=>
   rw[j]at D
   simp only[hA]
   refine aB func65 λW=>?_
   refine ah.fact (hc (f:=b0.c) (v:=v) (l:=l) (E:=143) (aG:=3) XB) λt=>?_
   rcases t with⟨_,rfl⟩|⟨g,C,rfl,N,y⟩
   .simp at m
   simp only[Go.maxLen]at y
   have J:=AZ g C l k m N y
   refine aq 2 λF=>?_
   refine aa 34 ?_
   refine ai.v (V.x' ad rfl rfl) ?_
   refine ai.v (V.E' ad rfl XB (λ_=>rfl) XF) ?_
   refine aq 0 λK=>?_
   refine aa 17 ?_
   refine ai.o (O.G' ad ?_ (j:=dl.gN) (z:=dl.Tu))
   refine aa 4 ?_
   refine ah.n' ?_ aA.d'.j.d'.d'
   refine ae 7 0 ?_
   refine af.i' 7 rfl (V.RL ad rfl rfl Z) ?_
   refine af.i' 8 rfl (V.RL ad rfl rfl R) ?_
   refine af.i' 9 rfl (V.y' ad (g:=D _ _)) ?_
   refine aa 8 ?_
   refine ai.v (V.y' ad (g:=dl.lost u)) ?_
   refine aa 3 ?_
   refine ai.o (O.G' ad ?_ (j:=dl.S7 u) (z:=dl.SD u))
   exact aM 12
  |false=>
   rw[j]at D
   simp only[hr,ii]
   refine aB func65 λW=>?_
   refine ah.fact (hc (f:=b0.c) (v:=v) (l:=l) (E:=143) (aG:=3) XB) λt=>?_
   rcases t with⟨_,rfl⟩|⟨g,C,rfl,N,y⟩
   .simp at m
   simp only[Go.maxLen]at y
   have J:=AZ g C l k m N y
   refine aq 2 λF=>?_
   refine aa 34 ?_
   refine ai.v (V.x' ad rfl rfl) ?_
   refine ai.v (V.E' ad rfl XB (λ_=>rfl) XF) ?_
   refine aq 0 λK=>?_
   refine aa 17 ?_
   refine ai.o (O.G' ad ?_ (j:=dl.gN) (z:=dl.Tu))
   refine aa 4 ?_
   refine ah.n' ?_ aA.d'.j.d'.d'
   refine ae 7 0 ?_
   refine af.i' 7 rfl (V.RL ad rfl rfl Z) ?_
   refine af.i' 8 rfl (V.RL ad rfl rfl R) ?_
   refine af.i' 9 rfl (V.y' ad (g:=D _ _)) ?_
   exact aM 14
def oM(l:ab b0)(i:Int):Bool:=(hQ l i).isSome&&decide (l.length<256)
def l8(l:ab b0)(i:Int):ab b0:=match hQ l i with|some x=>if l.length<256 then l++[x]else l|none=>l
def ae9(b:Nat)(v:aj)(l:ab b0)(c:ab Bool)(n i:Int)(q:l.length<=256):ar prog 49 [au b 0,I i] (fl b v l c n) (λr Y=>∃X,r=B (oM l i)/\Y=fl b X (l8 l i) c n):=by
 cases h:hQ l i with
 |none=>
  have a:=we h;have y:oM l i=false:=by simp[oM,h]
  have J:l8 l i=l:=by simp[l8,h]
  rw[y,J];unfold fl;refine aB func49 λW=>?_;refine P6 (λj=>?_) λj=>?_;exact aM 27;exact aM 28
 |some x=>
  obtain⟨k,rfl,T,m⟩:=ui h;by_cases z:l.length<256
  .have y:oM l (k:Int)=true:=by simp[oM,h,z]
   have J:l8 l (k:Int)=l++[x]:=by simp[l8,h,z]
   rw[y,J];unfold fl;refine aB func49 λW=>?_;refine ah.fact (hc (f:=b0.c) (v:=v) (l:=l) (E:=143) (aG:=3) XB) λt=>?_;rcases t with⟨_,rfl⟩|⟨g,C,rfl,s,P⟩
   .simp at m
   refine aa 39 ?_;refine ah.RN [16] ?_ aA.j.d' aA.j.j;refine ae 4 0 ?_;refine ae 3 5 ?_;refine ae 1 9 ?_;refine Pw ?_;refine af.i' 10 rfl (V.x' ad rfl rfl) ?_;refine af.p' 11 rfl (aw.q' (V.E' ad rfl XB (λ_=>rfl) XF) ?_);refine av ?_;refine c1 12 λY=>?_;refine af.p' 13 rfl (O.O' ad rfl rfl XJ (ce.one ad XB b0.B') (λF U=>?_));refine av ?_;refine ae 2 14 ?_;refine af.l 16 rfl (O.G' ad ?_ (j:=dl.gN) (z:=dl.Tu));exact aM 10
  .have y:oM l (k:Int)=false:=by simp[oM,z]
   have J:l8 l (k:Int)=l:=by simp[l8,h,z]
   rw[y,J];unfold fl;refine aB func49 λW=>?_;exact aM 44
def jY(c:ab Bool)(a b:Int):ab Bool:=if hx a&&hx b then(c.set (a.toNat*7+b.toNat) true).set (b.toNat*7+a.toNat) true else c
def Pa(c a b):(jY c a b).length=c.length:=by unfold jY;split<;>simp
def abI{v:aj}{c:ab Bool}{k:Nat}{x:Bool}(T:k<c.length):dD (1+k) [B x] (dl v c n)=dl v (c.set k x) n:=by
 have e:∀c:ab Bool,dl v c n=[v]++(g7 c++[I n]):=λc=>rfl;rw[e,e,dD];have F:([v]++(g7 c++[I n])).take (1+k)=[v]++(g7 c).take k:=by rw[qO,nB Z2];rw[j4 XE];simp
 have M:([v]++(g7 c++[I n])).drop (1+k+[B x].length)=(g7 c).drop (k+1)++[I n]:=by rw[show 1+k+[B x].length=(k+1)+1 by simp;omega];simp only[tt,y3];rw[vc Z2]
 rw[F,M];simp only[g7,List.map_set];rw[Dy,aT ZS];simp
theorem dl.Vz{v:aj}{c:ab Bool}{i j:Nat}{x:Bool}(u:c.length=49)(ao:i<7)(p:j<7):bq (1+i*7+j*1) [B x] (dl v c n) (dl v (c.set (i*7+j) x) n):=⟨by rw[show 1+i*7+j*1=1+(i*7+j) by omega];exact abI ac⟩
def dl.VA{v:aj}{c:ab Bool}{i j:Nat}(u:c.length=49)(ao:i<7)(p:j<7):Nat.blt (1+i*7+j*1) (dl v c n).length=true:=J1
def ac9(b:Nat)(v:aj)(l:ab b0)(c:ab Bool)(n x y:Int)(u:c.length=49):ar prog 41 [au b 0,I x,I y] (fl b v l c n) (λr Y=>r=.tuple #[]/\Y=fl b v l (jY c x y) n):=by
 have L:=x4 x;have Z:=x4 y;unfold fl;cases F:hx x with
 |false=>
  rw[F]at L;have e:jY c x y=c:=by simp[jY,F]
  rw[e];refine aB func41 λW=>?_;exact aM 17
 |true=>
  rw[F]at L;cases M:hx y with
  |false=>
   rw[M]at Z;have e:jY c x y=c:=by simp[jY,M]
   rw[e];refine aB func41 λW=>?_;exact aM 17
  |true=>
   rw[M]at Z;obtain⟨i,rfl,a⟩:=uh F;obtain⟨E,rfl,p⟩:=uh M;have e:jY c i E=(c.set (i*7+E) true).set (E*7+i) true:=by simp[jY,F,M]
   rw[e];have t:(c.set (i*7+E) true).length=49:=by simpa using u
   refine aB func41 λW=>?_;refine aa 15 ?_;refine ah.n' ?_ aA.d'.j;refine ae 8 0 ?_;refine af.i' 8 rfl (V.RL ad (k:=i) rfl rfl rfl) ?_;refine af.i' 9 rfl (V.RL ad (k:=E) rfl rfl rfl) ?_;refine ae 2 11 ?_;refine af.i' 13 rfl (V.RL ad (k:=E) rfl rfl rfl) ?_;refine af.p' 10 rfl (O.G' ad ?_ (j:=dl.VA u a p) (z:=dl.Vz u a p));refine av ?_;refine af.i' 14 rfl (V.RL ad (k:=i) rfl rfl rfl) ?_;refine af.p' 15 rfl (O.G' ad ?_ (j:=dl.VA t p a) (z:=dl.Vz t p a));exact aM 3
def oN(i:Nat)(c:ab Bool):ab Bool:=List.replicate (i*7) false++c.drop (i*7)
def afD{i:Nat}{c:ab Bool}(u:c.length=49)(ao:i<=7):(oN i c).length=49:=by simp[oN];omega
def Pe{c:ab Bool}(u:c.length=49):oN 7 c=List.replicate 49 false:=by simp[oN,qN,u]
def Pf{v:aj}{c:ab Bool}{i:Nat}(u:c.length=49)(ao:i<7):dD (1+i*7) (List.replicate 7 (B false)) (dl v (oN i c) n)=dl v (oN (i+1) c) n:=by
 have e:∀c:ab Bool,dl v c n=[v]++(g7 c++[I n]):=λc=>rfl;have y:g7 (oN i c)=List.replicate (i*7) (B false)++g7 (c.drop (i*7)):=by simp[g7,oN]
 have J:g7 (oN (i+1) c)=List.replicate (i*7) (B false)++List.replicate 7 (B false)++g7 (c.drop (i*7+7)):=by rw[List.replicate_append_replicate];simp[g7,oN,eZ]
 rw[e,e,dD,y,J];have F:([v]++(List.replicate (i*7) (B false)++g7 (c.drop (i*7))++[I n])).take (1+i*7)=[v]++List.replicate (i*7) (B false):=by rw[Nat.add_comm 1];simp only[tt,tm,cd];rw[nB XE,j4 XE]
 have M:([v]++(List.replicate (i*7) (B false)++g7 (c.drop (i*7))++[I n])).drop (1+i*7+(List.replicate 7 (B false)).length)=g7 (c.drop (i*7+7))++[I n]:=by rw[show 1+i*7+(List.replicate 7 (B false)).length=(i*7+7)+1 by simp;omega];simp only[tt,y3,cd];rw[uV,qN XE];simp only[List.length_replicate,gi,Pg];rw[vc Z2];simp[g7,pO]
 rw[F,M];simp
def aau(b:Nat)(v:aj)(l:ab b0)(c:ab Bool)(n:Int)(u:c.length=49):ar prog 50 [au b 0] (fl b v l c n) (λr Y=>r=.tuple #[]/\Y=fl b v l (List.replicate 49 false) n):=by
 unfold fl;refine aB func50 λW=>?_;refine aa 13 ?_;refine ah.cb [0] (λi:Nat=>i<=7) (λi=>[(5,I (i:Int))]) (λi=>[cells b 126 (dl v (oN i c) n)]) (λi=>7-i) 0 (cw _) ?_;intro i ao K a;refine bh ?_;by_cases s:i<7
 .refine aa 22 ?_;refine ai.v (V.RL ad (k:=i) rfl rfl rfl) ?_;refine ai.v (V.U2 ad rfl) ?_;refine ai.o (O.Wz ad rfl XQ ac (by rw[dl.len,afD u ao];omega) (Pf u s) ?_);refine aa 7 ?_;rotate_left;exact Out.t' a (i+1) XO (by show 7-(i+1)<7-i;omega)
 .obtain rfl:i=7:=by omega
  rw[Pe u];exact aM 12
end Go.Proofs.YteogojgnkjegmaaGreatDoor
namespace Go.Proofs.YteogojgnkjegmaaGreatDoor
open Go.ay Go.Proofs.Tryz
variable[Go.ay.bR]
inductive c5 where
 |up (b:Nat) (L:cO) (s:aC)
 |dn (bD:Nat) (du:Go.Value) (l:List dY) (bT:List UInt8) (safe:Int)
def c5.bD:c5->Nat
 |.up _ _ s=>s.bD
 |.dn bD _ _ _ _=>bD
def c5.ptr:c5->aj
 |.up b _ _=>au b 0
 |.dn _ _ _ _ _=>.pointer none
def c5.es:c5->ab ax
 |.up b L s=>bX b L s
 |.dn bD u l bT W=>fc bD u (b5 l++bT) W
def c5.on:c5->Bool
 |.up _ _ _=>true
 |.dn _ _ _ _ _=>false
def fL(x:c5):ab aj:=[au x.bD 0]
def fR(x:c5):ab aj:=[x.ptr]
def A0(x:c5):(fL x).length=1:=rfl
def mF(x:c5):(fR x).length=1:=rfl
structure ft where
 t:ff
 rep:Int
 w:Int
def ft.full(x:ft):tj:=⟨x.t.full,x.rep,x.w⟩
def ft.c(x:ft):ab aj:=x.full.c
def ft.SN(x:ft):x.c.length=8:=rfl
def ft.B':iv ft.c:=λ_=>rfl
structure gh where
 sJ:Nat
 m3:Nat
 lw:Nat
 lx:Nat
 jZ:Nat
 du:aj
 bC:aj
structure bo where
 n:Int
 aS:ab c5
 bQ:ab b0
 cut:ab Bool
 lost:Int
 now:Int
 told:ab ft
def e3(Y:ab c5):ax:=aI (Y.flatMap c5.es)
def c9(L:gh)(c:bo):ab aj:=jI.c ⟨c.n,.slice (some ⟨L.sJ,0,none⟩) c.aS.length L.m3,.slice (some ⟨L.lw,0,none⟩) c.aS.length L.lx,au L.jZ 0,c.now,L.bC⟩
def dm(L:gh)(c:bo):ax:=aI (fl L.jZ L.du c.bQ c.cut c.lost)
def bJ(b:Nat)(L:gh)(c:bo):ab ax:=
 [cells b 85 (c9 L c),rows fL (.slice (some ⟨L.sJ,0,none⟩) c.aS.length L.m3) 112 1 c.aS,rows fR (.slice (some ⟨L.lw,0,none⟩) c.aS.length L.lx) 36 1 c.aS,dm L c,e3 c.aS,rows ft.c L.bC 67 8 c.told,cv]
def A1{Y:ab c5}{i:Nat}(ao:i<Y.length)(y:c5):aL [e3 (Y.set i y)] (y.es++[e3 (Y.eraseIdx i)]):=by unfold e3;refine aL.aI.trans ((aL.RS (bc:=y.es++(Y.eraseIdx i).flatMap c5.es) ?_).trans ((aL.refl _).append aL.aI.symm));rw[Dy,aT ao,Ey,lP,lP,fG,<-cd,<-cd];exact Gb _ mZ
def wg{D:Type}{l:ab D}{i:Nat}{x:D}(h:l[i]?=some x):l.set i x=l:=by
 refine mX λj=>?_;rw[kq];split
 .rename_i e;subst e;rw[h];have:=(cI.1 h).1;simp[this]
 .rfl
def A2{Y:ab c5}{i:Nat}{x:c5}(h:Y[i]?=some x):aL [e3 Y] (x.es++[e3 (Y.eraseIdx i)]):=by have:=A1 (cI.1 h).1 x;rwa[wg h]at this
section
variable{P:bF}{f:eg}{args:ab aj}{Y:ab c5}{i:Nat}{x:c5}{F:Type}{Q:aj->F->Prop}{T:F->ab ax}{N:F->c5}
def ar.Tv(h:Y[i]?=some x)(u:ar P f args x.es (λr U=>∃z,Q r z/\U=T z++(N z).es)):ar P f args [e3 Y] (λr U=>∃z,Q r z/\U=T z++[e3 (Y.set i (N z))]):=by have ao:=(cI.1 h).1;refine ar.eqv (A2 h) (ar.frame (bc:=[e3 (Y.eraseIdx i)]) u) ?_;rintro r U⟨_,⟨z,J,rfl⟩,rfl⟩;refine⟨_,⟨z,J,rfl⟩,?_⟩;rw[cd];exact(aL.refl (T z)).append (A1 ao (N z)).symm
def ar.Ul(h:Y[i]?=some x)(u:ar P f args (x.es++[cv]) (λr U=>∃z,Q r z/\U=(N z).es++[cv])):ar P f args [e3 Y,cv] (λr U=>∃z,Q r z/\U=[e3 (Y.set i (N z)),cv]):=by
 have ao:=(cI.1 h).1;have b (y:c5) (e:ax):aL [e3 (Y.set i y),e] ((y.es++[e])++[e3 (Y.eraseIdx i)]):=by refine((A1 ao y).append (aL.refl [e])).trans (aL.RS ?_);rw[cd,cd];exact AW _ (gZ ..)
 have j:=b x cv;rw[wg h]at j;refine ar.eqv j (ar.frame (bc:=[e3 (Y.eraseIdx i)]) u) ?_;rintro r U⟨_,⟨z,J,rfl⟩,rfl⟩;exact⟨_,⟨z,J,rfl⟩,(b (N z) cv).symm⟩
end
def gy(c:bo)(h:Int):Int:=if h<0\/c.n<=h then 1 else if((c.aS[h.toNat]?).map c5.on).getD false then 0 else 7
structure ClN(c:bo):Prop where
 n:c.n=3\/c.n=5\/c.n=7
 len:(c.aS.length:Int)=c.n
def ClN.at{c:bo}(h:ClN c){rep:Int}(j:0<=rep)(U:rep<c.n):∃k x,rep=(k:Nat)/\k<c.aS.length/\c.aS[k]?=some x:=by
 have:=h.len;obtain⟨k,rfl⟩:∃k:Nat,rep=(k:Int):=⟨rep.toNat,ac⟩
 have E:k<c.aS.length:=ac
 exact⟨k,c.aS[k],rfl,E,gM E⟩
def x5(b:Nat)(L:gh)(c:bo)(h:ClN c)(Z:Int):ar prog 31 [au b 0,I Z] (bJ b L c) (λr U=>r=I (gy c Z)/\U=bJ b L c):=by
 unfold gy bJ c9;by_cases o:Z<0\/c.n<=Z
 .rw[aT o];refine aB func31 λW=>?_;refine aa 20 ?_;refine ai.aU (λG=>?_) (λG=>?_);exact aM 20;exact aM 20
 .rw[aN o];obtain⟨k,x,rfl,E,J⟩:=h.at (rep:=Z) ac ac;have d:=h.len;rw[iB,J];have m:(c.aS.length:Nat)<=7:=by have:=h.n;omega
  cases x with
  |up j R s1=>
   rw[show((Option.map c5.on (some (c5.up j R s1))).getD false)=true from rfl,aT rfl];refine NV λW=>?_;exact aM 15
  |dn j R s1 a r=>
   rw[show((Option.map c5.on (some (c5.dn j R s1 a r))).getD false)=false from rfl,aN XG];refine NV λW=>?_;exact aM 14
end Go.Proofs.YteogojgnkjegmaaGreatDoor
