/-
 Part of the proof.
-/
import Derived.Test.YteogojgnkjegmaaGreatDoorAv
set_option linter.all false
set_option maxRecDepth 8000
set_option maxHeartbeats 8000000
namespace Go.Proofs.YteogojgnkjegmaaGreatDoor
open Go.ay Go.Proofs.Tryz
variable[Go.ay.b4]
inductive rQ(n Y U:Int):List eK->db->Int×List br->Prop where
 |nil:rQ n Y U [] (db.new n) (0,[])
 |ut {l:List eK} {r nx:db} {st:Int×List br} {x:ag} {i:aX} (h:rQ n Y U l r st) (b7:i.Status=3) (dE:r.VS x i.Call nx):rQ n Y U (l++[(x,i)]) nx st
 |iN {l:List eK} {r:db} {st:Int×List br} {x:ag} {i:aX} (h:rQ n Y U l r st) (b7:i.Status≠3):rQ n Y U (l++[(x,i)]) r (hP n Y U [] [x] st)
def aC.Vb(n Y U:Int)(g:Nat)(X:eH)(d:bR)(M:nk)(r:db)(st:Int×ab br):aC:=
 ⟨n,Y,U,g,X,d,[],[],st.1,st.2,[],r,M,[],[],[],[],[]⟩
def nm(n Y U:Int)(g:Nat)(o:bR)(d:aC):Prop:=
 ∃X M r st,h1 (eH.L X) o.p/\X.L.da<=1345/\(j9 0 M/\M.s=g5.z)/\rQ n Y U o.p.all r st/\k3 (aC.Vb n Y U g X o M r st) d
def C6{n Y U:Int}(p:n=3\/n=5\/n=7)(Q:0<=Y/\Y<n)(u:0<=U/\U<=1099511627776){l:ab eK}(T:ko n l){r:db}{st:Int×ab br}(h:rQ n Y U l r st)(g:Nat)(X:eH)(o:bR){M:nk}(z:j9 0 M):RepI l.length (aC.Vb n Y U g X o M r st)/\r.done=[]:=by
 induction h with
 |nil=>
  have f:hC n (db.new n):=hC.new ac ac;refine⟨⟨p,Q,u,f,z,lH.zero,gg _,?_,pK,λx=>?_⟩,rfl⟩
  .intro y F;cases F
  .show 0<=bS [] x/\bS [] x<=_;unfold bS;rw[m4];exact⟨gg _,gg _⟩
 |@ut l r G st x i h R q d=>
  obtain⟨b,a⟩:=d λy F=>T y (sT _ F);have W:G.done=[]:=by rw[q.2.1,a]
  refine⟨⟨p,Q,u,b.run.UF q,?_,?_⟩,W⟩
  .show j9 G.done.length M;rw[W];exact z
  .have:=b.fX;rw[b2];exact(⟨this.w,this.t,this.aV,this.td,this.bS⟩:k2 l.length (aC.Vb n Y U g X o M G st)).mono (jL _ _)
 |@iN l r st x i h R d=>
  obtain⟨b,a⟩:=d λy F=>T y (sT _ F);refine⟨⟨p,Q,u,b.run,by show j9 r.done.length M;rw[a];exact z,?_⟩,a⟩;have G:bq x n=true:=(T (x,i) T3).1;rw[b2];exact k2.iN b.fX [x] (by simpa using pS G ac) rfl rfl rfl
def Ro(g:Nat)(v:aj)(n:Int)(l:ab eK)(b9:ab aS)(u:Int)(c:n=3\/n=5\/n=7)(T:ko n l)(b:(gE b9).2=0)(y:(cj l++b9).length<=65536):ar prog 73 [aw g 0,I n] (fC g v (cj l++b9) u) (λr N=>∃J X,(h1 (eH.L X) (hQ n l b9 u).p/\X.L.da<=1345)/\r=.tuple #[aw J 0,I 0]/\N=[fE J g X (hQ n l b9 u)]):=by refine ar.UB (ahP g v n l b9 u c T b y) ?_;rintro r N W D w⟨J,X,Z,M,rfl,rfl⟩ a;exact⟨_,⟨J,X,⟨Z,M⟩,rfl,rfl⟩,a.eqv aO.aL.symm⟩
structure ky where
 a4:Nat
 a5:Nat
 a12:Nat
 qY:Nat
 hE:Nat
 s8:Nat
 m8:Nat
 ee:Nat
 dP:lk
 M:nk
 nn:Nat
 qZ:Nat
section
variable(n Y U:Int)(J:Nat)
def ky.rep(z:ky):ab aj:=gp.c ⟨n,Y,U,aw J 0,.map (some z.a4),.map (some z.a5),aw z.hE 0,aw z.ee 0,aw z.M.b 0,.map (some z.a12),.map (some z.qY),.slice none 0 0,.slice none 0 0,.slice none 0 0⟩
def ky.fQ(z:ky)(f:Bool):Nat->ab ax
 |4=>[bz cg (c0 (bu:=a6)) z.a4 []]
 |5=>[bz cg (c0 (bu:=bL)) z.a5 []]
 |8=>iV z.hE n Y z.s8 z.m8 (.slice none 0 0) 0 [] []
 |10=>[jP z.ee z.dP (db.new n)]
 |11=>[mg z.M]
 |12=>[bz cg iX z.a12 []]
 |13=>[bz cg ln z.qY []]
 |15=>[cells z.nn 95 (z.rep n Y U J)]
 |16=>[cells z.qZ 36 [if f then aw z.nn 0 else .pointer none]]
 |_=>[]
def xX:Nat->Nat
 |4=>43|5=>44|8=>47|10=>49|11=>50|12=>51|13=>52|14=>53|15=>54|_=>12
def ky.val(z:ky):Nat->aj
 |4=>.map (some z.a4)
 |5=>.map (some z.a5)
 |8=>aw z.hE 0
 |10=>aw z.ee 0
 |11=>aw z.M.b 0
 |12=>.map (some z.a12)
 |13=>.map (some z.qY)
 |14=>A (z.rep n Y U J)
 |15=>aw z.nn 0
 |_=>aw z.qZ 0
def kb:ab Nat:=[4,5,8,10,11,12,13,14,15,16]
def ky.flat(z:ky)(l:Array Bool):ab ax:=kb.flatMap λj=>if l.getD j true=true then z.fQ n Y U J (l.getD 17 true) j else[]
def s9(l:Array Bool):Prop:=l.getD 4 true=true/\l.getD 5 true=true/\l.getD 8 true=true/\l.getD 10 true=true/\l.getD 11 true=true/\l.getD 12 true=true/\l.getD 13 true=true
end
structure zQ(n ja U:Int)(J:Nat)(gC:bC)(aiV:ab ax)(l:Array Bool)(am:bC)(an:ab ax)(z:ky):Prop where
 aI:l.size=18
 d0:∀j∈[0,1,2,3,6,7,9],l.getD j true=true
 zR:l.getD 14 true=true->s9 l
 q0:l.getD 15 true=true->l.getD 14 true=true
 aed:l.getD 17 true=true->l.getD 15 true=true/\l.getD 16 true=true
 e:∀q∈gC,ev am q.1=some q.2
 v:∀j∈kb,l.getD j true=true->ev am (xX j)=some (z.val n ja U J j)
 M:l.getD 11 true=true->j9 0 z.M/\z.M.s=g5.z
 p:an.Perm (z.flat n ja U J l++aiV)
def ajW:∀i∈kb,xX i∈[43,44,47,49,50,51,52,53,54,12]:=T6
def adg:∀i∈kb,∀j∈kb,xX i=xX j->j=i:=T6
def Iy{a b:Nat}{v:aj}{M:bC}(h:a≠b):ev ((a,v)::M) b=ev M b:=by simp only[ev];rw[show Nat.beq a b=false by rw[<-mq,yr];exact h];rfl
def ahf{a:Nat}{v:aj}{M:bC}:ev ((a,v)::M) a=some v:=by simp only[ev];rw[show Nat.beq a a=true from wA a];rfl
def zQ.up{n Y U:Int}{J:Nat}{k:bC}{x:ab ax}{l:Array Bool}{C:bC}{K:ab ax}{z:ky}(h:zQ n Y U J k x l C K z){i:Nat}(R:l.getD i true=false)(ao:i∈kb)(F:ky) (L:∀q∈k,q.1∉[43,44,47,49,50,51,52,53,54,12]) (W:∀j∈kb,j≠i->l.getD j true=true->F.val n Y U J j=z.val n Y U J j/\F.fQ n Y U J false j=z.fQ n Y U J false j) (Z:i=14->s9 l) (c:i=15->l.getD 14 true=true) (P:l.getD 11 true=true\/i=11->j9 0 F.M/\F.M.s=g5.z) (v:aj) (T:v=F.val n Y U J i):zQ n Y U J k x (l.setIfInBounds i true) ((xX i,v)::C) (F.fQ n Y U J false i++K) F:=by
 subst T;have r:i≠17:=λe=>by subst e;revert ao;decide
 have N:l.getD 17 true=false:=by
  cases N:l.getD 17 true with
  |false=>rfl
  |true=>
   have:=h.aed N;have w:=h.q0 this.1;have X:=h.zR w;unfold s9 at X;simp only[kb,dk,jH,gx]at ao;rcases ao with rfl|rfl|rfl|rfl|rfl|rfl|rfl|rfl|rfl|rfl<;>simp_all
 have Q (j:Nat):=Iu (j:=j) R;have f:(l.setIfInBounds i true).getD 17 true=false:=by rw[Q,N];simp[o5 r]
 refine⟨SF,λj y=>by rw[Q,h.d0 j y,rR],λo=>?_,λo=>?_,λo=>(by rw[f]at o;cases o),λq aW=>?_,λj y o=>?_,λo=>?_,?_⟩
 .have:s9 l:=by
   rw[Q,iL,dl]at o;rcases o with o|o
   .exact Z o.symm
   .exact h.zR o
  unfold s9 at this⊢;simp only[Q,this,rR,and_self]
 .have:l.getD 14 true=true:=by
   rw[Q,iL,dl]at o;rcases o with o|o
   .exact c o.symm
   .exact h.q0 o
  rw[Q,this,rR]
 .rw[Iy (λe=>L q aW (by rw[<-e];exact ajW i ao))];exact h.e q aW
 .by_cases e:j=i
  .subst e;exact ahf
  .rw[Q,iL,dl]at o;have o:=o.resolve_left e;rw[Iy (λZ=>e (adg i ao j y Z))];rw[(W j y e o).1];exact h.v j y o
 .rw[Q,iL,dl]at o;exact P (o.symm.imp id ih)
 .have P:=acJ (E:=kb) T6 ao (λj=>if l.getD j true=true then z.fQ n Y U J (l.getD 17 true) j else[]) (λj=>if(l.setIfInBounds i true).getD j true=true then F.fQ n Y U J ((l.setIfInBounds i true).getD 17 true) j else[]) (by rw[aM (by rw[R];decide)]) (λj y T=>by
   rw[Q,f,N];by_cases w:l.getD j true=true
   .rw[w,rR,aQ rfl,aQ rfl,(W j y T w).2]
   .rw[aM w,aM];rw[iL,dl];rintro(h|h)
    .exact T h
    .exact w h)
  have c:(if(l.setIfInBounds i true).getD i true=true then F.fQ n Y U J ((l.setIfInBounds i true).getD 17 true) i else[])=F.fQ n Y U J false i:=by rw[f,Q,aQ T3]
  rw[c]at P;refine(C4 _ h.p).trans ?_;rw[<-cn];exact Ix _ P.symm
def ta(J g:Nat)(X:eH)(s:bR):ab ax:=iz J X.e3 X.L++[cells X.e3 120 (lY.c ⟨aw g 0,s.n,aw X.ee 0⟩),cells g 156 (lA.c ⟨X.dH,s.safe⟩),ej dt X.dH 5 1 s.data]
def C7(J g:Nat)(X:eH)(s:bR):aO [fE J g X s] [kT X.ee X.R s.p,aL (ta J g X s)]:=by
 have Q:ak (hh J g X s) (kT X.ee X.R s.p::ta J g X s) []:=by unfold hh ta gy iz;refine bl ?_;(repeat(first|exact ak.nil|exact al.here|apply ak.cons|apply al.there))
 have z:=Q.perm;rw[dT]at z;exact(aO.aL.trans (aO.UA z)).trans (aO.cons _ aO.aL.symm)
def Iz(J g:Nat)(X:eH)(s:bR):ar prog 14 [aw J 0] [fE J g X s] (λr Z=>∃q,r=.func (.func 80) #[] #[aw q 0]/\Z=[cells q 117 [aw X.ee 0],kT X.ee X.R s.p,aL (ta J g X s)]):=by refine ar.eqv aO.aL (ah8 J g X s) ?_;rintro r Z⟨q,rfl,rfl⟩;exact⟨_,⟨q,rfl,rfl⟩,aO.cons _ (aO.aL.symm.trans (C7 J g X s))⟩
def ky.lay(z:ky)(J:Nat)(y:lk×aj):cW:=⟨J,z.a4,z.a5,z.hE,z.s8,z.m8,y.2,z.ee,y.1,z.a12,z.qY,.slice none 0 0,.slice none 0 0,.slice none 0 0⟩
def IA(bQ:Nat)(v:aj)(n Y U:Int)(l:ab eK)(b9:ab aS)(f:Int)(cM:n=3\/n=5\/n=7)(b7:0<=Y/\Y<n)(Yp:0<=U/\U<=1099511627776)(dz:ko n l)(N:(gE b9).2=0)(a:(cj l++b9).length<=65536):ar prog 47 [aw bQ 0,I n,I Y,I U] (fC bQ v (cj l++b9) f) (λr Z=>∃b L cE,nm n Y U bQ (hQ n l b9 f) cE/\r=.tuple #[aw b 0,I 0]/\Z=cb b L cE):=by
 have l4:=Ro bQ v n l b9 f cM dz N a;have Yg:=CF (X:=f) cM dz a;have Yn:(hQ n l b9 f).n=n:=rfl;have YM:=adD n Y;have YF:=adq n;generalize hQ n l b9 f=d at*;generalize cj l++b9=Yj at*;unfold fC;unfold fC at l4;refine aE func47 λW=>?_;generalize bn _=D;refine aa 2 ?_;refine ai.o (O.UQ (λmE=>?_));refine aa 35 ?_;rintro nO CK⟨T,⟨u,⟨⟨Yr,Ys⟩,rfl,rfl⟩⟩⟩;refine aa 18 ?_;refine ah.mt [7,1,10] (λz:ky=>j9 0 z.M/\z.M.s=g5.z) (λz=>[(12,aw z.qZ 0)]) (λz=>[cells z.qZ 36 [aw z.nn 0],cells z.nn 95 (z.rep n Y U T),bz cg (c0 (bu:=a6)) z.a4 [],bz cg (c0 (bu:=bL)) z.a5 [],aL (iV z.hE n Y z.s8 z.m8 (.slice none 0 0) 0 [] []),jP z.ee z.dP (db.new n),mg z.M,bz cg iX z.a12 [],bz cg ln z.qY []]) (i:=[]) ?_ ?_
 .intro fM Ye;refine ah.n' ?_ aB.d'.j;refine ae 4 0 ?_;refine ae 2 6 ?_;refine ae 1 9 ?_;refine af.inv (λl K t=>∃z,zQ n Y U T [(7,aw mE 0),(1,I n),(10,aw T 0),(39,I n),(40,I Y),(41,I U),(42,aw T 0),(45,I n),(46,I Y),(48,I n)] [fE T bQ u d,cells mE 3 [I U]] l K t z) ?_ ?_ ?_ _ _ _ _ _ T6 ⟨⟨0,0,0,0,0,0,0,0,⟨0,⟨0,0,.new,.new⟩,.slice none 0 0,.slice none 0 0⟩,⟨0,0,0,0,g5.z,[],[]⟩,0,0⟩,?_⟩
  .rintro l K t⟨z,h⟩;have dO:cells mE 3 [I U]∈t:=h.p.mem_iff.2 (Ru _ T3);exact⟨Ev dO Eu,Ev dO Eu⟩
  .rintro l K t i o⟨z,h⟩ dy hu c9;have Yf:i<18:=(o4.1 dy).1;have YN:i∉[0,1,2,3,6,7,9]:=λdE=>by rw[h.d0 i dE]at hu;cases hu
   have F:i=4\/i=5\/i=8\/i=10\/i=11\/i=12\/i=13->l.getD 14 true=true->False:=λdE a=>by have:=h.zR a;unfold s9 at this;rcases dE with rfl|rfl|rfl|rfl|rfl|rfl|rfl<;>simp_all
   have Yo:i=4\/i=5\/i=8\/i=10\/i=11\/i=12\/i=13\/i=14\/i=15\/i=16\/i=17:=by simp only[dk,jH,gx,qw]at YN;omega
   have G:∀q∈([(7,aw mE 0),(1,I n),(10,aw T 0),(39,I n),(40,I Y),(41,I U),(42,aw T 0),(45,I n),(46,I Y),(48,I n)]:bC),q.1∉[43,44,47,49,50,51,52,53,54,12]:=by intro q aW;simp only[dk,jH,gx]at aW;rcases aW with rfl|rfl|rfl|rfl|rfl|rfl|rfl|rfl|rfl|rfl<;>(dsimp only;decide)
   rcases Yo with rfl|rfl|rfl|rfl|rfl|rfl|rfl|rfl|rfl|rfl|rfl
   .cases hc dy;refine⟨rfl,av.Vh (C:=λk Z=>∃b,k=(43,.map (some b))::K/\Z=bz cg (c0 (bu:=a6)) b []::t) (av.mkMap cg (c0 (bu:=a6)) rfl λb=>⟨b,rfl,rfl⟩) ?_⟩;rintro _ _⟨b,rfl,rfl⟩;exact⟨{z with a4:=b},h.up hu T6 {z with a4:=b} G N9 (λe=>absurd e T6) (λe=>absurd e T6) (λP=>h.M (P.resolve_right T6)) _ rfl⟩
   .cases hc dy;refine⟨rfl,av.Vh (C:=λk Z=>∃b,k=(44,.map (some b))::K/\Z=bz cg (c0 (bu:=bL)) b []::t) (av.mkMap cg (c0 (bu:=bL)) rfl λb=>⟨b,rfl,rfl⟩) ?_⟩;rintro _ _⟨b,rfl,rfl⟩;exact⟨{z with a5:=b},h.up hu T6 {z with a5:=b} G N9 (λe=>absurd e T6) (λe=>absurd e T6) (λP=>h.M (P.resolve_right T6)) _ rfl⟩
   .cases hc dy;have YO:ev K 45=some (I n):=h.e (45,I n) T3;have YP:ev K 46=some (I Y):=h.e (46,I Y) T3;refine⟨rfl,av.Vh (C:=λk Z=>∃b p m,k=(47,aw b 0)::K/\Z=iV b n Y p m (.slice none 0 0) 0 [] []++t) (av.call (args:=[I n,I Y]) (k7:=[]) (lR:=t) rfl T7 (by simp only[ay.hU,aR,YO,YP]) (he _) YM ?_) ?_⟩
    .rintro v Z⟨b,p,m,rfl,rfl⟩;exact⟨b,p,m,rfl,rfl⟩
    rintro _ _⟨b,p,m,rfl,rfl⟩;exact⟨{z with hE:=b,s8:=p,m8:=m},h.up hu T6 {z with hE:=b,s8:=p,m8:=m} G N9 (λe=>absurd e T6) (λe=>absurd e T6) (λP=>h.M (P.resolve_right T6)) _ rfl⟩
   .cases hc dy;have YQ:ev K 48=some (I n):=h.e (48,I n) T3;refine⟨rfl,av.Vh (C:=λk Z=>∃ee X,k=(49,aw ee 0)::K/\Z=[jP ee X (db.new n)]++t) (av.call (args:=[I n]) (k7:=[]) (lR:=t) rfl T7 (by simp only[ay.hU,aR,YQ]) (he _) YF ?_) ?_⟩
    .rintro v Z⟨ee,X,rfl,rfl⟩;exact⟨ee,X,rfl,rfl⟩
    rintro _ _⟨ee,X,rfl,rfl⟩;exact⟨{z with ee:=ee,dP:=X},h.up hu T6 {z with ee:=ee,dP:=X} G N9 (λe=>absurd e T6) (λe=>absurd e T6) (λP=>h.M (P.resolve_right T6)) _ rfl⟩
   .cases hc dy;refine⟨rfl,av.Vh (C:=λk Z=>∃M,(j9 0 M/\M.s=g5.z)/\k=(50,aw M.b 0)::K/\Z=[mg M]++t) (av.call (args:=[]) (k7:=[]) (lR:=t) rfl T7 rfl (he _) aem ?_) ?_⟩
    .rintro v Z⟨M,pn,rfl,rfl⟩;exact⟨M,pn,rfl,rfl⟩
    rintro _ _⟨M,pn,rfl,rfl⟩;exact⟨{z with M:=M},h.up hu T6 {z with M:=M} G N9 (λe=>absurd e T6) (λe=>absurd e T6) (λ_=>pn) _ rfl⟩
   .cases hc dy;refine⟨rfl,av.Vh (C:=λk Z=>∃b,k=(51,.map (some b))::K/\Z=bz cg iX b []::t) (av.mkMap cg iX rfl λb=>⟨b,rfl,rfl⟩) ?_⟩;rintro _ _⟨b,rfl,rfl⟩;exact⟨{z with a12:=b},h.up hu T6 {z with a12:=b} G N9 (λe=>absurd e T6) (λe=>absurd e T6) (λP=>h.M (P.resolve_right T6)) _ rfl⟩
   .cases hc dy;refine⟨rfl,av.Vh (C:=λk Z=>∃b,k=(52,.map (some b))::K/\Z=bz cg ln b []::t) (av.mkMap cg ln rfl λb=>⟨b,rfl,rfl⟩) ?_⟩;rintro _ _⟨b,rfl,rfl⟩;exact⟨{z with qY:=b},h.up hu T6 {z with qY:=b} G N9 (λe=>absurd e T6) (λe=>absurd e T6) (λP=>h.M (P.resolve_right T6)) _ rfl⟩
   .cases hc dy;have a:∀j,j=4\/j=5\/j=8\/j=10\/j=11\/j=12\/j=13->l.getD j true=true:=by rintro j (rfl|rfl|rfl|rfl|rfl|rfl|rfl)<;>exact zP (c9 ⟨_,.data⟩ T3 rfl)
    have YR:ev K 39=some (I n):=h.e (39,I n) T3;have YS:ev K 40=some (I Y):=h.e (40,I Y) T3;have YT:ev K 41=some (I U):=h.e (41,I U) T3;have YU:ev K 42=some (aw T 0):=h.e (42,aw T 0) T3;have v4:ev K 43=some (.map (some z.a4)):=h.v 4 T6 (a 4 T6);have v5:ev K 44=some (.map (some z.a5)):=h.v 5 T6 (a 5 T6);have vU:ev K 47=some (aw z.hE 0):=h.v 8 T6 (a 8 T6);have YC:ev K 49=some (aw z.ee 0):=h.v 10 T6 (a 10 T6);have Yu:ev K 50=some (aw z.M.b 0):=h.v 11 T6 (a 11 T6);have YD:ev K 51=some (.map (some z.a12)):=h.v 12 T6 (a 12 T6);have YJ:ev K 52=some (.map (some z.qY)):=h.v 13 T6 (a 13 T6);refine⟨rfl,av.Vh (C:=λk Z=>k=(53,A (z.rep n Y U T))::K/\Z=t) (av.x' (V.UZ ad (o:=[(0,I n),(1,I Y),(2,I U),(3,aw T 0),(4,.map (some z.a4)),(5,.map (some z.a5)),(6,aw z.hE 0),(7,aw z.ee 0),(8,aw z.M.b 0),(9,.map (some z.a12)),(10,.map (some z.qY))]) (d:=z.rep n Y U T) (t:=by simp only[ay.m0,aR,YR,YS,YT,YU,v4,v5,vU,YC,Yu,YD,YJ])) ⟨rfl,rfl⟩) ?_⟩;rintro _ _⟨rfl,rfl⟩;exact⟨z,h.up hu T6 z G (λ_ _ _ _=>⟨rfl,rfl⟩) (λ_=>⟨a 4 T6,a 5 T6,a 8 T6,a 10 T6,a 11 T6,a 12 T6,a 13 T6⟩) (λe=>absurd e T6) (λP=>h.M (P.resolve_right T6)) _ rfl⟩
   .cases hc dy;have Yv:l.getD 14 true=true:=zP (c9 ⟨14,.data⟩ T3 rfl);have YA:ev K 53=some (A (z.rep n Y U T)):=h.v 14 T6 Yv;refine⟨rfl,av.Vh (C:=λk Z=>∃b,k=(54,aw b 0)::K/\Z=cells b 95 (z.rep n Y U T)::t) (O.Wo (λb=>⟨b,rfl,rfl⟩) (t:=YA)) ?_⟩;rintro _ _⟨b,rfl,rfl⟩;exact⟨{z with nn:=b},h.up hu T6 {z with nn:=b} G RZ (λe=>absurd e T6) (λ_=>Yv) (λP=>h.M (P.resolve_right T6)) _ rfl⟩
   .cases hc dy;refine⟨rfl,av.Vh (C:=λk Z=>∃b,k=(12,aw b 0)::K/\Z=cells b 36 [.pointer none]::t) (O.N' ad (λb=>⟨b,rfl,rfl⟩)) ?_⟩;rintro _ _⟨b,rfl,rfl⟩;exact⟨{z with qZ:=b},h.up hu T6 {z with qZ:=b} G RZ (λe=>absurd e T6) (λe=>absurd e T6) (λP=>h.M (P.resolve_right T6)) _ rfl⟩
   .cases hc dy;have Yy:l.getD 15 true=true:=zP (c9 ⟨15,.data⟩ T3 rfl);have YB:l.getD 16 true=true:=zP (c9 ⟨16,.data⟩ T3 rfl);have Yv:=h.q0 Yy;have Yz:=h.zR Yv;have YK:ev K 54=some (aw z.nn 0):=h.v 15 T6 Yy;have Yw:ev K 12=some (aw z.qZ 0):=h.v 16 T6 YB;have cu:=h.p;unfold ky.flat kb at cu;unfold s9 at Yz;simp only[gn,ov,Yz,Yv,Yy,YB,hu,h7,dT,ky.fQ,iq,hM,cn,ly,gJ]at cu;refine⟨rfl,av.abB cu (av.Vh (C:=λk Z=>k=K/\Z=_) (O.K' ad ⟨rfl,rfl⟩ (g:=Yw) (z:=YK)) ?_)⟩;rintro _ _⟨rfl,rfl⟩;refine⟨z,?_⟩;have b7 (j:Nat):=Iu (j:=j) hu;refine⟨SF,λj N=>by rw[b7,h.d0 j N,rR],λ_=>?_,λ_=>by rw[b7,Yv,rR],λ_=>⟨by rw[b7,Yy,rR],by rw[b7,YB,rR]⟩,h.e,λj N P=>?_,λ_=>h.M Yz.2.2.2.2.1,?_⟩
    .unfold s9;simp only[b7,Yz,rR,and_self]
    .refine h.v j N ?_;rw[b7,iL,dl]at P;exact P.resolve_left λe=>by subst e;revert N;decide
    .unfold ky.flat kb;simp only[gn,ov,b7,Yz,Yv,Yy,YB,rR,h7,dT,ky.fQ,Cd,Bool.true_or,cn,ly,gJ];exact he _
  .rintro l K t⟨z,h⟩ c1;have Yk (j:Nat) (N:j<18):l.getD j true=true:=Iw c1 h.aI T7 18 j N N;have cu:=h.p;unfold ky.flat kb at cu;simp only[gn,ov,Yk,Nat.reduceLT,h7,dT,ky.fQ,cn,ly,gJ]at cu;refine Out.eqv (be:=bz cg (c0 (bu:=a6)) z.a4 []::bz cg (c0 (bu:=bL)) z.a5 []::aL (iV z.hE n Y z.s8 z.m8 (.slice none 0 0) 0 [] [])::jP z.ee z.dP (db.new n)::mg z.M::bz cg iX z.a12 []::bz cg ln z.qY []::cells z.nn 95 (z.rep n Y U T)::cells z.qZ 36 [aw z.nn 0]::fE T bQ u d::cells mE 3 [I U]::[]) ((aO.UA cu).trans ?_) (Out.z' Ye z (h.M (Yk 11 T6)) trivial (z:=de.cons (h.v 16 T6 (Yk 16 T6)) rfl (de.cons (h.e (7,aw mE 0) T3) rfl (de.cons (h.e (1,I n) T3) rfl (de.cons (h.e (10,aw T 0) T3) rfl de.nil)))) (g:=[]) (t:=?_))
   .exact aO.cons _ (aO.cons _ (aO.append (an:=iV z.hE n Y z.s8 z.m8 (.slice none 0 0) 0 [] []) (be:=[aL (iV z.hE n Y z.s8 z.m8 (.slice none 0 0) 0 [] [])]) aO.aL.symm (aO.refl _)))
   exact Uc
  .refine⟨rfl,T6,λP=>(by cases P),λP=>(by cases P),λP=>(by cases P),?_,λj N P=>?_,λP=>(by cases P),he _⟩
   .intro q aW;simp only[dk,jH,gx]at aW;rcases aW with rfl|rfl|rfl|rfl|rfl|rfl|rfl|rfl|rfl|rfl<;>rfl
   .simp only[kb,dk,jH,gx]at N;rcases N with rfl|rfl|rfl|rfl|rfl|rfl|rfl|rfl|rfl|rfl<;>cases P
 rintro z YE;refine bl ?_;have YX:=Iz T bQ u d;refine aa 5 ?_;rintro _ _⟨YZ,rfl,rfl⟩;refine aa 4 ?_;refine ah.rg (tU _ u.ee u.R d.p Yg.p.towf) (λy:(lk×aj)×(db×(Int×ab br))=>[cells z.qZ 36 [aw z.nn 0],cells z.nn 95 (z.rep n Y U T),jP z.ee y.1.1 y.2.1,kv (z.lay T y.1) (aC.Vb n Y U bQ u d z.M y.2.1 y.2.2),cells mE 3 [I U]])
  (λpre y=>rQ n Y U pre y.2.1 y.2.2) (λ_ _ _=>False) ((z.dP,.slice none 0 0),(db.new n,(0,[]))) .nil ?_ ?_ ?_
 .rintro pre⟨x,i⟩ Yc⟨⟨dP,ek⟩,⟨Q,st⟩⟩ cp rec b3 hJ c1 eI jk zf Ym;dsimp only at hJ;have Yq:ko n d.p.all:=by have:=Yg.g1;rwa[Yn]at this
  have YG:ko n pre:=λy fy=>Yq y (by rw[b3];exact sT _ fy);obtain⟨ib,YH⟩:=C6 cM b7 Yp YG hJ bQ u d YE.1;have Yx:=(Yq (x,i) (by rw[b3];simp)).1;have Yl:pre.length<=448:=by
   have bg:=aJ.Vp Yg.p.towf;have bY:pre.length<=d.p.all.length:=by rw[b3,b2];omega
   omega
  have YL:Q.ea.length<=448:=ib.run.Wb;have ew:=Ht z.ee dP Q ib.run.g ac x i.Call;have hz (g:Nat):=CQ (z.lay T (dP,ek)) (aC.Vb n Y U bQ u d z.M Q st) pre.length ib ac U Yp (some ⟨g,0,none⟩) 1 [x] T3 (by simpa using pS Yx ac);simp only[ox]at hz;refine bl ?_;unfold ky.rep;by_cases cd:i.Status=3
  .have gm:bd .eql i.Status 3=some true:=by simp[bd,cd]
   refine aq 2 λYt=>?_;refine aq 4 λYI=>?_;refine aa 8 ?_;refine ai.v (V.cmp rfl rfl gm) ?_;refine aa 3 ?_;refine ah.n' ?_ aB.j.j.j.j.d'.j.d'.d';refine ae 3 0 ?_;refine ae 3 4 ?_;refine ae 1 3 ?_;refine af.p' 7 rfl rfl (ew) ?_;rintro j7 s2⟨Y0,⟨⟨rfl,Yh⟩,rfl⟩⟩;refine aa 4 ?_;all_goals exact Out.rd Ym ((_,ek),(_,st)) (.ut hJ cd TX)
  .have gm:bd .eql i.Status 3=some false:=by simp[bd,cd]
   refine aq 2 λYt=>?_;refine aq 4 λYI=>?_;refine aa 8 ?_;refine ai.v (V.cmp rfl rfl gm) ?_;refine aa 3 ?_;refine ah.n' ?_ aB.d'.j.j.j.d'.j.d'.j;refine ae 3 0 ?_;refine ae 2 4 ?_;refine af.bv 3 6 rfl rfl ?_ ?_;refine av.x' (V.C' ad) ?_;refine au ?_;refine af.q' 6 rfl (O.Q' ad ag.c [x] rfl (bI.agg rfl bI.nil) rfl rfl (λYV=>?_));refine au ?_;refine af.p' 7 rfl rfl (hz _) ?_;rintro _ _⟨YY,rfl,rfl⟩;refine aa 4 ?_;rotate_left;refine O.Q' ad ag.c [x] rfl (bI.agg rfl bI.nil) rfl rfl (λYV=>?_);refine au ?_;refine ae 1 3 ?_;refine af.p' 7 rfl rfl (hz _) ?_;rintro _ _⟨YW,rfl,rfl⟩;refine aa 4 ?_;rotate_left;all_goals exact Out.rd Ym ((dP,_),(Q,hP n Y U [] [x] st)) (.iN hJ cd)
 .rintro⟨⟨dP,ek⟩,⟨Q,st⟩⟩ c hJ;dsimp only at hJ;have Yq:ko n d.p.all:=by have:=Yg.g1;rwa[Yn]at this
  obtain⟨ib,YH⟩:=C6 cM b7 Yp Yq hJ bQ u d YE.1;have bg:=aJ.Vp Yg.p.towf;have dJ:=H1 z.nn (z.lay T (dP,ek)) (aC.Vb n Y U bQ u d z.M Q st) d.p.all.length ib ac (by show 0<=_;omega);have Yi (cE:aC) (fI:k3 (aC.Vb n Y U bQ u d z.M Q st) cE):nm n Y U bQ d cE:=⟨u,z.M,Q,st,TX,TX,YE,hJ,fI⟩
  refine bl ?_;refine aa 2 ?_;refine ah.Ur aD.c 176 25 ?_;refine ah.toX ?_;refine ah.Ur b8.c 143 3 ?_;refine ah.Ur fF.c 65 6 ?_;refine ah.iN (a2:=gl c::(cb z.nn (z.lay T (dP,ek)) (aC.Vb n Y U bQ u d z.M Q st)++[cells z.qZ 36 [aw z.nn 0]])) (λw cG=>?_) ?_
  .have bY:=H.eqv ((C7 T bQ u d).symm.append (aO.refl _)) (cG.UP (be:=[kT u.ee u.R d.p,aL (ta T bQ u d)]) Uc);have cd:=H.eqv ((H0 jd).symm.append (aO.refl _)) bY;have gX:=H.eqv ((H0 gQ).symm.append (aO.refl _)) cd;dsimp only[List.cons_append,List.nil_append]at gX;exact gX.gW O2
  generalize aC.Vb n Y U bQ u d z.M Q st=va at*;unfold cb eN at dJ⊢;dsimp only[List.cons_append,List.nil_append]at dJ⊢;refine aa 4 ?_;rintro _ _⟨s,k,Yh,rfl,rfl⟩;refine aa 12 ?_;all_goals exact⟨_,_,⟨_,_,_,Yi _ TX,rfl,rfl⟩,Uc⟩
 exact Sw
end Go.Proofs.YteogojgnkjegmaaGreatDoor
namespace Go.Proofs.YteogojgnkjegmaaGreatDoor
open Go.ay Go.Proofs.Tryz
variable{n:Int}
def hR(c:ab Bool):ab aj:=c.map λb=>B b
def dK(v:aj)(c:ab Bool)(n:Int):ab aj:=[v]++(hR c++[I n])
def dK.len{v:aj}{c:ab Bool}:(dK v c n).length=c.length+2:=by simp[dK,hR]
def fO(b:Nat)(v:aj)(l:ab b8)(c:ab Bool)(n:Int):ab ax:=[cells b 126 (dK v c n),rows b8.c v 143 3 l]
def je(a:Int):Bool:=decide (0<=a)&&decide (a<7)
def zS(a:Int):dr prog 68 [I a] (B (je a)):=by
 refine aE func68 λW=>?_;refine NG (λl=>?_) λl=>?_;refine aa 8 ?_
 .simp[je, *]
 refine aa 8 ?_
 .simp[je, *]
def ahl:ar prog 45 [] [] (λv J=>∃b,v=aw b 0/\J=fO b (.slice none 0 0) [] (List.replicate 49 false) 0):=by refine aE func45 λW=>?_;refine ah.Ur b8.c 143 3 ?_;refine aq 8 λp=>?_;exact aP 5
def C8(g E:Nat)(l:ab b8)(i:Nat)(ao:i<l.length)(K:l.length<=E)(q:E<=9223372036854775807):ar prog 64 [.slice (some ⟨g,0,none⟩) l.length E,I (i:Int),I ((i:Int)+1)] [rows b8.c (.slice (some ⟨g,0,none⟩) l.length E) 143 3 l] (λv J=>v=.slice (some ⟨g,0,none⟩) (l.eraseIdx i).length E/\J=[rows b8.c (.slice (some ⟨g,0,none⟩) (l.eraseIdx i).length E) 143 3 (l.eraseIdx i)]):=by
 have c:l.eraseIdx i=l.take i++l.drop (i+1):=by rw[GY]
 have Y:(l.eraseIdx i).length=i+(l.length-(i+1)):=by rw[B4,aQ ao];omega
 rw[Y,c];refine aE func64 λW=>?_;refine Pl ?_;refine af.q' 6 rfl (O.XR ad (i:=i) (j:=i+1) rfl rfl T4 rfl ac ac b8.len b8.F' ?_);exact P9
def lo(c:ab Bool)(a b:Int):Bool:=c.getD (a.toNat*7+b.toNat) false
def oR(c:ab Bool)(l:ab b8)(x:b8):Bool:=!je x.bh||(!je x.bK||(lo c x.bh x.bK||decide (256<=l.length)))
def mm(c:ab Bool)(s:ab b8×Int)(x:b8):ab b8×Int:=if oR c s.1 x then(s.1,s.2+1)else(s.1++[x],s.2)
def g6(c:ab Bool)(l:ab b8)(Z:ab b8):ab b8×Int:=Z.foldl (mm c) (l,0)
def IB(c l Z x):g6 c l (Z++[x])=mm c (g6 c l Z) x:=by simp[g6]
def v2{a:Int}(h:je a=true):∃k:Nat,a=(k:Int)/\k<7:=by simp only[je,c5,dl]at h;exact⟨a.toNat,ac,ac⟩
def dK.cut{v:aj}{c:ab Bool}{i j:Nat}(q:c.length=49)(ao:i<7)(y:j<7):(dK v c n)[1+i*7+j*1]?=some (B (lo c (i:Int) (j:Int))):=by
 have u:i*7+j<c.length:=ac
 rw[dK,show 1+i*7+j*1=(i*7+j)+1 by omega];simp only[vl,sf];rw[rh TH];simp only[hR,h9,lo,i3];rw[getD_some u];rfl
def dK.lost{v:aj}{c:ab Bool}(q:c.length=49):(dK v c n)[50]?=some (I n):=by simp only[dK,vl,sf];rw[ji TH];simp[hR,q]
theorem dK.Wf{v t:aj}{c:ab Bool}:bA 0 [t] (dK v c n) (dK t c n):=⟨by simp[eg,dK]⟩
theorem dK.Vk{v:aj}{c:ab Bool}{T:Int}(q:c.length=49):bA 50 [I T] (dK v c n) (dK v c T):=⟨by
 have b:([v]++hR c).length=50:=by simp[hR,q]
 have e:∀m:Int,dK v c m=([v]++hR c)++[I m]:=λm=>by simp[dK]
 rw[e,e,eg,o7 ac,k8 ac,wS,si ac,si (by simp[hR,q])];simp⟩
def agT(c:ab Bool)(l:ab b8)(T:l.length<=256)(Z:ab b8):(g6 c l Z).1.length<=256/\0<=(g6 c l Z).2/\(g6 c l Z).2<=Z.length:=by
 suffices h:∀K:ab b8,(g6 c l K.reverse).1.length<=256/\0<=(g6 c l K.reverse).2/\(g6 c l K.reverse).2<=K.length by have:=h Z.reverse;simpa using this
 intro K;induction K with
 |nil=>exact⟨T,by simp[g6],by simp[g6]⟩
 |cons y K d=>
  obtain⟨Y,N,R⟩:=d;rw[List.reverse_cons,IB,mm];cases X:oR c (g6 c l K.reverse).1 y with
  |true=>simp only[h7,dD];exact⟨Y,ac,KT⟩
  |false=>
   simp only[oR,Cv,jZ]at X;simp only[hM,iq,dD,b2,gv];exact⟨ac,N,KT⟩
def dK.ff{v:aj}{c:ab Bool}:Nat.blt 0 (dK v c n).length=true:=Mq
def dK.VR{v:aj}{c:ab Bool}(q:c.length=49):Nat.blt 50 (dK v c n).length=true:=Mq
def ajm(e:ax)(M:aT Go.Addr)(E rF off b:Nat)(v:aj)(l Z:ab b8)(c:ab Bool)(n:Int)(f:Rd e M Z.length rF off 3 (Z.map b8.c))(q:c.length=49)(T:l.length<=256)(a:0<=n/\n<=1000000000000000)(U:Z.length<=1000000):ar prog 63 [aw b 0,.slice M Z.length E] (e::fO b v l c n) (λr J=>∃g,r=I (g6 c l Z).2/\J=e::fO b g (g6 c l Z).1 c (n+(g6 c l Z).2)):=by
 unfold fO;refine aE func63 λW=>?_;refine aa 29 ?_;refine ah.cp [13,12,0] (λy:Nat×aj×ab b8×Int=>y.1<=Z.length/\g6 c l (Z.take y.1)=y.2.2) (λy=>[(14,I (y.1:Int)),(5,I y.2.2.2)]) (λy=>[cells b 126 (dK y.2.1 c n),rows b8.c y.2.1 143 3 y.2.2.1])
  (λy=>Z.length-y.1) (0,v,l,0) ⟨cO _,rfl⟩ ?_
 rintro⟨i,g,G,m⟩⟨ao,Q⟩ K k;dsimp only at ao Q;refine bl ?_;obtain⟨C,D,L⟩:=agT c l T (Z.take i);rw[Q]at C D L;dsimp only at C D L;have j:m<=i:=by rw[fp]at L;omega
 by_cases u:i<Z.length
 .obtain⟨x,U⟩:=cl u;have s:=lw U;have F:g6 c l (Z.take (i+1))=mm c (G,m) x:=by rw[s,IB,Q]
  have Yi:oR c G x=true->g6 c l (Z.take (i+1))=(G,m+1):=λh=>by rw[F,mm,aQ h]
  have P:=zS x.bh;have d:=zS x.bK;cases Y:je x.bh with
  |false=>
   rw[Y]at P;have z:=Yi (by simp[oR,Y]);refine aq 15 λo=>?_;refine aa 5 ?_;refine ah.n' ?_ aB.d'.d'.d'.d';refine ae 30 0 ?_;refine aa 18 ?_;rotate_left;exact MH
  |true=>
   rw[Y]at P;cases N:je x.bK with
   |false=>
    rw[N]at d;have z:=Yi (by simp[oR,Y,N]);refine aq 15 λo=>?_;refine aa 5 ?_;refine ah.n' ?_ aB.d'.d'.d'.d';refine ae 30 0 ?_;refine aa 18 ?_;rotate_left;exact MH
   |true=>
    rw[N]at d;obtain⟨p,Yf,Yg⟩:=v2 Y;obtain⟨w,Yc,Yh⟩:=v2 N;have Ye:=λv n=>dK.cut (v:=v) (n:=n) q Yg Yh;rw[<-Yf,<-Yc]at Ye;cases R:lo c x.bh x.bK with
    |true=>
     rw[R]at Ye;have z:=Yi (by simp[oR,Y,N,R]);refine QF λo=>?_;refine ae 9 21 ?_;refine aa 18 ?_;rotate_left;exact MH
    |false=>
     rw[R]at Ye;by_cases X:256<=G.length
     .have z:=Yi (by simp[oR,Y,N,R,X]);have Yj:bd .geq (G.length:Int) 256=some true:=by simp[bd];omega
      refine QU λo=>?_;refine aa 18 ?_;rotate_left;exact MH
     .have Yj:bd .geq (G.length:Int) 256=some false:=by simp[bd];omega
      have z:g6 c l (Z.take (i+1))=(G++[x],m):=by rw[F,mm,aM (by simp[oR,Y,N,R];omega)]
      refine QU λo=>?_;refine aa 5 ?_;refine ah.Uv [10] ?_ aB.j.j.d'.d' aB.j.j.j.d';refine Rg ?_;refine df 6 λYl=>?_;refine af.q' 7 rfl (O.U' ad rfl rfl T8 (cq.one ad T1 b8.F') (λYm Yk=>?_));refine au ?_;refine ae 2 8 ?_;refine af.l 10 rfl (O.K' ad ?_ (j:=dK.ff) (i:=dK.Wf));refine aa 8 ?_;rotate_left;exact Out.z' k (i+1,_,G++[x],m) ⟨Uk,z⟩ TY
 .obtain rfl:i=Z.length:=by omega
  rw[ir]at Q;clear k;rw[Q];refine aa 17 ?_;refine ai.v (V.C' ad (z:=dK.lost q)) ?_;refine aa 4 ?_;refine ai.o (O.K' ad ?_ (j:=dK.VR q) (i:=dK.Vk q));exact aP 10
def aiI(b:Nat)(v:aj)(l:ab b8)(c:ab Bool)(n:Int):ar prog 35 [aw b 0] (fO b v l c n) (λr J=>r=I (l.length:Int)/\J=fO b v l c n):=by unfold fO;refine aE func35 λW=>?_;exact aP 27
def iH(l:ab b8)(i:Int):aT b8:=if 0<=i then l[i.toNat]? else none
def v6{l:ab b8}{i:Int}{x:b8}(h:iH l i=some x):∃k:Nat,i=(k:Int)/\l[k]?=some x/\k<l.length:=by
 unfold iH at h;split at h
 .exact⟨i.toNat,ac,h,(cT.1 h).1⟩
 .cases h
def xY{l:ab b8}{i:Int}(h:iH l i=none):i<0\/(l.length:Int)<=i:=by
 unfold iH at h;split at h
 .have:=List.getElem?_eq_none_iff.1 h;right;omega
 .left;omega
def uu(x:b8):Bool:=je x.bh&&je x.bK
def acE(b:Nat)(v:aj)(l:ab b8)(c:ab Bool)(n i:Int)(q:c.length=49)(a:0<=n/\n<=1000000000000000):ar prog 38 [aw b 0,I i] (fO b v l c n) (λr J=>∃t,r=B (iH l i).isSome/\J=(match iH l i with|some _=>fO b t (l.eraseIdx i.toNat) c (n+1)|none=>fO b t l c n)):=by
 cases h:iH l i with
 |none=>
  have z:=xY h;unfold fO;refine aE func38 λW=>?_;refine Q8 (λo=>?_) λo=>?_;exact aP 19;exact aP 19
 |some x=>
  obtain⟨k,rfl,u,y⟩:=v6 h;unfold fO;refine aE func38 λW=>?_;refine ah.fact (hW (f:=b8.c) (v:=v) (l:=l) (E:=143) (aI:=3) T1) λL=>?_;rcases L with⟨_,rfl⟩|⟨g,Q,rfl,M,Z⟩
  .simp at y
  simp only[Go.maxLen]at Z;have N:=C8 g Q l k y M Z;refine Q8 (λo=>?_) λo=>?_;(exfalso;omega);refine aa 10 ?_;refine ah.cs (λY=>?_) (λY=>?_);(exfalso;omega);refine aa 12 ?_;refine ai.p' rfl (N) ?_;refine aa 3 ?_;refine ai.o (O.K' ad ?_ (j:=dK.ff) (i:=dK.Wf));refine aa 7 ?_;refine ai.v (V.C' ad (z:=dK.lost q)) ?_;refine aa 3 ?_;refine ai.o (O.K' ad ?_ (j:=dK.VR q) (i:=dK.Vk q));exact aP 9
def ajp(b:Nat)(v:aj)(l:ab b8)(c:ab Bool)(n i:Int)(q:c.length=49)(a:0<=n/\n<=1000000000000000)(w:∀x∈l,uu x=true):ar prog 65 [aw b 0,I i] (fO b v l c n) (λr J=>∃t,(match iH l i with
   |some x=>if lo c x.bh x.bK then r=.tuple #[A b8.z.c,B false]/\J=fO b t (l.eraseIdx i.toNat) c (n+1)else r=.tuple #[A x.c,B true]/\J=fO b t (l.eraseIdx i.toNat) c n
   |none=>r=.tuple #[A b8.z.c,B false]/\J=fO b t l c n)):=by
 cases h:iH l i with
 |none=>
  have j:=xY h
  unfold fO
  refine aE func65 λW=>?_
  refine aq 2 λZ=>?_
  refine aa 13 ?_
  refine ai.aY (λL=>?_) (λL=>?_)
  exact aP 21
  exact aP 21
 |some x=>
  obtain⟨k,rfl,u,y⟩:=v6 h
  have U:=w x (jX u)
  simp only[uu,c5]at U
  obtain⟨p,s,Y⟩:=v2 U.1
  obtain⟨D,m,K⟩:=v2 U.2
  have G:=λv n=>dK.cut (v:=v) (n:=n) q Y K
  rw[<-s,<-m]at G
  unfold fO
  dsimp only
  cases R:lo c x.bh x.bK with
  |true=>
   rw[R]at G
   simp only[h7]
   refine aE func65 λW=>?_
   refine ah.fact (hW (f:=b8.c) (v:=v) (l:=l) (E:=143) (aI:=3) T1) λP=>?_
   rcases P with⟨_,rfl⟩|⟨g,Q,rfl,C,M⟩
   .simp at y
   simp only[Go.maxLen]at M
   have N:=C8 g Q l k y C M
   refine aq 2 λZ=>?_
   refine aa 34 ?_
   refine ai.v (V.B' ad rfl rfl) ?_
   refine ai.v (V.H' ad rfl T1 (λ_=>rfl) TX) ?_
   refine aq 0 λd=>?_
   refine aa 17 ?_
   refine ai.o (O.K' ad ?_ (j:=dK.ff) (i:=dK.Wf))
   refine aa 4 ?_
   refine ah.n' ?_ aB.d'.j.d'.d'
   refine ae 7 0 ?_
   refine af.i' 7 rfl (V.Us ad rfl rfl s) ?_
   refine af.i' 8 rfl (V.Us ad rfl rfl m) ?_
   refine af.i' 9 rfl (V.C' ad (z:=G _ _)) ?_
   refine aa 8 ?_
   refine ai.v (V.C' ad (z:=dK.lost q)) ?_
   refine aa 3 ?_
   refine ai.o (O.K' ad ?_ (j:=dK.VR q) (i:=dK.Vk q))
   exact aP 12
  |false=>
   rw[R]at G
   simp only[hM,iq]
   refine aE func65 λW=>?_
   refine ah.fact (hW (f:=b8.c) (v:=v) (l:=l) (E:=143) (aI:=3) T1) λP=>?_
   rcases P with⟨_,rfl⟩|⟨g,Q,rfl,C,M⟩
   .simp at y
   simp only[Go.maxLen]at M
   have N:=C8 g Q l k y C M
   refine aq 2 λZ=>?_
   refine aa 34 ?_
   refine ai.v (V.B' ad rfl rfl) ?_
   refine ai.v (V.H' ad rfl T1 (λ_=>rfl) TX) ?_
   refine aq 0 λd=>?_
   refine aa 17 ?_
   refine ai.o (O.K' ad ?_ (j:=dK.ff) (i:=dK.Wf))
   refine aa 4 ?_
   refine ah.n' ?_ aB.d'.j.d'.d'
   refine ae 7 0 ?_
   refine af.i' 7 rfl (V.Us ad rfl rfl s) ?_
   refine af.i' 8 rfl (V.Us ad rfl rfl m) ?_
   refine af.i' 9 rfl (V.C' ad (z:=G _ _)) ?_
   exact aP 14
def p6(l:ab b8)(i:Int):Bool:=(iH l i).isSome&&decide (l.length<256)
def np(l:ab b8)(i:Int):ab b8:=match iH l i with|some x=>if l.length<256 then l++[x]else l|none=>l
def ajf(b:Nat)(v:aj)(l:ab b8)(c:ab Bool)(n i:Int)(T:l.length<=256):ar prog 49 [aw b 0,I i] (fO b v l c n) (λr J=>∃t,r=B (p6 l i)/\J=fO b t (np l i) c n):=by
 cases h:iH l i with
 |none=>
  have z:=xY h;have m:p6 l i=false:=by simp[p6,h]
  have Y:np l i=l:=by simp[np,h]
  rw[m,Y];unfold fO;refine aE func49 λW=>?_;refine Q8 (λo=>?_) λo=>?_;exact aP 27;exact aP 28
 |some x=>
  obtain⟨k,rfl,u,y⟩:=v6 h;by_cases Z:l.length<256
  .have m:p6 l (k:Int)=true:=by simp[p6,h,Z]
   have Y:np l (k:Int)=l++[x]:=by simp[np,h,Z]
   rw[m,Y];unfold fO;refine aE func49 λW=>?_;refine ah.fact (hW (f:=b8.c) (v:=v) (l:=l) (E:=143) (aI:=3) T1) λL=>?_;rcases L with⟨_,rfl⟩|⟨g,Q,rfl,M,N⟩
   .simp at y
   refine aa 39 ?_;refine ah.Uv [16] ?_ aB.j.d' aB.j.j;refine ae 4 0 ?_;refine ae 3 5 ?_;refine ae 1 9 ?_;refine NI ?_;refine af.i' 10 rfl (V.B' ad rfl rfl) ?_;refine af.q' 11 rfl (av.x' (V.H' ad rfl T1 (λ_=>rfl) TX) ?_);refine au ?_;refine df 12 λU=>?_;refine af.q' 13 rfl (O.U' ad rfl rfl T8 (cq.one ad T1 b8.F') (λJ N=>?_));refine au ?_;refine ae 2 14 ?_;refine af.l 16 rfl (O.K' ad ?_ (j:=dK.ff) (i:=dK.Wf));exact aP 10
  .have m:p6 l (k:Int)=false:=by simp[p6,Z]
   have Y:np l (k:Int)=l:=by simp[np,h,Z]
   rw[m,Y];unfold fO;refine aE func49 λW=>?_;exact aP 44
def p7(c:ab Bool)(a b:Int):ab Bool:=if je a&&je b then(c.set (a.toNat*7+b.toNat) true).set (b.toNat*7+a.toNat) true else c
def adr{v:aj}{c:ab Bool}{k:Nat}{x:Bool}(u:k<c.length):eg (1+k) [B x] (dK v c n)=dK v (c.set k x) n:=by
 have e:∀c:ab Bool,dK v c n=[v]++(hR c++[I n]):=λc=>rfl;rw[e,e,eg];have Y:([v]++(hR c++[I n])).take (1+k)=[v]++(hR c).take k:=by rw[sj,o7 TH];rw[k8 T3];simp
 have N:([v]++(hR c++[I n])).drop (1+k+[B x].length)=(hR c).drop (k+1)++[I n]:=by rw[show 1+k+[B x].length=(k+1)+1 by simp;omega];simp only[vl,Bd];rw[w7 TH]
 rw[Y,N];simp only[hR,List.map_set];rw[FU,aQ Q3];simp
theorem dK.ZF{v:aj}{c:ab Bool}{i j:Nat}{x:Bool}(q:c.length=49)(ao:i<7)(y:j<7):bA (1+i*7+j*1) [B x] (dK v c n) (dK v (c.set (i*7+j) x) n):=⟨by rw[show 1+i*7+j*1=1+(i*7+j) by omega];exact adr ac⟩
def dK.ZG{v:aj}{c:ab Bool}{i j:Nat}(q:c.length=49)(ao:i<7)(y:j<7):Nat.blt (1+i*7+j*1) (dK v c n).length=true:=Mq
def aeJ(b:Nat)(v:aj)(l:ab b8)(c:ab Bool)(n x y:Int)(q:c.length=49):ar prog 41 [aw b 0,I x,I y] (fO b v l c n) (λr J=>r=.tuple #[]/\J=fO b v l (p7 c x y) n):=by
 have P:=zS x;have f:=zS y;unfold fO;cases Y:je x with
 |false=>
  rw[Y]at P;have e:p7 c x y=c:=by simp[p7,Y]
  rw[e];refine aE func41 λW=>?_;exact aP 17
 |true=>
  rw[Y]at P;cases N:je y with
  |false=>
   rw[N]at f;have e:p7 c x y=c:=by simp[p7,N]
   rw[e];refine aE func41 λW=>?_;exact aP 17
  |true=>
   rw[N]at f;obtain⟨j,rfl,Q⟩:=v2 Y;obtain⟨u,rfl,D⟩:=v2 N;have e:p7 c j u=(c.set (j*7+u) true).set (u*7+j) true:=by simp[p7,Y,N]
   rw[e];have s:(c.set (j*7+u) true).length=49:=by simpa using q
   refine aE func41 λW=>?_;refine aa 15 ?_;refine ah.n' ?_ aB.d'.j;refine ae 8 0 ?_;refine af.i' 8 rfl (V.Us ad (k:=j) rfl rfl rfl) ?_;refine af.i' 9 rfl (V.Us ad (k:=u) rfl rfl rfl) ?_;refine ae 2 11 ?_;refine af.i' 13 rfl (V.Us ad (k:=u) rfl rfl rfl) ?_;refine af.q' 10 rfl (O.K' ad ?_ (j:=dK.ZG q Q D) (i:=dK.ZF q Q D));refine au ?_;refine af.i' 14 rfl (V.Us ad (k:=j) rfl rfl rfl) ?_;refine af.q' 15 rfl (O.K' ad ?_ (j:=dK.ZG s D Q) (i:=dK.ZF s D Q));exact aP 3
def p8(i:Nat)(c:ab Bool):ab Bool:=List.replicate (i*7) false++c.drop (i*7)
def aip{i:Nat}{c:ab Bool}(q:c.length=49)(ao:i<=7):(p8 i c).length=49:=by simp[p8];omega
def aja{c:ab Bool}(q:c.length=49):p8 7 c=List.replicate 49 false:=by simp[p8,si,q]
def ahg{v:aj}{c:ab Bool}{i:Nat}(q:c.length=49)(ao:i<7):eg (1+i*7) (List.replicate 7 (B false)) (dK v (p8 i c) n)=dK v (p8 (i+1) c) n:=by
 have e:∀c:ab Bool,dK v c n=[v]++(hR c++[I n]):=λc=>rfl;have b:hR (p8 i c)=List.replicate (i*7) (B false)++hR (c.drop (i*7)):=by simp[hR,p8]
 have Y:hR (p8 (i+1) c)=List.replicate (i*7) (B false)++List.replicate 7 (B false)++hR (c.drop (i*7+7)):=by rw[List.replicate_append_replicate];simp[hR,p8,fr]
 rw[e,e,eg,b,Y];have Y:([v]++(List.replicate (i*7) (B false)++hR (c.drop (i*7))++[I n])).take (1+i*7)=[v]++List.replicate (i*7) (B false):=by rw[Nat.add_comm 1];simp only[vl,vf,cn];rw[o7 T3,k8 T3]
 have N:([v]++(List.replicate (i*7) (B false)++hR (c.drop (i*7))++[I n])).drop (1+i*7+(List.replicate 7 (B false)).length)=hR (c.drop (i*7+7))++[I n]:=by rw[show 1+i*7+(List.replicate 7 (B false)).length=(i*7+7)+1 by simp;omega];simp only[vl,Bd,cn];rw[wS,si T3];simp only[List.length_replicate,gJ,RH];rw[w7 TH];simp[hR,rb]
 rw[Y,N];simp
def ai5(b:Nat)(v:aj)(l:ab b8)(c:ab Bool)(n:Int)(q:c.length=49):ar prog 50 [aw b 0] (fO b v l c n) (λr J=>r=.tuple #[]/\J=fO b v l (List.replicate 49 false) n):=by
 unfold fO;refine aE func50 λW=>?_;refine aa 13 ?_;refine ah.cp [0] (λi:Nat=>i<=7) (λi=>[(5,I (i:Int))]) (λi=>[cells b 126 (dK v (p8 i c) n)]) (λi=>7-i) 0 (cO _) ?_;intro i ao K m;refine bl ?_;by_cases y:i<7
 .refine aa 22 ?_;refine ai.v (V.Us ad (k:=i) rfl rfl rfl) ?_;refine ai.v (V.XV ad rfl) ?_;refine ai.o (O.aaP ad rfl T4 ac (by rw[dK.len,aip q ao];omega) (ahg q y) ?_);refine aa 7 ?_;rotate_left;exact Out.z' m (i+1) Uk (by show 7-(i+1)<7-i;omega)
 .obtain rfl:i=7:=by omega
  rw[aja q];exact aP 12
end Go.Proofs.YteogojgnkjegmaaGreatDoor
namespace Go.Proofs.YteogojgnkjegmaaGreatDoor
open Go.ay Go.Proofs.Tryz
variable[Go.ay.b4]
inductive cC where
 |up (b:Nat) (L:cW) (s:aC)
 |dn (bQ:Nat) (dH:Go.Value) (l:List eK) (b9:List UInt8) (safe:Int)
def cC.bQ:cC->Nat
 |.up _ _ s=>s.bQ
 |.dn bQ _ _ _ _=>bQ
def cC.ptr:cC->aj
 |.up b _ _=>aw b 0
 |.dn _ _ _ _ _=>.pointer none
def cC.es:cC->ab ax
 |.up b L s=>cb b L s
 |.dn bQ o l b9 c=>fC bQ o (cj l++b9) c
def cC.on:cC->Bool
 |.up _ _ _=>true
 |.dn _ _ _ _ _=>false
def gs(x:cC):ab aj:=[aw x.bQ 0]
def gB(x:cC):ab aj:=[x.ptr]
def C9(x:cC):(gs x).length=1:=rfl
def nS(x:cC):(gB x).length=1:=rfl
structure gi where
 t:fF
 rep:Int
 w:Int
def gi.full(x:gi):vc:=⟨x.t.full,x.rep,x.w⟩
def gi.c(x:gi):ab aj:=x.full.c
def gi.Vt(x:gi):x.c.length=8:=rfl
def gi.F':jj gi.c:=λ_=>rfl
structure hj where
 p9:Nat
 ow:Nat
 mL:Nat
 lF:Nat
 k4:Nat
 dH:aj
 bS:aj
structure bw where
 n:Int
 aH:ab cC
 bo:ab b8
 cut:ab Bool
 lost:Int
 now:Int
 told:ab gi
def fq(Y:ab cC):ax:=aL (Y.flatMap cC.es)
def dw(L:hj)(c:bw):ab aj:=kK.c ⟨c.n,.slice (some ⟨L.p9,0,none⟩) c.aH.length L.ow,.slice (some ⟨L.mL,0,none⟩) c.aH.length L.lF,aw L.k4 0,c.now,L.bS⟩
def dL(L:hj)(c:bw):ax:=aL (fO L.k4 L.dH c.bo c.cut c.lost)
def b5(b:Nat)(L:hj)(c:bw):ab ax:=
 [cells b 85 (dw L c),rows gs (.slice (some ⟨L.p9,0,none⟩) c.aH.length L.ow) 112 1 c.aH,rows gB (.slice (some ⟨L.mL,0,none⟩) c.aH.length L.lF) 36 1 c.aH,dL L c,fq c.aH,rows gi.c L.bS 67 8 c.told,cJ]
def Da{Y:ab cC}{i:Nat}(ao:i<Y.length)(y:cC):aO [fq (Y.set i y)] (y.es++[fq (Y.eraseIdx i)]):=by unfold fq;refine aO.aL.trans ((aO.UA (be:=y.es++(Y.eraseIdx i).flatMap cC.es) ?_).trans ((aO.refl _).append aO.aL.symm));rw[FU,aQ ao,GY,m1,m1,gn,<-cn,<-cn];exact Ix _ oq
def uv{t:Type}{l:ab t}{i:Nat}{x:t}(h:l[i]?=some x):l.set i x=l:=by
 refine oi λj=>?_;rw[l0];split
 .rename_i e;subst e;rw[h];have:=(cT.1 h).1;simp[this]
 .rfl
def Db{Y:ab cC}{i:Nat}{x:cC}(h:Y[i]?=some x):aO [fq Y] (x.es++[fq (Y.eraseIdx i)]):=by have:=Da (cT.1 h).1 x;rwa[uv h]at this
section
variable{P:bU}{f:eR}{args:ab aj}{Y:ab cC}{i:Nat}{x:cC}{U:Type}{Q:aj->U->Prop}{T:U->ab ax}{N:U->cC}
def ar.Wg(h:Y[i]?=some x)(q:ar P f args x.es (λr Z=>∃z,Q r z/\Z=T z++(N z).es)):ar P f args [fq Y] (λr Z=>∃z,Q r z/\Z=T z++[fq (Y.set i (N z))]):=by have ao:=(cT.1 h).1;refine ar.eqv (Db h) (ar.frame (be:=[fq (Y.eraseIdx i)]) q) ?_;rintro r Z⟨_,⟨z,J,rfl⟩,rfl⟩;refine⟨_,⟨z,J,rfl⟩,?_⟩;rw[cn];exact(aO.refl (T z)).append (Da ao (N z)).symm
def ar.W7(h:Y[i]?=some x)(q:ar P f args (x.es++[cJ]) (λr Z=>∃z,Q r z/\Z=(N z).es++[cJ])):ar P f args [fq Y,cJ] (λr Z=>∃z,Q r z/\Z=[fq (Y.set i (N z)),cJ]):=by
 have ao:=(cT.1 h).1;have M (y:cC) (e:ax):aO [fq (Y.set i y),e] ((y.es++[e])++[fq (Y.eraseIdx i)]):=by refine((Da ao y).append (aO.refl [e])).trans (aO.UA ?_);rw[cn,cn];exact C4 _ (hK ..)
 have o:=M x cJ;rw[uv h]at o;refine ar.eqv o (ar.frame (be:=[fq (Y.eraseIdx i)]) q) ?_;rintro r Z⟨_,⟨z,J,rfl⟩,rfl⟩;exact⟨_,⟨z,J,rfl⟩,(M (N z) cJ).symm⟩
end
def g7(c:bw)(J:Int):Int:=if J<0\/c.n<=J then 1 else if((c.aH[J.toNat]?).map cC.on).getD false then 0 else 7
structure ClN(c:bw):Prop where
 n:c.n=3\/c.n=5\/c.n=7
 len:(c.aH.length:Int)=c.n
def ClN.at{c:bw}(h:ClN c){rep:Int}(o:0<=rep)(J:rep<c.n):∃k x,rep=(k:Nat)/\k<c.aH.length/\c.aH[k]?=some x:=by
 have:=h.len;obtain⟨k,rfl⟩:∃k:Nat,rep=(k:Int):=⟨rep.toNat,ac⟩
 have u:k<c.aH.length:=ac
 exact⟨k,c.aH[k],rfl,u,hs u⟩
def zT(b:Nat)(L:hj)(c:bw)(h:ClN c)(M:Int):ar prog 31 [aw b 0,I M] (b5 b L c) (λr Z=>r=I (g7 c M)/\Z=b5 b L c):=by
 unfold g7 b5 dw;by_cases t:M<0\/c.n<=M
 .rw[aQ t];refine aE func31 λW=>?_;refine aa 20 ?_;refine ai.aY (λC=>?_) (λC=>?_);exact aP 20;exact aP 20
 .rw[aM t];obtain⟨k,x,rfl,u,J⟩:=h.at (rep:=M) ac ac;have w:=h.len;rw[i3,J];have Z:(c.aH.length:Nat)<=7:=by have:=h.n;omega
  cases x with
  |up h L s1=>
   rw[show((Option.map cC.on (some (cC.up h L s1))).getD false)=true from rfl,aQ rfl];refine Se λW=>?_;exact aP 15
  |dn h L s1 n c=>
   rw[show((Option.map cC.on (some (cC.dn h L s1 n c))).getD false)=false from rfl,aM T6];refine Se λW=>?_;exact aP 14
end Go.Proofs.YteogojgnkjegmaaGreatDoor
