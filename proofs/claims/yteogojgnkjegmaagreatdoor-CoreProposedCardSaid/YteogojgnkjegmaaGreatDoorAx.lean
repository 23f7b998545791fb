/-
 Part of the proof.
-/
import Derived.Test.YteogojgnkjegmaaGreatDoorAw
set_option linter.all false
set_option maxRecDepth 8000
set_option maxHeartbeats 8000000
namespace Go.Proofs.YteogojgnkjegmaaGreatDoor
open Go.ay Go.Proofs.Tryz
variable[Go.ay.b4]
variable{k:Nat}{n:Int}{C:bR->Prop}{m:aD}{e N:Int}
structure ClP(k:Nat)(c:bw):Prop extends ClN c where
 cut:c.cut.length=49
 bo:c.bo.length<=256
 lost:0<=c.lost/\c.lost<=k
 told:c.told.length<=k
 now:0<=c.now/\c.now<=k
def nT(i:Nat)(w:Int)(t:fF):gi:=⟨t,(i:Int),w⟩
def bw.VL(c:bw)(i h:Nat)(L:cW)(s1:aC):bw:=
 {c with aH:=c.aH.set i (.up h L s1.flush),bo:=(g6 c.cut c.bo s1.out).1,lost:=c.lost+(g6 c.cut c.bo s1.out).2,told:=c.told++s1.told.map (nT i c.now)}
def lp(c:bw)(i:Nat)(g:bw):Prop:=∃h L s1 q,c.aH[i]?=some (.up h L s1)/\g=c.VL i h q s1
def ajB(e:ax)(L:hj)(l:ab b8)(c:ab Bool)(n:Int)(m:aT Go.Addr)(E h off:Nat)(Z:ab b8)(f:Rd e m Z.length h off 3 (Z.map b8.c))(q:c.length=49)(T:l.length<=256)(a:0<=n/\n<=1000000000000000)(U:Z.length<=1000000):ar prog 63 [aw L.k4 0,.slice m Z.length E] [e,aL (fO L.k4 L.dH l c n)] (λr J=>∃t,r=I (g6 c l Z).2/\J=[e,aL (fO L.k4 t (g6 c l Z).1 c (n+(g6 c l Z).2))]):=by refine ar.eqv (aO.cons _ aO.aL) (ajm e m E h off L.k4 L.dH l Z c n f q T a U) ?_;rintro r J⟨t,rfl,rfl⟩;exact⟨_,⟨t,rfl,rfl⟩,aO.cons _ aO.aL.symm⟩
def v7{f:cC->ab aj}{v:aj}{E D:Nat}{l:ab cC}{i:Nat}{x y:cC}(h:l[i]?=some x)(k:f y=f x):rows f v E D (l.set i y)=rows f v E D l:=by
 have K:(l.set i y).map f=l.map f:=by rw[List.map_set,k];exact uv (by rw[h9,h];rfl)
 unfold rows;rw[co,wO,wO,K]
def zU(b:Nat)(L:hj)(c:bw){i:Nat}{x y:cC}(U:c.aH[i]?=some x)(z:y.bQ=x.bQ)(t:y.ptr=x.ptr):b5 b L {c with aH:=c.aH.set i y}=[cells b 85 (dw L c),rows gs (.slice (some ⟨L.p9,0,none⟩) c.aH.length L.ow) 112 1 c.aH,rows gB (.slice (some ⟨L.mL,0,none⟩) c.aH.length L.lF) 36 1 c.aH,dL L c,fq (c.aH.set i y),rows gi.c L.bS 67 8 c.told,cJ]:=by unfold b5 dw dL;dsimp only;rw[v7 (f:=gs) U (by unfold gs;rw[z]),v7 (f:=gB) U (by unfold gB;rw[t]),co]
def zV(b:Nat)(L:hj)(c:bw)(k i x:Nat)(w:cW)(s1:aC)(h:ClP k c)(cc:k<=100000000000)(U:c.aH[i]?=some (.up x w s1))(dy:s1.out.length<=1000000)(cN:s1.told.length<=1000000):ar prog 37 [aw b 0,I (i:Int)] (b5 b L c) (λr J=>∃u cx,(lp c i cx/\u.mL=L.mL/\u.lF=L.lF)/\r=.tuple #[]/\J=b5 b u cx):=by
 have Yc:=h.len;have cM:=h.n;have Yg:=h.lost;have Ye:=h.told;have ao:=(cT.1 U).1;have Y:=ar.Wg (Q:=λr (z:cW×aT Go.Addr×Nat×aT Go.Addr×Nat)=>r=.tuple #[.slice z.2.1 s1.out.length z.2.2.1,.slice z.2.2.2.1 s1.told.length z.2.2.2.2]) (T:=λz=>[rows b8.c (.slice z.2.1 s1.out.length z.2.2.1) 143 3 s1.out,rows fF.c (.slice z.2.2.2.1 s1.told.length z.2.2.2.2) 65 6 s1.told]) (N:=λz=>.up x z.1 s1.flush) U (ar.post (afL x w s1) (by rintro v J⟨u,g,s,F,X,rfl,rfl⟩;exact⟨_,⟨(u,g,s,F,X),rfl,rfl⟩,λ_ _ _ h=>h⟩));have G (q:cW):lp c i (c.VL i x q s1):=⟨x,w,s1,q,U,rfl⟩
 unfold b5 dw dL;dsimp only[List.cons_append,List.nil_append]at Y;refine aE func37 λW=>?_;generalize bn _=D;refine aa 7 ?_;refine ai.v (V.B' ad (k:=i) rfl rfl rfl rfl ac) ?_;refine ai.v (V.UH ad (f:=gB) rfl T1 nS U) ?_;refine au ?_;rintro _ _⟨C,rfl,rfl⟩;refine aa 8 ?_;obtain⟨q,g,s,F,X⟩:=C;dsimp only;refine ah.fact (iD (f:=b8.c) (v:=.slice g s1.out.length s) (l:=s1.out) b8.len T1) λE=>?_;obtain⟨Yk,o,bW,P,p⟩:=E;simp only[sQ]at P;obtain⟨rfl,-,rfl⟩:=P;have Yo:=ajB (rows b8.c (.slice g s1.out.length s) 143 3 s1.out) L c.bo c.cut c.lost g s bW 0 s1.out p h.cut h.bo ac dy;clear Y;refine aa 8 ?_;rintro _ _⟨M,rfl,rfl⟩;refine aa 11 ?_;refine ah.fact (iD (f:=fF.c) (v:=.slice F s1.told.length X) (l:=s1.told) fF.Vt T1) λE=>?_;obtain⟨Yl,Yj,Yi,P,m⟩:=E;simp only[sQ]at P;obtain⟨rfl,-,rfl⟩:=P;refine ah.cp [25,26,0,1] (λz:Nat×aj=>z.1<=s1.told.length) (λz=>[(27,I (z.1:Int))]) (λz=>[cells b 85 (dw {L with bS:=z.2} c),rows gi.c z.2 67 8 (c.told++(s1.told.take z.1).map (nT i c.now))]) (λz=>s1.told.length-z.1) (0,L.bS) (cO _) ?_ (o:=by unfold dw;rw[wR,lU,dT];(repeat(first|exact ak.nil|exact al.here|apply ak.cons|apply al.there)));rintro⟨j,bS⟩ dR K cA;dsimp only at dR;have Yh:(c.told++(s1.told.take j).map (nT i c.now)).length<=200000000000:=by rw[b2,eT,fp];omega
 unfold dw;refine bl ?_;by_cases y:j<s1.told.length
 .obtain⟨t,a⟩:=cl y;have R:=jB (f:=fF.c) a;have Z:bd .lss (j:Int) (s1.told.length:Int)=some true:=by simp[bd];omega
  have dx:c.told++(s1.told.take (j+1)).map (nT i c.now)=(c.told++(s1.told.take j).map (nT i c.now))++[nT i c.now t]:=by rw[oj,a,cn,jo];rfl
  generalize Yf:c.told++(s1.told.take j).map (nT i c.now)=iG at*;refine aa 2 ?_;refine ai.v (V.cmp rfl rfl Z) ?_;refine aa 10 ?_;refine ai.v (V.Vm ad (k:=j) rfl rfl m (z:=ac)) ?_;refine ai.v (V.Ux ad (k:=j) rfl m R) ?_;refine aq 0 λmE=>?_;refine aa 3 ?_;refine ah.Uv [16] ?_ aB.j.j.j.j.j.j.j.j.d'.d' aB.j.j.j.j.j.j.j.j.j.d';refine ae 4 0 ?_;refine ae 5 5 ?_;refine af.t 4 rfl (V.C' ad) ?_;refine af.t 10 rfl (V.C' ad) ?_;refine af.i' 11 rfl (V.UZ ad (d:=(nT i c.now t).c)) ?_;refine af.q' 12 rfl (O.Q' ad gi.c [nT i c.now t] rfl (bI.agg rfl bI.nil) rfl rfl (λYp=>?_));refine au ?_;refine af.q' 13 rfl (O.Vj ad rfl rfl T8 (cq.rows (f:=gi.c) (l:=[nT i c.now t]) ad T1 gi.F') (λd Ym Yn=>?_));refine au ?_;refine ae 2 14 ?_;refine af.l 16 rfl (O.K' ad ?_);refine aa 8 ?_;all_goals exact Out.z' cA (j+1,d) SB (by show s1.told.length-(j+1)<s1.told.length-j;omega) (t:=by unfold dw;rw[dx];(repeat(first|exact ak.nil|exact al.here|apply ak.cons|apply al.there)))
 .obtain rfl:j=s1.told.length:=by omega
  clear cA;have Z:bd .lss (s1.told.length:Int) (s1.told.length:Int)=some false:=Sl
  rw[ir];refine aa 2 ?_;refine ai.v (V.cmp rfl rfl Z) ?_;refine aa 9 ?_;all_goals exact⟨_,_,⟨{L with dH:=M,bS:=bS},_,⟨G q,rfl,rfl⟩,rfl,rfl⟩,(by unfold bw.VL;have e:=zU b {L with dH:=M,bS:=bS} {c with bo:=(g6 c.cut c.bo s1.out).1,lost:=c.lost+(g6 c.cut c.bo s1.out).2,told:=c.told++s1.told.map (nT i c.now)} (y:=.up x q s1.flush) U rfl rfl;unfold b5 dw dL at e;dsimp only at e⊢;rw[e];(repeat(first|exact ak.nil|exact al.here|apply ak.cons|apply al.there)))⟩
def Dc{n:Int}:∀(l:ab eK) (p:aJ aX) (P:p.ok) (x:ag),(∀y∈l,y.1≠x)->(jq p l).at x=p.at x
 |[],p,P,x,_=>rfl
 |y::l,p,P,x,h=>by
  show(jq (p.set y.1 y.2) l).at x=p.at x
  rw[Dc (n:=n) l _ (aJ.Vr P ..) x λz v=>h z (hI _ v),aJ.U5 P,aM];grind
def IC{n:Int}:∀(l:ab eK) (p:aJ aX) (P:p.ok) (f:p.aH=n) (T:ko n l) (a:(l.map (·.1)).Nodup) (y:eK),y∈l->(jq p l).at y.1=some y.2
 |[],p,P,f,T,a,y,h=>Ua
 |z::l,p,P,f,T,a,y,h=>by
  show(jq (p.set z.1 z.2) l).at y.1=some y.2
  rw[e7,la]at a;rcases dk.1 h with rfl|h
  .have G:=(T y (gS ..)).1;rw[<-f]at G;rw[Dc (n:=n) l _ (aJ.Vr P ..) y.1 λz v e=>a.1 (eS.2 ⟨z,v,e⟩),aJ.U5 P,aQ ⟨G,rfl⟩]
  .exact IC l _ (aJ.Vr P ..) (by rw[aJ.Vq];exact f) (λw n=>T w (hI _ n)) a.2 y h
theorem agm{x y:ag}(h:pf x y):x≠y:=λe=>by grind [pf]
def ID{p:aJ aX}(z:p.ok)(G:ko n p.all)(f:(aJ.new n:aJ aX).aH=n)(x:ag):(jq (aJ.new n) p.all).at x=p.at x:=by
 cases h:p.at x with
 |some i=>
  have K:(x,i)∈p.all:=(aJ.Ve z).2 h;refine IC p.all _ (aJ.UL n) f G ?_ (x,i) K;grind [List.Nodup,aJ.WS,agm]
 |none=>
  rw[Dc (n:=n) _ _ (aJ.UL n) x λy F e=>?_,aJ.Vw];grind [aJ.Ve]
def IE(a:n=3\/n=5\/n=7):(aJ.new n:aJ aX).aH=n:=by
 show Min.min (Max.max n 0) 7=n
 omega
structure nU(s:bR)(iG jf:ab eK):Prop where
 ok:ko s.n (iG++jf)
 data:s.data=cj (iG++jf)
 safe:s.safe=((cj iG).length:Int)
 p:∀x,s.p.at x=(jq (aJ.new s.n) (iG++jf)).at x
def agn(s:bR):Prop:=∃Q E,nU s Q E
def nU.add{s:bR}{q E:ab eK}(h:nU s q E)(Q:s.ok){x:ag}{i:aX}(U:bq x s.n=true)(ao:eW i s.n=true):nU (s.add x i) q (E++[(x,i)])\/nU (s.add x i) s.p.all [(x,i)]:=by
 have f:=IE Q.size;unfold bR.add;split
 .refine .inr ⟨?_,?_,rfl,λy=>?_⟩
  .intro y F;rcases fd.1 F with F|F
   .exact Q.g1 y F
   .rw[i2.1 F];exact⟨U,ao⟩
  .show cj s.p.all++fV x i=cj (s.p.all++[(x,i)]);rw[qK];simp[cj]
  .show(s.p.set x i).at y=(jq (aJ.new s.n) (s.p.all++[(x,i)])).at y;have X:=zm (aJ.UL s.n:(aJ.new s.n:aJ aX).ok) s.p.all;rw[BY,aJ.U5 Q.p,aJ.U5 X,ID Q.p Q.g1 f,BZ,f,Q.aH]
 .refine .inl ⟨?_,?_,h.safe,λy=>?_⟩
  .intro y F;rw[<-cn]at F;rcases fd.1 F with F|F
   .exact h.ok y F
   .rw[i2.1 F];exact⟨U,ao⟩
  .show s.data++fV x i=cj (q++(E++[(x,i)]));rw[h.data,<-cn,qK (q++E)];simp[cj]
  .show(s.p.set x i).at y=(jq (aJ.new s.n) (q++(E++[(x,i)]))).at y;have X:=zm (aJ.UL s.n:(aJ.new s.n:aJ aX).ok) (q++E);rw[<-cn,BY,aJ.U5 Q.p,aJ.U5 X,h.p,BZ,f,Q.aH]
def IF:∀(l:ab eK) (k:Nat),k<=(cj l).length->∃X y i j,l=X++i/\(cj l).take k=cj X++j/\((i=[]/\j=[])\/∃y m,i=y::m/\j=(fV y.1 y.2).take j.length/\j.length<(fV y.1 y.2).length)/\y=j
 |[],k,h=>⟨[],[],[],[],rfl,by simp[cj],.inl ⟨rfl,rfl⟩,rfl⟩
 |z::l,k,h=>by
  have e:cj (z::l)=fV z.1 z.2++cj l:=by simp[cj]
  by_cases u:k<(fV z.1 z.2).length
  .refine⟨[],_,z::l,(fV z.1 z.2).take k,rfl,?_,.inr ⟨z,l,rfl,?_,?_⟩,rfl⟩
   .grind [cj]
   .grind
   .grind
  .rw[e,b2]at h;obtain⟨X,y,i,j,Y,N,R,Z⟩:=IF l (k-(fV z.1 z.2).length) ac;refine⟨z::X,y,i,j,by rw[Y];rfl,?_,R,Z⟩;grind [List.take_append,List.take_of_length_le,List.append_assoc,cj]
theorem IG(a:n<=7){y:eK}(h:bq y.1 n=true/\eW y.2 n=true):(l8 y.1 y.2).length<=16384/\0<(l8 y.1 y.2).length:=by grind [zk]
def aiC{s:bR}(Q:s.ok){q E:ab eK}(h:nU s q E)(J:Int)(g:aS):∃X i b9,E=X++i/\(gE b9).2=0/\tS s.data (cj q).length J g=cj (q++X)++b9:=by
 have x:s.n<=7:=by have:=Q.size;omega
 have w:s.data=cj q++cj E:=by rw[h.data,qK]
 obtain⟨N,D⟩:∃N,N=qJ s.data (cj q).length J:=⟨_,rfl⟩
 have P:N<=(cj E).length:=by rw[D];unfold qJ;grind
 unfold tS;rw[<-D];by_cases v:N=0
 .rw[aQ v];refine⟨[],E,[],rfl,rfl,?_⟩;grind
 .rw[aM v];have r:s.data.take ((cj q).length+N)=cj q++(cj E).take N:=by rw[w,Fp]
  obtain⟨X,_,i,j,Y,M,R,-⟩:=IF E N P;have k:(cj X).length+j.length=N:=by have:=dp List.length M;grind
  rw[r,M,<-cn,<-qK];have p:(cj (q++X)).length+j.length=(cj q).length+N:=by rw[qK,b2];omega
  generalize C:(cj (q++X)++j).getD ((cj q).length+N-1) 0^^^g=b;by_cases c:j=[]
  .subst c;simp only[gv,ho]at p k;rw[dT]at C⊢;have K:X≠[]:=λe=>by grind
   obtain⟨l,y,rfl⟩:∃l y,X=l++[y]:=⟨X.dropLast,X.getLast K,(List.dropLast_concat_getLast K).symm⟩
   have F:=h.ok y (by rw[Y];simp);have f:=xy x F.1 F.2;have m:cj (q++(l++[y]))=cj (q++l)++fV y.1 y.2:=by grind [List.append_assoc,qK,cj]
   rw[m]at C p⊢;rw[b2]at p;have u:(cj q).length+N-1=(cj (q++l)).length+((fV y.1 y.2).length-1):=ac
   rw[u]at C⊢;rw[List.set_append_right _ _ ac,RH];by_cases T:(fV y.1 y.2)[(fV y.1 y.2).length-1]?=some b
   .refine⟨l++[y],i,[],Y,rfl,?_⟩;rw[uv T,m,dT]
   .refine⟨l,y::i,(fV y.1 y.2).set ((fV y.1 y.2).length-1) b,by rw[Y];simp,?_,rfl⟩;have U:(fV y.1 y.2).set ((fV y.1 y.2).length-1) b=(fV y.1 y.2).take ((fV y.1 y.2).length-1)++[b]:=by grind [List.set_eq_take_append_cons_drop,Nat.sub_add_cancel,List.drop_length]
    grind [IG,Gm,fV]
  .rcases R with⟨_,R⟩|⟨y,G,rfl,Z,a⟩
   .exact absurd R c
   .have m:0<j.length:=pH.2 c;have F:=h.ok y (by rw[Y];simp);obtain⟨c,m⟩:=IG x F;refine⟨X,y::G,j.set (j.length-1) b,Y,?_,?_⟩
    .have U:j.set (j.length-1) b=(fV y.1 y.2).take (j.length-1)++[b]:=by grind [List.set_eq_take_append_cons_drop,Nat.sub_add_cancel,List.drop_length,List.take]
     grind [Gm,fV]
    .grind
def acf(n X:Int)(x:b8):Prop:=∃m,c3 m n=true/\m.bK≠X/\x=⟨X,m.bK,gM m⟩
def nq(s:aC):Prop:=∀x∈s.out,acf s.n s.self x
def g8(s:aC)(X:ab aD)(d:aC):Prop:=d.inbox=s.inbox++fa s.self X/\d.out=s.out++hD s.n s.self X/\d.n=s.n/\d.self=s.self
def aeO(X:Int)(a b:ab aD):fa X (a++b)=fa X a++fa X b:=by unfold fa;rw[nH]
def RP(n X:Int)(a b:ab aD):hD n X (a++b)=hD n X a++hD n X b:=by unfold hD;rw[nH,jo]
theorem g8.nil{s cE:aC}(Y:cE.inbox=s.inbox)(N:cE.out=s.out)(R:cE.n=s.n)(Z:cE.self=s.self):g8 s [] cE:=⟨by rw[Y];simp[fa],by rw[N];simp[hD],R,Z⟩
def g8.send(s:aC)(X:ab aD):g8 s X (s.send X):=⟨rfl,rfl,rfl,rfl⟩
def g8.trans{s t u:aC}{a b:ab aD}(h:g8 s a t)(k:g8 t b u):g8 s (a++b) u:=
 ⟨by rw[k.1,h.1,h.2.2.2,aeO,cn],by rw[k.2.1,h.2.1,h.2.2.1,h.2.2.2,RP,cn],k.2.2.1.trans h.2.2.1,k.2.2.2.trans h.2.2.2⟩
def nq.Vu{s d:aC}{X:ab aD}(h:nq s)(Q:g8 s X d):nq d:=by
 intro x U;rw[Q.2.1]at U;rw[Q.2.2.1,Q.2.2.2];rcases fd.1 U with U|U
 .exact h x U
 .unfold hD at U;obtain⟨m,K,rfl⟩:=eS.1 U;have:=(oz.1 K).2;simp only[c5,ke,jZ]at this;exact⟨m,this.2,this.1,rfl⟩
def IH(s:aC)(m:aD)(d:eH):g8 s (if(c4 s.aA s.self m).2.2=true then[(c4 s.aA s.self m).2.1]else[]) (s.Uq m d):=by
 unfold aC.Uq;split
 .exact⟨rfl,rfl,rfl,rfl⟩
 .grind [g8.nil]
def aC.Vy(s:aC)(m:aD):ab aD:=match a8 s.bp m.Item with
 |none=>[]
 |some e=>if(e.v.y' m).2=true then(e.v.y' m).1.E' else[]
variable{d:aC}
def aC.Vz(s:aC)(m:aD):ab aD:=match a8 s.leads m.Item with
 |none=>[]
 |some e=>if(e.v.y' m).2=true then(e.v.y' m).1.E' else[]
def Dd(s:aC)(m:aD)(a:Nat):g8 s (s.Vy m) (s.Up m a):=by
 cases G:a8 s.bp m.Item with
 |none=>
  grind [aC.Up,aC.Vy,g8.nil]
 |some e=>
  by_cases j:(e.v.y' m).2=true
  .have Y:s.Vy m=(e.v.y' m).1.E':=by grind [aC.Vy]
   rw[Y];unfold aC.Up;rw[G];dsimp only;rw[aQ j];split<;>exact⟨rfl,rfl,rfl,rfl⟩
  .grind [aC.Vy,aC.Up,g8.nil]
def II(s:aC)(m:aD):g8 s (s.Vz m) (s.Uw m):=by
 cases G:a8 s.leads m.Item with
 |none=>
  grind [aC.Uw,aC.Vz,g8.nil]
 |some e=>
  by_cases j:(e.v.y' m).2=true
  .have Y:s.Vz m=(e.v.y' m).1.E':=by grind [aC.Vz]
   rw[Y];unfold aC.Uw;rw[G];dsimp only;rw[aQ j];split<;>exact⟨rfl,rfl,rfl,rfl⟩
  .grind [aC.Vz,aC.Uw,g8.nil]
def fG.Vu{s:aC}(h:fG s m d):∃X,g8 s X d:=by
 rcases h with⟨_,o,_,_,h⟩|⟨_,a,rfl⟩
 .refine⟨_++[],(IH s m o).trans ?_⟩;rcases h with⟨_,h⟩|⟨_,h⟩
  .obtain⟨W,_,rfl⟩:=h.go;grind [g8.nil]
  .grind [iF,g8.nil]
 .refine⟨[]++(_++_),(g8.nil (cE:={s with high:=s.Uz m}) rfl rfl rfl rfl).trans ((Dd _ m a).trans (II _ m))⟩
def fG.aA{s:aC}(h:fG s m d):d.aA=(if mj m then(c4 s.aA s.self m).1 else s.aA)/\d.now=s.now:=by
 rcases h with⟨u,o,_,_,h⟩|⟨u,h⟩
 .rw[aQ u];have a:(s.Uq m o).now=s.now:=by unfold aC.Uq;split<;>rfl
  rcases h with⟨_,h⟩|⟨_,h⟩
  .obtain⟨W,_,rfl⟩:=h.go;grind [vV]
  .grind [iF,vV]
 .rw[aM u];have Y:=h.core.b;have N:=h.core.a;grind
def xZ(s d:bR):Prop:=d=s\/∃x i,bq x s.n=true/\eW i s.n=true/\d=s.add x i
def zW(s:bR){x:ag}{G N:aX}(U:bq x s.n=true)(ao:eW N s.n=true):xZ s (mh s x G N):=by
 unfold mh;split
 .exact .inl rfl
 .exact .inr ⟨x,N,U,ao,rfl⟩
theorem IJ{s:bR}(X:Int)(h:s.ok):xZ s (c4 s X m).1:=by
 unfold c4;split
 .rename_i G;have K:=hy.1 G.1;have ao:=vQ h m.Item;unfold lM;dsimp only;split
  .exact .inl rfl
  split
  .rename_i u;have q:=p4 K LU;unfold jR;dsimp only;split
   .exact zW s K.item (vR ao K.bj (.inl rfl) (zG h q))
   .exact .inl rfl
  split
  .rename_i u;have q:=p4 K LU;unfold jS;dsimp only;split
   .exact zW s K.item (vR ao K.bj (.inr rfl) q)
   .exact .inl rfl
  split
  .unfold mQ;dsimp only;split
   .exact zW s K.item (zF ao K.bj)
   .exact .inl rfl
  split
  .rename_i u;have q:=p4 K LU;exact zW s K.item (xr ao q)
  .exact .inl rfl
 .exact .inl rfl
def fG.add{s:aC}(T:s.aA.ok)(h:fG s m d):xZ s.aA d.aA:=by
 rw[h.aA.1];split
 .grind [IJ]
 .exact .inl rfl
def k5(C:bR->Prop)(s:bR):Prop:=∃Q E,nU s Q E/\∀v i,E=v++i->∃t,C t/\t.n=s.n/\∀x,t.p.at x=(jq (aJ.new s.n) (Q++v)).at x
def k5.add{s d:bR}(h:k5 C s)(Q:s.ok)(K:xZ s d)(Y:C s)(N:C d):k5 C d:=by
 rcases K with rfl|⟨x,i,U,ao,rfl⟩
 .exact h
 .obtain⟨D,E,P,q⟩:=h;have c:(s.add x i).n=s.n:=bR.V9 ..;have W {l a b:ab eK} {y:eK} (e:l++[y]=a++b):(b=[]/\a=l++[y])\/∃J,b=J++[y]/\l=a++J:=by
   rcases Hp b with rfl|⟨J,z,rfl⟩
   .grind
   .grind [List.append_assoc,List.append_inj',List.cons.inj]
  rcases P.add Q U ao with aW|aW
  .refine⟨_,_,aW,λv k e=>?_⟩;rcases W e with⟨_,rfl⟩|⟨J,_,Z⟩
   .exact⟨_,N,rfl,aW.p⟩
   .obtain⟨t,M,m,F⟩:=q v J Z;grind
  .refine⟨_,_,aW,λv k e=>?_⟩;rcases W (l:=[]) e with⟨_,rfl⟩|⟨J,_,Z⟩
   .exact⟨_,N,rfl,aW.p⟩
   .have j:v=[]:=(List.append_eq_nil_iff.1 Z.symm).1;subst j;refine⟨s,Y,c.symm,λy=>?_⟩;rw[dT,c];exact(ID Q.p Q.g1 (IE Q.size) y).symm
def k5.of{s:bR}{Q:ab eK}(h:nU s Q [])(q:C s):k5 C s:=
 ⟨Q,[],h,λv i e=>⟨s,q,rfl,by rw[(List.append_eq_nil_iff.1 e.symm).1];exact h.p⟩⟩
structure UpF(k:Nat)(n now:Int)(i:Nat)(s:aC):Prop where
 y:eO k s
 v:dV s
 bt:s.inbox=[]
 bW:nq s
 n:s.n=n
 self:s.self=(i:Int)
 now:s.now<=now
 pl:agn s.aA
 ol:s.out.length<=900000
 fJ:s.told.length<=900000
structure oS(k:Nat)(n now:Int)(i:Nat)(s:aC):Prop extends UpF k n now i s where
 on:s.out=[]
 pL:s.told=[]
 nV:∃iG,nU s.aA iG []
def UpF.flush{i:Nat}{s:aC}(h:UpF k n N i s):oS k n N i s.flush:=by
 obtain⟨Q,E,z⟩:=h.pl;have aW:nU s.flush.aA (Q++E) []:=by
  refine⟨by rw[dT];exact z.ok,by rw[dT];exact z.data,?_,by rw[dT];exact z.p⟩;show(s.aA.data.length:Int)=_
  rw[z.data]
 have F:=h.y;refine⟨⟨⟨F.toRepI.of rfl,⟨F.cw,F.rs,F.bt⟩,⟨F.aA.size,F.aA.p,F.aA.aH,F.aA.g1,F.aA.oB⟩,F.en,F.sp,F.da⟩,⟨h.v.en,h.v.e4,h.v.bF,h.v.i8⟩,h.bt,λx U=>(by cases U),h.n,h.self,h.now,⟨_,_,aW⟩,cO _,cO _⟩,rfl,rfl,_,aW⟩
def GoR.abC{s d:db}{Z:ab ag}(o:hC n s)(h:GoR n s Z d):Z.length<=448:=o.V2 h.jN λx U=>(h.is x U).1
def k3.told{s:aC}(h:RepI k s)(F:k3 s d):d.told.length<=s.told.length+448:=by
 obtain⟨Z,o,W,P,X,G,K,j,z,rfl⟩:=F.go;have Y:=dp List.length j;have N:=sP s.UV Z;have R:=GoR.abC h.run G.toGoR;rw[eT]at Y;show(s.told++P).length<=_
 rw[b2];omega
def jt.all{s s1:aC}(h:eO k s)(W:dV s)(p:nq s)(z:k5 C s.aA)(J:C s.aA)(Q:jt s s1)(q:∀t,jt s t->jt t s1->C t.aA):∃i,eO (k+3*i) s1/\s1.O'+i<=s.O'/\dV s1/\nq s1/\k5 C s1.aA/\s1.n=s.n/\s1.self=s.self/\s1.now=s.now/\s1.told=s.told/\s1.out.length<=s.out.length+14*i:=by
 induction Q with
 |refl=>exact⟨0,h,cD _,W,p,z,rfl,rfl,rfl,rfl,cD _⟩
 |@step a b m l Q ao K d=>
  obtain⟨i,L,k,p,u,F,c,U,P,M,N⟩:=d λt Y N=>q t Y (.step N ao K);obtain⟨D,G,k⟩:=L.rest ao;have E:=K.O' D.z.toRepW;have w:dV {a with inbox:=l}:=⟨p.en,p.e4,p.bF,λT R=>p.i8 T (by rw[ao];exact hI _ R)⟩
  obtain⟨X,R⟩:=K.Vu;have E:C a.aA:=q a Q (.step (.refl a) ao K);have h:C b.aA:=q b (.step Q ao K) (.refl b);have k:=K.out D;have n:=K.aA.2;have T:xZ a.aA b.aA:=fG.add (s:={a with inbox:=l}) L.aA K;dsimp only at k n;refine⟨i+1,K.cQ D G,ac,K.U7 w L.aA (p.i8 _ (by rw[ao];exact gS ..)),nq.Vu (s:={a with inbox:=l}) u R,F.add L.aA T E h,R.2.2.1.trans c,R.2.2.2.trans U,n.trans P,K.told.trans M,ac⟩
def k3.abD{s:aC}(K:k3 s d)(h:nq s):nq d:=by obtain⟨c,Y,z,N,M,F,Z,f,m⟩:=K.same;intro x U;rw[f]at U;rw[M,F];exact h x U
def jT.all{i:Nat}{s:aC}(h:eO k s)(W:dV s)(p:nq s)(z:k5 C s.aA)(w:jT s d)(l:s.O'<=13900)(c:s.n=n)(J:s.self=(i:Int))(P:s.now<=N)(K:s.out.length<=700000)(o:s.told.length<=800000)(q:∀t,jt s t->C t.aA):UpF (k+42200) n N i d/\k5 C d.aA:=by
 obtain⟨s1,Q,ao,K⟩:=w;obtain⟨j,L,T,a,X,F,G,r,E,R,w⟩:=Q.all h W p z (q s (.refl s)) λt Y _=>q t Y;have D:=K.ZE L;have j:=K.told L.toRepI;obtain⟨i,T,w,W,N,u,v,b,s,Q,U,l⟩:=K.same;have T:=D.da;have T:k5 C d.aA:=by rw[i];exact F
 refine⟨⟨⟨D.toRepI.mono ac,D.toRepG,D.aA,D.en,D.sp,ac⟩,K.U7 a,by rw[v,ao],K.abD X,by rw[N,G,c],by rw[u,r,J],by rw[U,E];exact P,?_,?_,?_⟩,T⟩
 .obtain⟨Q,E,u,_⟩:=T;exact⟨Q,E,u⟩
 .rw[b];omega
 .rw[R]at j;omega
def zX(n:Int)(x:b8):Prop:=∃m,c3 m n=true/\m.bK≠x.bh/\0<=x.bh/\x.bh<n/\x.bK=m.bK/\x.Bytes=gM m
def zX.uu(a:n<=7){x:b8}(h:zX n x):uu x=true:=by obtain⟨m,G,_,Y,N,R,_⟩:=h;have K:=hy.1 G;have Z:=K.t1;have a:=K.t2;unfold Go.Proofs.YteogojgnkjegmaaGreatDoor.uu je;grind
def zY(c:ab Bool):∀(Z l:ab b8) (z:Int),0<=z->l.length<=256->((Z.foldl (mm c) (l,z)).1.length<=256/\z<=(Z.foldl (mm c) (l,z)).2/\(Z.foldl (mm c) (l,z)).2<=z+Z.length/\∀x∈(Z.foldl (mm c) (l,z)).1,x∈l\/x∈Z)
 |[],l,z,v,T=>⟨T,gg _,T3,λx U=>.inl U⟩
 |y::Z,l,z,v,T=>by
  rw[qh];by_cases X:oR c l y=true
  .have e:mm c (l,z) y=(l,z+1):=by grind [mm]
   rw[e];obtain⟨Y,N,R,M⟩:=zY c Z l (z+1) ac T;grind
  .have e:mm c (l,z) y=(l++[y],z):=by grind [mm]
   rw[e];have J:(l++[y]).length<=256:=by unfold oR at X;grind
   obtain⟨Y,N,R,M⟩:=zY c Z (l++[y]) z v J;grind
def v8(n:Int)(l:ab eK)(b9:ab aS)(c:Int):Prop:=ko n l/\(gE b9).2=0/\(cj l++b9).length<=65536/\c=((cj l++b9).length:Int)
structure mV(k:Nat)(sz:Nat)(c:bw):Prop extends ClP k c where
 up:∀(i b:Nat) (L:cW) (s:aC),i≠sz->c.aH[i]?=some (cC.up b L s)->oS k c.n c.now i s
 dn:∀(i bQ:Nat) (dH:aj) (l:ab eK) (b9:ab aS) (ja:Int),i≠sz->c.aH[i]?=some (cC.dn bQ dH l b9 ja)->v8 c.n l b9 ja
 g9:∀x∈c.bo,zX c.n x
structure dc(k:Nat)(c:bw):Prop extends ClP k c where
 up:∀(i b:Nat) (L:cW) (s:aC),c.aH[i]?=some (cC.up b L s)->oS k c.n c.now i s
 dn:∀(i bQ:Nat) (dH:aj) (l:ab eK) (b9:ab aS) (ja:Int),c.aH[i]?=some (cC.dn bQ dH l b9 ja)->v8 c.n l b9 ja
 g9:∀x∈c.bo,zX c.n x
def dc.z{c:bw}(h:dc k c)(m:Nat):mV k m c:=⟨h.toClP,λi b L s _ U=>h.up i b L s U,λi g o l b9 c _ U=>h.dn i g o l b9 c U,h.g9⟩
def eO.mono{Y:Nat}{s:aC}(h:eO k s)(u:k<=Y):eO Y s:=⟨h.toRepI.mono u,h.toRepG,h.aA,h.en,h.sp,jy h.da u⟩
def oS.mono{Y:Nat}{a:Int}{i:Nat}{s:aC}(h:oS k n N i s)(u:k<=Y)(l:N<=a):oS Y n a i s:=
 ⟨⟨h.y.mono u,h.v,h.bt,h.bW,h.n,h.self,mM h.now l,h.pl,h.ol,h.fJ⟩,h.on,h.pL,h.nV⟩
def ClP.mono{Y:Nat}{c:bw}(h:ClP k c)(u:k<=Y):ClP Y c:=by have Y:=h.lost;have N:=h.told;have R:=h.now;exact⟨h.toClN,h.cut,h.bo,ac,ac,ac⟩
def mV.mono{Y m:Nat}{c:bw}(h:mV k m c)(u:k<=Y):mV Y m c:=⟨h.toClP.mono u,λi b L s ao U=>(h.up i b L s ao U).mono u (gg _),h.dn,h.g9⟩
def dc.mono{Y:Nat}{c:bw}(h:dc k c)(u:k<=Y):dc Y c:=⟨h.toClP.mono u,λi b L s U=>(h.up i b L s U).mono u (gg _),h.dn,h.g9⟩
def mV.set{x:Nat}{c:bw}(h:mV k x c)(y:cC):mV k x {c with aH:=c.aH.set x y}:=by
 refine⟨⟨⟨h.n,by show((c.aH.set x y).length:Int)=_;rw[co];exact h.len⟩,h.cut,h.bo,h.lost,h.told,h.now⟩,λi b L s ao U=>?_,λi g o l b9 m ao U=>?_,h.g9⟩
 .have U:(c.aH.set x y)[i]?=_:=U;rw[De (o5 ao)]at U;exact h.up i b L s ao U
 .have U:(c.aH.set x y)[i]?=_:=U;rw[De (o5 ao)]at U;exact h.dn i g o l b9 m ao U
def mV.abE{m:Nat}{c:bw}(h:mV k m c){b:Nat}{L:cW}{s:aC}(U:c.aH[m]?=some (cC.up b L s))(R:oS k c.n c.now m s):dc k c:=by
 refine⟨h.toClP,λi s T d p=>?_,λi g o l b9 c p=>?_,h.g9⟩
 .by_cases e:i=m
  .grind
  .exact h.up i s T d e p
 .by_cases e:i=m
  .grind
  .exact h.dn i g o l b9 c e p
def mV.ZH{m:Nat}{c:bw}(h:mV k m c){g:Nat}{o:aj}{l:ab eK}{b9:ab aS}{b:Int}(U:c.aH[m]?=some (cC.dn g o l b9 b))(R:v8 c.n l b9 b):dc k c:=by
 refine⟨h.toClP,λi s T d p=>?_,λi x Q X Y U p=>?_,h.g9⟩
 .by_cases e:i=m
  .grind
  .exact h.up i s T d e p
 .by_cases e:i=m
  .grind
  .exact h.dn i x Q X Y U e p
def lp.cQ{i:Nat}{c g:bw}(h:mV k i c)(R:∀b L s,c.aH[i]?=some (cC.up b L s)->UpF k c.n c.now i s)(Z:lp c i g):dc (k+1000000) g:=by
 obtain⟨J,z,s1,q,U,rfl⟩:=Z;have Y:=R _ _ _ U;obtain⟨l,C,r,W⟩:=zY c.cut s1.out c.bo 0 (gg _) h.bo;have T:=h.lost;have j:=h.told;have a:=h.now;have p:=Y.ol;have M:=Y.fJ;have ao:=(cT.1 U).1;have d:mV (k+1000000) i (c.VL i J q s1):=by
  have Q:=(h.mono (jL k 1000000)).set (.up J q s1.flush);refine⟨⟨⟨h.n,Q.len⟩,h.cut,l,?_,?_,?_⟩,Q.up,Q.dn,λx y=>?_⟩
  .show 0<=c.lost+(g6 c.cut c.bo s1.out).2/\c.lost+(g6 c.cut c.bo s1.out).2<=_;unfold g6;omega
  .show(c.told++s1.told.map (nT i c.now)).length<=_;grind
  .show 0<=c.now/\c.now<=_;omega
  .rcases W x y with y|y
   .exact h.g9 x y
   .obtain⟨m,N,E,rfl⟩:=Y.bW x y;have l:=Y.y.self;exact⟨m,by show c3 m c.n=true;rw[<-Y.n];exact N,E,l.1,by show s1.self<c.n;rw[<-Y.n];exact l.2,rfl,rfl⟩
 refine d.abE (b:=J) (L:=q) (s:=s1.flush) ?_ (oS.mono Y.flush (jL ..) (gg _));show(c.aH.set i _)[i]?=_
 grind
def UpF.mono{Y:Nat}{i:Nat}{s:aC}(h:UpF k n N i s)(u:k<=Y):UpF Y n N i s:=⟨h.y.mono u,h.v,h.bt,h.bW,h.n,h.self,h.now,h.pl,h.ol,h.fJ⟩
def nQ.up{i:Nat}{s o:aC}{d:bN}{x:ag}(h:oS k n N i s)(Q:nQ s d x e o):UpF (k+42200) n N i o:=by
 rcases Q with⟨_,_,_,rfl⟩|⟨_,_,_,_,rfl⟩|⟨w,M,rfl,rfl,p,f⟩
 .exact h.toUpF.mono ac
 .exact h.toUpF.mono ac
 .obtain⟨Q,z⟩:=h.nV;have L:=h.y.Ut d p M;have o:=h.v.Ut d p;have i:fH (s.Ut d p).inbox<=3:=by
   show fH (s.inbox++fa s.self (s.Um d).E')<=3
   rw[h.bt,gJ];exact um ..
  have l:=L.VT o;have r:nq (s.Ut d p):=nq.Vu (s:=s.US d p) h.bW (g8.send _ _);have c:=(s4 (s.US d p) (s.Um d).E').2;have K:(s.Um d).E'.length<=7:=a6.Va (rL ..) h.y.gO.2;have C:(s.Ut d p).out.length<=7:=by
   have Y:(s.US d p).out.length=0:=by show s.out.length=0;rw[h.on];rfl
   have N:((s.US d p).send (s.Um d).E').out.length=(s.Ut d p).out.length:=rfl;omega
  exact(jT.all (C:=λ_=>True) L o r (k5.of z trivial) f ac h.n h.self h.now ac (by show s.told.length<=_;rw[h.pL];exact cO _) (λ_ _=>trivial)).1
def fG.bQ{s:aC}(h:fG s m d):d.bQ=s.bQ:=by
 rcases h with⟨_,o,_,_,h⟩|⟨_,h⟩
 .have Y:(s.Uq m o).bQ=s.bQ:=by unfold aC.Uq;split<;>rfl
  rcases h with⟨_,h⟩|⟨_,h⟩
  .obtain⟨W,_,rfl⟩:=h.go;exact Y
  .unfold iF at h;subst h;exact Y
 .have:=h.core.b;simp only[ny]at this;exact this.2.2.1
def jt.bQ{s:aC}(h:jt s d):d.bQ=s.bQ:=by
 induction h with
 |refl=>rfl
 |step _ _ K d=>exact K.bQ.trans d
def jT.bQ{s:aC}(h:jT s d):d.bQ=s.bQ:=by obtain⟨s1,Y,_,N⟩:=h;exact N.same.2.2.2.2.2.2.2.2.2.2.2.trans Y.bQ
def nQ.bQ{s o:aC}{d:bN}{x:ag}(Q:nQ s d x e o):o.bQ=s.bQ:=by
 rcases Q with⟨_,_,_,rfl⟩|⟨_,_,_,_,rfl⟩|⟨w,M,rfl,rfl,p,f⟩
 .rfl
 .rfl
 .exact f.bQ
def nr(c:bw)(U:Int)(d:bN)(x:ag)(e:Int)(g:bw):Prop:=
 (g7 c U≠0/\x=ag.z/\e=g7 c U/\g=c)\/
 (g7 c U=0/\∃i h L s1 q s2,U=((i:Nat):Int)/\c.aH[i]?=some (.up h L s1)/\nQ s1 d x e s2/\lp {c with aH:=c.aH.set i (.up h q s2)} i g)
def IK{c:bw}(h:ClP k c){J:Int}(T:g7 c J=0):∃i b L s,J=((i:Nat):Int)/\c.aH[i]?=some (.up b L s):=by
 unfold g7 at T;split at T
 .cases T
 .rename_i f;obtain⟨i,x,rfl,ao,U⟩:=h.at (rep:=J) ac ac;rw[i3,U]at T;cases x with
  |up b L s=>exact⟨i,b,L,s,rfl,U⟩
  |dn g o l b9 m=>rw[aM (by exact Bool.false_ne_true)]at T;cases T
def nr.cQ{c g:bw}{d:bN}{x:ag}(h:dc k c)(Q:nr c N d x e g):dc (k+1042200) g:=by
 rcases Q with⟨_,_,_,rfl⟩|⟨_,i,J,P,s1,q,s2,_,U,Q,Z⟩
 .exact h.mono ac
 .have Y:=Q.up (h.up _ _ _ _ U);have ao:=(cT.1 U).1;refine(Z.cQ (k:=k+42200) (((h.z i).mono ac).set _) λb L s p=>?_).mono ac;have p:(c.aH.set i (.up J q s2))[i]?=_:=p;rw[oT ao]at p;cases p;exact Y
def IL(b:Nat)(L:hj)(c:bw)(U:Int)(d:bN)(k:Nat)(h:dc k c)(cc:k<=90000000000):ar prog 18 [aw b 0,I U,A d.c] (b5 b L c) (λr Z=>∃u g x e,nr c U d x e g/\r=.tuple #[A x.c,I e]/\Z=b5 b u g):=by
 have p:=zT b L c h.toClN U;by_cases T:g7 c U=0
 .obtain⟨i,Y,l,s1,rfl,J⟩:=IK h.toClP T;have t:=h.up _ _ _ _ J;have ao:=(cT.1 J).1;have s:=h.len;have cM:=h.n;have M:=ar.W7 (Q:=λr (z:cW×aC×ag×Int)=>nQ s1 d z.2.2.1 z.2.2.2 z.2.1/\r=.tuple #[A z.2.2.1.c,I z.2.2.2]) (N:=λz=>.up Y z.1 z.2.1) J (ar.post (Q9 Y l s1 d k t.y t.v t.bt ac (by rw[t.on];exact cO _) (by rw[t.pL];exact cO _)) (by rintro v Z⟨u,cE,x,e,X,rfl,rfl⟩;exact⟨_,⟨(u,cE,x,e),⟨X,rfl⟩,rfl⟩,λ_ _ _ h=>h⟩));have C (G:cW) (s2:aC) (x:ag) (e:Int) (q:nQ s1 d x e s2):=zV b L {c with aH:=c.aH.set i (.up Y G s2)} (k+42200) i Y G s2 (((h.z i).mono ac).set _).toClP ac (by show(c.aH.set i _)[i]?=_;rw[oT ao]) (by have:=(q.up t).ol;omega) (by have:=(q.up t).fJ;omega);have R (G:cW) (s2:aC) (x:ag) (e:Int) (g:bw) (q:nQ s1 d x e s2) (eh:lp {c with aH:=c.aH.set i (.up Y G s2)} i g):nr c ((i:Nat):Int) d x e g:=.inr ⟨T,i,Y,l,s1,G,s2,rfl,J,q,eh⟩;rw[T]at p;clear t h cc;unfold b5 dw dL at p⊢;refine aE func18 λW=>?_;generalize bn _=D;refine aq 2 λl5=>?_;refine aq 0 λnj=>?_;refine aa 22 ?_;refine ah.mt [0,1,6] (λz:Nat×cW×aC×ag×Int=>nQ s1 d z.2.2.2.1 z.2.2.2.2 z.2.2.1) (λz=>[(9,aw z.1 0),(10,I z.2.2.2.2)]) (λz=>[cells z.1 46 z.2.2.2.1.c,fq (c.aH.set i (.up Y z.2.1 z.2.2.1)),cJ]) (i:=[fq c.aH,cJ]) ?_ ?_
  .intro fM w;refine ah.n' ?_ aB.d'.j.j.j.j.j.j.j.d';refine ae 5 0 ?_;refine af.i' 5 rfl (V.B' ad (k:=i) rfl rfl rfl rfl ac) ?_;refine ae 1 7 ?_;refine af.bv 6 12 rfl rfl ?_ ?_;refine av.x' (V.UH ad (f:=gB) rfl T1 nS J) ?_;refine au ?_;refine af.bv 8 12 rfl rfl ?_ ?_;refine av.Z' rfl (M) Uc ?_;rintro j7 s2⟨Yh,⟨⟨E,rfl⟩,rfl⟩⟩;refine R1 λj=>?_;refine au ?_;rotate_left;refine O.N' ad (λj=>?_);refine au ?_;refine af.p' 8 rfl rfl (M) ?_;rintro v5 Hw⟨a,⟨⟨Yf,rfl⟩,rfl⟩⟩;refine Sc ?_;rotate_left;refine O.N' ad (λj=>?_);refine au ?_;refine af.q' 6 rfl (av.x' (V.UH ad (f:=gB) rfl T1 nS J) ?_);refine au ?_;refine af.p' 8 rfl rfl (M) ?_;rintro v9 Yi⟨m,⟨⟨Yg,rfl⟩,rfl⟩⟩;refine Sc ?_;rotate_left;all_goals exact Out.z' w (_,_,_,_,_) TX trivial
  rintro⟨j,G,s2,x,e⟩ q;dsimp only at q;have P:=C G s2 x e q;have o:=λg=>R G s2 x e g q;have lE:=zU b L c (y:=.up Y G s2) J q.bQ rfl;clear C M R p;rw[lE]at P;unfold b5 dw dL at P;dsimp only[List.cons_append,List.nil_append]at P⊢;refine aa 5 ?_;rintro v3 oF⟨K,⟨F,⟨⟨E,Yc,Ye⟩,rfl,rfl⟩⟩⟩;refine aa 13 ?_;all_goals exact⟨_,_,⟨_,_,x,e,o _ TX,rfl,rfl⟩,Uc⟩
 .have R:nr c U d ag.z (g7 c U) c:=.inl ⟨T,rfl,rfl,rfl⟩;have gC:bd .neq (g7 c U) 0=some true:=by simp[bd,T]
  generalize g7 c U=e at*;unfold b5 dw dL at p⊢;refine aE func18 λW=>?_;generalize bn _=D;refine aq 2 λl5=>?_;refine aq 0 λnj=>?_;refine aa 16 ?_;refine ai.v (V.cmp rfl rfl gC) ?_;refine aa 14 ?_;all_goals exact⟨_,_,⟨L,c,ag.z,e,R,rfl,rfl⟩,Uc⟩
def x0(s:aC)(m:aD)(t:bR):Prop:=t=s.aA\/∃s1 W,fG s m s1/\jt s1 W/\t=W.aA
def pu.all{i:Nat}{s:aC}(h:oS k n N i s)(K:hx m n)(Q:pu s m e d):UpF (k+42300) n N i d/\k5 (x0 s m) d.aA:=by
 obtain⟨q,z⟩:=h.nV;rcases Q with⟨_,_,rfl⟩|⟨_,_,_,s1,f,w⟩
 .exact⟨h.toUpF.mono ac,k5.of z (.inl rfl)⟩
 .have G:hx m s.n:=by rw[h.n];exact K
  have l:=zN h.y h.v h.bt f;obtain⟨X,U⟩:=f.Vu;have p:=f.out h.y;rw[h.on]at p;have T:k5 (x0 s m) s1.aA:=(k5.of z (.inl rfl)).add h.y.aA (f.add h.y.aA) (.inl rfl) (.inr ⟨s1,s1,f,.refl s1,rfl⟩);have c:=h.y.gO;have:=jT.all (C:=x0 s m) (f.cQ h.y (pS G.item c.2)) (f.U7 h.v h.y.aA (Iq c.2 G)) (nq.Vu h.bW U) T w ac (U.2.2.1.trans h.n) (U.2.2.2.trans h.self) (by rw[f.aA.2];exact h.now) (by have:([]:ab b8).length=0:=rfl;omega) (by rw[f.told,h.pL];exact cO _) (λt j=>.inr ⟨s1,t,f,j,rfl⟩);exact⟨this.1.mono ac,this.2⟩
def pu.bQ{s:aC}(Q:pu s m e d):d.bQ=s.bQ:=by
 rcases Q with⟨_,_,rfl⟩|⟨_,_,_,s1,f,w⟩
 .rfl
 .exact w.bQ.trans f.bQ
def bw.less(c:bw)(i:Int):bw:={c with bo:=c.bo.eraseIdx i.toNat}
def wa(c:bw)(i:Int)(j:Nat)(h:Nat)(L:cW)(s1:aC)(m:aD)(q:cW)(s2:aC):Prop:=
 ∃x Y,iH c.bo i=some x/\lo c.cut x.bh x.bK=false/\x.bK=(j:Int)/\c.aH[j]?=some (.up h L s1)/\x.Bytes=gM m/\c3 m c.n=true/\m.bK=x.bK/\pu s1 m Y s2
def tb(c:bw)(i:Int)(e:Int)(g:bw):Prop:=
 (iH c.bo i=none/\e=5/\g=c)\/
 (∃x,iH c.bo i=some x/\lo c.cut x.bh x.bK=true/\e=7/\g={c.less i with lost:=c.lost+1})\/
 (∃x j d o l n b,iH c.bo i=some x/\lo c.cut x.bh x.bK=false/\x.bK=((j:Nat):Int)/\c.aH[j]?=some (.dn d o l n b)/\e=7/\g=c.less i)
def uw(c:bw)(i:Int)(U e:Int)(g:bw):Prop:=
 (U=0/\tb c i e g)\/(∃j h L s1 m q s2,wa c i j h L s1 m q s2/\U=((j:Nat):Int)/\e=0/\g={c.less i with aH:=c.aH.set j (.up h q s2)})
def Df(L:hj)(l:ab b8)(c:ab Bool)(n:Int):ar prog 35 [aw L.k4 0] [aL (fO L.k4 L.dH l c n)] (λr J=>r=I (l.length:Int)/\J=[aL (fO L.k4 L.dH l c n)]):=ar.VJ (aiI ..)
def aeV(L:hj)(l:ab b8)(c:ab Bool)(n i:Int)(q:c.length=49)(a:0<=n/\n<=1000000000000000)(v:∀x∈l,uu x=true){x:b8}(U:iH l i=some x):ar prog 65 [aw L.k4 0,I i] [aL (fO L.k4 L.dH l c n)] (λr J=>∃t,r=(if lo c x.bh x.bK then .tuple #[A b8.z.c,B false]else .tuple #[A x.c,B true])/\J=[aL (fO L.k4 t (l.eraseIdx i.toNat) c (if lo c x.bh x.bK then n+1 else n))]):=by
 refine ar.eqv aO.aL (ajp L.k4 L.dH l c n i q a v) ?_;rintro r J⟨t,h⟩;rw[U]at h;dsimp only at h;cases u:lo c x.bh x.bK
 .rw[u,aM T6]at h;exact Lb
 .rw[u,aQ rfl]at h;exact Lb
def Dg{l:ab b8}{i:Int}{x:b8}(h:iH l i=some x):x∈l:=by obtain⟨k,_,u,_⟩:=v6 h;exact jX u
def IM(b:Nat)(L:hj)(c:bw)(i:Int)(k:Nat)(h:dc k c)(cc:k<=90000000000):ar prog 39 [aw b 0,I i] (b5 b L c) (λr Z=>∃T cx M e,uw c i M e cx/\r=.tuple #[I M,I e]/\Z=b5 b T cx):=by
 have Yc:=h.len;have cM:=h.n;have Yk:=Df L c.bo c.cut c.lost;have Yf:=h.lost;cases t:iH c.bo i with
 |none=>
  have G:uw c i 0 5 c:=.inl ⟨rfl,.inl ⟨t,rfl,rfl⟩⟩;have ao:=xY t;clear h;unfold b5 dw dL;refine aE func39 λW=>?_;generalize bn _=D;refine aa 22 ?_;refine ai.aY (λK=>?_) (λK=>?_);refine aa 20 ?_;rotate_left;refine aa 21 ?_;rotate_left;all_goals exact⟨_,_,⟨L,c,0,5,G,rfl,rfl⟩,Uc⟩
 |some x=>
  obtain⟨E,rfl,Ym,Yh⟩:=v6 t;obtain⟨m,bF,Ye,Yl,Yj,w,a⟩:=h.g9 x (Dg t);have P:=hy.1 bF;have Yg:=P.t1;have o:=P.t2;have d:=aeV L c.bo c.cut c.lost (E:Int) h.cut ⟨Yf.1,ac⟩ (λy F=>(h.g9 y F).uu ac) t;obtain⟨jO,to,Yo⟩:=x;dsimp only at w a Yl Yj Ye;subst w a;obtain⟨j,y,R,Yi,F⟩:=h.at Yg o;have p:bd .lss (E:Int) 0=some false:=Sl
  have Y:bd .geq (E:Int) (c.bo.length:Int)=some false:=TZ
  cases u:lo c.cut jO m.bK
  .have Yn:c.n=c.n:=rfl;cases y with
   |dn bQ dH l oU ja=>
    have G:uw c (E:Int) 0 7 (c.less (E:Int)):=.inl ⟨rfl,.inr (.inr ⟨_,j,bQ,dH,l,oU,ja,t,u,R,F,rfl,rfl⟩)⟩;unfold bw.less at G;simp only[u,hM,iq]at d;rw[R]at d o;have gm:bd .geq (j:Int) c.n=some false:=TZ
    clear h;unfold b5 dw dL;refine aE func39 λW=>?_;generalize bn _=D;refine N0 λU nj=>?_;refine aa 12 ?_;all_goals exact⟨_,_,⟨{L with dH:=U},_,0,7,G,rfl,rfl⟩,Uc⟩
   |up J gA s1=>
    have g:=h.up _ _ _ _ F;have C:hx m s1.n:=by rw[g.n];exact P
    have G (q:cW) (s2:aC) (Y:Int) (X:pu s1 m Y s2):uw c (E:Int) (j:Int) 0 {c.less (E:Int)with aH:=c.aH.set j (.up J q s2)}:=.inr ⟨j,J,gA,s1,m,q,s2,⟨_,Y,t,u,R,F,rfl,bF,rfl,X⟩,rfl,rfl,rfl⟩;have s:=ar.W7 (Q:=λr (z:cW×aC×Int)=>pu s1 m z.2.2 z.2.1/\r=I z.2.2) (N:=λz=>.up J z.1 z.2.1) F (ar.post (Ra J gA s1 m k g.y g.v g.bt C ac (by rw[g.on];exact cO _) (by rw[g.pL];exact cO _)) (by rintro v Z⟨T,cE,e,bg,rfl,rfl⟩;exact⟨_,⟨(T,cE,e),⟨bg,rfl⟩,rfl⟩,λ_ _ _ h=>h⟩));have x (T:hj) (q:cW) (s2:aC) (Y:Int) (X:pu s1 m Y s2):=zU b T (c.less (E:Int)) (y:=.up J q s2) F X.bQ rfl;unfold bw.less at G x;simp only[u,hM,iq]at d;rw[R]at d o;have gm:bd .geq (j:Int) c.n=some false:=TZ
    clear h g C;unfold b5 dw dL;refine aE func39 λW=>?_;generalize bn _=D;refine N0 λU nj=>?_;refine aa 5 ?_;refine ah.mt [0,6] (λz:cW×aC×Int=>pu s1 m z.2.2 z.2.1) (λz=>[]) (λz=>[fq (c.aH.set j (.up J z.1 z.2.1)),cJ]) (i:=[fq c.aH,cJ]) ?_ ?_
    .intro K r;refine ah.n' ?_ aB.j.j.j.j.j.d'.j.d';refine ae 6 0 ?_;refine af.i' 6 rfl (V.B' ad (k:=j) rfl rfl rfl rfl ac) ?_;refine ae 2 8 ?_;refine af.q' 7 rfl (av.x' (V.UH ad (f:=gB) rfl T1 nS F) ?_);refine au ?_;refine af.p' 10 rfl rfl (s) ?_;rintro f s2⟨g,⟨⟨Q,rfl⟩,rfl⟩⟩;refine aa 3 ?_;all_goals exact Out.z' r (_,_,_) TX trivial
    rintro⟨q,s2,Y⟩ X;dsimp only at X;have R:=G q s2 Y X;have o:=x {L with dH:=U} q s2 Y X;clear s G x d Yk;refine bl ?_;refine aa 10 ?_;all_goals exact⟨_,_,⟨{L with dH:=U},_,(j:Int),0,R,rfl,rfl⟩,(by unfold b5 dw dL at o;dsimp only at o⊢;rw[o];(repeat(first|exact ak.nil|exact al.here|apply ak.cons|apply al.there)))⟩
  .have G:uw c (E:Int) 0 7 {c.less (E:Int)with lost:=c.lost+1}:=.inl ⟨rfl,.inr (.inl ⟨_,t,u,rfl,rfl⟩)⟩;unfold bw.less at G;simp only[u,h7]at d;clear h;unfold b5 dw dL;refine aE func39 λW=>?_;generalize bn _=D;refine aa 20 ?_;refine ai.v (V.cmp rfl rfl p) ?_;refine OX ?_;refine aa 14 ?_;rintro _ _⟨U,rfl,rfl⟩;refine aq 4 λnj=>?_;refine aa 6 ?_;refine ah.n' ?_ aB.j.j.j.j.j.d'.j.d';refine ae 22 0 ?_;refine aa 12 ?_;all_goals exact⟨_,_,⟨{L with dH:=U},_,0,7,G,rfl,rfl⟩,Uc⟩
def adF(a:ab aS)(X:Nat)(v:Int)(g:aS):(tS a X v g).length<=a.length:=by
 unfold tS;split
 .rw[fp];omega
 .rw[co,fp];omega
def IN(b:Nat)(L:cW)(s:aC)(Q:s.aA.ok){q E:ab eK}(h:nU s.aA q E)(p:Int)(d:aS):ar prog 48 [aw s.bQ 0,I p,.int .u8 (d.toNat:Int)] (cb b L s) (λr J=>∃z:aj×ab eK×ab aS×Int,((∃i,E=z.2.1++i)/\(gE z.2.2.1).2=0/\(cj (q++z.2.1)++z.2.2.1).length<=65536/\z.2.2.2=((cj (q++z.2.1)++z.2.2.1).length:Int)/\r=I 0)/\J=[]++(cC.dn s.bQ z.1 (q++z.2.1) z.2.2.1 z.2.2.2).es):=by
 obtain⟨u,i,b9,Y,N,f⟩:=aiC Q h p d;have o:=h.safe;have l:(cj q).length<=s.aA.data.length:=by rw[h.data,qK,b2];omega
 have T:=MV s.bQ s.X.dH s.aA.data (cj q).length p d l Q.oB;have y:=adF s.aA.data (cj q).length p d;have P:=Q.oB;rw[f]at T y;rw[<-o]at T;have M:∃g,ak (hh L.ec s.bQ s.X s.aA) (fC s.bQ s.X.dH s.aA.data s.aA.safe) g:=⟨_,by unfold hh iz gy fC;dsimp only[List.cons_append,List.nil_append];(repeat(first|exact ak.nil|exact al.here|apply ak.cons|apply al.there))⟩
 obtain⟨g,F⟩:=M;have G:∃U,ak (cb b L s) [fE L.ec s.bQ s.X s.aA] U:=⟨_,Tf⟩
 obtain⟨U,C⟩:=G;have x:aO (cb b L s) (fC s.bQ s.X.dH s.aA.data s.aA.safe++(g++U)):=by refine(aO.UA C.perm).trans ?_;rw[<-cn];exact aO.append (aO.aL.trans (aO.UA F.perm)) (aO.refl U)
 refine ar.UB (ar.eqv x (ar.frame (be:=g++U) T) (R:=_) λr J h=>⟨J,h,aO.refl _⟩) ?_;rintro v J W D w⟨_,⟨t,rfl,rfl⟩,rfl⟩ a;refine⟨_,⟨(t,u,b9,((cj (q++u)++b9).length:Int)),⟨⟨i,Y⟩,N,Lk,rfl,rfl⟩,rfl⟩,?_⟩;exact a.sub (EI ..)
def nW(c:bw)(i:Int)(e:Int)(g:bw):Prop:=
 tb c i e g/\e≠0\/(∃j h L s1 m q s2,wa c i j h L s1 m q s2/\e=0/\lp {c.less i with aH:=c.aH.set j (.up h q s2)} j g)
def tb.cQ{c g:bw}{i:Int}(h:dc k c)(a:tb c i e g):dc (k+1) g:=by
 have Y:=h.lost;have K:=h.mono (jL k 1);rcases a with⟨_,_,rfl⟩|⟨x,U,_,_,rfl⟩|⟨x,j,d,o,l,n,b,U,_,_,_,_,rfl⟩
 .exact K
 exact PO
 .exact⟨⟨⟨h.n,h.len⟩,h.cut,jy (xD ..) h.bo,K.lost,K.told,K.now⟩,K.up,K.dn,λx U=>h.g9 x ((w5 ..).subset U)⟩
def dc.less{c:bw}(h:dc k c)(i:Int):dc k (c.less i):=
 ⟨⟨⟨h.n,h.len⟩,h.cut,jy (xD ..) h.bo,h.lost,h.told,h.now⟩,h.up,h.dn,λx U=>h.g9 x ((w5 ..).subset U)⟩
def wa.z{c:bw}{i:Int}{j J:Nat}{L:cW}{s1:aC}{q:cW}{s2:aC}(h:dc k c)(K:wa c i j J L s1 m q s2):mV (k+42300) j {c.less i with aH:=c.aH.set j (.up J q s2)}/\UpF (k+42300) c.n c.now j s2/\k5 (x0 s1 m) s2.aA/\j<c.aH.length/\s2.bQ=s1.bQ:=by obtain⟨x,Y,_,_,_,U,_,G,_,X⟩:=K;have Y:=X.all (h.up _ _ _ _ U) (hy.1 G);exact⟨((((h.less i).z j).mono (jL k 42300)).set (.up J q s2)),Y.1,Y.2,(cT.1 U).1,X.bQ⟩
def nW.cQ{c g:bw}{i:Int}(h:dc k c)(r:nW c i e g):dc (k+1042300) g:=by
 rcases r with⟨r,_⟩|⟨j,x,P,s1,m,q,s2,K,_,Y⟩
 .exact(r.cQ h).mono ac
 .obtain⟨v,R,_,y,_⟩:=K.z h;refine(Y.cQ v λb L s p=>?_).mono ac;have p:(c.aH.set j (.up x q s2))[j]?=_:=p;rw[oT y]at p;cases p;exact R
def tb.ne{c g:bw}{i:Int}(a:tb c i e g):e≠0:=by rcases a with⟨_,rfl,_⟩|⟨x,U,_,rfl,_⟩|⟨x,j,d,o,l,n,b,U,_,_,_,rfl,_⟩<;>decide
def IP(b:Nat)(L:hj)(c:bw)(i:Int)(k:Nat)(h:dc k c)(u:k<=90000000000):ar prog 21 [aw b 0,I i] (b5 b L c) (λr J=>∃T g e,nW c i e g/\r=I e/\J=b5 b T g):=by
 have f:=IM b L c i k h u;refine aE func21 λW=>?_;generalize bn _=D;unfold b5 dw dL;unfold b5 dw dL at f;refine aa 10 ?_;rintro _ _⟨p,Y,M,s,E,rfl,rfl⟩;refine aa 8 ?_;have v:uw c i M s Y:=TX
 rcases v with⟨rfl,a⟩|⟨j,x,w,s1,m,q,s2,K,rfl,rfl,rfl⟩
 .have D:nW c i s Y:=.inl ⟨a,a.ne⟩;have l:bd .eql s 0=some false:=by simp[bd,a.ne]
  refine aa 4 ?_;refine ai.v (V.cmp rfl rfl l) ?_;refine aa 13 ?_;all_goals exact⟨_,_,⟨_,_,_,D,rfl,rfl⟩,Uc⟩
 .obtain⟨v,R,_,y,_⟩:=K.z h;have P:=zV b p {c.less i with aH:=c.aH.set j (.up x q s2)} (k+42300) j x q s2 v.toClP ac (by show(c.aH.set j _)[j]?=_;rw[oT y]) (by have:=R.ol;omega) (by have:=R.fJ;omega);have D (g:bw) (k:lp {c.less i with aH:=c.aH.set j (.up x q s2)} j g):nW c i 0 g:=.inr ⟨j,x,w,s1,m,q,s2,K,rfl,k⟩;unfold b5 dw dL at P;dsimp only at P⊢;refine aa 12 ?_;rintro w oF⟨g,⟨d,⟨⟨E,r,l⟩,rfl,rfl⟩⟩⟩;refine aa 11 ?_;all_goals exact⟨_,_,⟨_,_,0,D _ TX,rfl,rfl⟩,Uc⟩
def Dh(C:bR->Prop)(n:Int)(l:ab eK)(b9:ab aS)(c:Int):Prop:=v8 n l b9 c/\∃t,C t/\t.n=n/\∀x,t.p.at x=(jq (aJ.new n) l).at x
def ux(c:bw)(i:Int)(e:Int)(g:bw):Prop:=
 tb c i e g/\e≠0\/(∃j h L s1 m q s2 o l b9 b,wa c i j h L s1 m q s2/\e=0/\Dh (x0 s1 m) c.n l b9 b/\g={c.less i with aH:=c.aH.set j (.dn s1.bQ o l b9 b)})
def ux.cQ{c g:bw}{i:Int}(h:dc k c)(r:ux c i e g):dc (k+1) g:=by
 rcases r with⟨r,_⟩|⟨j,x,L,s1,m,q,s2,o,l,b9,b,K,_,T,rfl⟩
 .exact r.cQ h
 .obtain⟨_,_,_,y,_⟩:=K.z h;refine mV.ZH (m:=j) (((h.less i).mono (jL k 1)).z j|>.set _) (g:=s1.bQ) (o:=o) (l:=l) (b9:=b9) (b:=b) ?_ T.1;show(c.aH.set j _)[j]?=_
  rw[oT y]
def IQ{s:bR}(h:k5 C s)(a:s.n=n):∃Q E,nU s Q E/\∀(X:ab eK) (b9:ab aS),(∃i,E=X++i)->(gE b9).2=0->(cj (Q++X)++b9).length<=65536->∀b:Int,b=((cj (Q++X)++b9).length:Int)->Dh C n (Q++X) b9 b:=by subst a;obtain⟨Q,E,z,q⟩:=h;refine⟨Q,E,z,λX b9 ⟨i,f⟩ c T b D=>⟨⟨λy F=>z.ok y ?_,c,T,D⟩,q X i f⟩⟩;rw[f,<-cn];exact sT _ F
def RS(b:Nat)(L:hj)(c:bw)(i a:Int)(g:aS)(k:Nat)(h:dc k c)(cc:k<=90000000000):ar prog 26 [aw b 0,I i,I a,.int .u8 (g.toNat:Int)] (b5 b L c) (λr d=>∃bD cx e,ux c i e cx/\r=I e/\d=b5 b bD cx):=by
 have eF:=IM b L c i k h cc;have Yc:=h.len;have Yf:=h.n;refine aE func26 λW=>?_;generalize bn _=D;unfold b5 dw dL;unfold b5 dw dL at eF;refine aa 10 ?_;rintro _ _⟨E,U,K,X,Ye,rfl,rfl⟩;refine aa 8 ?_;have cN:uw c i K X U:=TX
 rcases cN with⟨rfl,o⟩|⟨j,Y,gA,s1,m,q,s2,P,rfl,rfl,rfl⟩
 .have G:ux c i X U:=.inl ⟨o,o.ne⟩;have gC:bd .eql X 0=some false:=by simp[bd,o.ne]
  refine aa 4 ?_;refine ai.v (V.cmp rfl rfl gC) ?_;refine aa 13 ?_;all_goals exact⟨_,_,⟨_,_,_,G,rfl,rfl⟩,Uc⟩
 .obtain⟨fk,hu,hz,dR,Z⟩:=P.z h;have t:c.aH[j]?=some (.up Y gA s1):=by obtain⟨x,bv,_,_,_,t,_⟩:=P;exact t
  have J:(c.aH.set j (.up Y q s2))[j]?=some (.up Y q s2):=by rw[oT dR]
  obtain⟨R,jf,Yi,p⟩:=IQ hz (hu.y.en.trans hu.n);have M:=ar.Wg (Q:=λr (z:aj×ab eK×ab aS×Int)=>(∃s,jf=z.2.1++s)/\(gE z.2.2.1).2=0/\(cj (R++z.2.1)++z.2.2.1).length<=65536/\z.2.2.2=((cj (R++z.2.1)++z.2.2.1).length:Int)/\r=I 0) (T:=λ_=>[]) (N:=λz=>.dn s2.bQ z.1 (R++z.2.1) z.2.2.1 z.2.2.2) J (IN Y q s2 hu.y.aA Yi a g);have G (z:aj×ab eK×ab aS×Int) (c1:∃s,jf=z.2.1++s) (dy:(gE z.2.2.1).2=0) (dz:(cj (R++z.2.1)++z.2.2.1).length<=65536) (Yh:z.2.2.2=((cj (R++z.2.1)++z.2.2.1).length:Int)):ux c i 0 {c.less i with aH:=c.aH.set j (.dn s1.bQ z.1 (R++z.2.1) z.2.2.1 z.2.2.2)}:=.inr ⟨j,Y,gA,s1,m,q,s2,_,_,_,_,P,rfl,p _ _ c1 dy dz _ Yh,rfl⟩;rw[<-Z]at G;have u:(c.aH.set j (cC.up Y q s2)).length=c.aH.length:=co ..;have C (v:aj):rows gs v 112 1 (c.aH.set j (.up Y q s2))=rows gs v 112 1 c.aH:=v7 (f:=gs) t (by unfold gs;rw[show(cC.up Y q s2).bQ=s2.bQ from rfl,Z];rfl);have F (v:aj) (w:aj) (l:ab eK) (oU:ab aS) (ja:Int):rows gs v 112 1 (c.aH.set j (.dn s2.bQ w l oU ja))=rows gs v 112 1 c.aH:=v7 (f:=gs) t (by unfold gs;rw[show(cC.dn s2.bQ w l oU ja).bQ=s2.bQ from rfl,Z];rfl);have Yj:(gs (.up Y q s2)).length=1:=rfl;clear eF;simp only[IR]at M;generalize Yg:c.aH.set j (cC.up Y q s2)=rs at*;have h (y:cC):rs.set j y=c.aH.set j y:=by rw[<-Yg,IR]
  have t:rs.length=c.aH.length:=u;dsimp only at M⊢;refine aa 15 ?_;refine ai.v (V.B' ad (k:=j) rfl rfl rfl rfl ac) ?_;refine ai.v (V.UH ad (f:=gs) rfl T1 C9 J) ?_;refine aa 3 ?_;rintro x Y⟨X,⟨⟨⟨W,Ye⟩,r,J,u,rfl⟩,rfl⟩⟩;refine aa 3 ?_;obtain⟨Q,D,x,Y⟩:=X;have q:=G (Q,D,x,Y) ⟨_,TX⟩ TX TX TX;have d (v:aj):=F v Q (R++D) x Y;have T:=h (.dn s2.bQ Q (R++D) x Y);dsimp only at q⊢;clear G M F h p;refine aa 6 ?_;refine ai.v (V.B' ad (k:=j) rfl rfl rfl rfl ac) ?_;refine ai.o (O.VO ad (f:=gB) (a:=cC.dn s2.bQ Q (R++D) x Y) rfl rfl rfl rfl T2 rfl ac nS ?_);refine aa 10 ?_;all_goals exact⟨_,_,⟨E,_,0,q,rfl,rfl⟩,(by dsimp only;simp only[co,t,C,d,T];(repeat(first|exact ak.nil|exact al.here|apply ak.cons|apply al.there)))⟩
end Go.Proofs.YteogojgnkjegmaaGreatDoor
