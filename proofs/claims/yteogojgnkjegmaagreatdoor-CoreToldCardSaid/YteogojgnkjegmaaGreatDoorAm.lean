/-
 Part of the proof.
-/
import Derived.Test.YteogojgnkjegmaaGreatDoorAl
set_option linter.all false
set_option maxRecDepth 8000
set_option maxHeartbeats 8000000
namespace Go.Proofs.YteogojgnkjegmaaGreatDoor
open Go.az Go.Proofs.Tryz
def fQ(p:Nat)(v:aj)(t:Int)(l:ab bw):ab ay:=[cells p 254 (lz.c ⟨v,t⟩),rows bw.c v 271 4 l]
def k8(h:ag)(l:ab bw):aT Nat:=l.findIdx? λs=>decide (s.key=h)
def tV(s:ag)(l:ab bw):Int:=match k8 s l with|some i=>(i:Int)|none=>-1
def agx{s:ag}{l:ab bw}{i:Nat}{x:bw}(U:l[i]?=some x)(T:x.key=s)(h:∀(j:Nat) (y:bw),j<i->l[j]?=some y->y.key≠s):k8 s l=some i:=by obtain⟨Y,rfl⟩:=cF.1 U;exact wJ.2 ⟨Y,Pf,λj v=>by simpa using h j _ v (hl ac)⟩
def akF{s:ag}{l:ab bw}(h:∀(j:Nat) (y:bw),l[j]?=some y->y.key≠s):k8 s l=none:=by rw[k8,yq];intro y C;obtain⟨j,v⟩:=tB C;simpa using h j y v
def Iu{s:ag}{l:ab bw}{i:Nat}(h:k8 s l=some i):∃x,l[i]?=some x/\x.key=s/\∀(j:Nat) (y:bw),j<i->l[j]?=some y->y.key≠s:=by obtain⟨Y,Z,D⟩:=wJ.1 h;refine⟨l[i],hl Y,by simpa using Z,λj y v C=>?_⟩;obtain⟨m,rfl⟩:=cF.1 C;simpa using D j v
def Pc(s:bw)(b:Nat)(h:ag):ar prog 218 [A s.c,av b 0] [cells b 46 h.c] (λr J=>r=B (decide (s.key=h))/\J=[cells b 46 h.c]):=by refine aF func218 λW=>?_;refine aq 2 λx=>?_;exact aQ 14
def ajd(v:aj)(l:ab bw)(b:Nat)(Y:ag)(F:l.length<=100000):ar prog 217 [v,.func (.func 218) #[] #[av b 0]] [rows bw.c v 271 4 l,cells b 46 Y.c] (λr J=>r=I (tV Y l)/\J=[rows bw.c v 271 4 l,cells b 46 Y.c]):=by
 refine aF func217 λW=>?_;refine ah.fact (h6 (aH _)) λZ=>?_;refine aa 14 ?_;refine ah.cq [7,1,0] (λi:Nat=>i<=l.length/\∀(j:Nat) (y:bw),j<i->l[j]?=some y->y.key≠Y) (λi=>[(8,I (i:Int))]) (λ_=>[]) (λi=>l.length-i) 0 ⟨cG _,λj y h=>absurd h (yo _)⟩ ?_;rintro i⟨am,z⟩ K s;refine bh ?_;by_cases n:i<l.length
 .obtain⟨x,U⟩:=cl n;have L:=Pc x b Y;have t:∃g Q,v=.slice (some ⟨g,0,none⟩) l.length Q:=by
   rcases Z with⟨rfl,rfl⟩|⟨g,Q,rfl,_⟩
   .simp at n
   .exact⟨g,Q,rfl⟩
  obtain⟨g,Q,rfl⟩:=t;by_cases T:x.key=Y
  .have N:tV Y l=(i:Int):=by unfold tV;rw[agx U T z]
   rw[N];rw[iq T]at L;refine S9 ?_;exact aQ 17
  .rw[l5 T]at L;refine S9 ?_;refine aa 11 ?_;rotate_left;refine Out.C' s (i+1) ?_ UJ;exact ⟨ac,λj y w C=>by
    by_cases m:j=i
    .subst m;rw[U]at C;rw[<-gs C];exact T
    .exact z j y ac C⟩
 .have N:tV Y l=-1:=by unfold tV;rw[akF λj y C=>z j y Na C]
  rw[N];exact aQ 19
def Iv(p:Nat)(v:aj)(t:Int)(l:ab bw)(s:ag)(K:l.length<=100000):ar prog 152 [av p 0,A s.c] (fQ p v t l) (λr J=>r=I (tV s l)/\J=fQ p v t l):=by have k (b:Nat):=ajd v l b s K;unfold fQ;refine aF func152 λW=>?_;refine aq 2 λx=>?_;refine aa 20 ?_;refine ai.x' rfl (k _) ?_;exact aQ 6
def Iw(g Q:Nat)(l:ab bw)(i:Nat)(am:i<l.length)(K:l.length<=Q)(q:Q<=9223372036854775807):ar prog 199 [.slice (some ⟨g,0,none⟩) l.length Q,I (i:Int),I ((i:Int)+1)] [rows bw.c (.slice (some ⟨g,0,none⟩) l.length Q) 271 4 l] (λv J=>v=.slice (some ⟨g,0,none⟩) (l.eraseIdx i).length Q/\J=[rows bw.c (.slice (some ⟨g,0,none⟩) (l.eraseIdx i).length Q) 271 4 (l.eraseIdx i)]):=by
 have p:l.eraseIdx i=l.take i++l.drop (i+1):=by rw[Ix]
 have h:(l.eraseIdx i).length=i+(l.length-(i+1)):=by rw[DE,aJ am];omega
 rw[h,p];refine aF func199 λW=>?_;refine S4 ?_;refine af.y' 6 rfl (O.aaU ad (i:=i) (j:=i+1) rfl rfl VJ rfl ac ac bw.len bw.J' ?_);exact S7
def Pe:ar prog 103 [] [] (λr J=>∃p,r=av p 0/\J=fQ p (.slice none 0 0) 0 []):=by refine aF func103 λW=>?_;refine ah.V5 bw.c 271 4 ?_;refine aq 8 λx=>?_;exact aQ 5
def Iy(p:Nat)(v:aj)(t:Int)(l:ab bw):ar prog 198 [av p 0] (fQ p v t l) (λr J=>r=I (l.length:Int)/\J=fQ p v t l):=by unfold fQ;refine aF func198 λW=>?_;exact aQ 27
def tW(s:ag)(l:ab bw):Int×Bool:=match k8 s l with|some i=>((l[i]?.getD bw.z).due,true)|none=>(0,false)
def aeZ(p:Nat)(v:aj)(t:Int)(l:ab bw)(s:ag)(K:l.length<=100000):ar prog 110 [av p 0,A s.c] (fQ p v t l) (λr J=>r=.tuple #[I (tW s l).1,B (tW s l).2]/\J=fQ p v t l):=by
 have w:=Iv p v t l s K;unfold tV at w;cases U:k8 s l with
 |none=>
  rw[U]at w;rw[show tW s l=(0,false) by unfold tW;rw[U]];unfold fQ at w⊢;refine aF func110 λW=>?_;refine aq 2 λN=>?_;exact aQ 30
 |some i=>
  rw[U]at w;obtain⟨x,Y,Z,_⟩:=Iu U;have k:=(cF.1 Y).1;rw[show tW s l=(x.due,true) by unfold tW;rw[U];simp[Y]];unfold fQ at w⊢;refine aF func110 λW=>?_;refine ah.fact (h6 (aI _ (aH _))) λM=>?_;rcases M with⟨rfl,rfl⟩|⟨g,Q,rfl,F,y⟩
  .simp at k
  refine aq 2 λN=>?_;refine aa 30 ?_;refine ai.v (V.E' ad (k:=i) rfl rfl rfl rfl ac) ?_;refine au ?_;refine ai.v (V.Xa ad (o:=2) rfl VF bw.len Y) ?_;exact aQ 6
def akL(p:Nat)(v:aj)(t:Int)(l:ab bw)(N:Int)(h:∀s,l.head?=some s->N<s.due):ar prog 134 [av p 0,I N] (fQ p v t l) (λr J=>r=.tuple #[A ag.z.c,B false]/\J=fQ p v t l):=by
 have y:=Iy p v t l;unfold fQ at y⊢;cases l with
 |nil=>
  refine aF func134 λW=>?_;refine aq 2 λq=>?_;refine aq 5 λb=>?_;exact aQ 33
 |cons s l=>
  have E:=h s rfl;have Y:(s::l)[0]?=some s:=rfl;refine aF func134 λW=>?_;refine ah.fact (h6 (aI _ (aH _))) λx=>?_;rcases x with⟨rfl,f⟩|⟨g,Q,rfl,F,m⟩
  .cases f
  have p:bb .eql (((s::l).length:Nat):Int) 0=some false:=VA
  have h:bb .gtr s.due N=some true:=VA
  refine Qm λq b=>?_;exact aQ 14
def al1(p:Nat)(g Q:Nat)(t:Int)(s:bw)(l:ab bw)(N:Int)(h:s.due<=N):ar prog 134 [av p 0,I N] (fQ p (.slice (some ⟨g,0,none⟩) (s::l).length Q) t (s::l)) (λr J=>r=.tuple #[A s.key.c,B true]/\J=fQ p (.slice (some ⟨g,0,none⟩) l.length Q) t l):=by
 have y:=Iy p (.slice (some ⟨g,0,none⟩) (s::l).length Q) t (s::l);unfold fQ at y⊢;have Y:(s::l)[0]?=some s:=rfl;refine aF func134 λW=>?_;refine ah.fact (h6 (aI _ (aH _))) λx=>?_;have q:(s::l).length<=Q/\Q<=9223372036854775807:=by
  rcases x with⟨h,_⟩|⟨k,i,h,Y,Z⟩
  .cases h
  .cases h;exact⟨Y,UN⟩
 have C:=Iw g Q (s::l) 0 VK q.1 q.2;rw[show(s::l).eraseIdx 0=l from rfl]at C;have p:bb .eql (((s::l).length:Nat):Int) 0=some false:=VA
 have h:bb .gtr s.due N=some false:=VA
 refine Qm λq y=>?_;refine aa 12 ?_;refine ai.v (V.E' ad (k:=0) rfl rfl rfl rfl VK) ?_;refine ai.v (V.K' ad (k:=0) rfl VF bw.len Y) ?_;refine aq 0 λo=>?_;exact aQ 27
def kJ(U:ab ag)(st:Nat×ab bw):Nat×ab bw:=U.foldl (λst k=>match k8 k st.2 with|some i=>(st.1+1,st.2.eraseIdx i)|none=>st) st
def ah9(U:ab ag)(k:ag)(st:Nat×ab bw):kJ (U++[k]) st=(match k8 k (kJ U st).2 with|some i=>((kJ U st).1+1,(kJ U st).2.eraseIdx i)|none=>kJ U st):=by simp[kJ]
def AD:∀(U:ab ag) (st:Nat×ab bw),(kJ U st).1<=st.1+U.length/\(kJ U st).2.length<=st.2.length
 |[],st=>⟨cx _,cx _⟩
 |k::U,st=>by
  have X:=AD U (match k8 k st.2 with|some i=>(st.1+1,st.2.eraseIdx i)|none=>st);have e:kJ (k::U) st=kJ U (match k8 k st.2 with|some i=>(st.1+1,st.2.eraseIdx i)|none=>st):=rfl;rw[e];cases U:k8 k st.2 with
  |none=>rw[U]at X;dsimp only at X;simp only[df];exact⟨by have:=X.1;omega,X.2⟩
  |some i=>
   rw[U]at X;have:=yF st.2 i;simp only[df];exact⟨by have:=X.1;dsimp only at this⊢;omega,iB X.2 this⟩
def Iz(p:Nat)(v:aj)(t:Int)(l:ab bw)(e:ay)(n:aT Go.Addr)(Q b off:Nat)(N:ab ag)(f:Rd e n N.length b off 2 (N.map ag.c))(F:l.length<=100000)(T:N.length<=100000):ar prog 153 [av p 0,.slice n N.length Q] (fQ p v t l++[e]) (λr J=>∃z,r=I ((kJ N (0,l)).1:Int)/\J=fQ p z t (kJ N (0,l)).2++[e]):=by
 unfold fQ;refine bh ?_;refine aF func153 λW=>?_;refine aa 19 ?_;refine ah.cq [10,9,0] (λy:Nat×aj=>y.1<=N.length) (λy=>[(11,I (y.1:Int)),(5,I ((kJ (N.take y.1) (0,l)).1:Int))]) (λy=>[cells p 254 (lz.c ⟨y.2,t⟩),rows bw.c y.2 271 4 (kJ (N.take y.1) (0,l)).2]) (λy=>N.length-y.1) (0,v) (cG _) ?_;rintro⟨i,v⟩ am K s;dsimp only at am;refine bh ?_;by_cases h:i<N.length
 .obtain⟨k,a⟩:=cl h;have m:kJ (N.take (i+1)) (0,l)=(match k8 k (kJ (N.take i) (0,l)).2 with|some j=>((kJ (N.take i) (0,l)).1+1,(kJ (N.take i) (0,l)).2.eraseIdx j)|none=>kJ (N.take i) (0,l)):=by rw[mm a,ah9]
  have u:=AD (N.take i) (0,l);simp only[e8]at u;generalize kJ (N.take i) (0,l)=st at*;obtain⟨c,L⟩:=st;dsimp only at m u⊢;have w:=Iv p v t L k ac;unfold fQ tV at w;cases U:k8 k L with
  |none=>
   rw[U]at m w;dsimp only at m w;refine aa 14 ?_;refine ai.v (V.Wb ad rfl f (kk a)) ?_;refine aq 0 λo=>?_;refine aa 26 ?_;rotate_left;exact Out.C' s (i+1,v) VU VB (j:=LS) (g:=SF)
  |some j=>
   rw[U]at m w;dsimp only at m w;obtain⟨x,Y,_,_⟩:=Iu U;have P:=(cF.1 Y).1;refine ah.fact (h6 (aI _ (aH _))) λM=>?_;rcases M with⟨rfl,rfl⟩|⟨g,D,rfl,X,Z⟩
   .simp at P
   have C:=Iw g D L j P X UN;refine aa 14 ?_;refine ai.v (V.Wb ad rfl f (kk a)) ?_;refine aq 0 λo=>?_;refine aa 47 ?_;rotate_left;exact Out.C' s (i+1,_) VU VB (j:=LS) (g:=SF)
 .obtain rfl:i=N.length:=by omega
  rw[iI];clear s;exact aQ 20
def jw(s:bw)(l:ab bw):ab bw:=l.takeWhile (λa=>iM a s)++s::l.dropWhile (λa=>iM a s)
def IA:∀(l:ab bw) (s:bw) (p:Nat),AC l s p->jw s l=l.take p++s::l.drop p
 |[],s,p,_=>by simp[jw]
 |a::l,s,0,h=>by
  have W:iM a s=false:=by
   cases u:iM a s with
   |false=>rfl
   |true=>exact absurd ((h.2 0 a rfl).1 u) (Nat.lt_irrefl _)
  simp[jw,W]
 |a::l,s,p+1,h=>by
  have W:iM a s=true:=(h.2 0 a rfl).2 ac;have X:=IA l s p ⟨by have:=h.1;simp at this;omega,λj x U=>by have:=h.2 (j+1) x (by simpa using U);rw[this];omega⟩
  unfold jw at X⊢;simp only[List.takeWhile_cons,List.dropWhile_cons,W,ik,mQ,ws,CN];rw[X]
def iN(s:ag)(l:ab bw):ab bw:=(kJ [s] (0,l)).2
def agk(s:ag)(l:ab bw):iN s l=match k8 s l with|some i=>l.eraseIdx i|none=>l:=by unfold iN kJ;simp only[pc,List.foldl_nil];cases k8 s l<;>rfl
def Pl(l:ab bw)(v:aj)(s:bw)(U p:Nat)(z:AC l s p)(K:l.length<=1000):ar prog 156 [v,I (p:Int),.slice (some ⟨U,0,none⟩) 1 1] [rows bw.c v 271 4 l,rows bw.c (.slice (some ⟨U,0,none⟩) 1 1) 271 4 [s]] (λr J=>∃k i,r=.slice (some ⟨k,0,none⟩) (jw s l).length i/\J=[rows bw.c (.slice (some ⟨k,0,none⟩) (jw s l).length i) 271 4 (jw s l)]):=by
 rw[IA l s p z];have Y:=z.1;by_cases h:p=l.length
 .subst h;rw[iI,IB];exact agQ l v s U K
 .have P:(l.take p++s::l.drop p).length=l.length+1:=by simp;omega
  rw[P];refine az.ar.known (p:=∃g Q,v=.slice (some ⟨g,0,none⟩) l.length Q) (λw x=>?_) λt=>?_
  .rcases h6 (aH _) w x with⟨_,W⟩|⟨g,Q,W,_⟩
   .subst W;simp at Y h;omega
   .exact⟨g,Q,W⟩
  .obtain⟨g,Q,rfl⟩:=t;exact alR l g Q s U p ac K
def IC(p:Nat)(v:aj)(t:Int)(l:ab bw)(s:ag)(due:Int)(E:(iN s l).Pairwise (λa b=>iM a b=true))(K:l.length<=900)(f:0<=t/\t<=1000000000000000):ar prog 111 [av p 0,A s.c,I due] (fQ p v t l) (λr J=>∃g Q,r=.tuple #[]/\J=fQ p (.slice (some ⟨g,0,none⟩) (jw ⟨s,due,t⟩ (iN s l)).length Q) (t+1) (jw ⟨s,due,t⟩ (iN s l))):=by
 have F:=AD [s] (0,l);have C (g:Nat):=Iz p v t l (rows ag.c (.slice (some ⟨g,0,none⟩) 1 1) 46 2 [s]) (some ⟨g,0,none⟩) 1 g 0 [s] (Rd.rows (l:=[s]) ag.len VK) ac VK;change∀g,ar _ _ _ _ (λr J=>∃z,r=_/\J=fQ p z t (iN s l)++_)at C;change _/\(iN s l).length<=l.length at F;generalize iN s l=L at*;unfold fQ at C⊢;dsimp only[List.cons_append,List.nil_append]at C⊢;refine aF func111 λW=>?_;refine aq 2 λq=>?_;refine aa 16 ?_;refine ai.o (O.V' ad ag.c [s] rfl (bP.agg rfl bP.nil) rfl rfl (λu=>?_));refine ai.x' rfl (C _) ?_;rintro _ _⟨R,rfl,rfl⟩;refine aa 4 ?_;refine ah.p' ?_ aC.d'.j.j.d';refine ae 6 0 ?_;refine af.n' 6 rfl (V.WH ad (o:=bw.c ⟨s,due,t⟩)) ?_;refine dr 7 λp=>?_;refine ae 1 8 ?_;refine aa 15 ?_;refine ah.p' ?_ aC.j.j.j.d'.d';refine ae 5 0 ?_;refine af.x' 5 rfl rfl (aec _ L ⟨s,due,t⟩ E ac) ?_;rintro _ _⟨D,y,z,rfl,rfl⟩;refine aa 2 ?_;refine ae 5 6 ?_;refine aa 2 ?_;refine ah.V9 [11] ?_ aC.j.j.d'.d'.j aC.j.j.j.d'.j;refine ae 4 0 ?_;refine ae 2 5 ?_;refine af.t 4 rfl (V.F' ad) ?_;refine af.y' 7 rfl (O.V' ad bw.c [⟨s,due,t⟩] rfl (bP.agg rfl bP.nil) rfl rfl (λb=>?_));refine au ?_;refine af.x' 8 rfl rfl (Pl L _ ⟨s,due,t⟩ _ _ VV ac) ?_;rintro _ _⟨b,m,rfl,rfl⟩;refine aa 2 ?_;refine ae 2 9 ?_;refine U5 ?_
 exact Mx
structure lK where
 v:aj
 t:Int
 l:ab bw
def lK.E(p:Nat)(b:lK):ab ay:=fQ p b.v b.t b.l
def wR(N:Int)(_:Nat)(i:ag)(b U:lK):Prop:=∃s x g Q,b.l=s::x/\s.due<=N/\i=s.key/\b.v=.slice (some ⟨g,0,none⟩) (s::x).length Q/\U=⟨.slice (some ⟨g,0,none⟩) x.length Q,b.t,x⟩
def wS(N:Int)(_:Nat)(b:lK):Prop:=∀s,b.l.head?=some s->N<s.due
def aeV(i:ag):ab aj:=[A i.c]
def ahe(p:Nat)(v:aj)(t:v.oneCell'=true)(N:Int):ar prog 94 [v,I N] [] (λr J=>∃a c,r=.func (.func 133) #[] #[av a 0,av c 0]/\J=[cells a 192 [v],cells c 3 [I N]]):=by
 refine aF func94 λW=>?_;refine aa 2 ?_;refine ai.o (O.Wz (λx=>?_));refine ai.o (O.Wz (λx=>?_));refine aa 11 ?_
 exact Mx
structure DG(ve:Type) where
 k:Nat
 c:ve
 ok:Bool
 i:ag
 b:lK
def afR(p a c:Nat)(M:Int)(fx:lK):GW prog 133 [av a 0,av c 0] (lK.E p) aeV (wR M) (wS M) ([cells a 192 [av p 0],cells c 3 [I M]]++lK.E p fx) [cells a 192 [av p 0],cells c 3 [I M]] fx:=by
 intro N y ve ct G X S d oI Yi L jv;have Y:∀b:lK,wS M 0 b->ar prog 134 [av p 0,I M] (lK.E p b) (λr J=>r=.tuple #[A ag.z.c,B false]/\J=lK.E p b):=λb h=>akL p b.v b.t b.l M h;have m:∀b Z i,wR M 0 i b Z->ar prog 134 [av p 0,I M] (lK.E p b) (λr J=>r=.tuple #[A i.c,B true]/\J=lK.E p Z):=λb Z i ⟨s,x,g,Q,bf,bW,cd,gw,jJ⟩=>by obtain⟨v,t,l⟩:=b;dsimp only at bf gw jJ;subst bf gw jJ cd;exact al1 p g Q t s x M bW
 have U:∀(b:lK) {W:a2} {D:ab Nat} {ao:ab ay} (w:a2),(∀e,e∈lK.E p b->e∈ao)->H W D ao w->wS M 0 b\/∃i Z,wR M 0 i b Z:=λb {W D ao} w bV cE=>by
  obtain⟨v,t,l⟩:=b;cases l with
  |nil=>exact .inl λs h=>VL
  |cons s x=>
   by_cases h:s.due<=M
   .refine .inr ⟨s.key,?_⟩;rcases h6 (bV (rows bw.c v 271 4 (s::x)) (by unfold lK.E fQ;simp)) w cE with⟨_,eV⟩|⟨g,Q,bf,_⟩
    .cases eV
    .exact⟨_,s,x,g,Q,rfl,h,rfl,bf,rfl⟩
   .exact .inl λcL hH=>by cases hH;omega
 subst Yi;unfold lK.E fQ at Y m U jv⊢;refine aF func133 λW=>?_;refine bh ?_;refine ah.fact (U (ct d) · MW) λC=>?_;have n:∃f:DG ve,((f.ok=false/\G f.k f.c/\wS M 0 (ct f.c)/\f.b=ct f.c/\f.i=ag.z)\/(f.ok=true/\G f.k f.c/\wR M 0 f.i (ct f.c) f.b))/\f.c=d/\ar prog 134 [av p 0,I M] [cells p 254 (lz.c ⟨(ct d).v,(ct d).t⟩),rows bw.c (ct d).v 271 4 (ct d).l] (λr J=>r=.tuple #[A f.i.c,B f.ok]/\J=[cells p 254 (lz.c ⟨f.b.v,f.b.t⟩),rows bw.c f.b.v 271 4 f.b.l]):=by
  rcases C with C|⟨i,Z,C⟩
  .exact⟨⟨0,d,false,ag.z,ct d⟩,.inl ⟨rfl,L,C,rfl,rfl⟩,rfl,Y _ C⟩
  .exact⟨⟨0,d,true,i,Z⟩,.inr ⟨rfl,L,C⟩,rfl,m _ _ _ C⟩
 obtain⟨f,Yh,Yf,Yk⟩:=n;refine aq 9 λfO=>?_;refine aa 5 ?_;refine ah.cq [0,1,2] (λu:Nat×DG ve=>(u.2.ok=false/\G u.2.k u.2.c/\wS M 0 (ct u.2.c)/\u.2.b=ct u.2.c/\u.2.i=ag.z)\/(u.2.ok=true/\G u.2.k u.2.c/\wR M 0 u.2.i (ct u.2.c) u.2.b)) (λu=>[(5,B u.2.ok),(4,av u.1 0)]) (λu=>[cells p 254 (lz.c ⟨u.2.b.v,u.2.b.t⟩),rows bw.c u.2.b.v 271 4 u.2.b.l,S u.2.c,cells u.1 46 u.2.i.c]) (λu=>N+1-u.2.k) (fO,f) Yh ?_ (t:=by rw[Yf];(repeat(first|exact ak.nil|exact al.here|apply ak.cons|apply al.there)));rintro⟨q,k,gj,ok,i,b⟩ ID K cJ;dsimp only at ID;refine bh ?_;rcases ID with⟨rfl,dA,R,rfl,rfl⟩|⟨rfl,dA,R⟩
 .clear cJ;refine aa 12 ?_
  .exact⟨_,_,⟨gj,k,.inl ⟨dA,R⟩,rfl⟩,VH⟩
 .have Yg:=jv k i gj b dA R;have Yl:=oI k gj dA;refine aa 15 ?_;refine ai.o (aw.WX rfl rfl (Yg) VH ?_);rintro lL kt⟨F,Yj,rfl,Yc,Ye,rfl⟩;refine US (λj=>?_) λj=>?_;refine aa 6 ?_
  .exact⟨_,_,⟨_,k+1,.inr L7,rfl⟩,VH⟩
  refine aq 10 λfO=>?_;refine aa 6 ?_;refine ai.fact (U (ct F) · MW) λT=>?_;have n:∃w:DG ve,((w.ok=false/\G w.k w.c/\wS M 0 (ct w.c)/\w.b=ct w.c/\w.i=ag.z)\/(w.ok=true/\G w.k w.c/\wR M 0 w.i (ct w.c) w.b))/\w.c=F/\w.k=k+1/\ar prog 134 [av p 0,I M] [cells p 254 (lz.c ⟨(ct F).v,(ct F).t⟩),rows bw.c (ct F).v 271 4 (ct F).l] (λr J=>r=.tuple #[A w.i.c,B w.ok]/\J=[cells p 254 (lz.c ⟨w.b.v,w.b.t⟩),rows bw.c w.b.v 271 4 w.b.l]):=by
   have o:G (k+1) F:=L7
   rcases T with T|⟨i,Z,T⟩
   .exact⟨⟨k+1,F,false,ag.z,ct F⟩,.inl ⟨rfl,o,T,rfl,rfl⟩,rfl,rfl,Y _ T⟩
   .exact⟨⟨k+1,F,true,i,Z⟩,.inr ⟨rfl,o,T⟩,rfl,rfl,m _ _ _ T⟩
  obtain⟨w,Z,F,Y,l⟩:=n;refine aa 8 ?_;exact Out.C' cJ (_,w) Z (by show N+1-w.k<N+1-k;omega) (g:=by rw[F];(repeat(first|exact ak.nil|exact al.here|apply ak.cons|apply al.there)))
def afz(s:ag)(a:bw)(l:ab bw):k8 s (a::l)=if a.key=s then some 0 else(k8 s l).map (·+1):=by unfold k8;rw[List.findIdx?_cons];by_cases h:a.key=s<;>simp[h]
def vf(h:ag)(l:ab bw):ab bw:=l.filter λs=>decide (s.key≠h)
def IE(x:ag):∀l:ab bw,(l.map (·.key)).Nodup->(match k8 x l with|some i=>l.eraseIdx i|none=>l)=vf x l
 |[],_=>rfl
 |a::l,h=>by
  rw[eE,ki]at h;have X:=IE x l h.2;rw[afz];by_cases T:a.key=x
  .rw[aJ T];unfold vf;rw[ro,aG (by simp[T]),ww.2 λs E=>?_]
   .rfl
   .have:s.key≠x:=λe=>h.1 (dQ.2 ⟨s,E,by rw[e,T]⟩);simpa using this
  .rw[aG T];unfold vf at X⊢;rw[ro,aJ Pf,<-X];cases k8 x l with
   |none=>rfl
   |some i=>rfl
def AE{s:ag}{l:ab bw}(h:(l.map (·.key)).Nodup):iN s l=vf s l:=by rw[agk];exact IE s l h
def yG(s:bw)(l:ab bw):(jw s l).Perm (s::l):=by unfold jw;refine ow.trans ?_;rw[List.takeWhile_append_dropWhile]
def IF{s:bw}:∀{l:ab bw},l.Pairwise (λa b=>iM a b=true)->(∀a∈l,a.jT≠s.jT)->(jw s l).Pairwise (λa b=>iM a b=true)
 |[],_,_=>by simp[jw]
 |a::l,h,y=>by
  rw[AF]at h;have X:=IF (s:=s) h.2 (λx U=>y x (e0 _ U));cases u:iM a s with
  |true=>
   have e:jw s (a::l)=a::jw s l:=by simp[jw,u]
   rw[e,AF];refine⟨λx U=>?_,X⟩;rcases cQ.1 ((yG s l).mem_iff.1 U)with rfl|U
   .exact u
   .exact h.1 x U
  |false=>
   have e:jw s (a::l)=s::a::l:=by simp[jw,u]
   have c:iM s a=true:=by
    have Y:¬iM a s=true:=by rw[u];simp
    rw[wQ]at Y⊢;have:=y a (er ..);omega
   rw[e,AF,AF];refine⟨λx U=>?_,h.1,h.2⟩;rcases cQ.1 U with rfl|U
   .exact c
   .exact DF c (h.1 x U)
structure mz(t:Int)(l:ab bw):Prop where
 t0:0<=t
 sorted:l.Pairwise (λa b=>iM a b=true)
 m3:(l.map (·.key)).Nodup
 eO:∀s∈l,s.jT<t
def mz.zero:mz 0 []:=⟨ge _,List.Pairwise.nil,mT,VK⟩
def AG(s:ag)(l:ab bw):(vf s l).Sublist l:=CQ
def IG{h:ag}{l:ab bw}{s:bw}:s∈vf h l↔s∈l/\s.key≠h:=by unfold vf;simp
def mz.del{t:Int}{l:ab bw}(w:mz t l)(h:ag):mz t (iN h l):=by rw[AE w.m3];exact⟨w.t0,w.sorted.sublist (AG h l),w.m3.sublist (List.Sublist.map _ (AG h l)),λs E=>w.eO s ((AG h l).subset E)⟩
def mz.set{t:Int}{l:ab bw}(w:mz t l)(h:ag)(due:Int):mz (t+1) (jw ⟨h,due,t⟩ (iN h l)):=by
 have M:=w.del h;refine⟨by have:=w.t0;omega,IF M.sorted (λa J=>by have:=M.eO a J;show a.jT≠t;omega),?_,λs E=>?_⟩
 .have z:=(yG ⟨h,due,t⟩ (iN h l)).map (·.key);rw[z.nodup_iff,eE,ki];refine⟨λq=>?_,M.m3⟩;obtain⟨s,E,T⟩:=dQ.1 q;rw[AE w.m3]at E;exact(IG.1 E).2 T
 .rcases cQ.1 ((yG _ _).mem_iff.1 E)with rfl|E
  .show t<t+1;omega
  .have:=M.eO s E;omega
def aeb{t:Int}{l:ab bw}(s:ag)(due:Int):(jw ⟨s,due,t⟩ (iN s l)).length<=l.length+1:=by rw[(yG _ _).length_eq,df];have:=(AD [s] (0,l)).2;have Z:(iN s l).length<=l.length:=this;omega
def wT(w:a2):(Go.zeroValue 4).run prog w=.ok (B false) w:=rfl
abbrev agw:=ab (Int×Bool)
def seen(m:agw)(r:Int):Bool:=(aZ m r).getD false
def ja(w:a2):(Go.zeroValue 3).run prog w=.ok (I 0) w:=rfl
def g8:hX prog 39 46 3=true:=rfl
def cw:hW prog 46 (λx:ag=>A x.c):=
 hW.struct (c:=ag.c) rfl (λa b=>ag.Y' a b 9998) (λa=>rn.struct (n:=9999) (l:=[(3,0),(3,1)]) Vw ⟨⟨_,.inl ⟨Vw,rfl⟩,rn.int (tf:=.i64) rfl⟩,⟨_,.inl ⟨Vw,rfl⟩,rn.int (tf:=.i64) rfl⟩,trivial⟩) (λa=>rfl)
abbrev n7:=ab (ag×Int)
def bY(m:n7)(x:ag):Int:=(aZ m x).getD 0
def IH(m:n7)(x y:ag)(n:Int):bY (bA m x n) y=if y=x then n else bY m y:=by unfold bY;rw[gX];split<;>rfl
def jx(b:Nat)(n E:Int)(p m:Nat)(v:aj)(t:Int)(l:ab bw)(z:n7):ab ay:=[cells b 194 (nn.c ⟨n,E,av p 0,.map (some m)⟩),cells p 254 (lz.c ⟨v,t⟩),rows bw.c v 271 4 l,bz (λx:ag=>A x.c) (λn:Int=>I n) m z]
def Ps(n E:Int):ar prog 74 [I n,I E] [] (λr J=>∃b p m,r=av b 0/\J=jx b n E p m (.slice none 0 0) 0 [] []):=by
 have X:=Pe;unfold fQ at X;unfold jx;refine aF func74 λW=>?_;refine aa 10 ?_;rintro _ _⟨o,rfl,rfl⟩;refine au ?_;refine ai.o (aw.mkMap (λx:ag=>A x.c) (λn:Int=>I n) rfl (λF=>?_));refine aq 1 λQ=>?_;refine aa 5 ?_
 exact Nv
def Pt(b:Nat)(n E:Int)(p m:Nat)(v:aj)(t:Int)(l:ab bw)(z:n7)(N:Int):ar prog 71 [av b 0,I N] (jx b n E p m v t l z) (λr J=>∃a c,r=.func (.func 133) #[] #[av a 0,av c 0]/\J=[cells a 192 [av p 0],cells c 3 [I N]]++jx b n E p m v t l z):=by
 have u:=ahe p (av p 0) rfl N;unfold jx;refine aF func71 λW=>?_;refine aa 23 ?_;rintro _ _⟨k,b,rfl,rfl⟩;refine aa 6 ?_
 exact Mx
def qb(n E N:Int)(t:n7)(st:Int×ab bw)(x:ag):Int×ab bw:=
 if(tW x st.2).2=true then st else(st.1+1,jw ⟨x,N+oS n E x.a1 (bY t x),st.1⟩ (iN x st.2))
def ib(n E M:Int)(t:n7)(N:ab ag)(st:Int×ab bw):Int×ab bw:=N.foldl (qb n E M t) st
def Pu(n E M:Int)(t:n7)(N:ab ag)(x:ag)(st:Int×ab bw):ib n E M t (N++[x]) st=qb n E M t (ib n E M t N st) x:=by simp[ib]
def II{n E N:Int}{z:n7}{st:Int×ab bw}{x:ag}(h:mz st.1 st.2):mz (qb n E N z st x).1 (qb n E N z st x).2/\(qb n E N z st x).2.length<=st.2.length+1/\(qb n E N z st x).1<=st.1+1:=by
 unfold qb;split
 .exact⟨h,ac,ac⟩
 .exact⟨h.set x _,aeb (t:=st.1) (l:=st.2) x _,ge _⟩
def DH{n E M:Int}{z:n7}:∀(N:ab ag) (st:Int×ab bw),mz st.1 st.2->mz (ib n E M z N st).1 (ib n E M z N st).2/\(ib n E M z N st).2.length<=st.2.length+N.length/\(ib n E M z N st).1<=st.1+N.length
 |[],st,h=>⟨h,cx _,by simp[ib]⟩
 |x::N,st,h=>by obtain⟨Y,Z,D⟩:=II (n:=n) (E:=E) (N:=M) (z:=z) (x:=x) h;obtain⟨m,t,b⟩:=DH N (qb n E M z st x) Y;refine⟨m,iB t (by simp only[df];omega),nD b (by simp only[df];omega)⟩
def air(b:Nat)(n q:Int)(p m:Nat)(v:aj)(t:Int)(l:ab bw)(P:n7)(M:Int)(e:ay)(Y:aT Go.Addr)(Q D off:Nat)(N:ab ag)(o:Rd e Y N.length D off 2 (N.map ag.c)) (Yc:mz t l) (u:l.length+N.length<=900) (f:t+N.length<=100000000000000) (U:∀x∈N,-1048576<=x.a1/\x.a1<=1048576) (h:n<=1048576) (E:-1048576<=q/\q<=1048576) (g:-1152921504606846976<=M/\M<=1152921504606846976):ar prog 78 [av b 0,I M,.slice Y N.length Q] (jx b n q p m v t l P++[e]) (λr J=>∃z,r=.tuple #[]/\J=jx b n q p m z (ib n q M P N (t,l)).1 (ib n q M P N (t,l)).2 P++[e]):=by
 unfold jx;refine bh ?_;refine aF func78 λW=>?_;refine aa 8 ?_;refine ah.cq [11,10,1,0] (λy:Nat×aj=>y.1<=N.length) (λy=>[(12,I (y.1:Int))]) (λy=>[cells p 254 (lz.c ⟨y.2,(ib n q M P (N.take y.1) (t,l)).1⟩),rows bw.c y.2 271 4 (ib n q M P (N.take y.1) (t,l)).2]) (λy=>N.length-y.1) (0,v) (cG _) ?_;rintro⟨i,v⟩ am K Z;dsimp only at am;refine bh ?_;by_cases F:i<N.length
 .obtain⟨x,d⟩:=cl F;have s:ib n q M P (N.take (i+1)) (t,l)=qb n q M P (ib n q M P (N.take i) (t,l)) x:=by rw[mm d,Pu]
  obtain⟨vg,R,vh⟩:=DH (n:=n) (E:=q) (M:=M) (z:=P) (N.take i) (t,l) Yc;simp only[e8]at R vh;have Ye:=U x (im d);generalize ib n q M P (N.take i) (t,l)=st at*;obtain⟨G,L⟩:=st;dsimp only at s vg R vh⊢;have Yf:=vg.t0;have X:=aeZ p v G L x ac;unfold fQ at X;unfold qb at s;cases a:(tW x L).2 with
  |true=>
   rw[a]at X;simp only[a,ik]at s;refine M9 λj=>?_;refine aa 16 ?_;rotate_left;all_goals exact Out.C' Z (i+1,v) VU VB (g:=M8)
  |false=>
   rw[a]at X;simp only[a,h8,iH]at s;have T:=Iq n q x (bY P x) h E Ye;have Yg:=Io n q x.a1 (bY P x) h;generalize oS n q x.a1 (bY P x)=w at*;have C:=IC p v G L x (M+w) (vg.del x).sorted ac ac;unfold fQ at C;refine M9 λj=>?_;refine aa 9 ?_;refine ah.p' ?_ aC.j.j.d'.d'.j.j;refine ae 20 0 ?_;refine af.y' 20 rfl (aw.z' (aN.Wj (l:=P) (k:=x) (aU:=λn:Int=>I n) 0 cw g8 ja rfl rfl VF) ?_);refine au ?_;refine ae 2 21 ?_;refine af.x' 23 rfl rfl (C) ?_;rintro _ _⟨Yi,Yh,rfl,rfl⟩;refine aa 9 ?_;rotate_left;all_goals exact Out.C' Z (i+1,_) VU VB (g:=M8)
 .obtain rfl:i=N.length:=by omega
  rw[iI];clear Z;exact aQ 12
end Go.Proofs.YteogojgnkjegmaaGreatDoor
namespace Go.az
open Go
variable{args:ab aj}{D:ab Nat}{C:bJ->ab ay->Prop}{R:aj->ab ay->Prop}{N:aT (Nat×Bool)}{F:Array Edge}
section
variable{P:b1}{r:aT Nat}{W:a2}{n:dF}{Y:bJ}{J:ab ay}{U:Type}{f:U->ab aj}
def rows.to{i:aT Addr}{Q j E d:Nat}{l:ab U}(a:∀x,(f x).length=d)(v:j<=l.length)(w:a2)(h:(rows f (.slice i l.length Q) E d l).holds w):(rows f (.slice i j Q) E d (l.take j)).holds w:=by
 have e:(l.take j).length=j:=Pq
 have Z:=tC a l j v;have u:((l.take j).flatMap f).length=j*d:=by rw[lw a,e]
 rw[fM,i0]at*;rw[e];refine⟨u,?_⟩;rcases h.2 with⟨N,G⟩|⟨g,k,o,N,p,R,t,L,F,q⟩
 .simp only[sb]at N;obtain⟨rfl,m,rfl⟩:=N;have:j=0:=by omega
  subst this;exact .inl ⟨rfl,VK⟩
 .simp only[sb]at N;obtain⟨rfl,-,rfl⟩:=N;refine .inr ⟨g,Q,o,rfl,p,R,ac,L,F,?_⟩;have G:j*d<=l.length*d:=kY _ v;rw[<-Z,<-q,tE];congr 1;omega
def ah.cut{c:Code}{Q:da}{i:aT Addr}{cap E R:Nat}{l:ab U}{a:ab ay}(j:Nat)(w:∀x,(f x).length=R)(v:j<=l.length)(h:ah P r W D n Q c Y (rows f (.slice i j cap) E R (l.take j)::a))(bV:ak J [rows f (.slice i l.length cap) E R l] a:=by(repeat(first|exact ak.nil|exact al.here|apply ak.cons|apply al.there))):ah P r W D n Q c Y J:=
 ah.iE (λ_ s=>s.imp bV (by rw[fM,fM,iA,iA];cases i<;>rfl) (rows.to w v)) h
end
section
variable{P:b1}{r:aT Nat}{W:a2}{n:dF}{Q:da}{Y:bJ}{U bg:ab ay}{J:Nat}{M:a8}{Z:String}
def DI(P:b1)(K:aj)(args:ab aj)(U:ab ay)(R:aj->ab ay->Prop):Prop:=
 ∃f o T,K=.func (.func f) (List.toArray o) (List.toArray T)/\lp P f=true/\ar P f (o++args++T) U R
def ar.frame{f:fb}(h:ar P f args U R):ar P f args (U++bg) (λv K=>∃c,R v c/\K=c++bg):=ar.of λw o=>by have a:=o.nodup;rw[ke,gr]at a;refine(h.get w ⟨λe j=>o.gq e Vx,a.1⟩).mono ?_;rintro e G⟨v,K,rfl,L,b⟩;exact⟨v,K++bg,rfl,⟨K,L,rfl⟩,o.start.call b⟩
def aw.Wl{x:bj}{u:ab bj}{d:Array a8}{q:aj}{h k:ab ay}{v:aj}(p:DI P q args h (λr T=>r=v/\T=h))(t:aR Y x=some q)(X:az.il Y u=some args)(g:ak U h k)(E:C ((J,v)::Y) U)(c:Nat.blt J n.n=true:=by exact rfl):aw P r W D n ⟨some J,.call ⟨.value x,u.toArray,d⟩,M,Z,F,N⟩ Y U C:=aw.of λK Q i a w Yc b=>by
 obtain⟨f,z,R,rfl,y,l⟩:=p;have s:=b.perm g.perm;have m:u.toArray.map a.eval=args.toArray:=by rw[<-Yc.il X];simp
 refine zA (f:=f) (args:=(z++args++R).toArray) (b:=w) rfl ?_ ?_
 .simp only[execOp,resolve,cW,m,Yc.eval t];simp[Deferred.ofValue,invoke,xF y]
 .refine(l.get w ⟨λe j=>s.gq e Vx,?_⟩).mono ?_
  .have:=s.nodup;exact Mb
  .rintro e G⟨L,T,rfl,⟨rfl,rfl⟩,o⟩;refine⟨_,rfl,i _ _ E _ _ (Yc.put c _) ?_⟩;exact(s.call o).perm g.perm.symm
end
end Go.az
namespace Go.Proofs.YteogojgnkjegmaaGreatDoor
open Go.az Go.Proofs.Tryz
def mA{l:ab ag}{i j:Nat}{x y:ag}(am:l[i]?=some x)(v:l[j]?=some y):((l.set i y).set j x).Perm l:=by obtain⟨Y,rfl⟩:=cF.1 am;obtain⟨Z,rfl⟩:=cF.1 v;exact List.set_set_perm Y Z
def m4(C:aj)(E:ay)(N:ag->ag->Int):Prop:=∀x y:ag,DI prog C [A x.c,A y.c] [E] (λr J=>r=I (N x y)/\J=[E])
abbrev eS(g n Q:Nat)(l:ab ag):ay:=rows ag.c (.slice (some ⟨g,0,none⟩) n Q) 46 2 l
def ajY(g n Q:Nat)(l:ab ag)(u:l.length=n)(a b:Nat)(D:a<=b)(X:b<=n)(m:n<=1000000)(E:ay)(F:aj)(N:ag->ag->Int)(q:m4 F E N):ar prog 207 [.slice (some ⟨g,0,none⟩) n Q,I (a:Int),I (b:Int),F] [eS g n Q l,E] (λr J=>∃o:ab ag,o.Perm l/\r=.tuple #[]/\J=[eS g n Q o,E]):=by
 unfold eS;refine aF func207 λW=>?_;refine aa 8 ?_;refine ah.cq [0,1,2,3] (λy:Nat×ab ag=>a<y.1/\y.2.Perm l) (λy=>[(8,I (y.1:Int))]) (λy=>[rows ag.c (.slice (some ⟨g,0,none⟩) n Q) 46 2 y.2]) (λy=>b-y.1) (a+1,l) ⟨ac,hI _⟩ ?_;rintro⟨i,L⟩⟨am,z⟩ K s;dsimp only at am z;refine bh ?_;by_cases M:i<b
 .refine aa 20 ?_;rotate_left;refine ah.cq [0,1,2,3,8] (λy:Nat×ab ag=>a<=y.1/\y.1<=i/\y.2.Perm l) (λy=>[(9,I (y.1:Int))]) (λy=>[rows ag.c (.slice (some ⟨g,0,none⟩) n Q) 46 2 y.2]) (λy=>y.1) (i,L) ⟨ac,cx _,z⟩ ?_;rintro⟨j,Y⟩⟨G,d,Z⟩ t h;dsimp only at G d Z;refine bh ?_;have R:Y.length=n:=by rw[Z.length_eq,u]
  by_cases p:a<j
  .obtain⟨x,U⟩:=cl (g:=Y) (k:=j) ac;obtain⟨y,C⟩:=cl (g:=Y) (k:=j-1) ac;have T:((j:Int)-1)=((j-1:Nat):Int):=by omega
   have w:=q x y;refine VO ?_;refine bK 21 ?_;refine ae 3 4 ?_;refine af.n' 7 rfl (V.E' ad (k:=j) rfl rfl rfl rfl ac) ?_;refine af.n' 8 rfl (V.K' ad rfl VF ag.len U) ?_;refine ae 2 9 ?_;refine af.n' 11 rfl (V.VX T rfl rfl ac) ?_;refine af.n' 12 rfl (V.E' ad (k:=j-1) rfl rfl rfl rfl ac) ?_;refine af.n' 13 rfl (V.K' ad rfl VF ag.len C) ?_;refine af.y' 14 rfl (aw.Wl w rfl rfl VH ?_);refine au ?_;refine ae 2 15 ?_;refine UR (λP=>?_) λP=>?_;refine aa 4 ?_;refine ah.p' ?_ aC.j.j;refine ae 4 0 ?_;refine af.n' 4 rfl (V.VX T rfl rfl ac) ?_;refine ae 2 5 ?_;refine af.n' 7 rfl (V.VX T rfl rfl ac) ?_;refine af.n' 8 rfl (V.E' ad (k:=j-1) rfl rfl rfl rfl ac) ?_;refine ae 2 10 ?_;refine af.n' 12 rfl (V.E' ad (k:=j) rfl rfl rfl rfl ac) ?_;refine Um ?_ ?_;refine au ?_;refine af.n' 14 rfl (V.E' ad (k:=j) rfl rfl rfl rfl ac) ?_;refine Nl ?_;refine PA ?_;rotate_left;refine Tt ?_;refine au ?_;refine af.n' 14 rfl (V.E' ad (k:=j) rfl rfl rfl rfl ac) ?_;refine Nl ?_;refine PA ?_;rotate_left;refine aa 11 ?_;rotate_left;all_goals(first|exact Out.C' h (j-1,(Y.set j y).set (j-1) x) ⟨ac,ac,(mA U C).trans Z⟩ (by show j-1<j;omega)|exact Out.C' s (i+1,Y) ⟨ac,Z⟩ (by show b-(i+1)<b-i;omega))
  .obtain rfl:j=a:=by omega
   refine VO ?_;refine bK 21 ?_;refine ae 13 4 ?_;refine aa 14 ?_;exact Out.C' s (i+1,Y) ⟨ac,Z⟩ (by show b-(i+1)<b-i;omega)
 .refine aa 14 ?_
  .exact⟨_,_,⟨L,z,rfl,rfl⟩,VH⟩
def IJ(g n Q:Nat)(l:ab ag)(u:l.length=n)(b am first:Nat)(m:b<=1000000)(X:first+am<=n)(y:n<=1000000)(E:ay)(C:aj)(N:ag->ag->Int)(q:m4 C E N):ar prog 248 [.slice (some ⟨g,0,none⟩) n Q,I (b:Int),I (am:Int),I (first:Int),C] [eS g n Q l,E] (λr J=>∃f:ab ag,f.Perm l/\r=.tuple #[]/\J=[eS g n Q f,E]):=by
 unfold eS;refine aF func248 λW=>?_;refine aa 7 ?_;refine ah.cq [0,2,3,4] (λy:Nat×ab ag=>y.1<=1000000/\y.2.Perm l) (λy=>[(10,I (y.1:Int))]) (λy=>[rows ag.c (.slice (some ⟨g,0,none⟩) n Q) 46 2 y.2]) (λy=>am-y.1) (b,l) ⟨m,hI _⟩ ?_;rintro⟨r,J⟩⟨g,l⟩ K i;dsimp only at g l;refine bh ?_;have R:J.length=n:=by rw[l.length_eq,u]
 have n:(2*(r:Int)+1)=((2*r+1:Nat):Int):=ac
 by_cases Y:2*r+1<am
 .refine aa 4 ?_;refine ai.v (V.mul) ?_;refine ai.v (V.V4 n rfl rfl ac) ?_;refine aa 14 ?_;refine ah.mt [0,2,3,4,10] (λc:Nat=>r<c/\c<am) (λc=>[(11,I (c:Int))]) (λ_=>[]) ?_ ?_
  .intro W b;have Y:((first:Int)+((2*r+1:Nat):Int))=((first+(2*r+1):Nat):Int):=by omega
   have Z:(((first+(2*r+1):Nat):Int)+1)=((first+(2*r+2):Nat):Int):=ac
   have D:(((2*r+1:Nat):Int)+1)=((2*r+2:Nat):Int):=ac
   obtain⟨x,U⟩:=cl (g:=J) (k:=first+(2*r+1)) ac;by_cases p:2*r+2<am
   .obtain⟨y,C⟩:=cl (g:=J) (k:=first+(2*r+2)) ac;have K:=q x y;refine TR ?_;refine ae 4 5 ?_;refine af.n' 9 rfl (V.V4 Y rfl rfl ac) ?_;refine af.n' 10 rfl (V.E' ad (k:=first+(2*r+1)) rfl rfl rfl rfl ac) ?_;refine af.n' 11 rfl (V.K' ad rfl VF ag.len U) ?_;refine ae 3 12 ?_;refine af.n' 15 rfl (V.V4 Y rfl rfl ac) ?_;refine af.n' 16 rfl (V.V4 Z rfl rfl ac) ?_;refine af.n' 17 rfl (V.E' ad (k:=first+(2*r+2)) rfl rfl rfl rfl ac) ?_;refine af.n' 18 rfl (V.K' ad rfl VF ag.len C) ?_;refine af.y' 19 rfl (aw.Wl K rfl rfl VH ?_);refine au ?_;refine ae 2 20 ?_;refine UR (λm=>?_) λm=>?_;refine aa 2 ?_;refine ai.v (V.V4 D rfl rfl ac) ?_;refine aa 2 ?_;rotate_left;refine au ?_;rotate_left
    .exact Out.C' b (2*r+2) ⟨ac,ac⟩ trivial
    .exact Out.C' b (2*r+1) ⟨ac,ac⟩ trivial
   .refine TR ?_;refine ae 17 5 ?_;refine aa 4 ?_;all_goals exact Out.C' b (2*r+1) ⟨ac,ac⟩ trivial
  .rintro c⟨F,p⟩;have m:((first:Int)+(r:Int))=((first+r:Nat):Int):=by omega
   have t:((first:Int)+(c:Int))=((first+c:Nat):Int):=ac
   obtain⟨x,U⟩:=cl (g:=J) (k:=first+r) ac;obtain⟨y,C⟩:=cl (g:=J) (k:=first+c) ac;have K:=q x y;refine bh ?_;refine VO ?_;refine af.n' 4 rfl (V.V4 m rfl rfl ac) ?_;refine af.n' 5 rfl (V.E' ad (k:=first+r) rfl rfl rfl rfl ac) ?_;refine af.n' 6 rfl (V.K' ad rfl VF ag.len U) ?_;refine ae 3 7 ?_;refine af.n' 10 rfl (V.V4 t rfl rfl ac) ?_;refine af.n' 11 rfl (V.E' ad (k:=first+c) rfl rfl rfl rfl ac) ?_;refine af.n' 12 rfl (V.K' ad rfl VF ag.len C) ?_;refine af.y' 13 rfl (aw.Wl K rfl rfl VH ?_);refine au ?_;refine ae 2 14 ?_;refine UR (λK=>?_) λK=>?_;refine aa 6 ?_
   .exact⟨_,_,⟨J,l,rfl,rfl⟩,VH⟩
   refine aa 3 ?_;refine ah.p' ?_ aC.j.j;refine ae 3 0 ?_;refine af.n' 3 rfl (V.V4 m rfl rfl ac) ?_;refine ae 3 4 ?_;refine af.n' 7 rfl (V.V4 t rfl rfl ac) ?_;refine ae 3 8 ?_;refine af.n' 11 rfl (V.V4 t rfl rfl ac) ?_;refine af.n' 12 rfl (V.E' ad (k:=first+c) rfl rfl rfl rfl ac) ?_;refine ae 3 14 ?_;refine af.n' 17 rfl (V.V4 m rfl rfl ac) ?_;refine af.n' 18 rfl (V.E' ad (k:=first+r) rfl rfl rfl rfl ac) ?_;refine af.bx 13 19 rfl rfl ?_ ?_;refine Rl ?_;refine af.y' 19 rfl (aw.z' (V.K' ad rfl VF ag.len U) ?_);refine Sy ?_;rotate_left;refine MG ?_;refine af.y' 13 rfl (aw.z' (V.K' ad rfl VF ag.len C) ?_);refine Sy ?_;rotate_left;all_goals skip
   all_goals exact Out.C' i (c,(J.set (first+r) y).set (first+c) x) ⟨ac,(mA U C).trans l⟩ (by show am-c<am-r;omega)
 .clear i;refine aa 4 ?_;refine ai.v (V.mul) ?_;refine ai.v (V.V4 n rfl rfl ac) ?_;refine aa 14 ?_;refine Out.Xs ?_;refine aa 3 ?_
  .first|exact⟨_,_,⟨J,l,rfl,rfl⟩,VH⟩|(exfalso;omega)
def ajr(g n Q:Nat)(l:ab ag)(u:l.length=n)(a b:Nat)(T:a<b)(X:b<=n)(i:n<=1000000)(E:ay)(F:aj)(N:ag->ag->Int)(q:m4 F E N):ar prog 208 [.slice (some ⟨g,0,none⟩) n Q,I (a:Int),I (b:Int),F] [eS g n Q l,E] (λr J=>∃o:ab ag,o.Perm l/\r=.tuple #[]/\J=[eS g n Q o,E]):=by
 unfold eS;have f:((b:Int)-(a:Int))=((b-a:Nat):Int):=ac
 have Y:(((b-a:Nat):Int)-1)=((b-a-1:Nat):Int):=ac
 have Z:((b-a-1:Nat):Int)/2=(((b-a-1)/2+1:Nat):Int)-1:=ac
 generalize k:b-a=am at*;refine aF func208 λW=>?_;refine aa 15 ?_;refine ai.v (V.VX f rfl rfl ac) ?_;refine aa 7 ?_;refine ai.v (V.VX Y rfl rfl ac) ?_;refine aa 5 ?_;rw[Z];refine ah.cq [10,9,8,0,3] (λy:Nat×ab ag=>y.1<=n+1/\y.2.Perm l) (λy=>[(11,I ((y.1:Int)-1))]) (λy=>[rows ag.c (.slice (some ⟨g,0,none⟩) n Q) 46 2 y.2]) (λy=>y.1) ((am-1)/2+1,l) ⟨ac,hI _⟩ ?_;rintro⟨r,Y⟩⟨d,h⟩ K s;dsimp only at d h;refine bh ?_;have R:Y.length=n:=by rw[h.length_eq,u]
 cases r with
 |zero=>
  clear s;have D:((am:Int)-1)=((am:Nat):Int)-1:=rfl;refine aa 21 ?_;refine ah.cq [10,9,8,0,3] (λy:Nat×ab ag=>y.1<=am/\y.2.Perm l) (λy=>[(12,I ((y.1:Int)-1))]) (λy=>[rows ag.c (.slice (some ⟨g,0,none⟩) n Q) 46 2 y.2]) (λy=>y.1) (am,Y) ⟨cx _,h⟩ ?_;rintro⟨k,X⟩⟨T,J⟩ K s;dsimp only at T J;refine bh ?_;have R:X.length=n:=by rw[J.length_eq,u]
  cases k with
  |zero=>
   clear s;refine aa 13 ?_
   .first|exact⟨_,_,⟨X,J,rfl,rfl⟩,VH⟩|(exfalso;omega)
  |succ m=>
   have l:(((m+1:Nat):Int)-1)=(m:Int):=ac
   have t:((a:Int)+(m:Int))=((a+m:Nat):Int):=ac
   rw[l];obtain⟨x,U⟩:=cl (g:=X) (k:=a) ac;obtain⟨y,C⟩:=cl (g:=X) (k:=a+m) ac;have b:=IJ g n Q ((X.set a y).set (a+m) x) (by rw[cy,cy];exact R) 0 m a ac ac i E F N q;unfold eS at b;refine aa 13 ?_;refine ah.p' ?_ aC.j.j;refine ae 5 0 ?_;refine af.n' 5 rfl (V.V4 t rfl rfl ac) ?_;refine ae 3 6 ?_;refine af.n' 9 rfl (V.V4 t rfl rfl ac) ?_;refine af.n' 10 rfl (V.E' ad (k:=a+m) rfl rfl rfl rfl ac) ?_;refine ae 2 12 ?_;refine af.n' 14 rfl (V.E' ad (k:=a) rfl rfl rfl rfl ac) ?_;refine af.bx 11 15 rfl rfl ?_ ?_;refine Rl ?_;refine af.y' 15 rfl (aw.z' (V.K' ad rfl VF ag.len U) ?_);refine TE λZ d=>?_;rotate_left;refine Qh ?_;refine TE λZ M=>?_;rotate_left;all_goals exact Out.C' s (m,_) ⟨ac,mW VV ((mA U C).trans J)⟩ (by show m<m+1;omega)
 |succ m=>
  have l:(((m+1:Nat):Int)-1)=(m:Int):=ac
  rw[l];have b:=IJ g n Q Y R m am a ac ac i E F N q;unfold eS at b;refine aa 19 ?_;rintro _ _⟨Z,d,rfl,rfl⟩;refine aa 9 ?_;rotate_left;exact Out.C' s (m,_) ⟨ac,mW VV h⟩ (by show m<m+1;omega)
def akN(g n Q:Nat)(l:ab ag)(u:l.length=n)(a b:Nat)(F:a<b)(X:b<=n)(y:n<=1000000)(E:ay)(C:aj)(N:ag->ag->Int)(q:m4 C E N):ar prog 211 [.slice (some ⟨g,0,none⟩) n Q,I (a:Int),I (b:Int),C] [eS g n Q l,E] (λr J=>∃f:ab ag,f.Perm l/\r=.tuple #[]/\J=[eS g n Q f,E]):=by
 unfold eS;have Y:((b:Int)-1)=((b-1:Nat):Int):=ac
 refine aF func211 λW=>?_;refine aa 9 ?_;refine ai.v (V.VX Y rfl rfl ac) ?_;refine aa 4 ?_;refine ah.cq [0] (λy:Nat×Nat×ab ag=>y.2.1<n/\y.2.2.Perm l) (λy=>[(8,I (y.1:Int)),(9,I (y.2.1:Int))]) (λy=>[rows ag.c (.slice (some ⟨g,0,none⟩) n Q) 46 2 y.2.2]) (λy=>y.2.1) (a,b-1,l) ⟨by show b-1<n;omega,hI _⟩ ?_;rintro⟨i,j,Y⟩⟨w,b⟩ K l;dsimp only at w b;refine bh ?_;have R:Y.length=n:=by rw[b.length_eq,u]
 by_cases k:i<j
 .have Z:((j:Int)-1)=((j-1:Nat):Int):=by omega
  have D:((i:Int)+1)=((i+1:Nat):Int):=ac
  obtain⟨x,U⟩:=cl (g:=Y) (k:=i) ac;obtain⟨y,C⟩:=cl (g:=Y) (k:=j) ac;refine aa 13 ?_;refine ah.p' ?_ aC.j.j;refine ae 6 0 ?_;refine af.n' 6 rfl (V.E' ad (k:=j) rfl rfl rfl rfl ac) ?_;refine ae 2 8 ?_;refine af.n' 10 rfl (V.E' ad (k:=i) rfl rfl rfl rfl ac) ?_;refine af.bx 7 11 rfl rfl ?_ ?_;refine Rl ?_;refine Te ?_;refine af.n' 12 rfl (V.E' ad (k:=i) rfl rfl rfl rfl ac) ?_;refine Qq ?_;refine Pw ?_;rotate_left;refine Tn ?_;refine af.n' 12 rfl (V.E' ad (k:=i) rfl rfl rfl rfl ac) ?_;refine Qq ?_;refine Pw ?_;rotate_left;all_goals(refine Out.C' l (i+1,j-1,(Y.set i y).set j x) ?_ (by show j-1<j;omega);exact ⟨by show j-1<n;omega,(mA U C).trans b⟩)
 .clear l;refine aa 14 ?_
  .exact⟨_,_,⟨Y,b,rfl,rfl⟩,VH⟩
def ahW(g n Q:Nat)(l:ab ag)(u:l.length=n)(c am a b q:Nat)(s:Int)(k:am<n)(i:c<=a)(M:a<=am)(h:c<=b)(Y:b<=am)(r:0<=s)(G:s<=1000)(y:n<=1000000)(E:ay)(C:aj)(N:ag->ag->Int)(D:m4 C E N):ar prog 270 [.slice (some ⟨g,0,none⟩) n Q,I (a:Int),I (b:Int),av q 0,C] [eS g n Q l,cells q 3 [I s],E] (λr J=>∃x y:Nat,∃t:Int,c<=x/\x<=am/\c<=y/\y<=am/\s<=t/\t<=s+1/\r=.tuple #[I (x:Int),I (y:Int)]/\J=[eS g n Q l,cells q 3 [I t],E]):=by
 unfold eS;obtain⟨x,U⟩:=cl (g:=l) (k:=a) ac;obtain⟨y,C⟩:=cl (g:=l) (k:=b) ac;have K:=D y x;refine aF func270 λW=>?_;refine aa 8 ?_;refine ah.p' ?_ aC.d'.j.d';refine ae 3 0 ?_;refine af.n' 3 rfl (V.E' ad (k:=b) rfl rfl rfl rfl ac) ?_;refine af.n' 4 rfl (V.K' ad rfl VF ag.len C) ?_;refine ae 2 5 ?_;refine af.n' 7 rfl (V.E' ad (k:=a) rfl rfl rfl rfl ac) ?_;refine af.n' 8 rfl (V.K' ad rfl VF ag.len U) ?_;refine af.y' 9 rfl (aw.Wl K rfl rfl VH ?_);refine au ?_;refine ae 1 10 ?_;refine UR (λK=>?_) λK=>?_;refine aa 21 ?_;rotate_left;refine aa 12 ?_;rotate_left
 .exact⟨_,_,⟨b,a,s+1,h,Y,i,M,ac,ac,rfl,rfl⟩,VH⟩
 .exact⟨_,_,⟨a,b,s,i,M,h,Y,ac,ac,rfl,rfl⟩,VH⟩
def IK(g n Q:Nat)(l:ab ag)(u:l.length=n)(m am a b c q:Nat)(s:Int)(k:am<n)(i:m<=a)(M:a<=am)(h:m<=b)(Y:b<=am)(p:m<=c)(R:c<=am)(j:0<=s)(D:s<=900)(y:n<=1000000)(E:ay)(C:aj)(N:ag->ag->Int)(G:m4 C E N):ar prog 252 [.slice (some ⟨g,0,none⟩) n Q,I (a:Int),I (b:Int),I (c:Int),av q 0,C] [eS g n Q l,cells q 3 [I s],E] (λr J=>∃x:Nat,∃t:Int,m<=x/\x<=am/\s<=t/\t<=s+3/\r=I (x:Int)/\J=[eS g n Q l,cells q 3 [I t],E]):=by
 unfold eS;have w (a b:Nat) (s:Int) (i:m<=a) (M:a<=am) (h:m<=b) (Y:b<=am) (j:0<=s) (D:s<=1000):=ahW g n Q l u m am a b q s k i M h Y j D y E C N G;unfold eS at w;refine aF func252 λW=>?_;refine aa 12 ?_;refine ai.x' rfl (w _ _ _ ?_ ?_ ?_ ?_ ?_ ?_) ?_;iterate 6 exact co
 rintro _ _⟨N,C,n,E,g,z,K,Q,M,rfl,rfl⟩;refine aa 15 ?_;refine ai.x' rfl (w _ _ _ ?_ ?_ ?_ ?_ ?_ ?_) ?_;iterate 6 exact co
 rintro _ _⟨C,K,F,f,k,X,T,o,s,rfl,rfl⟩;refine aa 15 ?_;refine ai.x' rfl (w _ _ _ ?_ ?_ ?_ ?_ ?_ ?_) ?_;iterate 6 exact co
 rintro _ _⟨T,u,E,F,P,v,X,n,i,rfl,rfl⟩;refine aa 16 ?_;refine⟨_,_,⟨_,_,?_,?_,?_,?_,rfl,rfl⟩,VH⟩<;>first|assumption|omega
def akh(g n Q:Nat)(l:ab ag)(u:l.length=n)(c am a q:Nat)(s:Int)(k:am<n)(Z:c+1<=a)(X:a+1<=am)(j:0<=s)(G:s<=900)(y:n<=1000000)(E:ay)(C:aj)(N:ag->ag->Int)(D:m4 C E N):ar prog 251 [.slice (some ⟨g,0,none⟩) n Q,I (a:Int),av q 0,C] [eS g n Q l,cells q 3 [I s],E] (λr J=>∃x:Nat,∃t:Int,c<=x/\x<=am/\s<=t/\t<=s+3/\r=I (x:Int)/\J=[eS g n Q l,cells q 3 [I t],E]):=by
 have R:=IK g n Q l u c am (a-1) a (a+1) q s k ac ac ac ac ac X j G y E C N D;unfold eS at*;have Y:((a:Int)-1)=((a-1:Nat):Int):=ac
 have Z:((a:Int)+1)=((a+1:Nat):Int):=ac
 refine aF func251 λW=>?_;refine aa 9 ?_;refine ai.v (V.VX Y rfl rfl ac) ?_;refine aa 2 ?_;refine ai.v (V.V4 Z rfl rfl ac) ?_;refine aa 3 ?_;rintro _ _⟨Q,T,E,g,z,K,rfl,rfl⟩;refine aa 6 ?_;refine⟨_,_,⟨_,_,?_,?_,?_,?_,rfl,rfl⟩,VH⟩<;>first|assumption|omega
def PB(g n Q:Nat)(l:ab ag)(u:l.length=n)(a b:Nat)(F:a+12<b)(X:b<=n)(m:n<=1000000)(E:ay)(C:aj)(N:ag->ag->Int)(G:m4 C E N):ar prog 210 [.slice (some ⟨g,0,none⟩) n Q,I (a:Int),I (b:Int),C] [eS g n Q l,E] (λr J=>∃x:Nat,∃h:Int,a<=x/\x<=b-1/\r=.tuple #[I (x:Int),I h]/\J=[eS g n Q l,E]):=by
 have R (x y c q:Nat) (s:Int) (K:a<=x) (p:x<=b-1) (v:a<=y) (W:y<=b-1) (i:a<=c) (d:c<=b-1) (j:0<=s) (D:s<=900):=IK g n Q l u a (b-1) x y c q s ac K p v W i d j D m E C N G;have w (x q:Nat) (s:Int) (K:a+1<=x) (p:x+1<=b-1) (j:0<=s) (D:s<=900):=akh g n Q l u a (b-1) x q s ac K p j D m E C N G;unfold eS at*;have f:((b:Int)-(a:Int))=((b-a:Nat):Int):=ac
 obtain⟨k,T⟩:∃k,k=(b-a)/4:=⟨_,rfl⟩
 have Y:(((b-a:Nat):Int)/4)=(k:Int):=ac
 have p:((a:Int)+(k:Int)*1)=((a+k:Nat):Int):=ac
 have h:((a:Int)+(k:Int)*2)=((a+2*k:Nat):Int):=ac
 have j:((a:Int)+(k:Int)*3)=((a+3*k:Nat):Int):=ac
 refine aF func210 λW=>?_;refine aa 10 ?_;refine ai.v (V.VX f rfl rfl ac) ?_;refine aq 5 λP=>?_;refine aa 7 ?_;refine ai.v (V.mul) ?_;refine aa 9 ?_;refine ai.v (V.mul) ?_;refine aa 9 ?_;refine ai.v (V.mul) ?_;refine aa 4 ?_;rw[Y,p,h,j];refine ah.mt [0,1,2,3,11] (λy:Nat×Int=>a<=y.1/\y.1<=b-1) (λy=>[(13,I (y.1:Int))]) (λy=>[cells P 3 [I y.2]]) (s:=[cells P 3 [I 0]]) ?_ ?_
 .intro W c;refine aa 14 ?_;refine ah.cs (λu=>?_) (λu=>?_);refine aa 5 ?_;refine ai.x' rfl (w _ _ _ ?_ ?_ ?_ ?_) ?_;iterate 4 exact co
  rintro _ _⟨Q,q,z,K,E,M,rfl,rfl⟩;refine aa 9 ?_;refine ai.x' rfl (w _ _ _ ?_ ?_ ?_ ?_) ?_;iterate 4 exact co
  rintro _ _⟨D,G,f,k,X,T,rfl,rfl⟩;refine aa 8 ?_;refine ai.x' rfl (w _ _ _ ?_ ?_ ?_ ?_) ?_;iterate 4 exact co
  rintro _ _⟨g,d,L,t,F,P,rfl,rfl⟩;refine aa 10 ?_;refine ai.x' rfl (R _ _ _ _ _ ?_ ?_ ?_ ?_ ?_ ?_ ?_ ?_) ?_;iterate 8 exact co
  rintro _ _⟨d,W,n,i,E,f,rfl,rfl⟩;refine aa 3 ?_;rotate_left;refine aa 8 ?_;refine ai.x' rfl (R _ _ _ _ _ ?_ ?_ ?_ ?_ ?_ ?_ ?_ ?_) ?_;iterate 8 exact co
  rintro _ _⟨o,L,t,P,r,j,rfl,rfl⟩;refine aa 3 ?_;rotate_left;all_goals(refine Out.C' c (_,_) ?_ trivial;exact ⟨by first|assumption|omega,by first|assumption|omega⟩)
 .rintro⟨x,t⟩⟨g,z⟩;dsimp only at g z;refine bh ?_;refine aa 12 ?_;refine ah.cs (λQ=>?_) (λQ=>?_);refine aa 10 ?_;rotate_left;refine Vy (λq=>?_) λq=>?_;refine aa 10 ?_;rotate_left;refine aa 10 ?_;rotate_left;all_goals(refine⟨_,_,⟨_,_,?_,?_,rfl,rfl⟩,VH⟩<;>first|assumption|omega)
end Go.Proofs.YteogojgnkjegmaaGreatDoor
namespace Go.az
open Go Go.Proofs Go.RowKit Go.Sort Go.Shelf
section
variable{P:b1}{Y:Ren}
def IL(T:ab (ab aS)):T.flatMap fy=T.map encStr:=by
 induction T with
 |nil=>rfl
 |cons k T X=>rw[fW,eE,X];rfl
def al3(L:Lays.n190 P Y)(E g q:Nat)(T:ab (ab aS))(u:T.length<4611686018427387904):ar P (Y.f 190) [.slice (some ⟨g,0,none⟩) T.length q] [rows fy (.slice (some ⟨g,0,none⟩) T.length q) E 1 T] (λr J=>r=.tuple #[]/\J=[rows fy (.slice (some ⟨g,0,none⟩) T.length q) E 1 (T.mergeSort λx y=>decide (x<=y))]):=ar.of λw W=>by
 have a:=W.gq _ (fF.2 rfl);rw[fM,i0,IL]at a;rcases a.2 with⟨j,_⟩|⟨k,i,o,j,_,G,t,d,F,R⟩
 .cases j
 .simp only[sb,fj,xS]at j;obtain⟨⟨rfl,_⟩,_,rfl⟩:=j;have h:g<w.heap.size:=(pT.1 G).1;have m:Holds encStr w g 0 T.toArray:=holds_of_block G (by simpa using R);refine(Any.slices_Sort_string L g 0 q T w m h u).mono ?_;rintro e D⟨rfl,n,U,rfl⟩;refine⟨_,_,rfl,⟨rfl,rfl⟩,?_⟩;have Q:=ownsRow_sorted (n:=n) (os:=U) (ts:=T.mergeSort λx y=>decide (x<=y)) VK (cG g) G t d F;have Z:=grownBy_sorted (w:=w) (g:=g) (n:=n) (os:=U) (T.mergeSort λx y=>decide (x<=y)).toArray;refine⟨λe j=>?_,?_,λb X=>.inl ?_,λb X c=>?_,?_,?_,?_,?_,?_⟩
  .obtain rfl:=fF.1 j;rw[fM,i0,IL];simpa using Q
  .have:=W.nodup;simpa[br,fM,iA]using this
  .simpa[br,fM,iA]using X
  .refine Z.5 b X ?_;intro e;obtain rfl:=gs e;exact c (by simp[br,fM,iA,Value.ownBlock])
  .exact Z.4
  .exact Z.1
  .exact Z.2
  .exact Z.3
  .exact ks _ _
def ajL(L:Lays.n190 P Y)(F:ab ay):ar P (Y.f 190) [.slice none 0 0] F (λr J=>r=.tuple #[]/\J=F):=ar.of λw W=>by refine(Any.slices_Sort_string_none L none 0 w).mono ?_;rintro e D⟨rfl,rfl⟩;exact⟨_,_,rfl,⟨rfl,rfl⟩,W.start⟩
end
end Go.az
