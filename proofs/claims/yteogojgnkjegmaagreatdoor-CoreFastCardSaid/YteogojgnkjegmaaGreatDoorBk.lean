/-
 Part of the proof.
-/
import Derived.Test.YteogojgnkjegmaaGreatDoorBb
set_option linter.all false
set_option maxRecDepth 8000
set_option maxHeartbeats 8000000
namespace Go.Proofs.YteogojgnkjegmaaGreatDoor
open Go.az Go.Proofs.Tryz
variable[Go.az.b5]
variable{Y:ag->aT aO}{U:ab (ag×Int)}{n:Int}
inductive ou(c:bo):Nat->bo->Prop where
 |nil:ou c 0 c
 |step {j:Nat} {gj gN:bo} {e:Int} (h:ou c j gj) (cB:lU gj 0 e gN):ou c (j+1) gN
def ou.head{c d:bo}{j:Nat}(h:ou c (j+1) d):∃p e,lU c 0 e p/\ou p j d:=by
 generalize v:j+1=m at h;induction h generalizing j with
 |nil=>cases v
 |@step i p u e h f X=>
  obtain rfl:i=j:=ac
  cases i with
  |zero=>
   cases h with
   |nil=>exact⟨u,e,f,ou.nil⟩
  |succ i=>
   obtain⟨b,j,N,M⟩:=X rfl;exact⟨b,j,N,M.step f⟩
def ou.cu{c d:bo}{j k:Nat}(h:cC k c)(f:ou c j d):cC (k+1042300*j) d:=by
 induction f with
 |nil=>exact h.mono ac
 |step _ f X=>exact(f.cu X).mono ac
section
variable{R:Nat}{x:ag}{c:aO}{J:hq}{q Z:bo}{O:ab Nat}
def Lt(C:l1 n R Y x c)(w:∀i∈O,(i:Int)<n/\i≠R)(l:O.Nodup)(z:O.length<=6):∀(G dn:ab Nat) (st:Nat->Nat) (q:bo),O=dn++G->(∀i,i∉dn->st i=0)->jg n R Y x c J U ⟨st,some (lX (λ_=>false) R,1),G.map .P++dn.map .A⟩ q->ou q G.length Z->∃k,jg n R Y x c J U ⟨k,some (lX (λ_=>false) R,1),O.map .A⟩ Z
 |[],dn,st,q,a,N,h,f=>by
  cases f with
  |nil=>
   rw[db]at a;subst a;exact⟨st,h⟩
 |i::G,dn,st,q,a,N,h,f=>by
  obtain⟨g,e,r,d⟩:=f.head;have am:=w i My;have v:i∉dn:=by rw[a]at l;intro D;exact(gr.1 l).2.2 i D i er rfl
  have K:jg n R Y x c J U ⟨st,some (lX (λ_=>false) R,1),.P i::(G.map .P++dn.map .A)⟩ q:=h;have u:dn.length+(G.length+1)<=6:=by rw[a]at z;simpa using z
  have E:=KQ C K rfl am.1 am.2 (N i v) VG r;refine Lt C w l z G (dn++[i]) (lY st i 1) g My (λj v=>?_) ?_ d
  .simp only[eh,fF,nt]at v;unfold lY;rw[aG v.2];exact N j v.1
  .have e:G.map Tok.P++(dn++[i]).map Tok.A=G.map Tok.P++dn.map Tok.A++[Tok.A i]:=by simp
   rw[e];exact E
def Lu(C:l1 n R Y x c):∀(D:ab Nat) (E:Nat->Bool) (k:Int) (st:Nat->Nat) (q:bo),D≠[]->D.Nodup->(∀i∈D,(i:Int)<n/\i≠R)->D.length<=6->(∀i∈D,E i=false)->k+(D.length:Int)=2*cg n->jg n R Y x c J U ⟨st,some (E,k),D.map .A⟩ q->ou q D.length Z->Z.told.map ll=U++[(x,(ic J c.cv).1.gR)]
 |[],E,k,st,q,N,_,_,_,_,_,_,_=>absurd rfl N
 |i::D,E,k,st,q,_,s,w,z,l,T,h,f=>by
  obtain⟨G,e,P,g⟩:=f.head;have am:=w i er;have K:jg n R Y x c J U ⟨st,some (E,k),.A i::D.map .A⟩ q:=h;rw[df]at z T;obtain⟨_,z⟩:=Bq C K rfl am.1 am.2 VG P;obtain⟨W,d⟩:=z _ _ rfl (l i er);rw[ki]at s;cases D with
  |nil=>
   cases g with
   |nil=>
    have:=(d (by simp at T;omega)).told;exact this
  |cons j D=>
   rw[df]at T;refine Lu C (j::D) (lX E i) (k+1) st G VK s.2 (λa N=>w a (e0 _ N)) ac (λa N=>?_) (by rw[df];omega) (W ac) g;have L:a≠i:=λe=>s.1 (e▸N);unfold lX;simp[L,l a (e0 _ N)]
end
def Fv{o T:Type}(g:o->T):∀(l:ab o) (k:Nat),(l.map g).eraseIdx k=(l.eraseIdx k).map g
 |[],k=>by cases k<;>rfl
 |a::l,0=>rfl
 |a::l,k+1=>by rw[eE,CF,CF,eE,Fv g l k]
def amu{q g G r:bo}{X k e:Int}{d:bF}{x:ag}{m:Nat}(h:rY n Y q)(E:lT q X d x 0 g)(T:0<=k/\k<2*cg n)(u:qZ g k e G)(F:(m:Int)=2*cg n-1)(D:ou G m r):r.told.length=q.told.length/\r.bi.length=m/\∀a,ou r m a->∃v,a.told.map ll=q.told.map ll++[(x,v)]:=by
 rcases KU h E with⟨W,_⟩|⟨_,R,b,L,s,k1,C,Q,f⟩
 .exact absurd rfl W
 have i:=h.cN;have z:=Bs Q.ep;have w:n=2*cg n+1/\1<=cg n/\cg n<=3:=by rcases i with rfl|rfl|rfl<;>decide
 generalize Yc:(g7 n R)=Fw at*;have o:k.toNat<Fw.length:=ac
 have j:jg n R Y x (jC s.ax.p d x) s.M.s (q.told.map ll) ⟨λ_=>0,some (lX (λ_=>false) R,1),(Fw.eraseIdx k.toNat).map .P⟩ G:=by
  have l:=λt (K:cC t g)=>qZ.cu K u;rcases u with⟨N,_⟩|⟨y,_,_,rfl⟩
  .exfalso;unfold iV at N;rw[aJ T.1,f.bi,List.getElem?_eq_none_iff]at N;simp at N;omega
  .refine⟨f.aM,?_,f.cut,?_,f.vH,f.ax,f.told⟩
   .obtain⟨t,K⟩:=f.y;exact⟨_,l t K⟩
   .show g.bi.eraseIdx k.toNat=_;rw[f.bi,Fv,Fv]
 generalize h:Fw.eraseIdx k.toNat=O at j;have g:O.length=m:=by rw[<-h,List.length_eraseIdx_of_lt o];omega
 have E:∀i∈O,(i:Int)<n/\i≠R:=λi am=>by
  have:i∈g7 n R:=by rw[Yc];rw[<-h]at am;exact uA am
  exact(za ac).1 this
 have l:O.Nodup:=by rw[<-h,<-Yc];exact(Br n R).sublist (wx ..)
 obtain⟨k,z⟩:=Lt Q E l ac O [] (λ_=>0) G rfl (λ_ _=>rfl) (by rw[lq,db];exact j) (by rw[g];exact D);have N:O≠[]:=by intro e;rw[e]at g;simp at g;omega
 refine⟨?_,?_,?_⟩
 .have:=c7 List.length z.told;simpa using this
 .rw[z.bi,dZ,dZ];exact g
 .intro a m;refine⟨_,Lu Q O _ 1 k r N l E ac (λi am=>?_) ac z (by rw[g];exact m)⟩;unfold lX;simp[(E i am).2]
end Go.Proofs.YteogojgnkjegmaaGreatDoor
namespace Go.Proofs.YteogojgnkjegmaaGreatDoor
open Go.az Go.Proofs.Tryz
variable[Go.az.b5]
def Vc(b:Nat)(L:fI)(c:bo)(i:Int)(k:Nat)(h:ClP k c)(u:k<=100000000000):ar prog 20 [av b 0,I i] [aK (bE b L c)] (λr J=>∃F d e,qZ c i e d/\r=I e/\J=[aK (bE b F d)]):=by
 have Y:=ar.XZ (Q:=λz r=>qZ c i z.2.2 z.2.1/\r=I z.2.2) (T:=λz:fI×bo×Int=>bE b z.1 z.2.1) (ar.mono (Kq b L c i k h u) UM)
 exact Mo
def Lv(b:Nat)(L:fI)(c:bo)(i:Int)(k:Nat)(h:cC k c)(u:k<=90000000000):ar prog 21 [av b 0,I i] [aK (bE b L c)] (λr J=>∃F d e,lU c i e d/\r=I e/\J=[aK (bE b F d)]):=by
 have Y:=ar.XZ (Q:=λz r=>lU c i z.2.2 z.2.1/\r=I z.2.2) (T:=λz:fI×bo×Int=>bE b z.1 z.2.1) (ar.mono (ET b L c i k h u) UM)
 exact Mo
def agv(b:Nat)(L:fI)(c:bo)(k:Nat)(h:ClP k c):ar prog 22 [av b 0] [aK (bE b L c)] (λr J=>∃n Q,r=.slice n c.bi.length Q/\J=[aK (bE b L c)]):=by refine ar.eqv aP.aK (Ty b L c k h) ?_;rintro v J⟨n,Q,Y,rfl⟩;exact⟨_,⟨n,Q,Y,rfl⟩,aP.aK.symm⟩
def Fx(b:Nat)(T:pJ)(u:kb):aP [aK (iW b T u)] [cells b 41 (jF.c ⟨av T.e2 0,u.n,.map (some T.kH),.map (some T.kv),u.cV⟩),bz b9 pI T.kH u.jG,bz b9 fg T.kv u.w,aK (bE T.e2 T.L u.c)]:=by refine aP.aK.trans ?_;unfold iW;exact(aP.refl _).append aP.aK.symm
def Lw(n:Int)(y:n=3\/n=5\/n=7):ar prog 10 [I n] [cM] (λr J=>∃(b:Nat) (T:pJ) (u:kb),(lV n u.c/\u.n=n/\u.jG=[]/\u.cV=0)/\r=av b 0/\J=[cells b 41 (jF.c ⟨av T.e2 0,u.n,.map (some T.kH),.map (some T.kv),u.cV⟩),bz b9 pI T.kH u.jG,bz b9 fg T.kv u.w,aK (bE T.e2 T.L u.c)]):=by refine ar.eqv (aP.refl _) (Bu n y) ?_;rintro r J⟨b,T,u,Y,Z,rfl⟩;exact⟨_,⟨b,T,u,Y,Z,rfl⟩,Fx b T u⟩
def Lx(p:Nat)(T:pJ)(u:kb)(a:ea)(k:Nat)(h:cC k u.c)(E:k<=70000000000)(f:0<=u.cV/\u.cV<=1000000)(Q:0<=a.rj/\a.rj<256):ar prog 11 [av p 0,A a.c] [cells p 41 (jF.c ⟨av T.e2 0,u.n,.map (some T.kH),.map (some T.kv),u.cV⟩),bz b9 pI T.kH u.jG,bz b9 fg T.kv u.w,aK (bE T.e2 T.L u.c)] (λr J=>∃(M:pJ) (q:kb),sT u a q/\r=.tuple #[]/\J=[cells p 41 (jF.c ⟨av M.e2 0,q.n,.map (some M.kH),.map (some M.kv),q.cV⟩),bz b9 pI M.kH q.jG,bz b9 fg M.kv q.w,aK (bE M.e2 M.L q.c)]):=by refine ar.eqv (Fx p T u).symm (Bv p T u a k h E f Q) ?_;rintro r J⟨M,q,Y,Z,rfl⟩;exact⟨_,⟨M,q,Y,Z,rfl⟩,Fx p M q⟩
def pH.abC{k:Nat}{c d:bo}{W:Int}(h:cC k c)(K:0<=W)(E:pH c W d):cC (k+1042300*W.toNat) d:=by
 obtain⟨j,v,Z,_⟩:=E;have D:j<=W.toNat:=ac
 have m:=Nat.mul_le_mul_left 1042300 D;exact(v.cu h).mono ac
def amj(n:Int)(e:ay)(cK:aT Go.Addr)(Ye b off:Nat)(N:ab ea)(Yf:Int)(d:bF)(P:Int)(cE:r0 N)(du:d.Key.length<=140737488351232/\d.Value.length<=140737488351232)(ep:Rd e cK N.length b off 11 (N.map ea.c)):ar prog 6 [I n,.slice cK N.length Ye,I Yf,A d.c,I P] [e,cM] (λr Yc=>r=B true/\Yc=[e,cM]):=by
 have dd:=zb;have dA:=y7 n e cK Ye b off N (λx b6=>(cE x b6).1) ep;refine aF func6 λW=>?_;generalize br _=D;refine aq 2 λsy=>?_;refine aa 20 ?_;rintro _ _⟨Zm,Yk,rfl,rfl⟩;refine LF (λYu=>?_) λYu=>?_;exact aQ 38;refine VE (λYJ=>?_) λYJ=>?_;exact aQ 33;refine RJ (λYS=>?_) λYS=>?_;exact aQ 29;refine VE (λYT=>?_) λYT=>?_;exact aQ 24;refine OK (λYU=>?_) λYU=>?_;exact aQ 14;refine Si (λYQ=>?_) λYQ=>?_;exact aQ 8;refine aa 2 ?_;have Yi:=Yk Yu;have X:=Yi.n;have gy:=Lw n X;refine aa 4 ?_;rintro v4 BC⟨YA,⟨YX,⟨YG,⟨⟨Q,Yj,Yk,Ym⟩,rfl,rfl⟩⟩⟩⟩;refine aa 13 ?_;have Yh:N.length<=10:=ac
 refine ah.cq [11,8,4,2,0] (λy:Nat×pJ×kb=>y.1<=N.length/\cC (2000+1200000000*y.1) y.2.2.c/\(0<=y.2.2.cV/\y.2.2.cV<=(y.1:Int))/\∃dm,rY n dm y.2.2.c) (λy=>[(57,.slice cK N.length Ye),(58,I (N.length:Int)),(59,I (y.1:Int))]) (λy=>[cells YA 41 (jF.c ⟨av y.2.1.e2 0,y.2.2.n,.map (some y.2.1.kH),.map (some y.2.1.kv),y.2.2.cV⟩),bz b9 pI y.2.1.kH y.2.2.jG,bz b9 fg y.2.1.kv y.2.2.w,aK (bE y.2.1.e2 y.2.1.L y.2.2.c)]) (λy=>N.length-y.1) (0,YX,YG) ⟨cG _,(Q.y X).mono ac,⟨by show 0<=YG.cV;omega,by show YG.cV<=0;omega⟩,_,(KY X Q).1⟩ ?_;rintro⟨k,T,u⟩⟨ca,jv,Yq,dm,iP⟩ K h;dsimp only at ca jv Yq iP;refine bh ?_;by_cases Yg:k<N.length
 .obtain⟨a,eJ⟩:=cl Yg;have YB:=cE a (im eJ);by_cases G:a.Kind=0
  .have fE:bb .eql a.Kind 0=some true:=by simp[bb,G]
   have lF:=Lx YA T u a _ jv ac ac YB.2;refine aq 15 λYx=>?_;refine aa 7 ?_;refine ai.v (V.cmp rfl rfl fE) ?_;refine aa 8 ?_;rintro _ _⟨J,Y,Yj,rfl,rfl⟩;refine aa 8 ?_;rotate_left;have YY:sT u a Y:=VV
   obtain⟨o,YK,Zn,Yz,Zo⟩:=YY;have U:∃x e,lT u.c a.a1 a.cv x e Y.c:=by
    generalize Y.c=q at YK;cases YK with
    |sub _ C=>exact⟨_,_,C⟩
    |none C=>omega
    |_=>omega
   obtain⟨ad1,c5,U⟩:=U;have p:=U.cu jv;have YO:=E0 J.e2 J.L Y.c 1000 _ p ac ac;refine au ?_;rintro _ _⟨YM,YL,Zp,Q,rfl,rfl⟩;refine aa 8 ?_;all_goals
    have Yn:pH Y.c 1000 YL:=VV
    refine Out.C' h (k+1,{J with L:=YM},{Y with c:=YL}) ⟨Rh,?_,?_,?_⟩ Uy
    .exact(Yn.abC p ac).mono (by show _+1042300*(1000:Int).toNat<=2000+1200000000*(k+1);have:(1000:Int).toNat=1000:=rfl;omega)
    .show 0<=Y.cV/\Y.cV<=((k+1:Nat):Int);omega
    .rcases KV iP U ac Yn with⟨_,C,_⟩|⟨_,_,_,_,_,_,_,_,_,C,_⟩<;>exact⟨_,C⟩
  .have fE:bb .eql a.Kind 0=some false:=by simp[bb,G]
   refine aq 15 λYx=>?_;refine aa 7 ?_;refine ai.v (V.cmp rfl rfl fE) ?_;refine aa 10 ?_;rotate_left;refine Out.C' h (k+1,T,u) ?_ Uy;exact ⟨Rh,jv.mono ac,⟨Yq.1,by show u.cV<=((k+1:Nat):Int);omega⟩,dm,iP⟩
 .obtain rfl:k=N.length:=by omega
  clear h;have eo:=E1 T.e2 T.L u.c _ jv.toClP ac;have YN:=Kz T.e2 T.L u.c Yf d _ jv ac;refine aa 19 ?_;rintro _ _⟨Zh,Y8,rfl,rfl⟩;refine aa 5 ?_;refine ah.mt [14,11,8,4,2,0] (λz:Nat×fI×bo×ag×Int=>lT u.c Yf d z.2.2.2.1 z.2.2.2.2 z.2.2.1) (λz=>[(15,av z.1 0),(16,I z.2.2.2.2)]) (λz=>[cells z.1 46 z.2.2.2.1.c,aK (bE T.e2 z.2.1 z.2.2.1)]) (s:=[aK (bE T.e2 T.L u.c)]) ?_ ?_
  .intro K h;refine bh ?_;refine ah.p' ?_ aC.d'.j.j.j.d'.j.j;refine ae 6 0 ?_;refine af.bx 6 10 rfl rfl ?_ ?_;refine aw.V0 rfl (YN) VH ?_;rintro _ _⟨Zi,Zj,Zq,Zr,Q,rfl,rfl⟩;refine aa 2 ?_;refine ae 3 7 ?_;refine dr 10 λYs=>?_;refine ae 2 11 ?_;refine au ?_;rotate_left;refine O.Q' ad (λYs=>?_);refine au ?_;refine af.x' 6 rfl rfl (YN) ?_;rintro _ _⟨Y4,Y5,Y9,Za,Yt,rfl,rfl⟩;refine aa 2 ?_;refine ae 3 7 ?_;refine ae 2 11 ?_;refine au ?_;rotate_left;all_goals exact Out.C' h (_,_,_,_,_) VV trivial
  rintro⟨Ys,fr,gj,x,fE⟩ U;dsimp only at U;refine bh ?_;by_cases dg:fE=0
  .subst dg;have c0:=Ha n ac;have dq:n=2*cg n+1/\1<=cg n/\cg n<=3:=by rcases X with rfl|rfl|rfl<;>decide
   have p:=U.cu jv;have YE:=Vc T.e2 fr gj (P%(2*cg n)) _ p.toClP ac;have G:0<=P%(2*cg n):=Int.emod_nonneg _ ac;have Yr:P%(2*cg n)<2*cg n:=Ip _ ac;generalize YD:cg n=f at*;refine aa 21 ?_;refine ai.v (V.mul) ?_;refine ai.v (V.rem) ?_;refine aa 11 ?_;rintro _ _⟨YH,s,YV,Q,rfl,rfl⟩;refine aa 10 ?_;have Z:qZ gj (P%(2*f)) YV s:=VV
   have Yp:=Z.cu p;obtain⟨m,dI⟩:∃m:Nat,(m:Int)=2*f-1:=⟨(2*f-1).toNat,ac⟩
   have Yl:(m:Int)=2*cg n-1:=ac
   have YW:=λzq=>amu (r:=zq) iP U ⟨G,by rw[YD];exact Yr⟩ Z Yl;refine ah.cq [17,15,14,11] (λy:Nat×fI×bo=>y.1<=m/\ou s y.1 y.2.2) (λy=>[(19,I (y.1:Int))]) (λy=>[aK (bE T.e2 y.2.1 y.2.2)]) (λy=>m-y.1) (0,YH,s) ⟨cG _,.nil⟩ ?_;rintro⟨j,gG,gN⟩⟨dK,R⟩ K h;dsimp only at dK R;refine bh ?_;have YC:=R.cu Yp;by_cases Yv:j<m
   .have YZ:=Lv T.e2 gG gN 0 _ YC ac;refine aa 5 ?_;refine ai.v (V.mul) ?_;refine aa 15 ?_;rintro _ _⟨Zb,Zc,Zk,Yj,rfl,rfl⟩;refine aa 9 ?_;rotate_left;all_goals(refine Out.C' h (j+1,_,_) ?_ (by show m-(j+1)<m-j;omega);exact ⟨by show j+1<=m;omega,R.step VV⟩)
   obtain rfl:j=m:=ac
   clear h;obtain⟨md,jZ,lQ⟩:=YW gN R;have Y0:=E1 T.e2 gG gN _ YC.toClP ac;have Y1:=agv T.e2 gG gN _ YC.toClP;rw[md]at Y0;rw[jZ]at Y1;have Yy:bb .neq (u.c.told.length:Int) (u.c.told.length:Int)=some false:=RD
   have Y2:bb .neq (j:Int) (2*f-1)=some false:=by simp[bb,dI]
   refine aa 5 ?_;refine ai.v (V.mul) ?_;refine aa 18 ?_;rintro _ _⟨Zd,Y6,rfl,rfl⟩;refine aa 3 ?_;refine ai.v (V.cmp rfl rfl Yy) ?_;refine aa 6 ?_;rintro _ _⟨Ze,Y7,rfl,rfl⟩;refine aa 3 ?_;refine ai.v (V.mul) ?_;refine au ?_;refine ai.v (V.cmp rfl rfl Y2) ?_;refine aa 13 ?_;refine ah.cq [17,15,14,11] (λy:Nat×fI×bo=>y.1<=j/\ou gN y.1 y.2.2) (λy=>[(20,I (y.1:Int))]) (λy=>[aK (bE T.e2 y.2.1 y.2.2)]) (λy=>j-y.1) (0,gG,gN) ⟨cG _,.nil⟩ ?_;rintro⟨i,rZ,F⟩⟨am,E⟩ K h;dsimp only at am E;refine bh ?_;have YI:=E.cu YC;by_cases Yv:i<j
   .have YZ:=Lv T.e2 rZ F 0 _ YI ac;refine aa 5 ?_;refine ai.v (V.mul) ?_;refine aa 15 ?_;rintro _ _⟨Zf,Zg,Zl,Yj,rfl,rfl⟩;refine aa 9 ?_;rotate_left;all_goals(refine Out.C' h (i+1,_,_) ?_ (by show j-(i+1)<j-i;omega);exact ⟨by show i+1<=j;omega,E.step VV⟩)
   obtain rfl:i=j:=ac
   clear h;obtain⟨v,M⟩:=lQ F E;have Yw:F.told.length=u.c.told.length+1:=by have:=c7 List.length M;simpa using this
   obtain⟨t,cB⟩:=cl (g:=F.told) (k:=u.c.told.length) ac;have Y3:t.t.Item=x:=by
    have C:(F.told.map ll)[u.c.told.length]?=some (ll t):=by rw[h5,cB];rfl
    rw[M,iC VK]at C;simp[ll]at C;exact C.1.symm
   have Zs:=E1 T.e2 rZ F _ YI.toClP ac;have YF:=YI.told;refine aa 5 ?_;refine ai.v (V.mul) ?_;refine aa 17 ?_;rintro _ _⟨YR,YP,rfl,rfl⟩;refine aa 4 ?_;have k0:bb .eql (F.told.length:Int) ((u.c.told.length:Int)+1)=some true:=by simp[bb,Yw]
   have lJ (q:Nat):dk prog (q+2) 46 (A t.t.Item.c) (A x.c) true:=by have:=ag.Y' t.t.Item x q;rw[Y3]at this⊢;simpa using this
   refine ah.form (f:=eZ.c) (v:=.slice YR F.told.length YP) (l:=F.told) VF (λC bW=>absurd cB (by rw[bW];simp)) (λg Yo dO=>?_);injection dO with hh lL v3
   subst hh v3;refine ah.W3 (bg:=bE T.e2 rZ F) ?_;unfold bE;refine bh ?_;refine au ?_;refine ah.p' ?_ aC.d'.d'.d'.d'.d'.d'.j.j.d'.d'.d'.j.d'.d'.d'.d';refine ae 4 0 ?_;refine af.n' 4 rfl (V.cmp rfl rfl k0) ?_;refine ae 3 5 ?_;refine af.n' 8 rfl (V.E' ad rfl rfl) ?_;refine ae 2 9 ?_;refine af.n' 11 rfl (V.WY ad (k:=u.c.told.length) (o:=0) (show some (av g (u.c.told.length*8))=some (av g (0+u.c.told.length*8+0)) by rw[h4,hj]) VF eZ.WO cB (c:=t.t.Item.c) (t:=⟨rfl⟩)) ?_;refine ae 1 12 ?_;refine af.n' 13 rfl (V.eq (lJ _)) ?_;refine ae 2 14 ?_;exact aQ 4
  .have c5:bb .neq fE 0=some true:=by simp[bb,dg]
   refine ah.W3 (bg:=bE T.e2 fr gj) ?_;unfold bE;refine bh ?_;refine aa 4 ?_;refine ai.v (V.cmp rfl rfl c5) ?_;exact aQ 11
end Go.Proofs.YteogojgnkjegmaaGreatDoor
