/-
 Part of the proof.
-/
import Derived.Test.YteogojgnkjegmaaGreatDoorAs
set_option linter.all false
set_option maxRecDepth 8000
set_option maxHeartbeats 8000000
namespace Go.Proofs.YteogojgnkjegmaaGreatDoor
open Go.az Go.Proofs.Tryz
structure alG where
 i:Nat
 v:aj
 l:ab bw
 cV:n7
def amc(b:Nat)(n E:Int)(p m:Nat)(v:aj)(t:Int)(l:ab bw)(P:n7)(x:ag)(s:aT Go.Addr)(Q U off:Nat)(e:ay)(o:Rd e s 1 U off 2 ([x].map ag.c))(F:l.length<=1000):ar prog 184 [av b 0,.slice s 1 Q] (jx b n E p m v t l P++[e]) (λr J=>∃z,r=.tuple #[]/\J=jx b n E p m z t (iN x l) (fm P x)++[e]):=by
 have Y:=kk (f:=ag.c) (g:=[x]) (k:=0) rfl;unfold jx;refine bh ?_;refine aF func184 λW=>?_;refine aa 18 ?_;refine ah.cq [9,8,0] (λy:alG=>(y.i=0/\y.l=l/\y.cV=P)\/(y.i=1/\y.l=iN x l/\y.cV=fm P x)) (λy=>[(10,I (y.i:Int))]) (λy=>[cells p 254 (lz.c ⟨y.v,t⟩),rows bw.c y.v 271 4 y.l,bz (λx:ag=>A x.c) (λn:Int=>I n) m y.cV]) (λy=>1-y.i) ⟨0,v,l,P⟩ (.inl ⟨rfl,rfl,rfl⟩) ?_;rintro⟨i,v,L,M⟩ Z K h;dsimp only at Z;refine bh ?_;rcases Z with⟨rfl,rfl,rfl⟩|⟨rfl,rfl,rfl⟩
 .have C (g:Nat):=Iz p v t L (rows ag.c (.slice (some ⟨g,0,none⟩) 1 1) 46 2 [x]) (some ⟨g,0,none⟩) 1 g 0 [x] (Rd.rows (l:=[x]) ag.len VK) ac VK;change∀g,ar _ _ _ _ (λr J=>∃z,r=_/\J=fQ p z t (iN x L)++_)at C;unfold fQ at C;dsimp only[List.cons_append,List.nil_append]at C;refine aa 14 ?_;refine ai.v (V.Wb ad (k:=0) rfl o Y) ?_;refine aq 0 λa=>?_;refine aa 4 ?_;refine ah.p' ?_ aC.j.d'.j.j.j.d';refine ae 5 0 ?_;refine af.y' 5 rfl (aw.WS (l:=M) (k:=x) (aU:=λn:Int=>I n) cw g8 rfl rfl VJ ?_);refine aa 3 ?_;refine ah.p' ?_ aC.j.d'.j.j.j.d';refine ae 5 0 ?_;refine af.y' 5 rfl (O.V' ad ag.c [x] rfl (bP.agg rfl bP.nil) rfl rfl (λY=>?_));refine au ?_;refine af.x' 6 rfl rfl (C _) ?_;rintro _ _⟨N,rfl,rfl⟩;refine aa 9 ?_;all_goals exact Out.C' h ⟨1,_,iN x L,fm M x⟩ (.inr ⟨rfl,rfl,rfl⟩) (by show 1-1<1-0;omega)
 .exact aQ 12
def JB{a s:bw}{x:ag}{t:Int}{l:ab bw}(w:mz t l)(h:s∈jw a (iN x l)):s=a\/s∈l:=by
 rcases cQ.1 ((yG _ _).mem_iff.1 h)with h|h
 .exact .inl h
 .rw[AE w.m3]at h;exact .inr (IG.1 h).1
end Go.Proofs.YteogojgnkjegmaaGreatDoor
namespace Go.Proofs.YteogojgnkjegmaaGreatDoor
open Go.az Go.Proofs.Tryz
variable[Go.az.b5]
structure eI(bB:Type) where
 p:Nat
 q:Nat
 v:bB
section
variable{bB:Type}
abbrev di:eI bB->aj:=λe=>av e.p 0
def fA(b3:eI bB->ab ay)(l:ab (ag×eI bB)):ay:=aK (l.flatMap λy=>b3 y.2)
def Ep{T:Type}:∀(l:ab (ag×T)) (k:ag) (v:T),(bA l k v).Perm ((k,v)::fm l k)
 |[],k,v=>hI _
 |y::l,k,v=>by
  rw[lB,uY];split
  .exact hI _
  .exact((Ep l k v).cons _).trans (hV ..)
def Er{T:Type}:∀{l:ab (ag×T)} {k:ag} {v:T},aZ l k=some v->bA l k v=l
 |[],k,v,h=>MD
 |y::l,k,v,h=>by
  rw[kE]at h;rw[lB];split
  .rename_i e;rw[aJ e]at h;obtain⟨a,b⟩:=y;simp only at e h;rw[e,gs h]
  .rename_i e;rw[aG e]at h;rw[Er h]
def Es(b3:eI bB->ab ay)(l:ab (ag×eI bB))(k:ag)(e:eI bB):aP [fA b3 (bA l k e)] (b3 e++[fA b3 (fm l k)]):=by unfold fA;refine aP.aK.trans ((aP.We ((Ep l k e).flatMap_right _)).trans ?_);rw[fW];exact(aP.refl (b3 e)).append aP.aK.symm
def yV(b3:eI bB->ab ay){l:ab (ag×eI bB)}{k:ag}{e:eI bB}(h:aZ l k=some e):aP [fA b3 l] (b3 e++[fA b3 (fm l k)]):=by have:=Es b3 l k e;rwa[Er h]at this
def JC(b3:eI bB->ab ay):aP [fA b3 []] []:=aP.aK
def ahf{T o:Type}(f:T->ab o){l m:ab T}(h:l.Sublist m):(l.flatMap f).Sublist (m.flatMap f):=by
 induction h with
 |slnil=>exact vR _
 |cons a _ X=>rw[fW];exact X.trans (List.sublist_append_right _ _)
 |cons_cons a _ X=>rw[fW,fW];exact(vR _).append X
def vs(b3:eI bB->ab ay)(l:ab (ag×eI bB))(k:ag){W:a2}{D:ab Nat}{F:ab ay}{w:a2}(h:H W D (fA b3 l::F) w):H W D (fA b3 (fm l k)::F) w:=by have Y:=H.Ww (bg:=l.flatMap λy=>b3 y.2) h;refine H.toBag (bg:=(fm l k).flatMap λy=>b3 y.2) (Y.sub ?_);refine List.Sublist.append ?_ (vR _);exact ahf _ (pp l k)
def yW(b:Nat){l:ab (ag×eI bB)}{k:ag}{e U:eI bB}(h:aZ l k=some e)(z:U.p=e.p):bz b9 di b (bA l k U)=bz b9 di b l:=by
 unfold bz;congr 1;induction l with
 |nil=>rw[mu]at h;cases h
 |cons y l X=>
  rw[kE]at h;rw[lB];split
  .rename_i c;rw[aJ c]at h;have:=gs h;obtain⟨a,b⟩:=y;simp only at c this;subst c this;simp only[eE];congr 2;show av U.p 0=av b.p 0
   rw[z]
  .rename_i c;rw[aG c]at h;rw[eE,eE,X h]
end
structure gf where
 Item:ag
 err:Int
 val:ab aS
 gR:Int
 cK:aT Go.Addr
 len:Nat
 cap:Nat
def gf.full(x:gf):pZ:=⟨x.Item,⟨x.err,x.val,x.gR,.slice x.cK x.len x.cap⟩⟩
def gf.c(x:gf):ab aj:=x.full.c
def gf.WO(x:gf):x.c.length=6:=rfl
def gf.J':jU gf.c:=λ_=>rfl
structure cT where
 ef:Nat
 et:Nat
 fS:Nat
 ei:Nat
 wp:Nat
 cV:Nat
 eU:aj
 eC:Nat
 eg:l7
 dW:Nat
 bN:Nat
 e9:aj
 dw:aj
 bY:aj
structure aA where
 n:Int
 self:Int
 now:Int
 bU:Nat
 X:eY
 ax:bS
 leads:ab (ag×eI a6)
 bq:ab (ag×eI bM)
 dS:Int
 pl:ab bw
 fB:n7
 run:dl
 M:oc
 cR:ab (ag×Bool)
 high:ab (ag×bp)
 inbox:ab aD
 out:ab b2
 told:ab gf
def jQ(e:eI a6):ab ay:=[cells e.p 183 e.v.c]
def hi(e:eI bM):ab ay:=e.v.cs e.p e.q
abbrev mc:bp->aj:=λb=>A b.c
def e5(L:cT)(s:aA):ab aj:=gO.c ⟨s.n,s.self,s.now,av L.ef 0,.map (some L.et),.map (some L.fS),av L.ei 0,av L.eC 0,av s.M.b 0,.map (some L.dW),.map (some L.bN),L.e9,L.dw,L.bY⟩
def lf(L:cT)(s:aA):ay:=aK (jx L.ei s.n s.self L.wp L.cV L.eU s.dS s.pl s.fB)
def ch(b:Nat)(L:cT)(s:aA):ab ay:=
 [cells b 95 (e5 L s),fR L.ef s.bU s.X s.ax,bz b9 di L.et s.leads,fA jQ s.leads,bz b9 di L.fS s.bq,fA hi s.bq,lf L s,ky L.eC L.eg s.run,na s.M,bz b9 hA L.dW s.cR,bz b9 mc L.bN s.high,
  eB aD.c L.e9 176 25 s.inbox,rows b2.c L.dw 143 3 s.out,rows gf.c L.bY 65 6 s.told]
structure lP(k:Nat)(s:aA):Prop where
 w:mz s.dS s.pl
 t:s.dS<=k
 aW:∀y∈s.pl,bt y.key 7=true
 td:(s.fB.map (·.1)).Nodup
 bY:∀x,0<=bY s.fB x/\bY s.fB x<=k
def lP.len{k:Nat}{s:aA}(h:lP k s):s.pl.length<=448:=by
 have:=sF h.w.m3 λx U=>by obtain⟨y,C,rfl⟩:=dQ.1 U;exact h.aW y C
 rwa[dZ]at this
end Go.Proofs.YteogojgnkjegmaaGreatDoor
namespace Go.Proofs.YteogojgnkjegmaaGreatDoor
open Go.az Go.Proofs.Tryz
variable[Go.az.b5]
def kN.up{n:Nat}{M:oc}(h:kN n M):kN (n+1) M:=⟨h.ci.up,h.am⟩
def kN.mono{n m:Nat}{M:oc}(h:kN n M)(K:n<=m):kN m M:=by
 induction K with
 |refl=>exact h
 |step _ X=>exact X.up
def ag1(v:aj)(t:v.oneCell'=true):ar prog 113 [v] [] (λr J=>∃q,r=.func (.func 157) #[] #[av q 0]/\J=[cells q 89 [v]]):=by refine aF func113 λW=>?_;refine aa 2 ?_;refine ai.o (O.Wz (λy=>?_));exact aQ 11;all_goals exact⟨_,_,⟨_,rfl,rfl⟩,VH⟩
def aA.Wx(s:aA)(x:ag):Bool:=decide ((s.run.g.call x).cv.Kind≠0)&&(aZ s.cR x).getD false
def sK(s:aA)(pre:ab ag)(M:oc)(t:ab gf):Prop:=(pre=[]->M=s.M)/\∀x,pre=[x]->∀y∈t,y.gR=(ic s.M.s (s.run.g.call x).cv).1.gR
def sK.none{s:aA}{pre:ab ag}{t:ab gf}{f:ag->Bool}(o:t.map (·.Item)=pre.filter f)(x:ag)(Y:oc):sK s (pre++[x]) Y t:=by
 refine⟨λh=>VT,λy C z v=>?_⟩;have P:pre=[]:=Qo
 subst P;have W:=c7 List.length o;rw[dZ]at W;rw[ml W]at v;cases v
def sK.one{s:aA}{pre:ab ag}{M:oc}{t:ab gf}{f:ag->Bool}(h:sK s pre M t)(o:t.map (·.Item)=pre.filter f)(x:ag)(Y:oc)(j:gf)(P:j.gR=(ic M.s (s.run.g.call x).cv).1.gR):sK s (pre++[x]) Y (t++[j]):=by
 refine⟨λh=>VT,λy C z v=>?_⟩;have r:pre=[]:=Qo
 have R:=h.1 r;subst r;have W:=c7 List.length o;rw[dZ]at W;rw[ml W,g4,fF]at v;rw[g4,q9]at C;rw[v,P,R,C.1]
structure kP(s cL:aA):Prop where
 go:∃xs w5 yX Et rJ,yQ s.n s.run xs w5/\qO w5 rJ/\Et.map (·.Item)=xs.filter s.Wx/\(kN (s.run.done.length+xs.length) yX/\yX.b=s.M.b/\sK s xs yX Et)/\
  cL={s with run:=w5,M:=yX,told:=s.told++Et,dS:=(ib s.n s.self s.now s.fB rJ (s.dS,s.pl)).1,pl:=(ib s.n s.self s.now s.fB rJ (s.dS,s.pl)).2}
structure RepI(k:Nat)(s:aA):Prop where
 n:s.n=3\/s.n=5\/s.n=7
 self:0<=s.self/\s.self<s.n
 now:0<=s.now/\s.now<=1099511627776
 run:hp s.n s.run
 M:kN s.run.done.length s.M
 gg:lP k s
def RepI.gF{k:Nat}{s:aA}(h:RepI k s):3<=s.n/\s.n<=7:=by have:=h.n;omega
def Eu(L:cT)(s:aA)(k:Nat)(h:RepI k s)(T:k<=1000000000000)(N:Int)(W:0<=N/\N<=1099511627776)(i:aT Go.Addr)(Q:Nat)(l:ab ag)(u:l.length<=448)(G:∀x∈l,bt x 7=true):ar prog 78 [av L.ei 0,I N,.slice i l.length Q] [lf L s,rows ag.c (.slice i l.length Q) 46 2 l] (λr J=>∃z,r=.tuple #[]/\J=[lf {L with eU:=z} {s with dS:=(ib s.n s.self N s.fB l (s.dS,s.pl)).1,pl:=(ib s.n s.self N s.fB l (s.dS,s.pl)).2},rows ag.c (.slice i l.length Q) 46 2 l]):=by
 have a:=h.gF;have E:=h.self;have M:=h.gg.len;have K:=h.gg.t;refine ar.known (p:=∃b,Rd (rows ag.c (.slice i l.length Q) 46 2 l) i l.length b 0 2 (l.map ag.c)) (λw Y=>?_) ?_
 .obtain⟨C,Z,b,P,o⟩:=jc (f:=ag.c) (v:=.slice i l.length Q) (l:=l) ag.len (aI _ (aH _)) w Y;exact TQ
 .rintro⟨b,o⟩;have y:=air L.ei s.n s.self L.wp L.cV L.eU s.dS s.pl s.fB N _ i Q b 0 l o h.gg.w ac ac (λx U=>by have:=mV (G x U);omega) ac ac ac;exact RQ
def afd(n:Int)(k:Nat)(X:l7)(s:dl)(h:hp n s):ar prog 115 [av k 0] [ky k X s] (λr J=>∃i Q l,qO s l/\r=.slice i l.length Q/\J=[rows ag.c (.slice i l.length Q) 46 2 l,ky k X s]):=by refine ar.Wg (afS n k X s h) ?_;rintro v J W D w⟨_,l,K,rfl,rfl⟩ m;obtain⟨i,Q,b,rfl,_⟩:=jc (f:=ag.c) ag.len (aH _) w m;exact⟨_,⟨i,Q,l,K,rfl,rfl⟩,m⟩
def JD(b:Nat)(L:cT)(s:aA)(k:Nat)(h:RepI k s)(ca:k<=1000000000000)(cB:s.told.length<=1000000):ar prog 79 [av b 0] (ch b L s) (λr Yc=>∃bD cL,kP s cL/\r=.tuple #[]/\Yc=ch b bD cL):=by
 have dA:=ag1 (av L.eC 0) rfl;have Yu:=h.run.abm;obtain⟨ef,et,fS,ei,wp,cV,eU,eC,eg,dW,bN,e9,dw,bY⟩:=L;unfold ch e5;dsimp only;refine aF func79 λW=>?_;refine aa 2 ?_;refine ai.o (O.Wz (λnH=>?_));refine aa 10 ?_;rintro _ _⟨ak8,rfl,rfl⟩;refine aa 4 ?_;refine ah.n9 (akX s.n ak8 eC eg s.run h.run) (λz:oc×aj×ab gf=>[cells nH 36 [av b 0],cells b 95 (e5 ⟨ef,et,fS,ei,wp,cV,eU,eC,eg,dW,bN,e9,dw,z.2.1⟩ {s with M:=z.1}),na z.1,bz b9 hA dW s.cR,rows gf.c z.2.1 65 6 z.2.2])
  (λpre z=>kN (s.run.done.length+pre.length) z.1/\z.1.b=s.M.b/\∃t,z.2.2=s.told++t/\t.map (·.Item)=pre.filter s.Wx/\sK s pre z.1 t) (λ_ _ _=>False) (s.M,bY,s.told) ⟨h.M,rfl,[],VK,rfl,λ_=>rfl,λ_ h=>VL⟩ ?_ ?_ ?_
 .rintro z pre x Yf⟨Ev,U,P⟩ cq rec dd⟨u,J,t1,j,N,w⟩ c2 eK jV K cJ;dsimp only at u J j N w;obtain⟨YD,Z,T,E,a,Q,AX⟩:=Ev;dsimp only at J;subst J;unfold e5;refine bh ?_;have Yh:=dd.toGoR.len;rw[bQ,df]at Yh;have lF:=alM _ _ u ac (s.run.g.call x).cv;dsimp only at lF;have dq:(pre++[x]).filter s.Wx=pre.filter s.Wx++(if s.Wx x then[x]else[]):=by rw[nA];congr 1;cases h:s.Wx x<;>simp[h]
  have Ym:=c7 List.length N;rw[dZ]at Ym;have YR:=rC s.Wx pre;have Yl:P.length<=1000448:=by rw[j,bQ];omega
  by_cases G:(s.run.g.call x).cv.Kind=0
  .have c5:bb .eql (s.run.g.call x).cv.Kind 0=some true:=by simp[bb,G]
   have m:s.Wx x=false:=by unfold aA.Wx;rw[l5 (by simp[G])];rfl
   rw[m]at dq;refine aq 2 λoO=>?_;refine aq 4 λgD=>?_;refine aa 10 ?_;refine ai.v (V.cmp rfl rfl c5) ?_;refine aa 6 ?_;exact Out.rd cJ (⟨s.M.b,Z,T,E,a,Q,AX⟩,U,P) ⟨by rw[bQ];exact u.mono (by rw[<-pd];exact ks _ _),rfl,t1,j,by rw[dq,N];simp,sK.none N x _⟩
  .have c5:bb .eql (s.run.g.call x).cv.Kind 0=some false:=by simp[bb,G]
   refine aq 2 λoO=>?_;refine aq 4 λgD=>?_;refine aa 10 ?_;refine ai.v (V.cmp rfl rfl c5) ?_;refine aa 5 ?_;refine ah.mt [3,2,1] (λz:Nat×oc×h7=>(kN (s.run.done.length+pre.length+1) z.2.1/\z.2.1.b=s.M.b)/\z.2.2.Version=(ic a (s.run.g.call x).cv).1.gR/\∃cK Ye Y,z.2.2.Keys=.slice cK Ye Y) (λz=>[(4,av z.1 0)]) (λz=>[cells z.1 63 z.2.2.c,na z.2.1]) (s:=[na ⟨s.M.b,Z,T,E,a,Q,AX⟩]) ?_ ?_
   .intro fP Yg;refine ah.p' ?_ aC.j.j.j.j.d'.j.j.d';refine ae 3 0 ?_;refine ae 2 4 ?_;refine af.bx 3 7 rfl rfl ?_ ?_;refine aw.z' (V.F' ad) ?_;refine au ?_;refine af.bx 6 7 rfl rfl ?_ ?_;refine aw.V0 rfl (lF) VH ?_;rintro v3 tU⟨YS,⟨YT,⟨YP,⟨YQ,⟨⟨Yi,Yj,Yk⟩,rfl,rfl⟩⟩⟩⟩⟩;refine aa 2 ?_;refine dr 7 λfO=>?_;refine ae 1 8 ?_;refine au ?_;rotate_left;refine O.Q' ad (λfO=>?_);refine au ?_;refine af.x' 6 rfl rfl (lF) ?_;rintro Ys YA⟨YN,⟨YO,⟨YJ,⟨YK,⟨⟨Yq,Yo,Yp⟩,rfl,rfl⟩⟩⟩⟩⟩;refine aa 2 ?_;refine ae 1 8 ?_;refine au ?_;rotate_left;refine MU λfO=>?_;refine af.x' 6 rfl rfl (lF) ?_;rintro YU YV⟨YL,⟨YM,⟨YH,⟨YI,⟨⟨Yy,YG,Yz⟩,rfl,rfl⟩⟩⟩⟩⟩;refine aa 2 ?_;refine ae 1 8 ?_;refine au ?_;rotate_left;all_goals refine Out.C' Yg (_,_,_) ?_ trivial
    all_goals exact⟨⟨VV,VV⟩,rfl,_,_,_,rfl⟩
   rintro⟨fO,⟨YW,q,R,d,Yt,y,Yv⟩,⟨j7,mE,e6,qj⟩⟩⟨⟨Yn,Yw⟩,i,X,C,F,Yr⟩;dsimp only at Yn Yw Yr i;subst Yw Yr;refine bh ?_;cases D:(aZ s.cR x).getD false
   .have m:s.Wx x=false:=by unfold aA.Wx;rw[D,wI]
    rw[m]at dq;refine NO ?_;refine aa 6 ?_;exact Out.rd cJ (⟨s.M.b,q,R,d,Yt,y,Yv⟩,U,P) ⟨by rw[bQ];exact Yn,rfl,t1,j,by rw[dq,N];simp,sK.none N x _⟩
   .have m:s.Wx x=true:=by unfold aA.Wx;rw[D,Bool.and_true,iq G]
    rw[m]at dq;refine NO ?_;refine aa 4 ?_;refine ah.p' ?_ aC.j.j.j.d'.j.d'.j.j.d';refine ae 4 0 ?_;refine ae 2 5 ?_;refine af.n' 7 rfl (V.WH ad (o:=(⟨x,j7,mE,e6,X,C,F⟩:gf).c)) ?_;refine af.bx 4 8 rfl rfl ?_ ?_;refine aw.z' (V.F' ad) ?_;refine au ?_;refine af.y' 8 rfl (O.V' ad gf.c [⟨x,j7,mE,e6,X,C,F⟩] rfl (bP.agg rfl bP.nil) rfl rfl (λYE=>?_));refine au ?_;refine Qi λYF YB YC=>?_;rotate_left;refine O.V' ad gf.c [⟨x,j7,mE,e6,X,C,F⟩] rfl (bP.agg rfl bP.nil) rfl rfl (λYE=>?_);refine au ?_;refine ae 1 4 ?_;refine Qi λYF YB YC=>?_;rotate_left;all_goals exact Out.rd cJ (⟨s.M.b,q,R,d,Yt,y,Yv⟩,_,P++[⟨x,j7,mE,e6,X,C,F⟩]) ⟨by rw[bQ];exact Yn,rfl,t1++[⟨x,j7,mE,e6,X,C,F⟩],by rw[j,ck],by rw[dq,hJ,N];rfl,w.one N x _ _ i⟩
 .rintro⟨Yx,p⟩ xs⟨Ev,U,P⟩ c dd⟨u,J,t1,j,N,w⟩;dsimp only at u J j N w;obtain⟨YD,Z,T,E,a,Q,AX⟩:=Ev;dsimp only at J;subst J;subst j;unfold e5;refine bh ?_;have g:=afd s.n eC Yx p dd.ok;have z (cK:aT Go.Addr) (Y:Nat) (l:ab ag) (K:qO p l):=Eu ⟨ef,et,fS,ei,wp,cV,eU,eC,eg,dW,bN,e9,dw,bY⟩ s k h ca s.now h.now cK Y l K.len (λx J=>(K.aW x J).2);dsimp only at z;refine aa 2 ?_;refine ah.p' ?_ aC.j.j.j.j.j.j.j.j.j.j.j.j.j.j.j.d'.j;refine ae 3 0 ?_;refine ae 3 4 ?_;refine ae 3 8 ?_;refine af.fL 3 7 11 rfl rfl rfl ?_ ?_ ?_;refine aw.z' (V.F' ad) ?_;refine au ?_;refine af.bx 7 11 rfl rfl ?_ ?_;refine aw.z' (V.F' ad) ?_;refine au ?_;refine ae 1 11 ?_;refine af.x' 12 rfl rfl (g) ?_;refine RC λc l m Yi=>?_;refine LZ λm=>?_;rotate_left;refine aw.z' (V.F' ad) ?_;refine au ?_;refine af.bx 7 12 rfl rfl ?_ ?_;refine ML ?_;refine RC λn i l f=>?_;refine LZ λk=>?_;rotate_left;refine Ph λY x J P=>?_;refine ae 1 7 ?_;refine LZ λY=>?_;rotate_left;refine aw.z' (V.F' ad) ?_;refine au ?_;refine af.bx 3 11 rfl rfl ?_ ?_;refine aw.z' (V.F' ad) ?_;refine au ?_;refine ae 1 11 ?_;refine af.x' 12 rfl rfl (g) ?_;refine RC λC J K F=>?_;refine LZ λC=>?_;rotate_left;refine aw.z' (V.F' ad) ?_;refine au ?_;refine af.bx 3 12 rfl rfl ?_ ?_;refine ML ?_;refine RC λC K F X=>?_;refine LZ λq=>?_;rotate_left;refine Ph λD q G R=>?_;refine ae 1 3 ?_;refine LZ λD=>?_;rotate_left;refine aw.z' (V.F' ad) ?_;refine au ?_;refine af.fL 3 7 12 rfl rfl rfl ?_ ?_ ?_;refine aw.z' (V.F' ad) ?_;refine au ?_;refine af.bx 7 12 rfl rfl ?_ ?_;refine ML ?_;refine RC λG R d W=>?_;refine LZ λW=>?_;rotate_left;refine Ph λf o L t=>?_;refine ae 1 7 ?_;refine LZ λP=>?_;rotate_left;refine aw.z' (V.F' ad) ?_;refine au ?_;refine af.bx 3 12 rfl rfl ?_ ?_;refine ML ?_;refine RC λP r j v=>?_;refine LZ λy=>?_;rotate_left;refine Ph λc y m n=>?_;refine ae 1 3 ?_;refine LZ λm=>?_;rotate_left;refine Ph λm n i l=>?_;refine af.bx 3 7 rfl rfl ?_ ?_;refine aw.z' (V.F' ad) ?_;refine au ?_;refine ae 1 7 ?_;refine LZ λk=>?_;rotate_left;refine aw.z' (V.F' ad) ?_;refine au ?_;refine ae 1 3 ?_;refine LZ λx=>?_;rotate_left;all_goals exact⟨_,_,⟨⟨ef,et,fS,ei,wp,cV,_,eC,Yx,dW,bN,e9,dw,U⟩,_,⟨⟨xs,p,⟨s.M.b,Z,T,E,a,Q,AX⟩,t1,_,dd,VV,N,⟨u,rfl,w⟩,rfl⟩⟩,rfl,rfl⟩,VH⟩
 .rintro _ _ _ _ _ _ _ _ h;exact h.elim
def fa(E:Int)(l:ab aD):ab aD:=l.filter λm=>decide (m.bI=E)
noncomputable def g2(n E:Int)(l:ab aD):ab b2:=(l.filter λm=>!decide (m.bI=E)&&c4 m n).map λm=>⟨E,m.bI,gP m⟩
def akl(E:Int)(l:ab aD)(m:aD):fa E (l++[m])=fa E l++(if m.bI=E then[m]else[]):=by unfold fa;rw[nA];congr 1;by_cases h:m.bI=E<;>simp[h]
def alh(n E:Int)(l:ab aD)(m:aD):g2 n E (l++[m])=g2 n E l++(if m.bI=E then[]else if c4 m n=true then[⟨E,m.bI,gP m⟩]else[]):=by
 unfold g2;rw[nA,hJ];congr 1;by_cases h:m.bI=E
 .simp[h]
 .cases G:c4 m n<;>simp[h,G]
def JE(E:Int)(l:ab aD):(fa E l).length<=l.length:=rC _ _
def JF(n E:Int)(l:ab aD):(g2 n E l).length<=l.length:=by unfold g2;rw[dZ];exact rC _ _
def ajb(b:Nat)(R:gO)(P:ab aD)(Q:ab b2)(h:aT Go.Addr)(q:Nat)(l:ab aD)(U:R.n<=7)(dz:l.length<=1000)(am:P.length<=1000000)(ej:Q.length<=1000000):ar prog 59 [av b 0,.slice h l.length q] [cells b 95 R.c,eB aD.c R.inbox 176 25 P,rows b2.c R.out 143 3 Q,cM,rows aD.c (.slice h l.length q) 176 25 l] (λr Z=>∃s D,r=.tuple #[]/\Z=[cells b 95 ({R with inbox:=s,out:=D}:gO).c,eB aD.c s 176 25 (P++fa R.self l),rows b2.c D 143 3 (Q++g2 R.n R.self l),cM,rows aD.c (.slice h l.length q) 176 25 l]):=by
 refine aF func59 λW=>?_;refine ah.fact (jc (f:=aD.c) (v:=.slice h l.length q) (l:=l) aD.len VF) λF=>?_;obtain⟨Yc,T,et,j,o⟩:=F;simp only[tS]at j;obtain⟨rfl,-,rfl⟩:=j;obtain⟨n,E,N,L,w,v3,v4,v5,oW,vc,w6,s,D,bY⟩:=R;dsimp only at U⊢;refine aa 8 ?_;refine ah.cq [9,8,0] (λz:Nat×aj×aj=>z.1<=l.length) (λz=>[(10,I (z.1:Int))])
  (λz=>[cells b 95 (gO.c ⟨n,E,N,L,w,v3,v4,v5,oW,vc,w6,z.2.1,z.2.2,bY⟩),eB aD.c z.2.1 176 25 (P++fa E (l.take z.1)),rows b2.c z.2.2 143 3 (Q++g2 n E (l.take z.1))]) (λz=>l.length-z.1) (0,s,D) (cG _) ?_ (t:=by rw[xU,show fa E []=[]from rfl,show g2 n E []=[]from rfl,db,db];(repeat(first|exact ak.nil|exact al.here|apply ak.cons|apply al.there)))
 rintro⟨k,s,D⟩ d K x;dsimp only at d;refine bh ?_;by_cases Y:k<l.length
 .obtain⟨m,F⟩:=cl Y;have C:l.take (k+1)=l.take k++[m]:=by rw[oC,F];rfl
  have bf:(P++fa E (l.take k)).length<=1001000:=by have:=JE E (l.take k);rw[e8]at this;rw[bQ];omega
  have bW:(Q++g2 n E (l.take k)).length<=1001000:=by have:=JF n E (l.take k);rw[e8]at this;rw[bQ];omega
  have p:P++fa E (l.take (k+1))=(P++fa E (l.take k))++(if m.bI=E then[m]else[]):=by rw[C,akl,ck]
  have X:Q++g2 n E (l.take (k+1))=(Q++g2 n E (l.take k))++(if m.bI=E then[]else if c4 m n=true then[⟨E,m.bI,gP m⟩]else[]):=by rw[C,alh,ck]
  have g:=ajS m n U;have i:=λ(y:aj×aj) (_:True) (_:True)=>x (k+1,y.1,y.2) (by show k+1<=l.length;omega) Ox;dsimp only at i;rw[p,X]at i;clear p X x;generalize P++fa E (l.take k)=bu at*;generalize Q++g2 n E (l.take k)=b3 at*;by_cases J:m.bI=E
  .refine aa 14 ?_;refine ai.v (V.Wb ad rfl o (kk F)) ?_;refine aq 0 λa=>?_;refine aa 4 ?_;refine ah.p' ?_ aC.j.j.j.j.d'.d';refine ae 7 0 ?_;refine aa 3 ?_;refine ah.V9 [10] ?_ aC.j.j.j.j.d'.d' aC.j.j.j.j.j.d';refine Py ?_;refine af.y' 6 rfl (O.V' ad aD.c [m] rfl (bP.agg rfl bP.nil) rfl rfl (λYg=>?_));refine au ?_;refine af.y' 7 rfl (O.aa3 ad rfl rfl Vz (cz.rows (l:=[m]) ad VF aD.J') (λYh u=>?_));refine au ?_;refine ae 2 8 ?_;refine af.l 10 rfl (O.O' ad ?_);refine aa 8 ?_;rotate_left;rw[aJ J,aJ J,db]at i;all_goals exact Out.C' i (_,D) trivial trivial
  .cases G:c4 m n
   .rw[G,aG VI]at g;refine Tz λa=>?_;refine aa 16 ?_;rotate_left;rw[aG J,aG J,aG (by rw[G];decide),db,db]at i;all_goals exact Out.C' i (s,D) trivial trivial
   .rw[G,aJ rfl]at g;refine Tz λa=>?_;refine aa 9 ?_;refine ah.V9 [17] ?_ aC.j.j.j.d'.d'.j aC.j.j.j.j.d'.j;refine ae 4 0 ?_;refine ae 3 5 ?_;refine ae 3 9 ?_;refine QB ?_;refine af.n' 12 rfl (V.WH ad) ?_;refine dr 13 λYe=>?_;refine af.y' 14 rfl (O.Z' ad rfl rfl Vz (cz.one ad VF b2.J') (λYf M=>?_));refine au ?_;refine ae 2 15 ?_;refine af.l 17 rfl (O.O' ad ?_);refine aa 8 ?_;rotate_left;rw[aG J,aG J,aJ G,db]at i;all_goals exact Out.C' i (s,_) trivial trivial
 .obtain rfl:k=l.length:=by omega
  clear x;rw[iI];refine aa 12 ?_;all_goals exact⟨_,_,⟨_,_,rfl,rfl⟩,VH⟩
noncomputable def aA.send(s:aA)(l:ab aD):aA:={s with inbox:=s.inbox++fa s.self l,out:=s.out++g2 s.n s.self l}
def vt(b:Nat)(L:cT)(s:aA)(i:aT Go.Addr)(Q:Nat)(l:ab aD)(y:s.n<=7)(u:l.length<=1000)(am:s.inbox.length<=1000000)(a:s.out.length<=1000000):ar prog 59 [av b 0,.slice i l.length Q] (rows aD.c (.slice i l.length Q) 176 25 l::(ch b L s++[cM])) (λr J=>∃F,r=.tuple #[]/\J=ch b F (s.send l)++[cM]):=by
 have q:=ajb b ⟨s.n,s.self,s.now,av L.ef 0,.map (some L.et),.map (some L.fS),av L.ei 0,av L.eC 0,av s.M.b 0,.map (some L.dW),.map (some L.bN),L.e9,L.dw,L.bY⟩ s.inbox s.out i Q l y u am a;have k:=ar.frame (bg:=[fR L.ef s.bU s.X s.ax,bz b9 di L.et s.leads,fA jQ s.leads,bz b9 di L.fS s.bq,fA hi s.bq,lf L s,ky L.eC L.eg s.run,na s.M,bz b9 hA L.dW s.cR,bz b9 mc L.bN s.high,rows gf.c L.bY 65 6 s.told]) q;have E:ak (rows aD.c (.slice i l.length Q) 176 25 l::(ch b L s++[cM])) [cells b 95 (e5 L s),eB aD.c L.e9 176 25 s.inbox,rows b2.c L.dw 143 3 s.out,cM,rows aD.c (.slice i l.length Q) 176 25 l] [fR L.ef s.bU s.X s.ax,bz b9 di L.et s.leads,fA jQ s.leads,bz b9 di L.fS s.bq,fA hi s.bq,lf L s,ky L.eC L.eg s.run,na s.M,bz b9 hA L.dW s.cR,bz b9 mc L.bN s.high,rows gf.c L.bY 65 6 s.told]:=VH
 refine ar.Wg (ar.eqv (aP.We E.perm) k (R:=_) λr J h=>⟨J,h,aP.refl _⟩) ?_;rintro v J W D w⟨_,⟨x,G,rfl,rfl⟩,rfl⟩ m;refine⟨_,⟨{L with e9:=x,dw:=G},rfl,rfl⟩,?_⟩;refine m.hv (v:=[rows aD.c (.slice i l.length Q) 176 25 l]) ?_;unfold ch aA.send e5 lf;refine bh ?_;exact VH
def lg:hX prog 86 46 132=true:=rfl
def lh:hX prog 87 46 196=true:=rfl
def yY:hX prog 91 46 48=true:=rfl
def JG(w:a2):(Go.zeroValue 48).run prog w=.ok (A bp.z.c) w:=rfl
def akJ(L:cT)(s:aA)(x:ag)(i:aT Go.Addr)(Q:Nat)(u:s.pl.length<=1000):ar prog 184 [av L.ei 0,.slice i 1 Q] [lf L s,rows ag.c (.slice i 1 Q) 46 2 [x]] (λr J=>∃t,r=.tuple #[]/\J=[lf {L with eU:=t} {s with pl:=iN x s.pl,fB:=fm s.fB x},rows ag.c (.slice i 1 Q) 46 2 [x]]):=by
 refine ar.known (p:=∃b,Rd (rows ag.c (.slice i 1 Q) 46 2 [x]) i 1 b 0 2 ([x].map ag.c)) (λw h=>?_) ?_
 .obtain⟨C,k,b,P,o⟩:=jc (f:=ag.c) (v:=.slice i 1 Q) (l:=[x]) ag.len (aI _ (aH _)) w h;exact TQ
 .rintro⟨b,o⟩;have y:=amc L.ei s.n s.self L.wp L.cV L.eU s.dS s.pl s.fB x i Q b 0 _ o u;exact RQ
structure od(s:aA)(x:ag)(cL:aA):Prop where
 go:∃w5,s.run.Xz x (bn s.ax.p x).Call w5/\
  cL={s with leads:=fm s.leads x,bq:=fm s.bq x,high:=fm s.high x,pl:=iN x s.pl,fB:=fm s.fB x,run:=w5}
def ae7(b:Nat)(L:cT)(s:aA)(k:Nat)(h:RepI k s)(u:s.ax.ok)(x:ag)(U:(bn s.ax.p x).Status=3):ar prog 126 [av b 0,A x.c] (ch b L s) (λr J=>∃F t,od s x t/\r=.tuple #[]/\J=ch b F t):=by
 have Y:ar prog 126 [av b 0,A x.c] (ch b L s) (λr J=>∃Yf Yj Yc,s.run.Xz x (bn s.ax.p x).Call Yc/\r=.tuple #[]/\
   J=[fA jQ s.leads,fA hi s.bq,cells b 95 (e5 L s),fR L.ef s.bU s.X s.ax,bz b9 di L.et (fm s.leads x),bz b9 di L.fS (fm s.bq x),lf {L with eU:=Yf} {s with pl:=iN x s.pl,fB:=fm s.fB x},ky L.eC Yj Yc,na s.M,bz b9 hA L.dW s.cR,bz b9 mc L.bN (fm s.high x),
    eB aD.c L.e9 176 25 s.inbox,rows b2.c L.dw 143 3 s.out,rows gf.c L.bY 65 6 s.told]):=by
  have z:=yU L.ef s.bU s.X s.ax x u.p.towf
  have R (g:Nat):=akJ L s x (some ⟨g,0,none⟩) 1 (by have:=h.gg.len;omega)
  have f:=I5 L.eC L.eg s.run h.run.g (by have:=h.run.XT;omega) x (bn s.ax.p x).Call
  obtain⟨P,N,n,a,d,j,o,eC,C,E,T,K,Q,bY⟩:=L
  unfold ch e5
  dsimp only at z R f⊢
  generalize bn s.ax.p x=i at*
  refine aF func126 λW=>?_
  have y:bb .eql i.Status 3=some true:=by simp[bb,U]
  refine aq 2 λZ=>?_
  refine aa 3 ?_
  refine ah.p' ?_ aC.j.j.j.j.j.j.j.j.j.j.j.j.j.d'.d'
  refine ae 5 0 ?_
  refine af.bx 5 6 rfl rfl ?_ ?_
  refine aw.V0 rfl (z) VH ?_
  refine aa 2 ?_
  refine dr 6 λG=>?_
  refine ae 1 7 ?_
  refine aa 7 ?_
  refine ai.v (V.cmp rfl rfl y) ?_
  refine aa 4 ?_
  refine ah.p' ?_ aC.j.j.j.j.j.j.j.j.j.j.j.j.d'.d'.j.j
  refine ae 5 0 ?_
  refine af.y' 5 rfl (aw.WS (l:=s.leads) (k:=x) (aU:=di) cw lg rfl rfl VS ?_)
  refine aa 4 ?_
  refine ah.p' ?_ aC.j.j.j.j.j.j.j.j.j.j.j.j.d'.d'.j.j
  refine ae 5 0 ?_
  refine af.y' 5 rfl (aw.WS (l:=s.bq) (k:=x) (aU:=di) cw lh rfl rfl VS ?_)
  refine aa 4 ?_
  refine ah.p' ?_ aC.j.j.j.j.j.j.j.j.j.j.j.j.d'.d'.j.j
  refine ae 5 0 ?_
  refine af.y' 5 rfl (aw.WS (l:=s.high) (k:=x) (aU:=mc) cw yY rfl rfl VS ?_)
  refine aa 4 ?_
  refine ah.p' ?_ aC.j.j.j.j.j.j.j.j.j.j.j.j.d'.d'.j.j
  refine ae 5 0 ?_
  refine af.y' 5 rfl (O.V' ad ag.c [x] rfl (bP.agg rfl bP.nil) rfl rfl (λYk=>?_))
  refine au ?_
  refine af.x' 6 rfl rfl (R _) ?_
  rintro _ _⟨Yn,rfl,rfl⟩
  refine aa 5 ?_
  refine ah.p' ?_ aC.j.j.j.j.j.j.j.j.j.j.j.d'.d'.j.d'.j.j
  refine ae 7 0 ?_
  refine af.x' 7 rfl rfl (f) ?_
  rintro v5 I8⟨Yo,⟨⟨rfl,Ye⟩,rfl⟩⟩
  refine aa 7 ?_
  rotate_left
  refine O.Q' ad (λG=>?_)
  refine au ?_
  refine af.x' 5 rfl rfl (z) ?_
  refine aa 2 ?_
  refine ae 1 7 ?_
  refine aa 7 ?_
  refine ai.v (V.cmp rfl rfl y) ?_
  refine aa 4 ?_
  refine ah.p' ?_ aC.j.j.j.j.j.j.j.j.j.j.j.j.d'.d'.j.j
  refine ae 5 0 ?_
  refine af.y' 5 rfl (aw.WS (l:=s.leads) (k:=x) (aU:=di) cw lg rfl rfl VS ?_)
  refine aa 4 ?_
  refine ah.p' ?_ aC.j.j.j.j.j.j.j.j.j.j.j.j.d'.d'.j.j
  refine ae 5 0 ?_
  refine af.y' 5 rfl (aw.WS (l:=s.bq) (k:=x) (aU:=di) cw lh rfl rfl VS ?_)
  refine aa 4 ?_
  refine ah.p' ?_ aC.j.j.j.j.j.j.j.j.j.j.j.j.d'.d'.j.j
  refine ae 5 0 ?_
  refine af.y' 5 rfl (aw.WS (l:=s.high) (k:=x) (aU:=mc) cw yY rfl rfl VS ?_)
  refine aa 4 ?_
  refine ah.p' ?_ aC.j.j.j.j.j.j.j.j.j.j.j.j.d'.d'.j.j
  refine ae 5 0 ?_
  refine af.y' 5 rfl (O.V' ad ag.c [x] rfl (bP.agg rfl bP.nil) rfl rfl (λYk=>?_))
  refine au ?_
  refine af.x' 6 rfl rfl (R _) ?_
  rintro _ _⟨Yl,rfl,rfl⟩
  refine aa 5 ?_
  refine ah.p' ?_ aC.j.j.j.j.j.j.j.j.j.j.j.d'.d'.d'.j.j.j
  refine ae 7 0 ?_
  refine af.x' 7 rfl rfl (f) ?_
  rintro Yh Yi⟨Ym,⟨⟨rfl,Yg⟩,rfl⟩⟩
  refine aa 7 ?_
  rotate_left
  all_goals exact⟨_,_,⟨_,_,_,VV,rfl,rfl⟩,VH⟩
 refine ar.Wg Y ?_;rintro v J W D w⟨Yf,Yj,Yc,q,rfl,rfl⟩ m;have Y:=vs hi s.bq x ((vs jQ s.leads x m).perm (hV ..));refine⟨_,⟨{L with eU:=Yf,eg:=Yj},_,⟨⟨Yc,q,rfl⟩⟩,rfl,rfl⟩,Y.hv (v:=[]) ?_⟩;unfold ch;exact VH
end Go.Proofs.YteogojgnkjegmaaGreatDoor
namespace Go.az
open Go
variable[Go.az.b5]
section
variable{P:b1}{r:aT Nat}{W:a2}{D:ab Nat}{n:dF}{Q:da}{Y:bJ}{U:ab ay}{Z:Nat}{C:a8}{J:String}{F:Array Edge}{M:aT (Nat×Bool)}{N T:Type}[DecidableEq N]{K:N->aj}{aU:T->aj}{X:a8}{l:ab (N×T)}
def aN.WP{t e:a8}{x y:bj}{b:Nat}{k:N}{c:aj}(a:aZ l k=none)(i:hW P X K)(o:hX P t X e=true)(v:∀w,(zeroValue e).run P w=.ok c w) (E:aR Y x=some (.map (some b))) (q:aR Y y=some (K k)) (G:bz K aU b l∈U):aN P n Y U ⟨some Z,.lookup t x y false,C,J,F,M⟩ c:=by have h:=aN.look (P:=P) (n:=n) (an:=Y) (ao:=U) (dst:=Z) (ba:=C) (bd:=J) (be:=F) (aW:=M) (l:=l) (k:=k) i o v E q G;rw[a]at h;exact h
def aN.iz{t e:a8}{x y:bj}{b:Nat}{k:N}{c:aj}{v:T}(p:aZ l k=some v)(i:hW P X K)(o:hX P t X e=true)(a:∀w,(zeroValue e).run P w=.ok c w) (E:aR Y x=some (.map (some b))) (q:aR Y y=some (K k)) (G:bz K aU b l∈U):aN P n Y U ⟨some Z,.lookup t x y false,C,J,F,M⟩ (aU v):=by have h:=aN.look (P:=P) (n:=n) (an:=Y) (ao:=U) (dst:=Z) (ba:=C) (bd:=J) (be:=F) (aW:=M) (l:=l) (k:=k) i o a E q G;rw[p]at h;exact h
end
end Go.az
namespace Go.Proofs.YteogojgnkjegmaaGreatDoor
open Go.az Go.Proofs.Tryz
variable[Go.az.b5]
def nc(w:a2):(Go.zeroValue 132).run prog w=.ok (.pointer none) w:=rfl
def nI(w:a2):(Go.zeroValue 196).run prog w=.ok (.pointer none) w:=rfl
section
variable{P:b1}{f:fb}{args:ab aj}{N u:Type}{b3:eI N->ab ay}{l:ab (ag×eI N)}{x:ag}{e:eI N}
def ar.Z8{Q:aj->u->Prop}{R:u->eI N}(G:aZ l x=some e)(h:ar P f args (b3 e) (λr q=>∃z,Q r z/\q=b3 (R z))):ar P f args [fA b3 l] (λr q=>∃z,Q r z/\q=[fA b3 (bA l x (R z))]):=by refine ar.eqv (yV b3 G) (ar.frame (bg:=[fA b3 (fm l x)]) h) ?_;rintro r q⟨_,⟨z,E,rfl⟩,rfl⟩;exact⟨_,⟨z,E,rfl⟩,(Es b3 l x (R z)).symm⟩
def ar.hi{Q:aj->Prop}(G:aZ l x=some e)(h:ar P f args (b3 e) (λr q=>Q r/\q=b3 e)):ar P f args [fA b3 l] (λr q=>Q r/\q=[fA b3 l]):=by refine ar.eqv (yV b3 G) (ar.frame (bg:=[fA b3 (fm l x)]) h) ?_;rintro r q⟨_,⟨E,rfl⟩,rfl⟩;exact⟨_,⟨E,rfl⟩,(yV b3 G).symm⟩
end
def aA.Wu(s:aA)(x:ag)(b:bp):ab (ag×eI a6):=match aZ s.leads x with
 |some e=>if fY e.v.bm b=true then fm s.leads x else s.leads
 |none=>s.leads
def aA.Wv(s:aA)(x:ag)(b:bp):ab (ag×eI bM):=match aZ s.bq x with
 |some e=>if fY e.v.x.bm b=true then fm s.bq x else s.bq
 |none=>s.bq
def je(s:aA)(x:ag)(L:aA):Prop:=
 L={s with leads:=s.Wu x (bn s.ax.p x).bO,bq:=s.Wv x (bn s.ax.p x).bO,dS:=(ib s.n s.self s.now s.fB [x] (s.dS,s.pl)).1,pl:=(ib s.n s.self s.now s.fB [x] (s.dS,s.pl)).2}
def aiq(b:Nat)(L:cT)(s:aA)(k:Nat)(h:RepI k s)(o:k<=1000000000000)(t:s.ax.ok)(x:ag)(z:bt x 7=true)(E:(bn s.ax.p x).Status≠3):ar prog 126 [av b 0,A x.c] (ch b L s) (λr G=>∃a j,je s x j/\r=.tuple #[]/\G=ch b a j):=by
 have Yf:ar prog 126 [av b 0,A x.c] (ch b L s) (λr G=>∃Yg,r=.tuple #[]/\
   G=[fA jQ s.leads,fA hi s.bq,cells b 95 (e5 L s),fR L.ef s.bU s.X s.ax,bz b9 di L.et (s.Wu x (bn s.ax.p x).bO),bz b9 di L.fS (s.Wv x (bn s.ax.p x).bO),lf {L with eU:=Yg} {s with dS:=(ib s.n s.self s.now s.fB [x] (s.dS,s.pl)).1,pl:=(ib s.n s.self s.now s.fB [x] (s.dS,s.pl)).2},ky L.eC L.eg s.run,na s.M,bz b9 hA L.dW s.cR,bz b9 mc L.bN s.high,
    eB aD.c L.e9 176 25 s.inbox,rows b2.c L.dw 143 3 s.out,rows gf.c L.bY 65 6 s.told]):=by
  have dd:=yU L.ef s.bU s.X s.ax x t.p.towf
  have gy (g:Nat):=Eu L s k h o s.now h.now (some ⟨g,0,none⟩) 1 [x] VK Td
  obtain⟨ef,et,fS,ei,wp,cV,eU,eC,eg,dW,d,e9,dw,bY⟩:=L
  unfold ch e5
  simp only[nX]at gy
  dsimp only at dd gy⊢
  generalize bn s.ax.p x=i at*
  refine aF func126 λW=>?_
  have y:bb .eql i.Status 3=some false:=by simp[bb,E]
  refine aq 2 λgD=>?_
  refine aa 2 ?_
  refine ah.mt [0,3] (λ_:Nat=>True) (λp=>[(4,av p 0)]) (λp=>[cells p 54 i.c]) (s:=[]) ?_ ?_
  .intro fP Yc
   refine ah.p' ?_ aC.j.j.j.j.j.j.j.j.j.j.j.j.j.d'.d'
   refine ae 5 0 ?_
   refine af.bx 5 6 rfl rfl ?_ ?_
   refine aw.V0 rfl (dd) VH ?_
   refine aa 2 ?_
   refine dr 6 λfO=>?_
   refine ae 1 7 ?_
   refine au ?_
   rotate_left
   refine O.Q' ad (λfO=>?_)
   refine au ?_
   refine af.x' 5 rfl rfl (dd) ?_
   refine aa 2 ?_
   refine ae 1 7 ?_
   refine au ?_
   rotate_left
   all_goals exact Out.C' Yc _ trivial trivial
  rintro fO-
  refine bh ?_
  refine aa 5 ?_
  refine ai.v (V.cmp rfl rfl y) ?_
  refine aa 5 ?_
  refine ah.mt [0,3,4] (λ_:Unit=>True) (λ_=>[]) (λ_=>[bz b9 di et (s.Wu x i.bO)]) (s:=[bz b9 di et s.leads]) ?_ ?_
  .intro fP Yc
   unfold aA.Wu at Yc
   cases R:aZ s.leads x with
   |none=>
    rw[R]at Yc;refine O1 ?_;refine ae 5 0 ?_;refine af.y' 5 rfl (aw.z' (aN.WP (l:=s.leads) (k:=x) (aU:=di) R cw lg nc rfl rfl VF) ?_);refine au ?_;refine ae 1 6 ?_;refine aa 3 ?_;refine ah.p' ?_ aC.j.j.j.j.j.j.j.j.j.j.j.j.j.j.j.d';refine ae 9 0 ?_;refine aa 4 ?_;all_goals exact Out.C' Yc () trivial trivial
   |some e=>
    rw[R]at Yc;have nE:=ar.hi (b3:=jQ) R (akS e.p e.v);have iQ:=u1 e.v.bm i.bO;dsimp only at Yc;cases Ye:fY e.v.bm i.bO
    .rw[Ye]at iQ Yc;rw[aG VI]at Yc;refine Uw ?_;refine aa 4 ?_;all_goals exact Out.C' Yc () trivial trivial
    .rw[Ye]at iQ Yc;rw[aJ rfl]at Yc;refine Uw ?_;refine aa 3 ?_;refine ah.p' ?_ aC.j.j.j.j.j.j.j.j.j.j.j.j.d'.d'.j.j;refine ae 5 0 ?_;refine af.y' 5 rfl (aw.WS (l:=s.leads) (k:=x) (aU:=di) cw lg rfl rfl VS ?_);refine aa 2 ?_;all_goals exact Out.C' Yc () trivial trivial
  rintro⟨⟩-
  refine bh ?_
  generalize s.Wu x i.bO=Yh
  refine ah.mt [0,3,4] (λ_:Unit=>True) (λ_=>[]) (λ_=>[bz b9 di fS (s.Wv x i.bO)]) (s:=[bz b9 di fS s.bq]) ?_ ?_
  .intro fP Yc
   unfold aA.Wv at Yc
   cases R:aZ s.bq x with
   |none=>
    rw[R]at Yc;refine au ?_;refine ah.p' ?_ aC.j.j.j.j.j.j.j.j.j.j.j.j.d'.d'.j.j;refine ae 5 0 ?_;refine af.y' 5 rfl (aw.z' (aN.WP (l:=s.bq) (k:=x) (aU:=di) R cw lh nI rfl rfl VF) ?_);refine au ?_;refine ae 1 6 ?_;refine aa 3 ?_;refine ah.p' ?_ aC.j.j.j.j.j.j.j.j.j.j.j.j.j.j.d'.j;refine ae 9 0 ?_;refine aa 4 ?_;all_goals exact Out.C' Yc () trivial trivial
   |some e=>
    rw[R]at Yc;have nE:=ar.hi (b3:=hi) R (Ef e.p e.q e.v);have iQ:=u1 e.v.x.bm i.bO;dsimp only at Yc;cases Ye:fY e.v.x.bm i.bO
    .rw[Ye]at iQ Yc;rw[aG VI]at Yc;refine QG ?_;refine aa 4 ?_;all_goals exact Out.C' Yc () trivial trivial
    .rw[Ye]at iQ Yc;rw[aJ rfl]at Yc;refine QG ?_;refine aa 3 ?_;refine ah.p' ?_ aC.j.j.j.j.j.j.j.j.j.j.j.d'.d'.j.j.j;refine ae 5 0 ?_;refine af.y' 5 rfl (aw.WS (l:=s.bq) (k:=x) (aU:=di) cw lh rfl rfl VS ?_);refine aa 2 ?_;all_goals exact Out.C' Yc () trivial trivial
  rintro⟨⟩-
  refine bh ?_
  generalize s.Wv x i.bO=Yi
  refine ah.p' ?_ aC.j.j.j.j.j.j.j.j.j.j.j.d'.d'.j.j.j
  refine ae 9 0 ?_
  refine af.y' 9 rfl (O.V' ad ag.c [x] rfl (bP.agg rfl bP.nil) rfl rfl (λYk=>?_))
  refine au ?_
  refine af.x' 10 rfl rfl (gy _) ?_
  rintro _ _⟨Yj,rfl,rfl⟩
  exact aQ 4
  all_goals exact⟨_,_,⟨_,rfl,rfl⟩,VH⟩
 refine ar.Wg Yf ?_;rintro v G W D w⟨Yg,rfl,rfl⟩ m;have q {U:ab ay} (m:H W D (fA jQ s.leads::U) w):H W D (fA jQ (s.Wu x (bn s.ax.p x).bO)::U) w:=by
  unfold aA.Wu;split
  .split
   .exact vs jQ s.leads x m
   .exact m
  .exact m
 have G {U:ab ay} (m:H W D (fA hi s.bq::U) w):H W D (fA hi (s.Wv x (bn s.ax.p x).bO)::U) w:=by
  unfold aA.Wv;split
  .split
   .exact vs hi s.bq x m
   .exact m
  .exact m
 have E:=G ((q m).perm (hV ..));refine⟨_,⟨{L with eU:=Yg},_,rfl,rfl,rfl⟩,E.hv (v:=[]) ?_⟩;unfold ch;exact VH
end Go.Proofs.YteogojgnkjegmaaGreatDoor
