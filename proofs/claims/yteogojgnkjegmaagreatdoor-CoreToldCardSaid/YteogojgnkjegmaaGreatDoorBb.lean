/-
 Part of the proof.
-/
import Derived.Test.YteogojgnkjegmaaGreatDoorBa
import Derived.Test.YteogojgnkjegmaaGreatDoorRows
set_option linter.all false
set_option maxRecDepth 8000
set_option maxHeartbeats 8000000
namespace Go.az
open Go
section
variable{P:b1}{r:aT Nat}{W:a2}{D:ab Nat}{N:Nat}{Q:da}{Y Z:bJ}{U M J:ab ay}{w:a2}
def ah.ads{o:Type}{c:Code}{g:ab Nat}(q:ab Nat)(J:o->Prop)(E:o->bJ)(S:o->ab ay)(L:o->Nat)(n:o){i:bJ}{u:ab ay}(f:J n) (h:∀x F,J x->∀K:Act->a2->Prop,(∀y z,J y->L y<L x->∀a w,dx ⟨N,z⟩ (E y++i) a->H W D (S y++(aK (gp z)::u)) w->K a w)->ah P r W D ⟨N,F⟩ (Exit.then K Q) c (E x++i) (S x++(aK (gp F)::u))) (T:lv Y q i:=by(repeat(first|exact lv.nil|apply lv.cons rfl))) (v:dy Y (E n):=by(repeat(first|exact dy.nil|refine dy.cons rfl rfl ?_))) (q:ak U (S n++[aK (gp g)]) u:=by(repeat(first|exact ak.nil|exact al.here|apply ak.cons|apply al.there))):ah P r W D ⟨N,g⟩ Q (.loop c) Y U:=ah.of λa w p b=>by
 classical
 let I:Act->a2->Prop:=λa w=>∃x F,J x/\dx ⟨N,F⟩ (E x++i) a/\H W D (S x++(aK (gp F)::u)) w;let M:Act->a2->Nat->Prop:=λa w k=>∃x F,J x/\L x=k/\dx ⟨N,F⟩ (E x++i) a/\H W D (S x++(aK (gp F)::u)) w;have ex:∀a w,I a w->∃k,M a w k/\∀j,j<k->¬M a w j:=λa w ⟨x,F,C,l⟩=>Cd _ (L x) ⟨x,F,C,rfl,l⟩;let m:Act->a2->Nat:=λa w=>if h:I a w then Classical.choose (ex a w h)else 0
 have mspec:∀a w (h:I a w),M a w (m a w)/\∀j,j<m a w->¬M a w j:=λa w h=>O6
 have X:H W D (S n++(aK (gp g)::u)) w:=by have:=b.Wy q;rw[ck]at this;exact this
 refine wpIn_loop I m ⟨n,g,f,p.sub (v.app T.sub).get,X⟩ λa w k=>?_;obtain⟨⟨x,F,b,C,l,v⟩,_⟩:=mspec a w k;refine uI (ah.get (h x F b (λa w=>∃y z,J y/\L y<L x/\dx ⟨N,z⟩ (E y++i) a/\H W D (S y++(aK (gp z)::u)) w) (λy z C K a w G n=>⟨y,z,C,K,G,n⟩)) a w l v) λe F R aV=>?_;cases e with
 |normal=>
  obtain⟨y,z,i,C,a,p⟩:=aV;refine⟨⟨y,z,i,a,p⟩,?_⟩;have C:I F R:=⟨y,z,i,a,p⟩
  have:=(mspec F R C).2 (L y);rcases o9 (L y) (m F R)with n|C
  .exact absurd ⟨y,z,i,rfl,a,p⟩ (this n)
  .omega
 |_=>exact aV
def Out.adt{o:Type}{J G:o->Prop}{E:o->bJ}{S:o->ab ay}{p:bJ}{u v:ab ay}{K:Act->a2->Prop}{C:ab Nat} (i:∀y z,J y->G y->∀a w,dx ⟨N,z⟩ (E y++p) a->H W D (S y++(aK (gp z)::u)) w->K a w) (y:o) (m:J y) (q:G y) (j:dy Y (E y++p):=by(repeat(first|exact dy.nil|refine dy.cons rfl rfl ?_))) (E:ak U (S y++(aK (gp C)::u)) v:=by(repeat(first|exact ak.nil|exact al.here|apply ak.cons|apply al.there))):Out W D ⟨N,C⟩ (Exit.then K Q) .normal Y U:=Out.of λa w p b=>i y C m q a w (p.sub j.get) (b.hv E)
def ah.j7{n:dF}{c:Code}{rb vI v:ab ay}(j:aP rb vI)(h:ah P r W D n Q c Y (vI++v))(E:ak U rb v:=by(repeat(first|exact ak.nil|exact al.here|apply ak.cons|apply al.there))):ah P r W D n Q c Y U:=
 ah.eqv ((aP.We E.perm).trans (j.append (aP.refl v))) h
def Out.j7{n:dF}{e:dY}{rb vI v:ab ay}(j:aP rb vI)(h:Out W D n Q e Y (vI++v))(E:ak U rb v:=by(repeat(first|exact ak.nil|exact al.here|apply ak.cons|apply al.there))):Out W D n Q e Y U:=
 Out.eqv ((aP.We E.perm).trans (j.append (aP.refl v))) h
def E9{m l J v:ab ay}(h:ak l J v):ak (l++m) (m++J) v:=by
 induction m generalizing l with
 |nil=>rw[db];exact h
 |cons x m X=>exact ak.cons (GY x m l) (X h)
end
end Go.az
namespace Go.Proofs.YteogojgnkjegmaaGreatDoor
open Go.az Go.Proofs.Tryz
variable[Go.az.b5]
def zb:ar prog 8 [] [cM] (λr J=>r=B true/\J=[cM]):=by refine ar.mono aeJ ?_;rintro r J⟨c,z,Y,Z⟩;rw[agV z]at Y;exact⟨Y,Z⟩
def r0(N:ab ea):Prop:=∀x∈N,(x.cv.Key.length<=140737488351232/\x.cv.Value.length<=140737488351232)/\(0<=x.rj/\x.rj<256)
def Bu(n:Int)(y:n=3\/n=5\/n=7):ar prog 10 [I n] [cM] (λr J=>∃m T u,(lV n u.c/\u.n=n/\u.jG=[]/\u.cV=0)/\r=av m 0/\J=[aK (iW m T u)]):=by refine ar.Wg (ajl n y) ?_;rintro v J W D w⟨m,T,u,Y,rfl,rfl⟩ b;exact⟨_,⟨m,T,u,Y,rfl,rfl⟩,b.eqv aP.aK.symm⟩
def Bv(b:Nat)(T:pJ)(u:kb)(a:ea)(k:Nat)(h:cC k u.c)(E:k<=70000000000)(f:0<=u.cV/\u.cV<=1000000)(q:0<=a.rj/\a.rj<256):ar prog 11 [av b 0,A a.c] [aK (iW b T u)] (λr J=>∃M G,sT u a G/\r=.tuple #[]/\J=[aK (iW b M G)]):=by
 have Y:=ar.XZ (Q:=λz r=>sT u a z.2/\r=.tuple #[]) (T:=λz:pJ×kb=>iW b z.1 z.2) (ar.mono (ag0 b T u a k h E f q) (by rintro r J⟨M,G,Y,Z,D⟩;exact⟨(M,G),⟨Y,Z⟩,D⟩))
 refine ar.mono Y ?_;rintro r J⟨⟨M,G⟩,⟨Y,Z⟩,D⟩;exact⟨M,G,Y,Z,D⟩
def r1(b:Nat)(L:cT)(s:aA):ab ay:=
 [cells b 95 (e5 L s),bz b9 di L.et s.leads,fA jQ s.leads,bz b9 di L.fS s.bq,fA hi s.bq,lf L s,ky L.eC L.eg s.run,na s.M,bz b9 hA L.dW s.cR,bz b9 mc L.bN s.high,
  eB aD.c L.e9 176 25 s.inbox,rows b2.c L.dw 143 3 s.out,rows gf.c L.bY 65 6 s.told]
def Bw(E:ab cI)(i b:Nat)(L:cT)(s:aA):ay:=aK (uj L.ef s.bU s.X s.ax++(r1 b L s++[fh (E.eraseIdx i)]))
def Fa{E:ab cI}{i b:Nat}{L:cT}{s:aA}(h:E[i]?=some (.up b L s)):aP [lI s.X.eu s.X.R s.ax.p,Bw E i b L s] [fh E]:=by
 refine aP.trans ?_ (A9 h).symm;show aP _ (ch b L s++[fh (E.eraseIdx i)])
 have Y:aP (ch b L s++[fh (E.eraseIdx i)]) ([fR L.ef s.bU s.X s.ax]++(r1 b L s++[fh (E.eraseIdx i)])):=by refine aP.We ?_;unfold ch r1;exact hV ..
 refine aP.trans ?_ Y.symm;have Z:=(EL L.ef s.bU s.X s.ax).append (aP.refl (r1 b L s++[fh (E.eraseIdx i)]));refine aP.trans ?_ Z.symm;unfold Bw;refine(aP.refl [lI s.X.eu s.X.R s.ax.p]).append ?_;refine aP.aK.trans ?_;exact(aP.aK (bg:=uj L.ef s.bU s.X s.ax)).symm.append (aP.refl _)
def Bx{E:ab cI}{i b:Nat}{L:cT}{s:aA}(h:E[i]?=some (.up b L s)):ar prog 13 [av b 0] [fh E] (λr J=>r=av L.ef 0/\J=[fh E]):=by
 have Y:ar prog 13 [av b 0] (cI.up b L s).es (λr J=>∃_:Unit,r=av L.ef 0/\J=[]++(cI.up b L s).es):=ar.mono (Su b L s) λr J ⟨Y,Z⟩=>⟨(),Y,Z⟩
 refine ar.mono (ar.XY (N:=λ_=>.up b L s) (T:=λ_=>[]) (Q:=λr _=>r=av L.ef 0) h Y) ?_;rintro r J⟨_,Z,D⟩;rw[vz h]at D;exact⟨Z,D⟩
def Fb{E:ab cI}{i b:Nat}{L:cT}{s:aA}(h:E[i]?=some (.up b L s)):ar prog 14 [av L.ef 0] [fh E] (λr J=>∃q,r=.func (.func 80) #[] #[av q 0]/\J=[cells q 117 [av s.X.eu 0],lI s.X.eu s.X.R s.ax.p,Bw E i b L s]):=by
 have t:aP [fh E] ([fR L.ef s.bU s.X s.ax]++(r1 b L s++[fh (E.eraseIdx i)])):=by
  refine(A9 h).trans ?_;refine aP.We ?_;show(ch b L s++[fh (E.eraseIdx i)]).Perm _
  unfold ch r1;exact hV ..
 refine ar.eqv t (ar.frame (bg:=r1 b L s++[fh (E.eraseIdx i)]) (J8 L.ef s.bU s.X s.ax)) ?_;rintro r J⟨c,⟨q,Y,rfl⟩,rfl⟩;refine⟨_,⟨q,Y,rfl⟩,?_⟩;refine(aP.refl [cells q 117 [av s.X.eu 0],lI s.X.eu s.X.R s.ax.p]).append ?_;unfold Bw;refine aP.trans ?_ aP.aK.symm;exact(aP.aK (bg:=uj L.ef s.bU s.X s.ax)).append (aP.refl _)
def By{c:bo}{i:Nat}{x:cI}(y:(i:Int)<c.n)(h:c.aE[i]?=some x):vE c (i:Int)=x.ptr:=by unfold vE;rw[aG ac,hY,h]
def ut(w:a2):(Go.zeroValue 29).run prog w=.ok (A bF.z.c) w:=rfl
end Go.Proofs.YteogojgnkjegmaaGreatDoor
namespace Go.az
open Go
def ar.runK{P:b1}{f:fb}{args:ab aj}{x:aj}{E:a2}{u:ab Nat}{k:ay}(c:k.gJ=[0])(T:k.holds E)(j:∀w,k.holds w->w.heap[0]?=E.heap[0]?)(y:u.Nodup)(X:∀b,b∈u->b<E.heap.size)(W:0∉u)(h:ar P f args [snap E u,k] (λv J=>v=x/\J=[snap E u,k])):Calls P f args.toArray E λe D=>e=.returned x/\v8 E D:=by
 have m:hS [snap E u,k] E:=by
  refine⟨λe r=>?_,?_⟩
  .simp only[cQ,zc,gl]at r;rcases r with rfl|rfl
   .rw[Cs];exactλb G=>⟨rfl,X b G⟩
   .exact T
  .simp only[br,fW,nY,Gk,c,db];exact gr.2 ⟨y,VK,λa Z b G e=>W (by
    obtain rfl:b=0:=MC
    rw[<-e];exact Z)⟩
 refine(ar.run h E m).mono λe D p=>?_;obtain⟨v,J,rfl,⟨rfl,rfl⟩,n⟩:=p;refine⟨rfl,λb G=>?_,n.os,n.output⟩;by_cases K:b∈u
 .have:=n.mem (e:=snap E u) VK;rw[Cs]at this;exact(this b K).1
 .by_cases Y:b=0
  .subst Y;exact j _ (n.mem (e:=k) VK)
  .exact n.cu b G (by simp[br,Gk,c,K,Y])
end Go.az
namespace Go.Proofs.YteogojgnkjegmaaGreatDoor
open Go Go.az Go.ChangeShapes Go.WideShapes Go.ChangeAt Go.RowKit Go.Proofs.Tryz
def amk:prog.globalNamed "caucus/mail.kinds" =some 0:=Vw
def alH:(prog.globals[0]?).map (·.type)=some 287:=Vw
def ak0:prog.underlying 287=some (.array 9 286):=Vw
def afo:(match prog.underlying 286 with|some (.struct a)=>(a.map λf=>(f.type,f.offset))==#[(4,0),(4,1)]|_=>false)=true:=Vw
def aeF:∃a,prog.underlying 286=some (.struct a)/\(a.map λf=>(f.type,f.offset))=#[(4,0),(4,1)]:=by
 have h:=afo;split at h
 .rename_i a b;exact⟨a,b,c9.1 h⟩
 .cases h
def alL:prog.cellsOf 287=18/\prog.cellsOf 286=2/\prog.cellsOf 4=1:=⟨Vw,Vw,Vw⟩
def K4{W:a2}(h:laidMetH prog [("caucus/mail.kinds",Rows.laid_caucus_mail_kinds)] W):∃cs:ab aj,cs.length=18/\(∀i,W.cell? ⟨0,i,none⟩=cs[i]?)/\∀k,k<9->cs[2*k]?=some (B (jL k))/\cs[2*k+1]?=some (B (iK k)):=by
 rw[zd _ _ _ Vw]at h;obtain⟨aX,⟨g,t,cs,x,p,q,G,o,z,c,_,_⟩,_,_⟩:=h;obtain rfl:=gs (amk.symm.trans G);obtain rfl:=gs (alH.symm.trans o);obtain⟨n,E,Z⟩:=alL;obtain⟨N,m,_,ex,w,u,Yf⟩:=DataW.trod_array ak0 c;rw[n]at w;refine⟨cs.toList,w,λi=>by rw[World.var?_cell G z i];simp,λk T=>?_⟩;have M:=Yf k T;rw[E,hl ac]at M;obtain⟨b,Q,C⟩:=aeF;have Y:b.size=2:=by have:=c7 Array.size C;simpa using this
 obtain⟨D,X,_,DU,_,K,Yc⟩:=DataW.trod_struct Q M;have R:b[0]?=some b[0]:=by simp[Y]
 have j:b[1]?=some b[1]:=by simp[Y]
 have xl:(b[0].type,b[0].offset)=(4,0):=by have:=c7 (λa=>a[0]?) C;simpa[Y]using this
 have d:(b[1].type,b[1].offset)=(4,1):=by have:=c7 (λa=>a[1]?) C;simpa[Y]using this
 have r:=Yc 0 _ R;have v:=Yc 1 _ j;rw[(xO xl).1,(xO xl).2,Z,hl ac]at r;rw[(xO d).1,(xO d).2,Z,hl ac]at v;obtain⟨P,L,J⟩:=DataW.trod_bool Tryz.underlying4 r;obtain⟨s,y,F⟩:=DataW.trod_bool Tryz.underlying4 v;have U:(N.map (·.1))[k]?=some (.agg [.lit (.bool P),.lit (.bool s)]):=by
  rw[h5,hl ac,p2,DU];match D,K,J,F with
  |[a0,l],_,J,F=>
   simp only[List.getElem_cons_zero,List.getElem_cons_succ]at J F;rw[J,F];rfl
  |[],K,_,_=>rw[Y]at K;cases K
  |[_],K,_,_=>rw[Y]at K;cases K
  |_::_::_::_,K,_,_=>rw[Y]at K;simp at K
 have Ye:N.map (·.1)=_:=(DataW.agg.inj (xO ex).1).symm;rw[Ye]at U;have Yg:cs.toList[2*k]?=some (B P):=by
  have f:(List.take 1 (List.drop 0 (List.take 2 (List.drop (k*2) cs.toList))))[0]?=some (B P):=by rw[L];rfl
  rw[Fg ac,l0,Fg ac,l0]at f;rw[show 2*k=k*2+(0+0) by omega];exact f
 have Yh:cs.toList[2*k+1]?=some (B s):=by
  have f:(List.take 1 (List.drop 1 (List.take 2 (List.drop (k*2) cs.toList))))[0]?=some (B s):=by rw[y];rfl
  rw[Fg ac,l0,Fg ac,l0]at f;rw[show 2*k+1=k*2+(1+0) by omega];exact f
 rw[Yg,Yh];have Yi:k=0\/k=1\/k=2\/k=3\/k=4\/k=5\/k=6\/k=7\/k=8:=ac
 rcases Yi with rfl|rfl|rfl|rfl|rfl|rfl|rfl|rfl|rfl<;>(simp at U;obtain⟨rfl,rfl⟩:=U;exact⟨rfl,rfl⟩)
def ze{W:a2}(h:laidMetH prog [("caucus/mail.kinds",Rows.laid_caucus_mail_kinds)] W):(@cM ⟨W.heap[0]?⟩).holds W:=by
 obtain⟨cs,E,q,T⟩:=K4 h;letI:b5:=⟨W.heap[0]?⟩
 refine⟨rfl,λi x U=>?_⟩;have am:i<9:=by have:=(cF.1 U).1;simpa[yv]using this
 rw[yw am]at U;cases U;refine⟨rfl,λj u Y=>?_⟩;rw[q];match j,Y with
 |0,Y=>cases Y;rw[show 0+i*2+0=2*i by omega];exact(T i am).1
 |1,Y=>cases Y;rw[show 0+i*2+1=2*i+1 by omega];exact(T i am).2
def ak4{W:a2}(h:laidMetH prog [("caucus/mail.kinds",Rows.laid_caucus_mail_kinds)] W){b off:Nat}{N:ab ea}(E:tl W b off 11 (N.map ea.c))(U:0<N.length):b≠0:=by
 rintro rfl;obtain⟨cs,u,q,T⟩:=K4 h;obtain⟨x,U⟩:=cl U;have Y:=(E 0 x.c (by rw[h5,U];rfl)).2 0 _ rfl;rw[q]at Y;have Y:cs[off]?=some (.int .i64 x.Kind):=by simpa using Y
 have Z:=(cF.1 Y).1;rcases Nat.mod_two_eq_zero_or_one off with e|e
 .have:=(T (off/2) ac).1;rw[show 2*(off/2)=off by omega,Y]at this;cases this
 .have:=(T (off/2) ac).2;rw[show 2*(off/2)+1=off by omega,Y]at this;cases this
end Go.Proofs.YteogojgnkjegmaaGreatDoor
namespace Go.Proofs.YteogojgnkjegmaaGreatDoor
open Go Go.Proofs.Tryz
def Fh:(prog.mayEnter&&(Rows.coreToldRow.lifted==prog.liftsFinal)&&(prog.make==some Rows.coreToldRow.make))=true:=Vw
def alE:prog.mayEnter=true:=(BD.mp (BD.mp Fh).1).1
def aef:prog.liftsFinal=Rows.coreToldRow.lifted:=(c9.mp (BD.mp (BD.mp Fh).1).2).symm
def afg:prog.make=some Rows.coreToldRow.make:=c9.mp (BD.mp Fh).2
end Go.Proofs.YteogojgnkjegmaaGreatDoor
