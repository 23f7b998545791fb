/-
 Part of the proof.
-/
import Derived.Test.YteogojgnkjegmaaGreatDoorAq
set_option linter.all false
set_option maxRecDepth 8000
set_option maxHeartbeats 8000000
namespace Go.Proofs.YteogojgnkjegmaaGreatDoor
open Go.az Go.Proofs.Tryz
variable[Go.az.b5]
def QS:ar prog 105 [] [] (λr J=>∃b m,r=av b 0/\J=n9 b m []):=by
 unfold n9 jd;refine aF func105 λW=>?_;refine aa 7 ?_;refine ai.o (aw.mkMap m2 iy rfl (λy=>?_));refine aq 1 λx=>?_;refine aa 5 ?_
 exact Mx
def wY(l:gm)(k v:ab aS):gm:=bA l k ⟨k,v,(look l k).Version+1⟩
def afv(b m:Nat)(l:gm)(k v:ab aS)(t:0<=(look l k).Version/\(look l k).Version<=1000000):ar prog 227 [av b 0,S k,S v] (n9 b m l) (λr J=>r=A (h7.c ⟨0,[],(look l k).Version+1,.slice none 0 0⟩)/\J=n9 b m (wY l k v)):=by unfold wY;have R:0<=((aZ l k).getD fe.z).Version/\((aZ l k).getD fe.z).Version<=1000000:=t;unfold n9 jd;refine aF func227 λW=>?_;refine aq 2 λp=>?_;refine aa 9 ?_;refine ai.v (aN.Wj (l:=l) (k:=k) (aU:=iy) fe.z ho jA kM rfl rfl VF) ?_;refine aq 0 λo=>?_;refine aa 19 ?_;refine ah.p' ?_ aC.j.d'.j.d';refine ae 6 0 ?_;refine af.y' 6 rfl (aw.Wh (l:=l) (k:=k) (v:=(⟨k,v,(look l k).Version+1⟩:fe)) (aU:=iy) ho jA rfl rfl rfl VJ ?_);exact aQ 13
end Go.Proofs.YteogojgnkjegmaaGreatDoor
namespace Go.az
open Go
variable[Go.az.b5]
section
variable{P:b1}{n:dF}{N:bJ}{F:ab ay}{M:Nat}{K:a8}{Z:String}{T:Array Edge}{C:aT (Nat×Bool)}{U J:Type}[DecidableEq U]{X:U->aj}{Y:J->aj}{u:a8}{l:ab (U×J)}
end
end Go.az
namespace Go.Proofs.YteogojgnkjegmaaGreatDoor
open Go.az Go.Proofs.Tryz
variable[Go.az.b5]
variable{n:Nat}
def l8(E:Int)(v:ab aS)(Q:Int):h7:=⟨E,v,Q,.slice none 0 0⟩
def qQ(l:gm)(d:bF):h7×gm:=
 if d.Kind=0 then(l8 0 [] 0,l)
 else if d.Kind=2 then(l8 0 [] ((look l d.Key).Version+1),wY l d.Key d.Value)
 else if d.Kind=3 then(if(look l d.Key).Version=d.Version then(l8 0 [] ((look l d.Key).Version+1),wY l d.Key d.Value)else(l8 8 [] (look l d.Key).Version,l))
 else if d.Kind=1\/d.Kind=4 then(if(aZ l d.Key).isSome=true then(if d.Kind=4 then(l8 0 [] (look l d.Key).Version,fm l d.Key)else(l8 0 (look l d.Key).Value (look l d.Key).Version,l))else(l8 5 [] 0,l))
 else(l8 1 [] 0,l)
def ahu(b m:Nat)(l:gm)(d:bF)(E:d.Kind≠5)(t:0<=(look l d.Key).Version/\(look l d.Key).Version<=1000000):ar prog 162 [av b 0,A d.c] (n9 b m l) (λr E=>r=A (qQ l d).1.c/\E=n9 b m (qQ l d).2):=by
 have G:=afv b m l d.Key d.Value t;have Q:(aZ l d.Key).getD fe.z=look l d.Key:=rfl;unfold qQ l8;unfold n9 jd at G⊢;by_cases E:d.Kind=0
 .rw[aJ E];refine Pj (λW x q a=>?_) λW x q=>?_;exact aQ 27;refine Up λa=>?_;exact aQ 27
 rw[aG E];by_cases L:d.Kind=2
 .rw[aJ L];refine Pj (λW x q a=>?_) λW x q=>?_;exact aQ 40;refine Up λa=>?_;exact aQ 40
 rw[aG L];by_cases h:d.Kind=3
 .rw[aJ h];by_cases i:(look l d.Key).Version=d.Version
  .rw[aJ i];have E:((aZ l d.Key).getD fe.z).Version=d.Version:=i;refine Pj (λW x q a=>?_) λW x q=>?_;exact aQ 60;refine Up λa=>?_;exact aQ 60
  .rw[aG i];have E:¬((aZ l d.Key).getD fe.z).Version=d.Version:=i;refine Pj (λW x q a=>?_) λW x q=>?_;exact aQ 55;refine Up λa=>?_;exact aQ 55
 rw[aG h];by_cases b:d.Kind=1\/d.Kind=4
 .rw[aJ b];cases E:(aZ l d.Key).isSome with
  |false=>
   rw[aG VI];rcases b with p|E
   .refine Pj (λW x q a=>?_) λW x q=>?_;exact Uz;refine Up λa=>?_;exact Uz
   .refine Pj (λW x q a=>?_) λW x q=>?_;exact Uz;refine Up λa=>?_;exact Uz
  |true=>
   rw[aJ rfl];by_cases E:d.Kind=4
   .rw[aJ E];refine Pj (λW x q a=>?_) λW x q=>?_;refine aa 65 ?_;refine MO λm=>?_;exact Q8;refine Up λa=>?_;refine aa 65 ?_;refine MO λm=>?_;exact Q8
   .rw[aG E];have p:d.Kind=1:=b.resolve_right E;refine Pj (λW x q a=>?_) λW x q=>?_;refine aa 65 ?_;refine MO λs=>?_;exact aQ 24;refine Up λa=>?_;refine aa 65 ?_;refine MO λi=>?_;exact aQ 24
 .rw[aG b];refine Pj (λW x q a=>?_) λW x q=>?_;exact aQ 68;refine Up λa=>?_;exact aQ 68
def vn(p:ab aS)(l:gm):ab (ab aS):=(ua p l).map (·.Key)
def Ea(p:ab aS)(l:gm):(ua p l).length<=l.length:=by unfold ua;rw[dZ,<-Ja l];exact rC _ _
structure kz(n:Nat)(l:gm):Prop where
 m3:(l.map (·.1)).Nodup
 len:l.length<=n
 key:∀k p,aZ l k=some p->p.Key=k/\1<=p.Version/\p.Version<=n
def kz.zero:kz 0 []:=⟨mT,cx _,λk p h=>MD⟩
def kz.up{l:gm}(h:kz n l):kz (n+1) l:=⟨h.m3,St,λk p z=>by have Z:=h.key k p z;exact⟨Z.1,Z.2.1,ac⟩⟩
def kz.gR{l:gm}(h:kz n l)(k:ab aS):0<=(look l k).Version/\(look l k).Version<=n:=by
 unfold look;cases G:aZ l k with
 |none=>exact⟨ge _,by show(0:Int)<=n;omega⟩
 |some p=>have:=h.key k p G;show 0<=p.Version/\p.Version<=n;omega
def ahP{l:gm}{k:ab aS}{p:fe}:(bA l k p).length<=l.length+1:=by
 induction l with
 |nil=>rw[qC];exact cx _
 |cons q l X=>
  rw[lB];split
  .simp
  .simp only[df];omega
def kz.put{l:gm}(h:kz n l)(k v:ab aS):kz (n+1) (wY l k v):=by
 unfold wY;refine⟨rq h.m3,iB ahP St,λL p z=>?_⟩;rw[gX]at z;have t:=h.gR k;by_cases e:L=k
 .rw[aJ e]at z;cases z;refine⟨e.symm,?_,?_⟩
  .show 1<=(look l k).Version+1;omega
  .show(look l k).Version+1<=((n+1:Nat):Int);omega
 .rw[aG e]at z;have:=h.key L p z;refine⟨this.1,this.2.1,ac⟩
def kz.del{l:gm}(h:kz n l)(k:ab aS):kz (n+1) (fm l k):=by
 refine⟨tI h.m3,iB (pp l k).length_le St,λL p z=>?_⟩;rw[oJ h.m3]at z;split at z
 .cases z
 .have:=h.key L p z;exact⟨this.1,this.2.1,ac⟩
def kz.Z7{l:gm}(h:kz n l)(d:bF):kz (n+1) (qQ l d).2:=by
 unfold qQ;(repeat' split);all_goals first
  |exact h.up
  |exact h.put _ _
  |exact h.del _
end Go.Proofs.YteogojgnkjegmaaGreatDoor
namespace Go.Proofs.YteogojgnkjegmaaGreatDoor
open Go.az Go.Proofs.Tryz
variable{n:Int}{N:ab aD}
def Jc{o:Type}{l:ab o}{h:ab Bool}{r k:Nat}(m:o)(T:k≠r):jM (l.set r m) (h.set r true) k=jM l h k:=by
 have p:(l.set r m)[k]?=l[k]?:=by rw[i2,aG (λe=>T e.symm)]
 have x:(h.set r true)[k]?=h[k]?:=by rw[i2,aG (λe=>T e.symm)]
 unfold jM List.getD;rw[p,x]
def Jd{o:Type}{l:ab o}{h:ab Bool}{r:Nat}{m:o}(u:r<l.length)(v:h[r]?=some false):∀k:Nat,(k<=r->jy (l.set r m) (h.set r true) k=jy l h k)/\(r<k->(jy (l.set r m) (h.set r true) k).Perm ((r,m)::jy l h k))
 |0=>⟨λ_=>rfl,λh=>absurd h ac⟩
 |k+1=>by
  obtain⟨Y,Z⟩:=Jd (m:=m) u v k;have E:=(cF.1 v).1;refine⟨λT=>?_,λT=>?_⟩
  .rw[py,py,Y ac,Jc m ac]
  .by_cases n:k=r
   .subst n;have p:jM (l.set k m) (h.set k true) k=some (k,m):=by unfold jM;rw[List.getD,i2,aJ rfl,aJ E,aJ (by rfl),i2,aJ rfl,aJ u];rfl
    have x:jM l h k=none:=by unfold jM;rw[List.getD,v,aG VK]
    rw[py,py,Y (cx _),p,x];simp only[x6,Dw,db];exact(oG (l₁:=jy l h k) (l₂:=[(k,m)]))
   .rw[py,py,Jc m n];exact(Z ac).append_right _
def AP{o:Type}{l:ab o}{h:ab Bool}{r:Nat}{m:o}(g:r<7)(u:l.length=7)(v:h[r]?=some false):(eT (l.set r m) (h.set r true)).Perm ((r,m)::eT l h):=
 (Jd ac v 7).2 g
def Je{x:a6}(w:x.wf){M:Int}(q:x.can M=true):M.toNat<7/\x.dj[M.toNat]?=some false:=by
 obtain⟨Y,Z,D⟩:=a6.ZB.1 q;have T:M.toNat<7:=ac
 refine⟨T,?_⟩;cases w:x.dj[M.toNat]? with
 |none=>simp[List.getD,w]at D
 |some v=>simp[List.getD,w]at D;rw[D]
def QW(n E:Int)(x:ag)(y:bp):ar prog 99 [I n,I E,A x.c,A y.c] [] (λr J=>∃b,r=av b 0/\J=[cells b 243 (b0.c {b0.z with n:=n,self:=E,item:=x,bm:=y})]):=by refine aF func99 λW=>?_;refine aq 2 λp=>?_;refine aq 0 λo=>?_;refine aq 10 λx=>?_;exact aQ 5
def Jf{l:ab aD}{h:ab Bool}(u:l.length=7)(v:h.length=7):(p1 l h n).length=183:=by have e:=lw aD.len l;simp only[p1,bQ,e,u,dZ,v,nX]
def b0.at{x:b0}(u:x.fv.length=7)(v:x.ee.length=7):x.c[190]?=some x.next:=by
 have e:x.c=([.int .i64 x.n,.int .i64 x.self]++(x.item.c++(x.bm.c++([.bool x.lost]++(p1 x.fv x.ee x.eP)))))++[x.next]:=by simp[b0.c]
 have t:=Jf (n:=x.eP) u v;rw[e,iC (by simp[t,ag.len,bp.len])];simp[t,ag.len,bp.len]
def pA(x:b0)(k:Nat):aD:={aD.z with Kind:=6,bc:=x.self,bI:=(k:Int),Item:=x.item,bC:=x.bm}
def QX(b:Nat)(x:b0)(m:Nat)(i:x.n=(m:Int))(F:m<=100)(o:x.lost=false)(U:x.next=.pointer none)(u:x.fv.length=7)(w:x.ee.length=7):ar prog 98 [av b 0] [cells b 243 x.c] (λr J=>∃v,r=v/\J=[rows aD.c v 176 25 ((List.range m).map (pA x)),cells b 243 x.c]):=by
 have Q:=b0.at u w;rw[U]at Q;refine aF func98 λW=>?_;refine ah.V5 aD.c 176 25 ?_;refine aa 20 ?_;refine ah.cs (λh=>?_) (λh=>?_);exact absurd (i7 (iL h) VV:true=false) VI;refine aa 5 ?_;refine ai.v (V.F' ad (z:=Q)) ?_;refine aa 24 ?_;refine ah.cq [28,0] (λy:Nat×aj=>y.1<=m) (λy=>[(29,I (y.1:Int)),(3,y.2)]) (λy=>[rows aD.c y.2 176 25 ((List.range y.1).map (pA x))]) (λy=>m-y.1) (0,_) (cG _) ?_;rintro⟨k,v⟩ T K l;dsimp only at T;refine bh ?_;have z:((List.range k).map (pA x)).length=k:=VK
 by_cases s:k<m
 .have p:(List.range (k+1)).map (pA x)=(List.range k).map (pA x)++[pA x k]:=by rw[sk,hJ];rfl
  generalize(List.range k).map (pA x)=L at*;have t:(L.length+1)*1000<=1000000:=ac
  refine aa 17 ?_;refine ah.p' ?_ aC.d'.j;refine ae 14 0 ?_;refine af.n' 14 rfl (V.WH ad (o:=(pA x k).c)) ?_;refine dr 15 λZ=>?_;refine af.y' 16 rfl (O.Z' ad rfl rfl Vz (cz.one (f:=aD.c) (a:=pA x k) ad VF aD.J') (λN Y=>?_));refine au ?_;refine ae 1 17 ?_;refine aa 7 ?_;rotate_left;all_goals exact Out.C' l (k+1,_) Rh (by show m-(k+1)<m-k;omega) (g:=by rw[p];(repeat(first|exact ak.nil|exact al.here|apply ak.cons|apply al.there)))
 .obtain rfl:k=m:=by omega
  clear l;exact aQ 20
structure b0.wf(x:b0):Prop where
 fv:x.fv.length=7
 ee:x.ee.length=7
 eP:0<=x.eP/\x.eP<=50
def b0.pre(x:b0):ab aj:=[I x.n,I x.self]++(x.item.c++(x.bm.c++[B x.lost]))
def b0.XI(x:b0):x.c=dM x.pre x.fv x.ee x.eP [x.next]:=rfl
def b0.wf.v{x:b0}(w:x.wf):kL x.pre 7 x.fv x.ee:=⟨rfl,w.fv,w.ee⟩
def b0.len{x:b0}(w:x.wf):x.c.length=191:=by rw[b0.XI,dM.len w.v];rfl
theorem b0.adg{x:b0}(w:x.wf)(v:aj):bH 190 [v] x.c ({x with next:=v}:b0).c:=⟨by
 have t:=Jf (n:=x.eP) w.fv w.ee;have e:∀u:aj,({x with next:=u}:b0).c=([.int .i64 x.n,.int .i64 x.self]++(x.item.c++(x.bm.c++([.bool x.lost]++(p1 x.fv x.ee x.eP)))))++([u]++[]):=λu=>by simp[b0.c]
 have L:x.c=({x with next:=x.next}:b0).c:=rfl;rw[L,e,e];exact vi (by simp[t,ag.len,bp.len]) rfl⟩
def b0.adh{x:b0}(w:x.wf):Nat.blt 190 x.c.length=true:=by rw[b0.len w];rfl
def Eb(b:Nat)(x:b0)(w:x.wf)(p:Int)(c:aO):ar prog 265 [av b 0,I p,A c.c] [cells b 243 x.c] (λr J=>∃q,r=.tuple #[]/\J=[cells b 243 ({x with next:=av q 0}:b0).c,cells q 183 (jb x.n x.self x.item x.bm c p).c]):=by have T:=IX x.n x.self x.item x.bm c p;have X:=b0.adh w;have E (q:Nat):=b0.adg w (av q 0);refine aF func265 λW=>?_;refine aq 2 λa=>?_;refine aa 2 ?_;refine ah.V9 [22] ?_ aC.d'.d' aC.j.d';refine ae 4 0 ?_;refine ae 3 5 ?_;refine ae 3 9 ?_;refine ae 3 13 ?_;refine ae 2 17 ?_;refine af.t 4 rfl (V.F' ad) ?_;refine af.t 8 rfl (V.F' ad) ?_;refine af.t 12 rfl (V.WG ad) ?_;refine af.t 16 rfl (V.WG ad) ?_;refine af.x' 19 rfl rfl (T) ?_;rintro _ _⟨y,rfl,rfl⟩;refine aa 2 ?_;refine ae 2 20 ?_;refine af.l 22 rfl (O.O' ad ?_ (j:=X) (i:=E _));exact aQ 3
def AQ(x:b0)(c:aO):aD:={aD.z with Kind:=5,bI:=x.self,Item:=x.item,Call:=c}
def hL(x:b0)(c:aO):a6:={jb x.n x.self x.item x.bm c 2 with call:=c,phase:=3}
def aiK(x:b0)(c:aO)(y:1<=x.n):(jb x.n x.self x.item x.bm c 2).B' (AQ x c)=(hL x c,true):=by
 unfold a6.B';rw[aG (by
  show¬(2<(2:Int)\/x.item≠x.item\/x.self≠x.self\/(0:Int)<0\/x.n<=0)
  simp;omega),aJ (show(AQ x c).Kind=5 from rfl)]
 rfl
def Jg(b:Nat)(x:b0)(w:x.wf)(c:aO)(y:1<=x.n/\x.n<=1000):ar prog 237 [av b 0,A c.c] [cells b 243 x.c] (λr J=>∃q,r=.tuple #[]/\J=[cells b 243 ({x with next:=av q 0}:b0).c,cells q 183 (hL x c).c]):=by have p:=Eb b x w 2 c;have m (q:Nat):=DX q (jb x.n x.self x.item x.bm c 2) (DW _ _ _ _ _ _) (AQ x c) (show 0<=x.n/\x.n<=1000 by omega);rw[aiK x c y.1]at m;have Q (q:Nat):=b0.at (x:={x with next:=av q 0}) w.fv w.ee;refine aF func237 λW=>?_;refine aq 2 λY=>?_;refine aa 7 ?_;rintro _ _⟨G,rfl,rfl⟩;refine aa 3 ?_;refine ah.p' ?_ aC.d'.j.d';refine ae 3 0 ?_;refine af.n' 3 rfl (V.F' ad (z:=Q _)) ?_;refine ae 9 4 ?_;refine af.n' 13 rfl (V.WH ad (o:=(AQ x c).c)) ?_;refine af.x' 14 rfl rfl (m _) ?_;exact aQ 4
def b0.list(x:b0):ab aD:=(eT x.fv x.ee).map (·.2)
def b0.iF(x:b0):Int:=(choose x.n x.item x.list).1
def b0.WK(x:b0):aO:=(choose x.n x.item x.list).2
def b0.Wt(x:b0):a6:=if x.iF=1 then hL x x.WK else jb x.n x.self x.item x.bm x.WK (if x.iF=3 then 1 else 2)
def Jh{x:ag}(h:(N.length:Int)<cg n+1):choose n x N=(0,aO.z):=by unfold choose;rw[aJ h]
def ai6{x:ag}(h:¬(N.length:Int)<cg n+1):(choose n x N).1=1\/(choose n x N).1=2\/(choose n x N).1=3:=by unfold choose;rw[aG h];repeat(first|exact .inl rfl|exact .inr (.inl rfl)|exact .inr (.inr rfl)|split)
def ajF(x:b0):x.list.length<=7:=by unfold b0.list;rw[dZ];exact DT _ _
def Ec(b:Nat)(x:b0)(r:aj)(J:ab ay):Prop:=
 (x.iF=0/\r=B false/\J=[cells b 243 x.c])\/(x.iF≠0/\∃q,r=B true/\J=[cells b 243 ({x with next:=av q 0}:b0).c,cells q 183 x.Wt.c])
def Ji(b:Nat)(x:b0)(w:x.wf)(y:3<=x.n/\x.n<=1000):ar prog 239 [av b 0] [cells b 243 x.c] (Ec b x):=by
 have s (q:Nat):sg prog 245 [av q 0] [cells q 311 [av b 7],cells b 243 x.c] AK (eT x.fv x.ee) [cells q 311 [av b 7],cells b 243 x.c]:=
  IT (a:=[x.next]) (n:=x.eP) q b 243 w.v
 have P:=ajF x;refine aF func239 λW=>?_;refine ah.V5 aD.c 176 25 ?_;apply ah.seq;refine aa 4 ?_;apply ah.seq;refine aq 1 λY=>?_;refine aa 2 ?_;apply ah.seq;apply ah.seq;refine aa 4 ?_;refine zg λQ=>?_;refine ah.rg (s _) (λv:aj×ab aD=>[cells Y 92 [v.1],rows aD.c v.1 176 25 v.2]) (λpre v=>v.2=pre.map (·.2)) (λ_ _ _=>False) (_,[]) rfl ?_ ?_ ?_
 .rintro pre⟨j,z⟩ p⟨v,L⟩ l rec U k d h J K i;dsimp only at k;refine bh ?_;have G:L.length<=7:=by rw[k,dZ];have:=DT x.fv x.ee;rw[U,bQ]at this;omega
  have t:(L.length+1)*1000<=1000000:=ac
  refine aq 1 λm=>?_;refine aq 7 λr=>?_;refine ai.o (O.Z' ad rfl rfl Vz (cz.one (f:=aD.c) (a:=z) ad VF aD.J') (λM N=>?_));refine aa 3 ?_;exact Out.rd i (_,L++[z]) (by show _=_;rw[k];simp)
 .rintro⟨v,L⟩ R k;obtain rfl:L=x.list:=k;dsimp only;refine Out.fact (jc (f:=aD.c) (v:=v) (l:=x.list) (E:=176) (R:=25) aD.len VF) ?_;rintro⟨u,D,g,rfl,Z⟩;have K:=alU _ u D g 0 x.n x.item x.list ac ac Z;have E:=Eb b x w 1 x.WK;have Q:=Eb b x w 2 x.WK;have C:=Jg b x w x.WK ac;have v:x.iF=1->x.Wt=hL x x.WK:=λh=>by unfold b0.Wt;rw[aJ h]
  have t:x.iF=2->x.Wt=jb x.n x.self x.item x.bm x.WK 2:=λh=>by unfold b0.Wt;rw[aG ac,aG ac]
  have q:x.iF=3->x.Wt=jb x.n x.self x.item x.bm x.WK 1:=λh=>by unfold b0.Wt;rw[aG ac,aJ h]
  change ar _ _ _ _ (λr J=>r=.tuple #[I x.iF,A x.WK.c]/\_)at K;by_cases W:(x.list.length:Int)<cg x.n+1
  .have N:x.iF=0:=by unfold b0.iF;rw[Jh W]
   rw[N]at K;refine Qy (λo=>?_) ?_;refine aa 38 ?_
   exact SR
   refine OV λo=>?_;refine aa 38 ?_
   exact SR
  .have s:=ai6 (x:=x.item) W;change x.iF=1\/x.iF=2\/x.iF=3 at s;have Z:x.iF≠0:=by omega
   rcases s with s|s|s
   .rw[s]at K;rw[<-v s]at C;refine Qy (λo=>?_) ?_;refine aa 19 ?_;rintro _ _⟨m,rfl,rfl⟩;refine aa 11 ?_
    exact Tw
    refine OV λo=>?_;refine aa 19 ?_;rintro _ _⟨n,rfl,rfl⟩;refine aa 11 ?_
    exact Tw
   .rw[s]at K;rw[<-t s]at Q;refine Qy (λo=>?_) ?_;refine aa 26 ?_;rintro _ _⟨i,rfl,rfl⟩;refine aa 11 ?_
    exact Tw
    refine OV λo=>?_;refine aa 26 ?_;rintro _ _⟨l,rfl,rfl⟩;refine aa 11 ?_
    exact Tw
   .rw[s]at K;rw[<-q s]at E;refine Qy (λo=>?_) ?_;refine aa 33 ?_;rintro _ _⟨k,rfl,rfl⟩;refine aa 11 ?_
    exact Tw
    refine OV λo=>?_;refine aa 33 ?_;rintro _ _⟨s,rfl,rfl⟩;refine aa 11 ?_
    exact Tw
 exact UO
def eb(x:b0)(m:aD):b0:={x with fv:=x.fv.set m.bc.toNat m,ee:=x.ee.set m.bc.toNat true,eP:=x.eP+1}
def Ed{x:b0}(w:x.wf)(m:aD)(G:x.eP<=40):(eb x m).wf:=
 ⟨by show(x.fv.set _ _).length=7;rw[cy,w.fv],by show(x.ee.set _ _).length=7;rw[cy,w.ee],by show 0<=x.eP+1/\x.eP+1<=50;have:=w.eP;omega⟩
structure AR(x:b0)(m:aD):Prop where
 it:m.Item=x.item
 to:m.bI=x.self
 f0:0<=m.bc
 fn:m.bc<x.n
 oT:m.Kind=7
 AS:m.bC=x.bm
 ls:x.lost=false
 ld:x.next=.pointer none
 gF:x.n<=7
def afC(b:Nat)(x:b0)(w:x.wf)(m:aD)(K:AR x m)(a:x.ee.getD m.bc.toNat true=true):ar prog 186 [av b 0,A m.c] [cells b 243 x.c] (λr J=>r=B false/\J=[cells b 243 x.c]):=by
 have Q:=b0.at w.fv w.ee;rw[K.ld]at Q;have J:=K.ls;have G:=AJ (post:=[x.next]) (n:=x.eP) b 243 w.v m.bc m Pa;rw[a,aG VK,<-b0.XI,Cm,wI]at G;have R:=K.f0;have fn:=K.fn;have p:bb .lss m.bc 0=some false:=VA
 have h:bb .geq m.bc x.n=some false:=VA
 have j:bb .eql m.Kind 5=some false:=Sh
 have Y:bb .eql m.Kind 8=some false:=Sh
 have t:bb .eql m.Kind 7=some true:=Sh
 have Z:=K.it;have Z:=K.to;have g:=K.AS;refine aF func186 λW=>?_;apply ah.seq;refine aq 1 λx=>?_;refine aa 3 ?_;apply ah.seq;refine au ?_;apply ah.seq;refine ah.p' ?_ aC.d'.d';refine ae 6 0 ?_;refine af.n' 6 rfl (V.F' ad (v:=B false) (z:=by rw[<-J];rfl)) ?_;refine RA ?_;refine Qn ?_;refine aa 3 ?_;apply ah.seq;refine aa 4 ?_;refine ai.v (V.F' ad (z:=Q)) ?_;refine aa 5 ?_;apply ah.seq;refine aa 3 ?_;refine ai.v (V.cmp rfl rfl j) ?_;refine aa 4 ?_;apply ah.seq;refine Of ?_;refine aa 3 ?_;apply ah.seq;refine ah.p' ?_ aC.d'.d';refine ae 2 0 ?_;refine af.n' 2 rfl (V.cmp rfl rfl t) ?_;refine ae 7 3 ?_;refine af.n' 10 rfl (V.eq (bp.Y' _ _ _)) ?_;refine ae 2 11 ?_;refine af.dS 95 (λD=>?_) (λD=>?_);replace D:=g5 D;refine ae 6 13 ?_;refine af.x' 19 rfl rfl (G) ?_;refine aa 2 ?_;refine ae 2 20 ?_;refine aa 6 ?_;apply ah.seq;exact aQ 6;replace D:=g5 D;contradiction
def aiG(b:Nat)(x:b0)(w:x.wf)(m:aD)(K:AR x m)(y:3<=x.n)(G:x.eP<=40)(a:x.ee.getD m.bc.toNat true=false)(s:(eb x m).iF=0):ar prog 186 [av b 0,A m.c] [cells b 243 x.c] (λr J=>r=B false/\J=[cells b 243 (eb x m).c]):=by
 have Q:=b0.at w.fv w.ee;rw[K.ld]at Q;have N:=K.ls;have g:=K.f0;have fn:=K.fn;have p:=K.gF;have R:=AJ (post:=[x.next]) (n:=x.eP) b 243 w.v m.bc m Pa;rw[a,aJ ⟨g,ac,rfl⟩,show(decide (0<=m.bc/\m.bc<7)&&!false)=true by simp;omega]at R;change ar _ _ _ _ (λr J=>r=B true/\J=[cells b 243 (eb x m).c])at R;rw[<-b0.XI]at R;have F:ar prog 239 [av b 0] [cells b 243 (eb x m).c] (λr J=>r=B false/\J=[cells b 243 (eb x m).c]):=
  (Ji b (eb x m) (Ed w m G) (show 3<=x.n/\x.n<=1000 by omega)).mono λv J h=>by
   rcases h with⟨_,Y,Z⟩|⟨h,_⟩
   .exact⟨Y,Z⟩
   .exact absurd s h
 have p:bb .lss m.bc 0=some false:=VA
 have h:bb .geq m.bc x.n=some false:=VA
 have j:bb .eql m.Kind 5=some false:=Sh
 have Y:bb .eql m.Kind 8=some false:=Sh
 have t:bb .eql m.Kind 7=some true:=Sh
 have J:=K.it;have J:=K.to;have g:=K.AS;refine aF func186 λW=>?_;apply ah.seq;refine aq 1 λx=>?_;refine aa 3 ?_;apply ah.seq;refine au ?_;apply ah.seq;refine M7 ?_;apply ah.seq;refine aa 4 ?_;refine ai.v (V.F' ad (z:=Q)) ?_;refine aa 5 ?_;apply ah.seq;refine aa 3 ?_;refine ai.v (V.cmp rfl rfl j) ?_;refine aa 4 ?_;apply ah.seq;refine Of ?_;refine aa 3 ?_;apply ah.seq;refine Qu ?_;refine af.dS 95 (λG=>?_) (λG=>?_);replace G:=g5 G;refine ae 6 13 ?_;refine af.l 19 rfl (aw.V0 rfl (R) VH ?_);refine aa 2 ?_;refine ae 2 20 ?_;refine aa 3 ?_;apply ah.seq;exact aQ 11;replace G:=g5 G;contradiction
def aky(b:Nat)(x:b0)(w:x.wf)(m:aD)(K:AR x m)(y:3<=x.n)(G:x.eP<=40)(a:x.ee.getD m.bc.toNat true=false)(s:(eb x m).iF≠0):ar prog 186 [av b 0,A m.c] [cells b 243 x.c] (λr J=>∃q,r=B true/\J=[cells b 243 ({eb x m with next:=av q 0}:b0).c,cells q 183 (eb x m).Wt.c]):=by
 have Q:=b0.at w.fv w.ee;rw[K.ld]at Q;have N:=K.ls;have g:=K.f0;have fn:=K.fn;have p:=K.gF;have R:=AJ (post:=[x.next]) (n:=x.eP) b 243 w.v m.bc m Pa;rw[a,aJ ⟨g,ac,rfl⟩,show(decide (0<=m.bc/\m.bc<7)&&!false)=true by simp;omega]at R;change ar _ _ _ _ (λr J=>r=B true/\J=[cells b 243 (eb x m).c])at R;rw[<-b0.XI]at R;have F:ar prog 239 [av b 0] [cells b 243 (eb x m).c] (λr J=>∃q,r=B true/\J=[cells b 243 ({eb x m with next:=av q 0}:b0).c,cells q 183 (eb x m).Wt.c]):=
  (Ji b (eb x m) (Ed w m G) (show 3<=x.n/\x.n<=1000 by omega)).mono λv J h=>by
   rcases h with⟨h,_⟩|⟨_,q,Y,Z⟩
   .exact absurd h s
   .exact⟨q,Y,Z⟩
 have p:bb .lss m.bc 0=some false:=VA
 have h:bb .geq m.bc x.n=some false:=VA
 have j:bb .eql m.Kind 5=some false:=Sh
 have Y:bb .eql m.Kind 8=some false:=Sh
 have t:bb .eql m.Kind 7=some true:=Sh
 have J:=K.it;have J:=K.to;have g:=K.AS;refine aF func186 λW=>?_;apply ah.seq;refine aq 1 λx=>?_;refine aa 3 ?_;apply ah.seq;refine au ?_;apply ah.seq;refine M7 ?_;apply ah.seq;refine aa 4 ?_;refine ai.v (V.F' ad (z:=Q)) ?_;refine aa 5 ?_;apply ah.seq;refine aa 3 ?_;refine ai.v (V.cmp rfl rfl j) ?_;refine aa 4 ?_;apply ah.seq;refine Of ?_;refine aa 3 ?_;apply ah.seq;refine Qu ?_;refine af.dS 95 (λg=>?_) (λg=>?_);replace g:=g5 g;refine ae 6 13 ?_;refine af.l 19 rfl (aw.V0 rfl (R) VH ?_);refine aa 2 ?_;refine ae 2 20 ?_;refine aa 3 ?_;apply ah.seq;refine aa 3 ?_;rintro _ _⟨Y,rfl,rfl⟩;exact aQ 8;replace g:=g5 g;contradiction
def b0.bad(x:b0)(m:aD):Prop:=x.lost=true\/m.Item≠x.item\/m.bI≠x.self\/m.bc<0\/x.n<=m.bc
instance(x:b0)(m:aD):Decidable (x.bad m):=by unfold b0.bad;infer_instance
structure b0.hz(x:b0)(m:aD):Prop where
 ls:x.lost=false
 it:m.Item=x.item
 to:m.bI=x.self
 f0:0<=m.bc
 fn:m.bc<x.n
def b0.XK{x:b0}{m:aD}(h:¬x.bad m):x.hz m:=by unfold b0.bad at h;simp only[nt,Decidable.not_not,mh,Int.not_lt,Int.not_le]at h;exact⟨h.1,h.2.1,h.2.2.1,h.2.2.2.1,h.2.2.2.2⟩
def Jj(b:Nat)(x:b0)(m:aD)(f:x.bad m):ar prog 186 [av b 0,A m.c] [cells b 243 x.c] (λr J=>r=B false/\J=[cells b 243 x.c]):=by
 unfold b0.bad at f;cases Z:x.lost
 .by_cases U:m.Item=x.item
  .by_cases P:m.bI=x.self
   .by_cases u:m.bc<0
    .refine Va λW Y=>?_;exact ME
    .have N:x.n<=m.bc:=by
      rcases f with h|h|h|h|h
      .rw[Z]at h;cases h
      .exact absurd U h
      .exact absurd P h
      .exact absurd h u
      .exact h
     refine Va λW Y=>?_;exact ME
   .refine Va λW Y=>?_;refine LK ?_;refine ae 14 27 ?_;exact aQ 12
  .refine Va λW Y=>?_;refine ae 11 7 ?_;refine bK 23 ?_;refine ae 23 18 ?_;exact aQ 12
 .refine MA λW Y=>?_;refine af.n' 6 rfl (V.F' ad (v:=B true) (z:=S6)) ?_;refine ae 34 7 ?_;exact aQ 12
def ajk(b q:Nat)(x:b0)(w:x.wf)(l:a6)(u:l.wf)(y:0<=l.n/\l.n<=1000)(U:x.next=av q 0)(m:aD)(K:x.hz m):ar prog 186 [av b 0,A m.c] [cells b 243 x.c,cells q 183 l.c] (λr J=>r=B (l.B' m).2/\J=[cells b 243 x.c,cells q 183 (l.B' m).1.c]):=by
 have Q:=b0.at w.fv w.ee;rw[U]at Q;have b:=DX q l u m y;obtain⟨J,N,Z,G,fn⟩:=K;have p:bb .lss m.bc 0=some false:=VA
 have h:bb .geq m.bc x.n=some false:=VA
 refine aF func186 λW=>?_;refine aq 2 λx=>?_;refine aa 6 ?_;refine ah.p' ?_ aC.j.d'.d';refine ae 6 0 ?_;refine Ro ?_;refine aa 6 ?_;refine ah.p' ?_ aC.j.d'.d';refine ae 3 0 ?_;refine af.n' 3 rfl (V.F' ad (z:=Q)) ?_;refine ae 1 4 ?_;refine af.x' 5 rfl rfl (b) ?_;refine aa 2 ?_;refine ae 1 6 ?_;exact aQ 6
def ahz(b:Nat)(x:b0)(w:x.wf)(y:1<=x.n/\x.n<=1000)(U:x.next=.pointer none)(m:aD)(K:x.hz m)(T:m.Kind=5):ar prog 186 [av b 0,A m.c] [cells b 243 x.c] (λr J=>∃q,r=B true/\J=[cells b 243 ({x with next:=av q 0}:b0).c,cells q 183 (hL x m.Call).c]):=by
 have Q:=b0.at w.fv w.ee;rw[U]at Q;have C:=Jg b x w m.Call y;obtain⟨J,N,Z,G,fn⟩:=K;have p:bb .lss m.bc 0=some false:=VA
 have h:bb .geq m.bc x.n=some false:=VA
 have j:bb .eql m.Kind 5=some true:=by simp[bb,T]
 refine MA λW x=>?_;refine Ro ?_;refine aa 9 ?_;refine ai.v (V.cmp rfl rfl j) ?_;refine aa 10 ?_;rintro _ _⟨U,rfl,rfl⟩;exact aQ 12
def aii(b:Nat)(x:b0)(w:x.wf)(U:x.next=.pointer none)(m:aD)(K:x.hz m)(T:m.Kind=8)(X:fY x.bm m.bC=true):ar prog 186 [av b 0,A m.c] [cells b 243 x.c] (λr J=>r=B true/\J=[cells b 243 ({x with lost:=true}:b0).c]):=by
 have Q:=b0.at w.fv w.ee;rw[U]at Q;have p:=u1 x.bm m.bC;rw[X]at p;obtain⟨J,N,Z,G,fn⟩:=K;have p:bb .lss m.bc 0=some false:=VA
 have h:bb .geq m.bc x.n=some false:=VA
 have j:bb .eql m.Kind 5=some false:=by simp[bb,T]
 have Y:bb .eql m.Kind 8=some true:=by simp[bb,T]
 refine MA λW x=>?_;refine Ro ?_;refine aa 9 ?_;refine ai.v (V.cmp rfl rfl j) ?_;refine aa 5 ?_;refine Of ?_;exact aQ 20
def ah4(b:Nat)(x:b0)(w:x.wf)(U:x.next=.pointer none)(m:aD)(K:x.hz m)(t:m.Kind≠5)(i:¬(m.Kind=8/\fY x.bm m.bC=true))(a:¬(m.Kind=7/\m.bC=x.bm)):ar prog 186 [av b 0,A m.c] [cells b 243 x.c] (λr J=>r=B false/\J=[cells b 243 x.c]):=by
 have Q:=b0.at w.fv w.ee;rw[U]at Q;have y:=u1 x.bm m.bC;have N (k:Nat):=bp.Y' m.bC x.bm k;obtain⟨M,Z,J,G,fn⟩:=K;have p:bb .lss m.bc 0=some false:=VA
 have Y:bb .geq m.bc x.n=some false:=VA
 have j:bb .eql m.Kind 5=some false:=by simp[bb,t]
 by_cases l:m.Kind=8
 .have J:bb .eql m.Kind 8=some true:=by simp[bb,l]
  have t:bb .eql m.Kind 7=some false:=by simp[bb,l]
  have X:fY x.bm m.bC=false:=by
   cases h:fY x.bm m.bC with
   |false=>rfl
   |true=>exact absurd ⟨l,h⟩ i
  rw[X]at y;refine Q6 λW U=>?_;refine ae 19 3 ?_;exact aQ 13
 .have J:bb .eql m.Kind 8=some false:=by simp[bb,l]
  by_cases l:m.Kind=7
  .have t:bb .eql m.Kind 7=some true:=by simp[bb,l]
   have Z:m.bC≠x.bm:=λh=>a ⟨l,h⟩;rw[l5 Z]at N;refine Q6 λW U=>?_;refine ae 7 3 ?_;refine af.n' 10 rfl (V.eq (N _)) ?_;refine ae 11 11 ?_;exact aQ 13
  .have t:bb .eql m.Kind 7=some false:=by simp[bb,l]
   refine Q6 λW U=>?_;refine ae 19 3 ?_;exact aQ 13
def akZ(m:aD):dH prog 186 [.pointer none,A m.c] (B false):=by refine aF func186 λW=>?_;refine aq 2 λx=>?_;refine aa 6 ?_;refine ah.p' ?_ aC.d';refine ae 41 0 ?_;exact aQ 12
def Jk(b:Nat)(x:b0):ar prog 97 [av b 0] [cells b 243 x.c] (λr J=>r=A x.bm.c/\J=[cells b 243 x.c]):=by refine aF func97 λW=>?_;refine aq 2 λx=>?_;exact aQ 23
structure bM where
 x:b0
 ld:aT a6
structure bM.ok(r:bM):Prop where
 w:r.x.wf
 nil:r.x.next=.pointer none
 n:3<=r.x.n/\r.x.n<=7
 h0:r.x.eP=(r.x.ee.count true:Int)
 ce:∀l,r.ld=some l->hU l r.x.n r.x.self r.x.item r.x.bm
def bM.cs(b q:Nat)(r:bM):ab ay:=match r.ld with
 |none=>[cells b 243 r.x.c]
 |some l=>[cells b 243 ({r.x with next:=av q 0}:b0).c,cells q 183 l.c]
def bM.B'(r:bM)(m:aD):bM×Bool:=
 if r.x.bad m then(r,false)else
 match r.ld with
 |some l=>({r with ld:=some (l.B' m).1},(l.B' m).2)
 |none=>
  if m.Kind=5 then({r with ld:=some (hL r.x m.Call)},true)
  else if m.Kind=8/\fY r.x.bm m.bC=true then({r with x:={r.x with lost:=true}},true)
  else if m.Kind=7/\m.bC=r.x.bm then
   (if r.x.ee.getD m.bc.toNat true=true then(r,false)
   else if(eb r.x m).iF=0 then({r with x:=eb r.x m},false)
   else(⟨eb r.x m,some (eb r.x m).Wt⟩,true))
  else(r,false)
def afh{h:ab Bool}(u:h.length=7):h.count true<=7:=by have:=IU (a:=true) (l:=h);omega
def bM.ok.g{r:bM}(h:r.ok):0<=r.x.eP/\r.x.eP<=7:=by have:=afh h.w.ee;rw[h.h0];omega
def rL(n E x b c p):hU (jb n E x b c p) n E x b:=⟨DW _ _ _ _ _ _,rfl,rfl,rfl,rfl,by
 show(if p=1 then(1:Int)else 2)=1\/(if p=1 then(1:Int)else 2)=2\/_
 split
 .exact .inl rfl
 .exact .inr (.inl rfl)⟩
def Jl(x:b0)(c:aO):hU (hL x c) x.n x.self x.item x.bm:=by have k:=rL x.n x.self x.item x.bm c 2;exact⟨⟨k.wf.pl,k.wf.dj,k.wf.ol,k.wf.fN,k.wf.eA,k.wf.gz⟩,rfl,rfl,rfl,rfl,.inr (.inr (.inl rfl))⟩
def Jm(x:b0):hU x.Wt x.n x.self x.item x.bm:=by
 unfold b0.Wt;split
 .exact Jl ..
 .exact rL ..
end Go.Proofs.YteogojgnkjegmaaGreatDoor
namespace Go.Proofs.YteogojgnkjegmaaGreatDoor
open Go.az Go.Proofs.Tryz
variable[Go.az.b5]
section
variable{P:b1}{f:fb}{args:ab aj}{Z J:ab ay}{N:Type}{Y:N->ab aj}{E U:Nat}{l:ab N}
def ar.qh(a:∀x,(Y x).length=U)(h:ar P f args Z (λr M=>∃v,r=v/\M=rows Y v E U l::J)):ar P f args Z (λr M=>∃n Q,r=.slice n l.length Q/\M=rows Y (.slice n l.length Q) E U l::J):=by refine ar.Wg h ?_;rintro r M W D w⟨v,rfl,rfl⟩ m;obtain⟨n,Q,b,rfl,_⟩:=jc (f:=Y) a (aH _) w m;exact⟨_,⟨n,Q,rfl,rfl⟩,m⟩
end
def bM.ok.B'{r:bM}(h:r.ok)(m:aD):(r.B' m).1.ok:=by
 unfold bM.B';split
 .exact h
 .rename_i X;have K:=b0.XK X;split
  .rename_i l u;refine⟨h.w,h.nil,h.n,h.h0,λo W=>?_⟩;have:o=(l.B' m).1:=(gs W).symm;rw[this];exact vk (h.ce l u) m
  .rename_i u;split
   .refine⟨h.w,h.nil,h.n,h.h0,λo W=>?_⟩;have:o=hL r.x m.Call:=(gs W).symm;rw[this];exact Jl ..
   split
   .exact⟨⟨h.w.fv,h.w.ee,h.w.eP⟩,h.nil,h.n,h.h0,λo W=>PX⟩
   split
   .split
    .exact h
    .rename_i G;have G:r.x.ee.getD m.bc.toNat true=false:=by simpa using G
     have k:=h.g;have D:=Ed h.w m ac;have q:(eb r.x m).eP=((eb r.x m).ee.count true:Int):=by
      show r.x.eP+1=((r.x.ee.set m.bc.toNat true).count true:Int)
      rw[DS G,h.h0];rfl
     split
     .exact⟨D,h.nil,h.n,q,λo W=>PX⟩
     .refine⟨D,h.nil,h.n,q,λo W=>?_⟩;have:o=(eb r.x m).Wt:=(gs W).symm;rw[this];exact Jm ..
   .exact h
def ael(b q:Nat)(r:bM)(h:r.ok)(m:aD):ar prog 186 [av b 0,A m.c] (r.cs b q) (λv K=>∃u,v=B (r.B' m).2/\K=(r.B' m).1.cs b u):=by
 have y:=h.n;obtain⟨x,o⟩:=r;have R:x.next=.pointer none:=h.nil;have C:({x with next:=.pointer none}:b0)=x:=by rw[<-R]
 cases o with
 |some l=>
  obtain⟨W,d,_⟩:=h.ce l rfl;by_cases T:x.bad m
  .have e:(bM.mk x (some l)).B' m=(bM.mk x (some l),false):=by unfold bM.B';rw[aJ T]
   rw[e];have Q:=ar.frame (bg:=[cells q 183 l.c]) (Jj b {x with next:=av q 0} m T);refine ar.post Q ?_;rintro v K⟨_,⟨rfl,rfl⟩,rfl⟩;exact⟨_,⟨q,rfl,rfl⟩,λ_ _ _ h=>h⟩
  .have e:(bM.mk x (some l)).B' m=(bM.mk x (some (l.B' m).1),(l.B' m).2):=by unfold bM.B';rw[aG T]
   rw[e];obtain⟨M,F,D,i,t⟩:=b0.XK T;refine ar.post (ajk b q {x with next:=av q 0} ⟨h.w.fv,h.w.ee,h.w.eP⟩ l W (by rw[d];dsimp only at y⊢;omega) rfl m ⟨M,F,D,i,t⟩) ?_;exact PD
 |none=>
  dsimp only at y;by_cases T:x.bad m
  .have e:(bM.mk x none).B' m=(bM.mk x none,false):=by unfold bM.B';rw[aJ T]
   rw[e];refine ar.post (Jj b x m T) ?_;exact PD
  have X:=b0.XK T;by_cases t:m.Kind=5
  .have e:(bM.mk x none).B' m=(bM.mk x (some (hL x m.Call)),true):=by unfold bM.B';rw[aG T];dsimp only;rw[aJ t]
   rw[e];refine ar.post (ahz b x h.w ac R m X t) ?_;rintro v K⟨u,rfl,rfl⟩;exact⟨_,⟨u,rfl,rfl⟩,λ_ _ _ h=>h⟩
  by_cases p:m.Kind=8/\fY x.bm m.bC=true
  .have e:(bM.mk x none).B' m=(bM.mk {x with lost:=true} none,true):=by unfold bM.B';rw[aG T];dsimp only;rw[aG t,aJ p]
   rw[e];refine ar.post (aii b x h.w R m X p.1 p.2) ?_;exact PD
  by_cases a:m.Kind=7/\m.bC=x.bm
  .have k:AR x m:=⟨X.it,X.to,X.f0,X.fn,a.1,a.2,X.ls,R,y.2⟩
   have L:=h.g;dsimp only at L;cases G:x.ee.getD m.bc.toNat true
   .by_cases s:(eb x m).iF=0
    .have e:(bM.mk x none).B' m=(bM.mk (eb x m) none,false):=by unfold bM.B';rw[aG T];dsimp only;rw[aG t,aG p,aJ a,aG (by rw[G];decide),aJ s]
     rw[e];refine ar.post (aiG b x h.w m k y.1 ac G s) ?_;exact PD
    .have e:(bM.mk x none).B' m=(bM.mk (eb x m) (some (eb x m).Wt),true):=by unfold bM.B';rw[aG T];dsimp only;rw[aG t,aG p,aJ a,aG (by rw[G];decide),aG s]
     rw[e];refine ar.post (aky b x h.w m k y.1 ac G s) ?_;rintro v K⟨u,rfl,rfl⟩;exact⟨_,⟨u,rfl,rfl⟩,λ_ _ _ h=>h⟩
   .have e:(bM.mk x none).B' m=(bM.mk x none,false):=by unfold bM.B';rw[aG T];dsimp only;rw[aG t,aG p,aJ a,aJ G]
    rw[e];refine ar.post (afC b x h.w m k G) ?_;exact PD
  .have e:(bM.mk x none).B' m=(bM.mk x none,false):=by unfold bM.B';rw[aG T];dsimp only;rw[aG t,aG p,aG a]
   rw[e];refine ar.post (ah4 b x h.w R m X t p a) ?_;exact PD
def bM.H'(r:bM):ab aD:=if r.x.lost=true then[]else match r.ld with|some l=>l.H'|none=>(List.range r.x.n.toNat).map (pA r.x)
def bM.lost(r:bM):Bool:=r.x.lost||(match r.ld with|some l=>decide (l.phase=4)|none=>false)
def Jn(b:Nat)(x:b0)(u:x.lost=true):ar prog 98 [av b 0] [cells b 243 x.c] (λr M=>r=.slice none 0 0/\M=[cells b 243 x.c]):=by refine aF func98 λW=>?_;refine aa 15 ?_;exact PH
def ajQ(b q:Nat)(x:b0)(w:x.wf)(l:a6)(y:0<=l.n/\l.n<=1000)(M:x.next=av q 0)(u:x.lost=false):ar prog 98 [av b 0] [cells b 243 x.c,cells q 183 l.c] (λr C=>∃v,r=v/\C=[rows aD.c v 176 25 l.H',cells b 243 x.c,cells q 183 l.c]):=by have Q:=b0.at w.fv w.ee;rw[M]at Q;have c:=AM q l y;refine aF func98 λW=>?_;refine aa 15 ?_;refine ai.v (V.F' ad (v:=B false) (z:=Qr)) ?_;refine aa 10 ?_;refine ai.v (V.F' ad (z:=Q)) ?_;refine aa 10 ?_;refine ai.v (V.F' ad (z:=Q)) ?_;refine au ?_;rintro _ _⟨M,rfl,rfl⟩;exact aQ 8
def Ee(b q:Nat)(r:bM)(h:r.ok):ar prog 98 [av b 0] (r.cs b q) (λv M=>∃i Q,v=.slice i r.H'.length Q/\M=rows aD.c (.slice i r.H'.length Q) 176 25 r.H'::r.cs b q):=by
 refine ar.qh aD.len ?_;have y:=h.n;obtain⟨x,o⟩:=r;have R:x.next=.pointer none:=h.nil;dsimp only at y;unfold bM.H';dsimp only;cases C:x.lost
 .rw[aG VI];cases o with
  |some l=>
   obtain⟨k,g,_⟩:=h.ce l rfl;exact ajQ b q {x with next:=av q 0} ⟨h.w.fv,h.w.ee,h.w.eP⟩ l (by rw[g];dsimp only;omega) rfl C
  |none=>exact QX b x x.n.toNat ac ac C R h.w.fv h.w.ee
 .rw[aJ rfl];cases o with
  |some l=>
   refine ar.Wg (ar.frame (bg:=[cells q 183 l.c]) (Jn b {x with next:=av q 0} C)) ?_;rintro v M W D w⟨_,⟨rfl,rfl⟩,rfl⟩ m;exact⟨_,⟨_,rfl,rfl⟩,m.XE aD.c 176 25⟩
  |none=>
   refine ar.Wg (Jn b x C) ?_;rintro v M W D w⟨rfl,rfl⟩ m;exact⟨_,⟨_,rfl,rfl⟩,m.XE aD.c 176 25⟩
def Jo(b:Nat)(x:b0)(u:x.lost=true):ar prog 187 [av b 0] [cells b 243 x.c] (λr M=>r=B true/\M=[cells b 243 x.c]):=by refine aF func187 λW=>?_;refine aa 13 ?_;exact PH
def akb(b q:Nat)(x:b0)(w:x.wf)(l:a6)(M:x.next=av q 0)(u:x.lost=false):ar prog 187 [av b 0] [cells b 243 x.c,cells q 183 l.c] (λr C=>r=B (decide (l.phase=4))/\C=[cells b 243 x.c,cells q 183 l.c]):=by have Q:=b0.at w.fv w.ee;rw[M]at Q;have y:=DV q l;refine aF func187 λW=>?_;refine aa 13 ?_;refine ai.v (V.F' ad (v:=B false) (z:=Qr)) ?_;refine aa 5 ?_;refine ai.v (V.F' ad (z:=Q)) ?_;exact aQ 9
def ahK(b:Nat)(x:b0)(w:x.wf)(M:x.next=.pointer none)(u:x.lost=false):ar prog 187 [av b 0] [cells b 243 x.c] (λr C=>r=B false/\C=[cells b 243 x.c]):=by have Q:=b0.at w.fv w.ee;rw[M]at Q;have y:=P6;refine aF func187 λW=>?_;refine aa 13 ?_;refine ai.v (V.F' ad (v:=B false) (z:=Qr)) ?_;refine aa 5 ?_;refine ai.v (V.F' ad (z:=Q)) ?_;exact aQ 8
def Rf(b q:Nat)(r:bM)(h:r.ok):ar prog 187 [av b 0] (r.cs b q) (λv M=>v=B r.lost/\M=r.cs b q):=by
 obtain⟨x,o⟩:=r;have R:x.next=.pointer none:=h.nil;unfold bM.lost;dsimp only;cases C:x.lost
 .rw[xK];cases o with
  |some l=>exact akb b q {x with next:=av q 0} ⟨h.w.fv,h.w.ee,h.w.eP⟩ l rfl C
  |none=>exact ahK b x h.w R C
 .rw[Bool.true_or];cases o with
  |some l=>
   refine ar.post (ar.frame (bg:=[cells q 183 l.c]) (Jo b {x with next:=av q 0} C)) ?_;rintro v M⟨_,⟨rfl,rfl⟩,rfl⟩;exact⟨_,⟨rfl,rfl⟩,λ_ _ _ h=>h⟩
  |none=>exact Jo b x C
def Ef(b q:Nat)(r:bM):ar prog 97 [av b 0] (r.cs b q) (λv M=>v=A r.x.bm.c/\M=r.cs b q):=by
 obtain⟨x,o⟩:=r;cases o with
 |some l=>
  refine ar.post (ar.frame (bg:=[cells q 183 l.c]) (Jk b {x with next:=av q 0})) ?_;rintro v M⟨_,⟨rfl,rfl⟩,rfl⟩;exact⟨_,⟨rfl,rfl⟩,λ_ _ _ h=>h⟩
 |none=>exact Jk b x
def bM.new(n Q:Int)(x:ag)(y:bp):bM:=⟨{b0.z with n:=n,self:=Q,item:=x,bm:=y},none⟩
def bM.Wo{n:Int}(c:3<=n/\n<=7)(Q:Int)(x:ag)(y:bp):(bM.new n Q x y).ok:=
 ⟨⟨rfl,rfl,by show(0:Int)<=0/\(0:Int)<=50;decide⟩,rfl,c,rfl,λl u=>by cases u⟩
def aiH(n Q:Int)(x:ag)(y:bp):ar prog 99 [I n,I Q,A x.c,A y.c] [] (λr M=>∃b,r=av b 0/\M=(bM.new n Q x y).cs b 0):=QW n Q x y
end Go.Proofs.YteogojgnkjegmaaGreatDoor
namespace Go.Proofs.YteogojgnkjegmaaGreatDoor
open Go.az Go.Proofs.Tryz
variable[Go.az.b5]
def sI(e:ay)(v:aj)(l:ab (ab aS)):Prop:=∃n Q b off,v=.slice n l.length Q/\Rd e n l.length b off 1 (l.map fy)
structure yS where
 err:Int
 val:ab aS
 gR:Int
 keys:ab (ab aS)
 l:gm
def gS(l:gm)(d:bF):yS:=if d.Kind=5 then⟨0,[],0,vn d.Key l,l⟩else⟨(qQ l d).1.CK,(qQ l d).1.Value,(qQ l d).1.Version,[],(qQ l d).2⟩
def aea(l:gm)(d:bF):(qQ l d).1.Keys=.slice none 0 0:=by unfold qQ l8;(repeat' split);all_goals rfl
def kz.any{n:Nat}{l:gm}(h:kz n l)(d:bF):kz (n+1) (gS l d).l:=by
 unfold gS;split
 .exact h.up
 .exact h.Z7 d
def sI.one{W:a2}{D:ab Nat}{F:ab ay}{v:aj}{k:ab (ab aS)}(K:rows fy v 9 1 k∈F):∀w,H W D F w->sI (rows fy v 9 1 k) v k:=λw s=>by obtain⟨n,Q,b,rfl,o⟩:=jc (f:=fy) (R:=1) (E:=9) (λ_=>rfl) K w s;exact⟨n,Q,b,0,rfl,o⟩
structure jO where
 num:Int
 err:Int
 val:ab aS
 gR:Int
 keys:ab (ab aS)
 ju:aj
def jO.z:jO:=⟨0,0,[],0,[],.slice none 0 0⟩
def jO.l8(x:jO):h7:=⟨x.err,x.val,x.gR,x.ju⟩
def jO.c(x:jO):ab aj:=nq.c ⟨x.num,x.l8⟩
abbrev pB:=ab (Int×jO)
abbrev Eg:Int->aj:=λk=>I k
abbrev sJ:jO->aj:=λp=>A p.c
abbrev vo(m:Nat)(l:pB):ay:=bz Eg sJ m l
def vp:hX prog 210 3 281=true:=rfl
def wZ(w:a2):(Go.zeroValue 281).run prog w=.ok (A jO.z.c) w:=rfl
def vq:hW prog 3 Eg:=hW.int rfl
def iz(l:pB)(k:Int):jO:=(aZ l k).getD jO.z
def aml(b m:Nat)(l:gm)(d:bF)(T:d.Kind=5)(u:l.length<=100000):ar prog 162 [av b 0,A d.c] (n9 b m l) (λr J=>∃v,(vn d.Key l=[]->v=.slice none 0 0)/\r=A (h7.c ⟨0,[],0,v⟩)/\J=n9 b m l++[rows fy v 9 1 (vn d.Key l)]):=by
 have G:=QN (av b 0) rfl d.Key;unfold n9;refine bh ?_;refine aF func162 λW=>?_;refine ah.V5 fy 9 1 ?_;refine Tu λY q=>?_;refine ah.p' ?_ aC.j.d'.j.d'.j;refine ae 6 0 ?_;refine af.bx 6 10 rfl rfl ?_ ?_;refine aw.z' (aN.Wp (l:=l) (k:=d.Key) (aU:=iy) fe.z ho jA kM rfl rfl VF) ?_;refine au ?_;refine ae 3 7 ?_;refine dr 10 λp=>?_;refine ae 2 11 ?_;refine aq 40 λj=>?_;refine aa 9 ?_;rintro _ _⟨Yh,Yi,rfl,rfl⟩;refine aa 4 ?_;rotate_left;refine Up λp=>?_;refine aq 40 λj=>?_;refine aa 9 ?_;rintro _ _⟨Yf,Yg,rfl,rfl⟩;refine aa 4 ?_;rotate_left
 .refine ah.rg (Jb Yh Yi b m d.Key l u) (λy:aj×ab (ab aS)=>[cells j 61 [y.1],rows fy y.1 9 1 y.2]) (λpre y=>y.2=pre.map (·.Key)/\(y.1=.slice none 0 0\/∃g Q,y.1=.slice (some ⟨g,0,none⟩) y.2.length Q)/\(y.2=[]->y.1=.slice none 0 0)) (λ_ _ _=>False) (.slice none 0 0,[]) ⟨rfl,.inl rfl,λ_=>rfl⟩ ?_ ?_ ?_
  .rintro pre x w⟨v,E⟩ C rec U⟨n,_,_⟩ L Z N K i;dsimp only at n;have P:=Ea d.Key l;rw[U]at P;simp only[bQ,df]at P;have M:E.length=pre.length:=by rw[n,dZ]
   exact RF
  .rintro⟨v,E⟩ s⟨n,t,X⟩;dsimp only at n t X;have e:E=vn d.Key l:=n;subst e;refine bh ?_;rcases t with rfl|⟨g,D,rfl⟩
   .refine aa 13 ?_
    exact MY
   .refine aa 13 ?_
    exact MY
  .intro _ _ _ _ _ _ _ h;exact h.elim
 .refine ah.rg (Jb Yf Yg b m d.Key l u) (λy:aj×ab (ab aS)=>[cells j 61 [y.1],rows fy y.1 9 1 y.2]) (λpre y=>y.2=pre.map (·.Key)/\(y.1=.slice none 0 0\/∃g Q,y.1=.slice (some ⟨g,0,none⟩) y.2.length Q)/\(y.2=[]->y.1=.slice none 0 0)) (λ_ _ _=>False) (.slice none 0 0,[]) ⟨rfl,.inl rfl,λ_=>rfl⟩ ?_ ?_ ?_
  .rintro pre x w⟨v,E⟩ C rec U⟨n,_,_⟩ L Z N K i;dsimp only at n;have P:=Ea d.Key l;rw[U]at P;simp only[bQ,df]at P;have M:E.length=pre.length:=by rw[n,dZ]
   exact RF
  .rintro⟨v,E⟩ s⟨n,t,X⟩;dsimp only at n t X;have e:E=vn d.Key l:=n;subst e;refine bh ?_;rcases t with rfl|⟨g,D,rfl⟩
   .refine aa 13 ?_
    exact MY
   .refine aa 13 ?_
    exact MY
  .intro _ _ _ _ _ _ _ h;exact h.elim
def ai9(b m n:Nat)(l:gm)(d:bF)(am:kz n l)(y:n<=10000):ar prog 162 [av b 0,A d.c] [cells b 263 (mS.c ⟨.map (some m)⟩),jd m l] (λr J=>∃k o Q,((gS l d).keys=[]->Go.Value.slice k o Q=.slice none 0 0)/\r=A (h7.c ⟨(gS l d).err,(gS l d).val,(gS l d).gR,.slice k o Q⟩)/\J=[rows fy (.slice k o Q) 9 1 (gS l d).keys,cells b 263 (mS.c ⟨.map (some m)⟩),jd m (gS l d).l]):=by
 have u:=am.len;have t:=am.gR d.Key;unfold gS;by_cases T:d.Kind=5
 .simp only[aJ T];refine ar.Wg (aml b m l d T ac) ?_;rintro v J W D w⟨x,s,rfl,rfl⟩ i;have G:=i.perm (oG (l₁:=n9 b m l) (l₂:=[_]));obtain⟨k,Q,_,rfl,_⟩:=jc (f:=fy) (R:=1) (E:=9) (λ_=>rfl) (aH _) w G;exact⟨_,⟨k,_,Q,s,rfl,rfl⟩,G⟩
 .simp only[aG T];refine ar.Wg (ahu b m l d T ac) ?_;rintro v J W D w⟨rfl,rfl⟩ i;refine⟨_,⟨none,0,0,λ_=>rfl,?_,rfl⟩,i.XE fy 9 1⟩;rw[<-aea l d]
def Jp(e:ay)(v:aj)(u:ab (ab aS))(L:sI e v u)(f:u=[]->v=.slice none 0 0)(U:u.length<=100000):ar prog 163 [v] [e] (λr J=>∃n o Q,(u=[]->Go.Value.slice n o Q=.slice none 0 0)/\r=.slice n o Q/\J=[rows fy (.slice n o Q) 9 1 u,e]):=by
 by_cases T:u=[]
 .subst T;rw[f rfl];refine aF func163 λW=>?_;refine ah.V5 fy 9 1 ?_;refine aa 9 ?_;refine ai.v (V.Yb ad) ?_;refine aa 11 ?_
  .exact⟨_,_,⟨none,0,0,λ_=>rfl,rfl,rfl⟩,VH⟩
 .obtain⟨n,Q,b,off,rfl,i⟩:=L;have w:0<u.length:=qA.2 T;obtain rfl:=i.addr w;refine aF func163 λW=>?_;refine T8 ?_;refine ai.o (O.V' ad fy [] rfl bP.nil rfl rfl (λa=>?_));refine au ?_;refine ai.o (O.Z' ad rfl rfl Vz (cz.rd ad i VF (λ_=>rfl) (λ_=>rfl) w) (λY u=>?_));refine aa 5 ?_
  .exact⟨_,_,⟨_,_,_,λh=>absurd h T,rfl,rfl⟩,VH⟩
end Go.Proofs.YteogojgnkjegmaaGreatDoor
