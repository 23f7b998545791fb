/-
 Part of the proof.
-/
import Derived.Test.YteogojgnkjegmaaGreatDoorAn
set_option linter.all false
set_option maxRecDepth 8000
set_option maxHeartbeats 8000000
namespace Go.Proofs.YteogojgnkjegmaaGreatDoor
open Go.az Go.Proofs.Tryz
variable{k:Nat}
def dM(pre:ab aj)(l:ab aD)(h:ab Bool)(n:Int)(post:ab aj):ab aj:=pre++(p1 l h n++post)
structure kL(pre:ab aj)(o:Nat)(l:ab aD)(h:ab Bool):Prop where
 pre:pre.length=o
 l:l.length=7
 h:h.length=7
variable{pre post:ab aj}{o:Nat}{l:ab aD}{h:ab Bool}{n:Int}
def dM.parts:dM pre l h n post=pre++(l.flatMap aD.c++(h.map (λb=>B b)++([I n]++post))):=by unfold dM p1;simp only[ck]
def tY(u:l.length=7):(l.flatMap aD.c).length=175:=by rw[Go.az.lw aD.len,u]
def dM.len(w:kL pre o l h):(dM pre l h n post).length=o+183+post.length:=by rw[dM.parts];simp only[bQ,tY w.l,dZ,w.h,w.pre,df,gv];omega
def dM.has(w:kL pre o l h){v:Bool}(T:h[k]?=some v):(dM pre l h n post)[o+175+k*1]?=some (B v):=by
 have u:=(cF.1 T).1;have:=w.h;rw[dM.parts,iC NY,w.pre,iC (by rw[tY w.l];omega),tY w.l,pU U0,h5,
  show o+175+k*1-o-175=k by omega,T]
 rfl
def dM.h0(w:kL pre o l h):(dM pre l h n post)[o+182]?=some (I n):=by
 have:=w.h;rw[dM.parts,iC NY,w.pre,iC (by rw[tY w.l];omega),tY w.l,iC U0,dZ,
  show o+182-o-175-h.length=0 by omega]
 rfl
def vi{o:Nat}{p x y q:ab aj}(z:p.length=o)(U:x.length=y.length):ey o x (p++(y++q))=p++(x++q):=by subst z;rw[ey,pX,U,ck];congr 2;rw[wk,sc ac,g4,show p.length+y.length-p.length=y.length by omega,z7]
def wU{L:Type}{l:ab L}{a:L}(h:l[k]?=some a):l=l.take k++([a]++l.drop (k+1))/\(l.take k).length=k/\∀b,l.set k b=l.take k++([b]++l.drop (k+1)):=by
 have u:=(cF.1 h).1;refine⟨?_,Pq,λb=>?_⟩
 .have c:l.drop k=a::l.drop (k+1):=by rw[wF u];rw[hl u]at h;rw[gs h]
  have:=nU k l;rw[c]at this;exact this.symm
 .rw[yk,aJ u];rfl
theorem dM.ZZ(w:kL pre o l h)(m:Int):bH (o+182) [I m] (dM pre l h n post) (dM pre l h m post):=⟨by
 have e:∀z:Int,dM pre l h z post=(pre++(l.flatMap aD.c++h.map (λb=>B b)))++([I z]++post):=λz=>by rw[dM.parts];simp only[ck]
 rw[e,e];exact vi (by simp only[bQ,w.pre,tY w.l,dZ,w.h]) rfl⟩
theorem dM.Xx(w:kL pre o l h)(T:k<7)(x:Bool):bH (o+175+k*1) [B x] (dM pre l h n post) (dM pre l (h.set k x) n post):=⟨by
 have U:k<h.length:=LV
 obtain⟨p,x,j⟩:=wU (hl U);have e:∀z:Bool,dM pre l (h.take k++([z]++h.drop (k+1))) n post=(pre++(l.flatMap aD.c++(h.take k).map (λb=>B b)))++([B z]++((h.drop (k+1)).map (λb=>B b)++([I n]++post))):=λz=>by rw[dM.parts];simp only[ck,hJ,eE,lq]
 rw[j,e];conv=>lhs;rw[show dM pre l h n post=dM pre l (h.take k++([h[k]]++h.drop (k+1))) n post by rw[<-p],e]
 exact vi (by simp only[bQ,w.pre,tY w.l,dZ,x];omega) rfl⟩
theorem dM.W5(w:kL pre o l h)(T:k<7)(x:aD):bH (o+0+k*25) x.c (dM pre l h n post) (dM pre (l.set k x) h n post):=⟨by
 have U:k<l.length:=by rw[w.l];exact T
 obtain⟨p,x,j⟩:=wU (hl U);have e:∀z:aD,dM pre (l.take k++([z]++l.drop (k+1))) h n post=(pre++(l.take k).flatMap aD.c)++(z.c++((l.drop (k+1)).flatMap aD.c++(h.map (λb=>B b)++([I n]++post)))):=λz=>by rw[dM.parts];simp only[ck,l3,fW,nY,db,tH]
 rw[j,e];conv=>lhs;rw[show dM pre l h n post=dM pre (l.take k++([l[k]]++l.drop (k+1))) h n post by rw[<-p],e]
 exact vi (by rw[bQ,w.pre,Go.az.lw aD.len,x];omega) rfl⟩
theorem dM.get(w:kL pre o l h){x:aD}(T:l[k]?=some x):fk (o+0+k*25) 25 (dM pre l h n post) x.c:=⟨by
 obtain⟨p,Y,j⟩:=wU T;have e:dM pre l h n post=(pre++(l.take k).flatMap aD.c)++(x.c++((l.drop (k+1)).flatMap aD.c++(h.map (λb=>B b)++([I n]++post)))):=by
  conv=>lhs;rw[dM.parts,p]
  simp only[ck,l3,fW,nY,db,tH]
 have z:(pre++(l.take k).flatMap aD.c).length=o+0+k*25:=by rw[bQ,w.pre,Go.az.lw aD.len,Y];omega
 rw[e,kg,<-z,z7];exact As (aD.len x)⟩
def dM.Z0(w:kL pre o l h):Nat.blt (o+182) (dM pre l h n post).length=true:=by rw[nr,dM.len w];omega
def dM.Z1(w:kL pre o l h)(T:k<7):Nat.blt (o+175+k*1) (dM pre l h n post).length=true:=by rw[nr,dM.len w];omega
def dM.Xy(w:kL pre o l h)(T:k<7):Nat.ble (o+0+k*25+25) (dM pre l h n post).length=true:=by rw[Nat.ble_eq,dM.len w];omega
def kL.W5(w:kL pre o l h)(k:Nat)(x:aD):kL pre o (l.set k x) h:=⟨w.pre,by rw[cy,w.l],w.h⟩
def kL.Xx(w:kL pre o l h)(k:Nat)(x:Bool):kL pre o l (h.set k x):=⟨w.pre,w.l,by rw[cy,w.h]⟩
def AJ(b E:Nat)(w:kL pre o l h)(M:Int)(m:aD)(y:-100<=n/\n<=100):ar prog 238 [av b o,I M,A m.c] [cells b E (dM pre l h n post)] (λr J=>r=B (decide (0<=M/\M<7)&&!(h.getD M.toNat true))/\J=[cells b E (if 0<=M/\M<7/\h.getD M.toNat true=false then dM pre (l.set M.toNat m) (h.set M.toNat true) (n+1) post else dM pre l h n post)]):=by
 by_cases g:0<=M/\M<7
 .obtain⟨k,rfl⟩:∃k:Nat,M=(k:Int):=⟨M.toNat,ac⟩
  have T:k<7:=ac
  obtain⟨v,t⟩:=cl (g:=h) (k:=k) LV;have e:h.getD ((k:Int)).toNat true=v:=Qz
  rw[e,show((k:Int)).toNat=k by omega];have b:=dM.has (post:=post) (n:=n) w t;cases v with
  |true=>
   rw[aG VK,show(decide (0<=(k:Int)/\(k:Int)<7)&&!true)=false by simp];refine aF func238 λW=>?_;refine aq 2 λa=>?_;refine aa 23 ?_;refine ON ?_;exact aQ 12
  |false=>
   rw[aJ ⟨g.1,g.2,rfl⟩,show(decide (0<=(k:Int)/\(k:Int)<7)&&!false)=true by simp;omega];refine aF func238 λW=>?_;have q:=w.W5 k m;have C:=q.Xx k true;have K:=dM.h0 (post:=post) (n:=n) C;refine aq 2 λa=>?_;refine aa 23 ?_;refine ON ?_;refine aa 7 ?_;refine ah.p' ?_ aC.j.d';refine ae 7 0 ?_;refine af.n' 7 rfl (V.V6 ad (k:=k) rfl rfl rfl) ?_;refine ae 2 9 ?_;refine af.y' 8 rfl (O.XD ad ?_ (v:=dM.Xy w T) (i:=dM.W5 w T m));refine au ?_;refine af.n' 11 rfl (V.V6 ad (k:=k) rfl rfl rfl) ?_;refine af.y' 12 rfl (O.O' ad ?_ (j:=dM.Z1 q T) (i:=dM.Xx q T true));refine aa 8 ?_;refine ai.v (V.F' ad (z:=K)) ?_;refine aa 3 ?_;refine ai.o (O.O' ad ?_ (j:=dM.Z0 C) (i:=dM.ZZ C (n+1)));exact aQ 9
 .rw[aG ac,show(decide (0<=M/\M<7)&&!(h.getD M.toNat true))=false by simp;omega];refine aF func238 λW=>?_;refine aq 2 λa=>?_;refine aa 13 ?_;refine ai.aX (λs=>?_) (λs=>?_);exact aQ 22;exact aQ 23
end Go.Proofs.YteogojgnkjegmaaGreatDoor
namespace Go.Proofs.YteogojgnkjegmaaGreatDoor
open Go.az Go.Proofs.Tryz
variable{k:Nat}{Y:Type}
def eL(aU:Y->aj)(pre:ab aj)(l:ab Y)(h:ab Bool)(n:Int)(post:ab aj):ab aj:=pre++((l.map aU++(h.map (λb=>B b)++[I n]))++post)
structure mC{Y:Type}(pre:ab aj)(o:Nat)(l:ab Y)(h:ab Bool):Prop where
 pre:pre.length=o
 l:l.length=7
 h:h.length=7
variable{aU:Y->aj}{pre post:ab aj}{o:Nat}{l:ab Y}{h:ab Bool}{n:Int}
def eL.parts:eL aU pre l h n post=pre++(l.map aU++(h.map (λb=>B b)++([I n]++post))):=by unfold eL;simp only[ck]
def vj(u:l.length=7):(l.map aU).length=7:=by rw[dZ,u]
def eL.len(w:mC pre o l h):(eL aU pre l h n post).length=o+15+post.length:=by rw[eL.parts];simp only[bQ,vj w.l,dZ,w.h,w.pre,df,gv];omega
def eL.has(w:mC pre o l h){v:Bool}(T:h[k]?=some v):(eL aU pre l h n post)[o+7+k*1]?=some (B v):=by
 have u:=(cF.1 T).1;have:=w.h;rw[eL.parts,iC NY,w.pre,iC (by rw[vj w.l];omega),vj w.l,pU U0,h5,
  show o+7+k*1-o-7=k by omega,T]
 rfl
def eL.h0(w:mC pre o l h):(eL aU pre l h n post)[o+14]?=some (I n):=by
 have:=w.h;rw[eL.parts,iC NY,w.pre,iC (by rw[vj w.l];omega),vj w.l,iC U0,dZ,
  show o+14-o-7-h.length=0 by omega]
 rfl
theorem eL.ZZ(w:mC pre o l h)(m:Int):bH (o+14) [I m] (eL aU pre l h n post) (eL aU pre l h m post):=⟨by
 have e:∀z:Int,eL aU pre l h z post=(pre++(l.map aU++h.map (λb=>B b)))++([I z]++post):=λz=>by rw[eL.parts];simp only[ck]
 rw[e,e];exact vi (by simp only[bQ,w.pre,vj w.l,dZ,w.h]) rfl⟩
theorem eL.Xx(w:mC pre o l h)(T:k<7)(x:Bool):bH (o+7+k*1) [B x] (eL aU pre l h n post) (eL aU pre l (h.set k x) n post):=⟨by
 have U:k<h.length:=LV
 obtain⟨p,x,j⟩:=wU (hl U);have e:∀z:Bool,eL aU pre l (h.take k++([z]++h.drop (k+1))) n post=(pre++(l.map aU++(h.take k).map (λb=>B b)))++([B z]++((h.drop (k+1)).map (λb=>B b)++([I n]++post))):=λz=>by rw[eL.parts];simp only[ck,hJ,eE,lq]
 rw[j,e];conv=>lhs;rw[show eL aU pre l h n post=eL aU pre l (h.take k++([h[k]]++h.drop (k+1))) n post by rw[<-p],e]
 exact vi (by simp only[bQ,w.pre,vj w.l,dZ,x];omega) rfl⟩
theorem eL.W5(w:mC pre o l h)(T:k<7)(x:Y):bH (o+0+k*1) [aU x] (eL aU pre l h n post) (eL aU pre (l.set k x) h n post):=⟨by
 have U:k<l.length:=by rw[w.l];exact T
 obtain⟨p,x,j⟩:=wU (hl U);have e:∀z:Y,eL aU pre (l.take k++([z]++l.drop (k+1))) h n post=(pre++(l.take k).map aU)++([aU z]++((l.drop (k+1)).map aU++(h.map (λb=>B b)++([I n]++post)))):=λz=>by rw[eL.parts];simp only[ck,hJ,eE,lq,db,tH,mQ]
 rw[j,e];conv=>lhs;rw[show eL aU pre l h n post=eL aU pre (l.take k++([l[k]]++l.drop (k+1))) h n post by rw[<-p],e]
 exact vi (by rw[bQ,w.pre,dZ,x];omega) rfl⟩
def eL.Z0(w:mC pre o l h):Nat.blt (o+14) (eL aU pre l h n post).length=true:=Tr
def eL.Z1(w:mC pre o l h)(T:k<7):Nat.blt (o+7+k*1) (eL aU pre l h n post).length=true:=Tr
def mC.W5(w:mC pre o l h)(k:Nat)(x:Y):mC pre o (l.set k x) h:=⟨w.pre,by rw[cy,w.l],w.h⟩
def mC.Xx(w:mC pre o l h)(k:Nat)(x:Bool):mC pre o l (h.set k x):=⟨w.pre,w.l,by rw[cy,w.h]⟩
def eL.ac4(w:mC pre o l h)(T:k<7):Nat.blt (o+0+k*1) (eL aU pre l h n post).length=true:=Tr
def afu{l:ab Bool}(b E:Nat)(w:mC pre o l h)(M:Int)(m:Bool)(y:-100<=n/\n<=100):ar prog 241 [av b o,I M,B m] [cells b E (eL (λb:Bool=>B b) pre l h n post)] (λr J=>r=B (decide (0<=M/\M<7)&&!(h.getD M.toNat true))/\J=[cells b E (if 0<=M/\M<7/\h.getD M.toNat true=false then eL (λb:Bool=>B b) pre (l.set M.toNat m) (h.set M.toNat true) (n+1) post else eL (λb:Bool=>B b) pre l h n post)]):=by
 by_cases g:0<=M/\M<7
 .obtain⟨k,rfl⟩:∃k:Nat,M=(k:Int):=⟨M.toNat,ac⟩
  have T:k<7:=ac
  obtain⟨v,t⟩:=cl (g:=h) (k:=k) LV;have e:h.getD ((k:Int)).toNat true=v:=Qz
  rw[e,show((k:Int)).toNat=k by omega];have i:=eL.has (aU:=(λb:Bool=>B b)) (post:=post) (n:=n) w t;cases v with
  |true=>
   rw[aG VK,show(decide (0<=(k:Int)/\(k:Int)<7)&&!true)=false by simp];refine aF func241 λW=>?_;refine aa 25 ?_;refine ai.v (V.V6 ad (k:=k) rfl rfl rfl) ?_;refine ai.v (V.F' ad (z:=i)) ?_;exact aQ 12
  |false=>
   rw[aJ ⟨g.1,g.2,rfl⟩,show(decide (0<=(k:Int)/\(k:Int)<7)&&!false)=true by simp;omega];refine aF func241 λW=>?_;have q:=w.W5 k m;have C:=q.Xx k true;have K:=eL.h0 (aU:=(λb:Bool=>B b)) (post:=post) (n:=n) C;refine aa 25 ?_;refine ai.v (V.V6 ad (k:=k) rfl rfl rfl) ?_;refine ai.v (V.F' ad (z:=i)) ?_;refine aa 7 ?_;refine ah.p' ?_ aC.j;refine ae 7 0 ?_;refine af.n' 7 rfl (V.V6 ad (k:=k) rfl rfl rfl) ?_;refine ae 2 9 ?_;refine af.y' 8 rfl (O.O' ad ?_ (j:=eL.ac4 w T) (i:=eL.W5 (aU:=(λb:Bool=>B b)) w T m));refine au ?_;refine af.n' 11 rfl (V.V6 ad (k:=k) rfl rfl rfl) ?_;refine af.y' 12 rfl (O.O' ad ?_ (j:=eL.Z1 q T) (i:=eL.Xx q T true));refine aa 8 ?_;refine ai.v (V.F' ad (z:=K)) ?_;refine aa 3 ?_;refine ai.o (O.O' ad ?_ (j:=eL.Z0 C) (i:=eL.ZZ C (n+1)));exact aQ 9
 .rw[aG ac,show(decide (0<=M/\M<7)&&!(h.getD M.toNat true))=false by simp;omega];refine aF func241 λW=>?_;refine RW (λx=>?_) λx=>?_;exact aQ 22;exact aQ 23
end Go.Proofs.YteogojgnkjegmaaGreatDoor
namespace Go.Proofs.YteogojgnkjegmaaGreatDoor
open Go.az Go.Proofs.Tryz
variable{n M:Int}{k:Nat}
def jM{o:Type}(l:ab o)(h:ab Bool)(k:Nat):aT (Nat×o):=if h.getD k false=true then l[k]?.map λx=>(k,x)else none
def jy{o:Type}(l:ab o)(h:ab Bool)(k:Nat):ab (Nat×o):=(List.range k).filterMap (jM l h)
def eT{o:Type}(l:ab o)(h:ab Bool):ab (Nat×o):=jy l h 7
def py{o:Type}(l:ab o)(h:ab Bool)(k:Nat):jy l h (k+1)=jy l h k++(jM l h k).toList:=by unfold jy;rw[sk,List.filterMap_append];cases J:jM l h k<;>simp[J]
def IQ{o:Type}(l:ab o)(h:ab Bool)(k:Nat):∀d:Nat,∃t,jy l h (k+d)=jy l h k++t
 |0=>⟨[],VK⟩
 |d+1=>by obtain⟨t,f⟩:=IQ l h k d;exact⟨t++(jM l h (k+d)).toList,by rw[show k+(d+1)=(k+d)+1 by omega,py,f,ck]⟩
def IR{o:Type}{l:ab o}{h:ab Bool}{p:Nat×o}(T:k<7)(J:jM l h k=some p):∃w,eT l h=jy l h k++p::w:=by obtain⟨t,f⟩:=IQ l h (k+1) (7-(k+1));rw[show k+1+(7-(k+1))=7 by omega]at f;refine⟨t,?_⟩;rw[eT,f,py,J,ck];rfl
def AK(x:Nat×aD):ab aj:=[I (x.1:Int),A x.2.c]
def IS{pre a:ab aj}{o:Nat}{l:ab aD}{h:ab Bool}(b E:Nat)(w:kL pre o l h)(M:Int):ar prog 246 [av b o,I M] [cells b E (dM pre l h n a)] (λr J=>r=B (decide (0<=M/\M<7)&&h.getD M.toNat false)/\J=[cells b E (dM pre l h n a)]):=by
 by_cases g:0<=M/\M<7
 .obtain⟨k,rfl⟩:∃k:Nat,M=(k:Int):=⟨M.toNat,ac⟩
  have T:k<7:=ac
  obtain⟨v,t⟩:=cl (g:=h) (k:=k) LV;have e:h.getD ((k:Int)).toNat false=v:=Qz
  rw[e,show(decide (0<=(k:Int)/\(k:Int)<7)&&v)=v by simp[g]];have b:=dM.has (post:=a) (n:=n) w t;refine aF func246 λW=>?_;refine aa 24 ?_;refine ON ?_;exact aQ 6
 .rw[show(decide (0<=M/\M<7)&&(h.getD M.toNat false))=false by simp[g]];refine aF func246 λW=>?_;refine aa 14 ?_;refine ai.aX (λW=>?_) (λW=>?_);exact aQ 17;exact aQ 16
def aej{pre a:ab aj}{o:Nat}{l:ab aD}{h:ab Bool}(b E:Nat)(w:kL pre o l h):ar prog 135 [av b o] [cells b E (dM pre l h n a)] (λr J=>r=I n/\J=[cells b E (dM pre l h n a)]):=by have K:=dM.h0 (post:=a) (n:=n) w;refine aF func135 λW=>?_;exact UV
def agZ(r:aj)(g:r.oneCell'=true):ar prog 201 [r] [] (λv J=>∃q,v=.func (.func 245) #[] #[av q 0]/\J=[cells q 311 [r]]):=by refine aF func201 λW=>?_;exact Ve
def IT{pre a:ab aj}{o:Nat}{l:ab aD}{h:ab Bool}(q b E:Nat)(w:kL pre o l h):sg prog 245 [av q 0] [cells q 311 [av b o],cells b E (dM pre l h n a)] AK (eT l h) [cells q 311 [av b o],cells b E (dM pre l h n a)]:=by
 intro y u G X S z Q f;refine aF func245 λW=>?_;refine aa 6 ?_;refine ah.cq [0,1] (λy:Nat×u=>y.1<=7/\G (jy l h y.1) y.2) (λy=>[(4,I (y.1:Int))]) (λy=>[S y.2]) (λy=>7-y.1) (0,z) ⟨ac,Q⟩ ?_;rintro⟨k,s⟩⟨T,m⟩ K i;dsimp only at T m;refine bh ?_;have R:=py l h k;by_cases Z:k<7
 .have r:=IS (n:=n) (a:=a) b E w (k:Int);rw[show decide (0<=(k:Int)/\(k:Int)<7)=true by simp;omega,qB,show((k:Int)).toNat=k by omega]at r;cases t:h.getD k false with
  |false=>
   rw[t]at r;rw[show jM l h k=none by unfold jM;rw[t];simp]at R;simp only[Dw,db]at R;refine aa 45 ?_;rotate_left;refine Out.C' i (k+1,s) ?_ Mn;exact ⟨BI,by rw[R];exact m⟩
  |true=>
   rw[t]at r;obtain⟨x,U⟩:=cl (g:=l) (k:=k) (by rw[w.l];exact Z);have J:jM l h k=some (k,x):=by unfold jM;rw[t,aJ rfl,U];rfl
   rw[J]at R;simp only[x6]at R;obtain⟨C,Y⟩:=IR Z J;have N:=f _ _ C s Y m;have c:=dM.get (post:=a) (n:=n) w U;refine aa 30 ?_;refine ai.v (V.V6 ad (k:=k) rfl rfl rfl) ?_;refine ai.v (V.WG ad (z:=dM.Xy w Z) (j:=c)) ?_;refine ai.o (aw.WX rfl rfl (N) VH ?_);rintro M j⟨d,g,rfl,F,D,rfl⟩;refine Si (λp=>?_) λp=>?_;refine aa 6 ?_
   .exact⟨_,_,⟨_,.inr ⟨jy l h k++[(k,x)],⟨C,Hs⟩,D VV⟩,rfl⟩,VH⟩
   refine aa 7 ?_;rotate_left;refine Out.C' i (k+1,_) ?_ Mn;exact ⟨BI,by rw[R];exact F VV⟩
 .obtain rfl:k=7:=by omega
  refine aa 12 ?_
  .exact⟨_,_,⟨s,.inl m,rfl⟩,VH⟩
def aj2{pre a:ab aj}{o:Nat}{l:ab Bool}{h:ab Bool}(b E:Nat)(w:mC pre o l h):ar prog 242 [av b o] [cells b E (eL (λz:Bool=>B z) pre l h n a)] (λr J=>r=I n/\J=[cells b E (eL (λz:Bool=>B z) pre l h n a)]):=by have K:=eL.h0 (aU:=(λz:Bool=>B z)) (post:=a) (n:=n) w;refine aF func242 λW=>?_;exact UV
def ar.facts{P:b1}{f:fb}{args:ab aj}{F:ab ay}{R a:aj->ab ay->Prop}(h:ar P f args F R)(g:∀v J W D w,R v J->H W D J w->a v J):ar P f args F a:=
 ar.of λw W=>(h.get w W).mono λe D ⟨v,J,P,f,b⟩=>⟨v,J,P,g v J _ _ D f b,b⟩
def DR{e:ay}{i:aT Go.Addr}{Q b off:Nat}{N:ab aD}{x:ag}{m:aD}{t:ab aD}(U:N.length<=1000)(f:Rd e i N.length b off 25 (N.map aD.c))(E:lM x N=m::t):ar prog 283 [A x.c,.slice i N.length Q] [e] (λr J=>∃g G,r=.slice (some ⟨g,0,none⟩) (t.length+1) G/\J=[rows aD.c (.slice (some ⟨g,0,none⟩) (t.length+1) G) 176 25 (m::t),e]):=by
 refine ar.facts (AI e i Q b off N x U f) ?_;rintro v J W D w⟨L,rfl,rfl⟩ n;rw[E]at n⊢;rcases h6 (aH _) w n with⟨_,h⟩|⟨g,G,rfl,_⟩
 .cases h
 .exact⟨g,G,rfl,rfl⟩
def l6(c d:aO):aO:=n4 c [d]
def g9(c:aO)(N:ab aD):aO:=N.foldl (λc p=>if p.Status=1 then l6 c p.Call else c) c
def AL(c:aO)(N:ab aD)(p:aD):g9 c (N++[p])=(if p.Status=1 then l6 (g9 c N) p.Call else g9 c N):=by simp[g9]
def nF(N:ab aD):aT aD:=match am 2 N with
 |some m=>match am 1 N with
  |some a=>if fY m.bZ a.bZ then none else some m
  |none=>some m
 |none=>none
def choose(n:Int)(x:ag)(N:ab aD):Int×aO:=
 if(N.length:Int)<cg n+1 then(0,aO.z)else
 match am 3 N with
 |some m=>(1,m.Call)
 |none=>match nF N with
  |some m=>(2,m.Call)
  |none=>match lM x N with
   |m::t=>if cg n<=((t.length+1:Nat):Int)then(2,m.Call)else match am 1 N with
    |none=>(2,aO.z)
    |some a=>(3,g9 a.Call N)
   |[]=>match am 1 N with
    |none=>(2,aO.z)
    |some a=>(3,g9 a.Call N)
def alU(e:ay)(cK:aT Go.Addr)(D b off:Nat)(n:Int)(x:ag)(N:ab aD)(cN:3<=n/\n<=1000000)(b6:N.length<=1000)(f:Rd e cK N.length b off 25 (N.map aD.c)):ar prog 266 [I n,A x.c,.slice cK N.length D] [e] (λr J=>r=.tuple #[I (choose n x N).1,A (choose n x N).2.c]/\J=[e]):=by
 have qe:=Aa n ac;have c0:=C1 n ac;have Ye:1<=cg n:=Tc
 have Yg:bb .geq ((([]:ab aD).length:Nat):Int) (cg n)=some false:=VA
 have cr (st:Int):=PQ e cK D b off N st f;have cd:=cr 3;have bW:=cr 2;have bf:=cr 1;clear cr;by_cases P:(N.length:Int)<cg n+1
 .rw[show choose n x N=(0,aO.z) by unfold choose;rw[aJ P]];refine aF func266 λW=>?_;refine aq 2 λG=>?_;refine aq 1 λj=>?_;exact aQ 23
 .cases q:am 3 N with
  |some m=>
   rw[show choose n x N=(1,m.Call) by unfold choose;rw[aG P,q]];rw[q]at cd;refine aF func266 λW=>?_;refine aq 2 λG=>?_;refine aq 1 λj=>?_;refine aq 24 λu=>?_;refine aa 11 ?_;refine ah.p' ?_ aC.j.j.j.d';refine ae 4 0 ?_;exact aQ 5
  |none=>
   rw[q]at cd;cases F:am 1 N with
   |none=>
    rw[F]at bf;cases y:am 2 N with
    |none=>
     rw[y]at bW;have L:nF N=none:=by simp[nF,y]
     cases T:lM x N with
     |cons yJ t=>
      have d:=DR (x:=x) (Q:=D) b6 f T;by_cases Y:cg n<=((t.length+1:Nat):Int)
      exact QU
      .rw[show choose n x N=(2,aO.z) by unfold choose;rw[aG P,q];simp only[L,T,Y,iH,F]];refine RP λW G j u Q s=>?_;refine aa 30 ?_;rintro _ _⟨R,U,rfl,rfl⟩;exact aQ 40
     |nil=>
      have d:=AI e cK D b off N x b6 f;rw[T]at d;rw[show choose n x N=(2,aO.z) by unfold choose;rw[aG P,q];simp only[L,T,F]];refine RP λW G j u Q s=>?_;refine aa 30 ?_;rintro _ _⟨Yh,rfl,rfl⟩;refine aa 12 ?_;refine ai.aX (λlN=>?_) (λlN=>?_);exact aQ 27;exact aQ 27
    |some m=>
     rw[y]at bW;have L:nF N=some m:=by simp[nF,y,F]
     rw[show choose n x N=(2,m.Call) by unfold choose;rw[aG P,q];simp only[L]];refine RP λW G j u Q s=>?_;refine aa 24 ?_;exact UP
   |some a=>
    rw[F]at bf;cases y:am 2 N with
    |none=>
     rw[y]at bW;have L:nF N=none:=by simp[nF,y]
     cases T:lM x N with
     |cons yJ t=>
      have d:=DR (x:=x) (Q:=D) b6 f T;by_cases Y:cg n<=((t.length+1:Nat):Int)
      exact QU
      .rw[show choose n x N=(3,g9 a.Call N) by unfold choose;rw[aG P,q];simp only[L,T,Y,iH,F]];refine RP λW G j u Q s=>?_;refine aa 30 ?_;rintro _ _⟨R,U,rfl,rfl⟩;refine aq 36 λC=>?_;refine aa 12 ?_;refine LQ λi Yc K Z=>?_;by_cases M:i<N.length
       .obtain⟨p,w⟩:=cl M;refine Pd λj3 h=>?_
        generalize g9 a.Call (N.take i)=c at*;have dA (g:Nat):ar prog 202 [A c.c,.slice (some ⟨g,0,none⟩) 1 1] [rows aO.c (.slice (some ⟨g,0,none⟩) 1 1) 52 14 [p.Call]] (λr J=>r=A (l6 c p.Call).c/\J=[rows aO.c (.slice (some ⟨g,0,none⟩) 1 1) 52 14 [p.Call]]):=
         wH _ _ 1 _ _ c [p.Call] (Rd.rows (l:=[p.Call]) aO.len VK)
        by_cases E:p.Status=1
        exact QR
        exact RO
       .obtain rfl:i=N.length:=by omega
        rw[iI];clear Z;exact Rc
     |nil=>
      have d:=AI e cK D b off N x b6 f;rw[T]at d;rw[show choose n x N=(3,g9 a.Call N) by unfold choose;rw[aG P,q];simp only[L,T,F]];refine RP λW G j u Q s=>?_;refine aa 30 ?_;rintro _ _⟨Yh,rfl,rfl⟩;refine aa 10 ?_;refine ai.v (V.cmp rfl rfl Yg) ?_;refine aq 24 λC=>?_;refine aa 12 ?_;refine LQ λi Yc K Z=>?_;by_cases M:i<N.length
      .obtain⟨p,w⟩:=cl M;refine Pd λj3 h=>?_
       generalize g9 a.Call (N.take i)=c at*;have dA (g:Nat):ar prog 202 [A c.c,.slice (some ⟨g,0,none⟩) 1 1] [rows aO.c (.slice (some ⟨g,0,none⟩) 1 1) 52 14 [p.Call]] (λr J=>r=A (l6 c p.Call).c/\J=[rows aO.c (.slice (some ⟨g,0,none⟩) 1 1) 52 14 [p.Call]]):=
        wH _ _ 1 _ _ c [p.Call] (Rd.rows (l:=[p.Call]) aO.len VK)
       by_cases E:p.Status=1
       exact QR
       exact RO
      .obtain rfl:i=N.length:=by omega
       rw[iI];clear Z;exact Rc
    |some m=>
     rw[y]at bW;have iQ:=u1 m.bZ a.bZ;cases bN:fY m.bZ a.bZ with
     |false=>
      rw[bN]at iQ;have L:nF N=some m:=by simp[nF,y,F,bN]
      rw[show choose n x N=(2,m.Call) by unfold choose;rw[aG P,q];simp only[L]];refine RP λW G j u Q s=>?_;refine aa 25 ?_;exact UP
     |true=>
      rw[bN]at iQ;have L:nF N=none:=by simp[nF,y,F,bN]
      cases T:lM x N with
      |cons yJ t=>
       have d:=DR (x:=x) (Q:=D) b6 f T;by_cases Y:cg n<=((t.length+1:Nat):Int)
       .rw[show choose n x N=(2,yJ.Call) by unfold choose;rw[aG P,q];simp only[L,T,Y,ik]];refine RP λW G j u Q s=>?_;refine aa 32 ?_;rintro _ _⟨R,U,rfl,rfl⟩;refine aa 21 ?_;refine ah.p' ?_ aC.j.j.j.j.j.d'.d';refine ae 1 0 ?_;refine af.n' 1 rfl (V.E' ad (k:=0) rfl rfl) ?_;refine ae 1 2 ?_;refine af.n' 3 rfl (V.WY ad (k:=0) (o:=11) rfl VF aD.len rfl) ?_;refine ae 2 4 ?_;exact aQ 5
       .rw[show choose n x N=(3,g9 a.Call N) by unfold choose;rw[aG P,q];simp only[L,T,Y,iH,F]];refine RP λW G j u Q s=>?_;refine aa 32 ?_;rintro _ _⟨R,U,rfl,rfl⟩;refine aq 36 λC=>?_;refine aa 12 ?_;rotate_left;refine LQ λi Yc K Z=>?_;by_cases M:i<N.length
        .obtain⟨p,w⟩:=cl M;refine Pd λj3 h=>?_
         generalize g9 a.Call (N.take i)=c at*;have dA (g:Nat):ar prog 202 [A c.c,.slice (some ⟨g,0,none⟩) 1 1] [rows aO.c (.slice (some ⟨g,0,none⟩) 1 1) 52 14 [p.Call]] (λr J=>r=A (l6 c p.Call).c/\J=[rows aO.c (.slice (some ⟨g,0,none⟩) 1 1) 52 14 [p.Call]]):=
          wH _ _ 1 _ _ c [p.Call] (Rd.rows (l:=[p.Call]) aO.len VK)
         by_cases E:p.Status=1
         exact QR
         exact RO
        .obtain rfl:i=N.length:=by omega
         rw[iI];clear Z;exact Rc
      |nil=>
       have d:=AI e cK D b off N x b6 f;rw[T]at d;rw[show choose n x N=(3,g9 a.Call N) by unfold choose;rw[aG P,q];simp only[L,T,F]];refine RP λW G j u Q s=>?_;refine aa 32 ?_;rintro _ _⟨Yh,rfl,rfl⟩;refine aa 10 ?_;refine ai.v (V.cmp rfl rfl Yg) ?_;refine aq 24 λC=>?_;refine aa 12 ?_;rotate_left;refine LQ λi Yc K Z=>?_;by_cases M:i<N.length
       .obtain⟨p,w⟩:=cl M;refine Pd λj3 h=>?_
        generalize g9 a.Call (N.take i)=c at*;have dA (g:Nat):ar prog 202 [A c.c,.slice (some ⟨g,0,none⟩) 1 1] [rows aO.c (.slice (some ⟨g,0,none⟩) 1 1) 52 14 [p.Call]] (λr J=>r=A (l6 c p.Call).c/\J=[rows aO.c (.slice (some ⟨g,0,none⟩) 1 1) 52 14 [p.Call]]):=
         wH _ _ 1 _ _ c [p.Call] (Rd.rows (l:=[p.Call]) aO.len VK)
        by_cases E:p.Status=1
        exact QR
        exact RO
       .obtain rfl:i=N.length:=by omega
        rw[iI];clear Z;exact Rc
def a6.pre(x:a6):ab aj:=[I x.n,I x.self]++(x.item.c++(x.bm.c++(x.call.c++[I x.phase])))
def a6.sA(x:a6):ab aj:=x.pre++p1 x.pl x.dj x.eA
def a6.XI(x:a6):x.c=dM x.pre x.pl x.dj x.eA (ty x.ol x.fN x.gz):=rfl
def a6.iD(x:a6):x.c=eL (λb:Bool=>B b) x.sA x.ol x.fN x.gz []:=by rw[a6.XI];unfold dM eL a6.sA ty;simp only[ck,db]
structure a6.wf(x:a6):Prop where
 pl:x.pl.length=7
 dj:x.dj.length=7
 ol:x.ol.length=7
 fN:x.fN.length=7
 eA:x.eA=(x.dj.count true:Int)
 gz:x.gz=(x.fN.count true:Int)
def a6.wf.v{x:a6}(w:x.wf):kL x.pre 21 x.pl x.dj:=⟨rfl,w.pl,w.dj⟩
def a6.wf.o{x:a6}(w:x.wf):mC x.sA 204 x.ol x.fN:=⟨by
 have:(p1 x.pl x.dj x.eA).length=183:=by unfold p1;simp only[bQ,tY w.pl,dZ,w.dj,df,gv]
 rw[a6.sA,bQ,this];rfl,w.ol,w.fN⟩
def a6.wf.bU{x:a6}(w:x.wf):0<=x.eA/\x.eA<=7:=by have:=IU (a:=true) (l:=x.dj);rw[w.eA];rw[w.dj]at this;omega
def a6.wf.b3{x:a6}(w:x.wf):0<=x.gz/\x.gz<=7:=by have:=IU (a:=true) (l:=x.fN);rw[w.gz];rw[w.fN]at this;omega
def a6.Xp(x:a6):Bool:=decide (x.bm=⟨0,x.item.a1⟩)
def a6.kw(x:a6):a6:={x with call:=(eT x.pl x.dj).foldl (λc p=>l6 c p.2.Call) x.call,phase:=2}
def PV(b:Nat)(x:a6)(w:x.wf):ar prog 267 [av b 0] [cells b 183 x.c] (λr J=>r=B x.Xp/\J=[cells b 183 x.c]):=by refine aF func267 λW=>?_;refine aa 6 ?_;refine ah.p' ?_ aC.d';refine ae 9 0 ?_;refine af.y' 9 rfl (aw.fn rfl (z8 _) ?_);refine au ?_;refine af.n' 10 rfl (V.eq (bp.Y' _ _ _)) ?_;refine ae 1 11 ?_;exact aQ 4
def a6.wf.call{x:a6}(w:x.wf)(c:aO):({x with call:=c}:a6).wf:=⟨w.pl,w.dj,w.ol,w.fN,w.eA,w.gz⟩
def al0(b:Nat)(x:a6)(w:x.wf)(M:Int):ar prog 246 [av b 21,I M] [cells b 183 x.c] (λr J=>r=B (decide (0<=M/\M<7)&&x.dj.getD M.toNat false)/\J=[cells b 183 x.c]):=
 IS (a:=ty x.ol x.fN x.gz) (n:=x.eA) b 183 w.v M
def ahI(b q:Nat)(x:a6)(w:x.wf):GF prog 245 [av q 0] (λc:aO=>[cells b 183 ({x with call:=c}:a6).c]) AK (λk i c d=>(eT x.pl x.dj)[k]?=some i/\d=c) (λk c=>k=(eT x.pl x.dj).length) [cells q 311 [av b 21],cells b 183 x.c] [cells q 311 [av b 21]] x.call:=by
 intro y L ct G X S g N E f;refine aF func245 λW=>?_;refine aa 6 ?_;rw[show cells b 183 x.c=cells b 183 ({x with call:=ct g}:a6).c by rw[N]];refine ah.cq [0,1] (λy:Nat×L=>y.1<=7/\G (jy x.pl x.dj y.1).length y.2) (λy=>[(4,I (y.1:Int))]) (λy=>[S y.2,cells b 183 ({x with call:=ct y.2}:a6).c]) (λy=>7-y.1) (0,g) ⟨ac,E⟩ ?_;rintro⟨k,c⟩⟨T,u⟩ K l;dsimp only at T u;refine bh ?_;have R:=py x.pl x.dj k;by_cases Y:k<7
 .have M:=w.call (ct c);have r:=al0 b _ M (k:Int);rw[show decide (0<=(k:Int)/\(k:Int)<7)=true by simp;omega,qB,show((k:Int)).toNat=k by omega]at r;dsimp only at r;cases t:x.dj.getD k false with
  |false=>
   rw[t]at r;rw[show jM x.pl x.dj k=none by unfold jM;rw[t];simp]at R;simp only[Dw,db]at R;refine aa 45 ?_;rotate_left;refine Out.C' l (k+1,c) ?_ Mn;exact ⟨BI,by rw[R];exact u⟩
  |true=>
   rw[t]at r;obtain⟨m,U⟩:=cl (g:=x.pl) (k:=k) (by rw[w.pl];exact Y);have J:jM x.pl x.dj k=some (k,m):=by unfold jM;rw[t,aJ rfl,U];rfl
   rw[J]at R;simp only[x6]at R;obtain⟨C,s⟩:=IR Y J;have h:=f (jy x.pl x.dj k).length (k,m) c (ct c) u ⟨by rw[s,iC (cx _),Nat.sub_self];rfl,rfl⟩;have z:(jy x.pl x.dj (k+1)).length=(jy x.pl x.dj k).length+1:=by rw[R];simp
   have p:fk (21+0+k*25) 25 ({x with call:=ct c}:a6).c m.c:=dM.get M.v U;refine aa 30 ?_;refine ai.v (V.V6 ad (k:=k) rfl rfl rfl) ?_;refine ai.v (V.WG ad (z:=dM.Xy (post:=ty x.ol x.fN x.gz) (n:=x.eA) M.v Y) (j:=p)) ?_;refine ai.o (aw.WX rfl rfl (h) VH ?_);rintro Z j⟨a,D,rfl,F,Q,rfl⟩;refine Si (λP=>?_) λP=>?_;refine aa 6 ?_
   .exact⟨_,_,⟨_,(jy x.pl x.dj k).length+1,.inr L7,rfl⟩,VH⟩
   refine aa 7 ?_;rotate_left;refine Out.C' l (k+1,_) ?_ Mn;exact ⟨BI,by show G _ _;rw[z];apply_assumption;assumption⟩
 .obtain rfl:k=7:=by omega
  refine aa 12 ?_
  .exact⟨_,_,⟨c,_,.inl ⟨u,rfl⟩,rfl⟩,VH⟩
def IV(b:Nat)(x:a6)(w:x.wf):ar prog 137 [av b 0] [cells b 183 x.c] (λr J=>r=B true/\J=[cells b 183 x.kw.c]):=by
 refine aF func137 λW=>?_;refine aa 2 ?_;refine ai.o (O.Wz (λn=>?_));refine aa 9 ?_;refine zg λE=>?_;refine ah.acw (ahI b _ x w) (λc:aO=>c) (λ_=>[cells n 132 [av b 0]]) (λk c=>c=((eT x.pl x.dj).take k).foldl (λc p=>l6 c p.2.Call) x.call) (λ_ _ _=>False) x.call rfl rfl ?_ ?_ ?_
 .rintro k⟨j,m⟩ c U l rec q⟨T,rfl⟩ d s Z K i;refine bh ?_;have y:(eT x.pl x.dj).take (k+1)=(eT x.pl x.dj).take k++[(j,m)]:=mm T;have h:((eT x.pl x.dj).take (k+1)).foldl (λc p=>l6 c p.2.Call) x.call=l6 U m.Call:=by rw[y,wC,<-q];rfl
  have u (g:Nat):ar prog 202 [A U.c,.slice (some ⟨g,0,none⟩) 1 1] [rows aO.c (.slice (some ⟨g,0,none⟩) 1 1) 52 14 [m.Call]] (λr J=>r=A (l6 U m.Call).c/\J=[rows aO.c (.slice (some ⟨g,0,none⟩) 1 1) 52 14 [m.Call]]):=
   wH _ _ 1 _ _ U [m.Call] (Rd.rows (l:=[m.Call]) aO.len VK)
  refine aq 1 λD=>?_;refine aa 4 ?_;refine ah.p' ?_ aC.j.d'.d'.d';refine ae 4 0 ?_;refine ae 2 5 ?_;refine af.bx 4 7 rfl rfl ?_ ?_;refine aw.z' (V.WG ad) ?_;refine au ?_;refine af.y' 7 rfl (O.V' ad aO.c [m.Call] rfl (bP.agg rfl bP.nil) rfl rfl (λN=>?_));refine au ?_;refine af.x' 8 rfl rfl (u _) ?_;refine aa 2 ?_;refine ae 3 9 ?_;refine aa 2 ?_;rotate_left;refine O.V' ad aO.c [m.Call] rfl (bP.agg rfl bP.nil) rfl rfl (λN=>?_);refine au ?_;refine af.y' 4 rfl (aw.z' (V.WG ad) ?_);refine au ?_;refine af.x' 8 rfl rfl (u _) ?_;refine aa 2 ?_;refine ae 3 9 ?_;refine aa 2 ?_;rotate_left;all_goals exact Out.rd i (l6 U m.Call) (by show _=_;rw[h])
 .rintro k c Y rfl M;have N:k=(eT x.pl x.dj).length:=M;rw[N,iI];exact aQ 17
 .intro _ _ _ _ _ _ h;exact h.elim
def DS{h:ab Bool}(T:h.getD k true=false):(h.set k true).count true=h.count true+1:=by
 have r:h[k]?=some false:=by
  cases w:h[k]? with
  |none=>simp[List.getD,w]at T
  |some v=>simp[List.getD,w]at T;rw[T]
 obtain⟨p,x,j⟩:=wU r;have x:h.count true=(h.take k++([false]++h.drop (k+1))).count true:=by rw[<-p]
 rw[j,x];simp only[List.count_append,List.count_cons,List.count_nil];simp;omega
def a6.can(x:a6)(M:Int):Bool:=decide (0<=M/\M<7)&&!(x.dj.getD M.toNat true)
def a6.put(x:a6)(M:Int)(m:aD):a6:={x with pl:=x.pl.set M.toNat m,dj:=x.dj.set M.toNat true,eA:=x.eA+1}
def a6.ZB{x:a6}:x.can M=true↔0<=M/\M<7/\x.dj.getD M.toNat true=false:=by unfold a6.can;simp[and_assoc]
def a6.wf.put{x:a6}(w:x.wf)(q:x.can M=true)(m:aD):(x.put M m).wf:=
 ⟨by show(x.pl.set _ _).length=7;rw[cy,w.pl],by show(x.dj.set _ _).length=7;rw[cy,w.dj],w.ol,w.fN,by
  show x.eA+1=((x.dj.set _ _).count true:Int)
  rw[DS (a6.ZB.1 q).2.2,w.eA];omega,w.gz⟩
def afL(b:Nat)(x:a6)(w:x.wf)(M:Int)(m:aD):ar prog 238 [av b 21,I M,A m.c] [cells b 183 x.c] (λr J=>r=B (x.can M)/\J=[cells b 183 (if x.can M=true then x.put M m else x).c]):=by
 have X:=w.bU;have h:=AJ (post:=ty x.ol x.fN x.gz) (n:=x.eA) b 183 w.v M m ac;refine h.mono ?_;rintro v J⟨rfl,rfl⟩;refine⟨rfl,?_⟩;by_cases q:x.can M=true
 .rw[aJ q,aJ (a6.ZB.1 q)];rfl
 .rw[aG q,aG (λh=>q (a6.ZB.2 h))];rfl
def IW(b:Nat)(x:a6)(w:x.wf):ar prog 135 [av b 21] [cells b 183 x.c] (λr J=>r=I x.eA/\J=[cells b 183 x.c]):=
 aej (a:=ty x.ol x.fN x.gz) (n:=x.eA) b 183 w.v
def m6(l:ab (Nat×aD)):Nat:=(l.filter λp=>p.2.cZ).length
def PZ(l:ab (Nat×aD))(p:Nat×aD):m6 (l++[p])=m6 l+(if p.2.cZ=true then 1 else 0):=by unfold m6;rw[nA,bQ];by_cases h:p.2.cZ=true<;>simp[h]
def a6.Ws(x:a6)(m:aD):a6×Bool:=
 if x.can m.bc=true then
  if(x.put m.bc m).Xp=true/\2*cg x.n<=(m6 (eT (x.put m.bc m).pl (x.put m.bc m).dj):Int)then({x.put m.bc m with phase:=3},true)
  else if x.eA+1<cg x.n+1 then(x.put m.bc m,false)
  else if(x.put m.bc m).Xp=false\/x.n-2*cg x.n<x.eA+1-(m6 (eT (x.put m.bc m).pl (x.put m.bc m).dj):Int)then((x.put m.bc m).kw,true)
  else(x.put m.bc m,false)
 else(x,false)
def DT{o:Type}(l:ab o)(h:ab Bool):(eT l h).length<=7:=by unfold eT jy;exact iB (List.length_filterMap_le _ _) VK
def alB(b:Nat)(x:a6)(w:x.wf)(m:aD)(i:0<=x.n/\x.n<=1000):ar prog 240 [av b 0,A m.c] [cells b 183 x.c] (λr J=>r=B (x.Ws m).2/\J=[cells b 183 (x.Ws m).1.c]):=by
 have R:=afL b x w m.bc m;by_cases D:x.can m.bc=true
 .have yK:=w.put D m;rw[aJ D,D]at R;have Yh:cg x.n<=1000/\0<=cg x.n:=by unfold cg;omega
  have L:x.Ws m=(if(x.put m.bc m).Xp=true/\2*cg x.n<=(m6 (eT (x.put m.bc m).pl (x.put m.bc m).dj):Int)then({x.put m.bc m with phase:=3},true)
   else if x.eA+1<cg x.n+1 then(x.put m.bc m,false)
   else if(x.put m.bc m).Xp=false\/x.n-2*cg x.n<x.eA+1-(m6 (eT (x.put m.bc m).pl (x.put m.bc m).dj):Int)then((x.put m.bc m).kw,true)
   else(x.put m.bc m,false)):=by unfold a6.Ws;rw[aJ D]
  rw[L];clear L;have DU:(x.put m.bc m).n=x.n:=rfl;have aeT:(x.put m.bc m).eA=x.eA+1:=rfl;rw[<-DU,<-aeT];have X:=yK.bU;generalize x.put m.bc m=y at*;have Ye:=PV b y yK;have Yc:=IW b y yK;have Yi:=IV b y yK;have Yg:=akT y.n ac ac;have Yf:=Aa y.n ac;refine aF func240 λW=>?_;have E (q:Nat):sg prog 245 [av q 0] [cells q 311 [av b 21],cells b 183 y.c] AK (eT y.pl y.dj) [cells q 311 [av b 21],cells b 183 y.c]:=
   IT (a:=ty y.ol y.fN y.gz) (n:=y.eA) q b 183 yK.v
  refine Ux λT=>?_;refine aq 7 λu=>?_;refine aa 9 ?_;refine zg λYj=>?_;refine ah.rg (E _) (λk:Nat=>[cells u 3 [I (k:Int)]]) (λpre k=>k=m6 pre) (λ_ _ _=>False) 0 rfl ?_ ?_ ?_
  .rintro pre⟨j,z⟩ C k l rec U rfl g Q t K N;have P:=DT y.pl y.dj;have d:m6 pre<=pre.length:=rC _ _;have f:pre.length<=7:=by rw[U,bQ]at P;omega
   have p:=PZ pre (j,z);dsimp only at p;cases a:z.cZ with
   |true=>
    rw[a,aJ rfl]at p;refine aq 1 λo=>?_;refine aa 7 ?_;refine ai.v (V.F' ad (v:=B true) (z:=by rw[<-a];rfl)) ?_;refine aa 9 ?_;exact Out.rd N (m6 pre+1) (by show _=_;rw[p])
   |false=>
    rw[a]at p;refine aq 1 λo=>?_;refine aa 7 ?_;refine ai.v (V.F' ad (v:=B false) (z:=by rw[<-a];rfl)) ?_;refine aa 5 ?_;exact Out.rd N (m6 pre) (by show _=_;rw[p];simp)
  .rintro k CJ rfl;generalize F:m6 (eT y.pl y.dj)=s at*;cases M:y.Xp with
   |true=>
    rw[M]at Ye;by_cases Y:2*cg y.n<=(s:Int)
    .rw[aJ ⟨rfl,Y⟩];refine aa 5 ?_;refine ah.p' ?_ aC.j.d'.j.d'.d';refine ae 1 0 ?_;refine af.x' 1 rfl rfl (Ye) ?_;refine aa 2 ?_;refine ae 10 2 ?_;exact aQ 20
    .rw[aG (λh=>Y h.2)];by_cases Z:y.eA<cg y.n+1
     exact TM
     .rw[aG Z];by_cases G:y.n-2*cg y.n<y.eA-(s:Int)
      .rw[aJ (.inr G)];refine MT ?_;refine UI ?_;exact aQ 15
      .rw[aG (by rintro(h|h);cases h;exact G h)];refine MT ?_;refine UI ?_;exact aQ 13
   |false=>
    rw[M]at Ye;rw[aG (by rintro⟨h,_⟩;cases h)];by_cases Z:y.eA<cg y.n+1
    exact TM
    .rw[aG Z,aJ (.inl rfl)];refine MT ?_;refine ae 21 2 ?_;exact aQ 15
  exact UO
 .have L:x.Ws m=(x,false):=by unfold a6.Ws;rw[aG D]
  rw[aG D,show x.can m.bc=false by simpa using D]at R;rw[L];refine aF func240 λW=>?_;refine Ux λT=>?_;exact aQ 11
def a6.Xg(x:a6)(M:Int):Bool:=decide (0<=M/\M<7)&&!(x.fN.getD M.toNat true)
def a6.WM(x:a6)(M:Int):a6:={x with ol:=x.ol.set M.toNat true,fN:=x.fN.set M.toNat true,gz:=x.gz+1}
def a6.ZC{x:a6}:x.Xg M=true↔0<=M/\M<7/\x.fN.getD M.toNat true=false:=by unfold a6.Xg;simp[and_assoc]
def a6.wf.WM{x:a6}(w:x.wf)(q:x.Xg M=true):(x.WM M).wf:=
 ⟨w.pl,w.dj,by show(x.ol.set _ _).length=7;rw[cy,w.ol],by show(x.fN.set _ _).length=7;rw[cy,w.fN],w.eA,by
  show x.gz+1=((x.fN.set _ _).count true:Int)
  rw[DS (a6.ZC.1 q).2.2,w.gz];omega⟩
def akU(b:Nat)(x:a6)(w:x.wf)(M:Int):ar prog 241 [av b 204,I M,B true] [cells b 183 x.c] (λr J=>r=B (x.Xg M)/\J=[cells b 183 (if x.Xg M=true then x.WM M else x).c]):=by
 have X:=w.b3;have h:=afu (post:=[]) (n:=x.gz) b 183 w.o M true ac;rw[<-a6.iD]at h;refine h.mono ?_;rintro v J⟨rfl,rfl⟩;refine⟨rfl,?_⟩;by_cases q:x.Xg M=true
 .rw[aJ q,aJ (a6.ZC.1 q),a6.iD (x.WM M)];rfl
 .rw[aG q,aG (λh=>q (a6.ZC.2 h))]
def P3(b:Nat)(x:a6)(w:x.wf):ar prog 242 [av b 204] [cells b 183 x.c] (λr J=>r=I x.gz/\J=[cells b 183 x.c]):=by have h:=aj2 (a:=[]) (n:=x.gz) b 183 w.o;rw[<-a6.iD]at h;exact h
def a6.B'(x:a6)(m:aD):a6×Bool:=
 if 2<x.phase\/m.Item≠x.item\/m.bI≠x.self\/m.bc<0\/x.n<=m.bc then(x,false)
 else if m.Kind=5 then({x with call:=m.Call,phase:=3},true)
 else if m.Kind=8/\fY x.bm m.bC=true then({x with phase:=4},true)
 else if m.bC≠x.bm then(x,false)
 else if m.Kind=2/\x.phase=1 then x.Ws m
 else if m.Kind=4/\x.phase=2 then
  (if x.Xg m.bc=true then(if cg x.n+1<=x.gz+1 then({x.WM m.bc with phase:=3},true)else(x.WM m.bc,false))else(x,false))
 else(x,false)
def a6.late(x:a6):a6×Bool:=if x.phase=1/\cg x.n+1<=x.eA then(x.kw,true)else(x,false)
def afP(b:Nat)(x:a6)(w:x.wf)(y:0<=x.n/\x.n<=1000):ar prog 96 [av b 0] [cells b 183 x.c] (λr J=>r=B x.late.2/\J=[cells b 183 x.late.1.c]):=by
 have p:=IW b x w;have y:=IV b x w;have h:=Aa x.n ac;unfold a6.late;by_cases h:x.phase=1
 .by_cases Z:cg x.n+1<=x.eA
  .rw[aJ ⟨h,Z⟩];refine aF func96 λW=>?_;apply ah.seq;refine aa 4 ?_;apply ah.seq;refine ah.V9 [23] ?_ (qD _ rp) (wV _ rp);refine ae 6 0 ?_;refine af.Zu 6 rfl (V.F' ad) ?_;refine ae 3 7 ?_;refine bK 12 ?_;refine ae 3 10 ?_;refine ae 3 14 ?_;refine af.Zu 17 rfl (V.F' ad) ?_;refine af.x' 13 rfl rfl (p) ?_;refine aa 2 ?_;refine ae 4 18 ?_;refine bK 24 ?_;refine ae 1 22 ?_;refine af.l 23 rfl (aw.V0 rfl (y) VH ?_);refine aa 2 ?_;refine ae 2 24 ?_;exact aQ 4
  .rw[aG (λv=>Z v.2)];refine aF func96 λW=>?_;apply ah.seq;refine aa 4 ?_;apply ah.seq;refine ah.p' ?_ aC.d';refine ae 10 0 ?_;refine bK 12 ?_;refine ae 3 10 ?_;refine ae 4 14 ?_;refine af.x' 13 rfl rfl (p) ?_;refine aa 2 ?_;refine ae 4 18 ?_;refine bK 24 ?_;refine ae 4 22 ?_;exact aQ 4
 .rw[aG (λv=>h v.1)];refine aF func96 λW=>?_;refine aa 6 ?_;refine ah.p' ?_ aC.d';refine ae 10 0 ?_;refine bK 12 ?_;refine ae 16 10 ?_;exact aQ 4
def DV(b:Nat)(x:a6):ar prog 89 [av b 0] [cells b 183 x.c] (λr J=>r=I x.phase/\J=[cells b 183 x.c]):=by refine aF func89 λW=>?_;exact aQ 26
def akS(b:Nat)(x:a6):ar prog 185 [av b 0] [cells b 183 x.c] (λr J=>r=A x.bm.c/\J=[cells b 183 x.c]):=by refine aF func185 λW=>?_;refine aq 2 λx=>?_;exact aQ 23
def P6:dH prog 89 [.pointer none] (I 0):=by refine aF func89 λW=>?_;exact aQ 21
def jb(n E:Int)(x:ag)(b:bp)(c:aO)(p:Int):a6:={a6.z with n:=n,self:=E,item:=x,bm:=b,call:=c,phase:=if p=1 then 1 else 2}
def DW(n E x b c p):(jb n E x b c p).wf:=⟨rfl,rfl,rfl,rfl,rfl,rfl⟩
def IX(n E:Int)(x:ag)(b:bp)(c:aO)(p:Int):ar prog 57 [I n,I E,A x.c,A b.c,A c.c,I p] [] (λr J=>∃q,r=av q 0/\J=[cells q 183 (jb n E x b c p).c]):=by
 by_cases z:p=1
 .subst z;refine aF func57 λW=>?_;refine VN λF a Q=>?_;refine aq 22 λJ=>?_;exact aQ 5
 .rw[show jb n E x b c p=jb n E x b c 2 by unfold jb;rw[aG z,aG VI]];refine aF func57 λW=>?_;refine VN λF a Q=>?_;refine aq 24 λJ=>?_;exact aQ 5
def aet(m:aD):dH prog 188 [.pointer none,A m.c] (B false):=by refine aF func188 λW=>?_;refine aq 2 λx=>?_;refine aa 5 ?_;refine ah.p' ?_ aC.d';refine ae 41 0 ?_;exact aQ 11
def DX(b:Nat)(x:a6)(w:x.wf)(m:aD)(y:0<=x.n/\x.n<=1000):ar prog 188 [av b 0,A m.c] [cells b 183 x.c] (λr J=>r=B (x.B' m).2/\J=[cells b 183 (x.B' m).1.c]):=by
 have G:=alB b x w m y;have a:=akU b x w m.bc;have p:=u1 x.bm m.bC;have h:=Aa x.n ac;have U:cg x.n<=1000/\0<=cg x.n:=Tc
 unfold a6.B';have F:(2<x.phase\/m.Item≠x.item\/m.bI≠x.self\/m.bc<0\/x.n<=m.bc)->ar prog 188 [av b 0,A m.c] [cells b 183 x.c] (λr J=>r=B false/\J=[cells b 183 x.c]):=by
  clear G a;intro f;by_cases d:2<x.phase
  .refine aF func188 λW=>?_;refine aq 2 λY=>?_;refine aa 5 ?_;refine ah.p' ?_ aC.d'.d';refine ae 10 0 ?_;refine bK 14 ?_;refine ae 31 10 ?_;exact aQ 11
  by_cases U:m.Item=x.item
  .by_cases P:m.bI=x.self
   .by_cases u:m.bc<0
    .refine PL λW Y=>?_;exact aQ 11
    .have J:x.n<=m.bc:=by
      rcases f with h|h|h|h|h
      .exact absurd h d
      .exact absurd U h
      .exact absurd P h
      .exact absurd h u
      .exact h
     refine PL λW Y=>?_;exact aQ 11
   .refine aF func188 λW=>?_;apply ah.seq;refine aq 1 λY=>?_;refine aa 3 ?_;apply ah.seq;apply ah.seq;refine ah.p' ?_ aC.d'.d';refine ae 10 0 ?_;refine bK 14 ?_;refine ae 9 10 ?_;refine bK 23 ?_;refine ae 9 19 ?_;refine af.dS 32 (λZ=>?_) (λZ=>?_);replace Z:=g5 Z;refine ae 13 28 ?_;refine aa 3 ?_;apply ah.seq;exact aQ 7;replace Z:=g5 Z;(exfalso;omega)
  .refine aF func188 λW=>?_;refine aq 2 λY=>?_;refine aa 5 ?_;refine ah.p' ?_ aC.d'.d';refine ae 10 0 ?_;refine bK 14 ?_;refine ae 9 10 ?_;refine bK 23 ?_;refine ae 22 19 ?_;exact aQ 11
 by_cases f:2<x.phase\/m.Item≠x.item\/m.bI≠x.self\/m.bc<0\/x.n<=m.bc
 .rw[aJ f];exact F f
 clear F;rw[aG f];have d:¬2<x.phase:=λh=>f (.inl h);have U:m.Item=x.item:=Decidable.byContradiction λh=>f (.inr (.inl h));have P:m.bI=x.self:=Decidable.byContradiction λh=>f (.inr (.inr (.inl h)));have u:¬m.bc<0:=λh=>f (.inr (.inr (.inr (.inl h))));have J:¬x.n<=m.bc:=λh=>f (.inr (.inr (.inr (.inr h))));clear f;by_cases t:m.Kind=5
 .rw[aJ t];clear G a;refine PL λW Y=>?_;exact aQ 39
 rw[aG t];by_cases y:m.Kind=8/\fY x.bm m.bC=true
 .rw[aJ y];obtain⟨y,s⟩:=y;rw[s]at p;clear G a;refine PL λW Y=>?_;refine aa 17 ?_;refine QK ?_;exact aQ 20
 rw[aG y];by_cases X:m.bC≠x.bm
 .rw[aJ X];clear G a;by_cases s:m.Kind=8
  .have l:fY x.bm m.bC=false:=by simpa usingλh=>y ⟨s,h⟩
   rw[l]at p;refine OC λW Y=>?_;exact aQ 12
  .refine OC λW Y=>?_;exact aQ 12
 rw[aG X];have X:=Decidable.of_not_not X;have g:fY x.bm m.bC=false:=by rw[X];simp[fY]
 rw[g]at p;by_cases Z:m.Kind=2/\x.phase=1
 .rw[aJ Z];obtain⟨Z,z⟩:=Z;clear a;refine OC λW Y=>?_;exact aQ 33
 rw[aG Z];by_cases i:m.Kind=4/\x.phase=2
 .rw[aJ i];obtain⟨i,z⟩:=i;by_cases q:x.Xg m.bc=true
  .rw[aJ q];rw[aJ q,q]at a;have l:=w.WM q;have N:=l.b3;have g:=P3 b _ l;rw[show(x.WM m.bc).gz=x.gz+1 from rfl]at g N;by_cases aV:cg x.n+1<=x.gz+1
   .rw[aJ aV];refine aF func188 λW=>?_;apply ah.seq;refine aq 1 λY=>?_;refine aa 3 ?_;apply ah.seq;apply ah.seq;refine OS ?_;refine aa 5 ?_;apply ah.seq;refine au ?_;apply ah.seq;refine aa 8 ?_;apply ah.seq;refine QK ?_;refine aa 3 ?_;apply ah.seq;refine NS ?_;refine aa 3 ?_;apply ah.seq;refine aa 16 ?_;apply ah.seq;refine aa 16 ?_;rotate_left;apply ah.seq;refine NX ?_ ?_;refine aa 2 ?_;refine ah.c (λZ=>?_) (λZ=>?_);replace Z:=g5 Z;apply ah.seq;refine aa 7 ?_;apply ah.seq;exact aQ 8;replace Z:=g5 Z;(exfalso;omega);refine aw.z' (V.F' ad) ?_;refine au ?_;refine af.x' 10 rfl rfl (g) ?_;refine aa 2 ?_;refine ae 3 15 ?_;refine aa 2 ?_;refine ah.c (λN=>?_) (λN=>?_);replace N:=g5 N;apply ah.seq;refine aa 7 ?_;apply ah.seq;exact aQ 8;replace N:=g5 N;(exfalso;omega)
   .rw[aG aV];refine aF func188 λW=>?_;apply ah.seq;refine aq 1 λY=>?_;refine aa 3 ?_;apply ah.seq;apply ah.seq;refine OS ?_;refine aa 5 ?_;apply ah.seq;refine au ?_;apply ah.seq;refine aa 8 ?_;apply ah.seq;refine QK ?_;refine aa 3 ?_;apply ah.seq;refine NS ?_;refine aa 3 ?_;apply ah.seq;refine aa 16 ?_;apply ah.seq;refine aa 16 ?_;rotate_left;apply ah.seq;refine NX ?_ ?_;refine aa 6 ?_;apply ah.seq;exact aQ 6;refine aw.z' (V.F' ad) ?_;refine au ?_;refine af.x' 10 rfl rfl (g) ?_;refine aa 2 ?_;refine ae 3 15 ?_;refine aa 6 ?_;apply ah.seq;exact aQ 6
  .rw[aG q];rw[aG q,show x.Xg m.bc=false by simpa using q]at a;refine OC λW Y=>?_;refine aa 38 ?_;refine ah.p' ?_ aC.d'.d';refine ae 5 0 ?_;refine af.x' 5 rfl rfl (a) ?_;refine aa 2 ?_;refine ae 12 6 ?_;exact aQ 13
 rw[aG i];clear a G;refine PL λW Y=>?_;refine aa 17 ?_;refine ah.p' ?_ aC.d'.d';refine ae 4 0 ?_;refine af.aX 62 (λv=>?_) (λv=>?_);refine ae 9 4 ?_;refine aa 4 ?_;refine NS ?_;exact aQ 47;refine ae 9 4 ?_;refine aa 4 ?_;refine NS ?_;refine aa 9 ?_;refine ai.aX (λM=>?_) (λM=>?_);exact aQ 37;refine aa 16 ?_;refine ai.aX (λC=>?_) (λC=>?_);exact aQ 20;exact aQ 20
end Go.Proofs.YteogojgnkjegmaaGreatDoor
