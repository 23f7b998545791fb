/-
 Part of the proof.
-/
import Derived.CallsIn
import Derived.ChangeKeysEq
import Derived.Deep.AppendSrc
import Derived.Deep.MidRow
import Derived.Deep.Quiet
import Derived.Deep.Slices
import Derived.LaidMore
import Derived.Laws.BytesString
import Derived.Laws.Externs
import Derived.Laws.OwnMore
import Derived.Laws.StructEq
import Derived.Lay
import Derived.Lib.AppendZerosOnto
import Derived.Lib.Builder
import Derived.Lib.ConvBytes
import Derived.Lib.ItoaNum
import Derived.Lib.Overlaps
import Derived.Lib.UnsafeStr
import Derived.Maps.RangeRun
import Derived.OpenShut
import Derived.OrdersHeld
import Derived.OrdersIn
import Derived.OwnWalk
import Derived.ProofKit
import Derived.RangeFuncNested
import Derived.RangeFuncRecord
import Derived.SevenTiedAt
import Derived.Shelf.Slices.In.SortNone
import Derived.Shelf.Small.Bits
import Derived.Shelf.Sort.Plain
import Derived.SizedLaws
import Derived.Sort.OwnSorted
import Derived.Stop.Joined
import Derived.TacticsIn
import Derived.WalkKit
import Derived.WideKeyArgs
set_option linter.all false
set_option maxRecDepth 8000
set_option maxHeartbeats 8000000
def s6:=@Go.Act.put_comm
def ta:=@Go.Addr.add_lit
def uS:=@Go.Addr.mk.injEq
def wt:=@Array.all_eq_true_iff_forall_mem
def Ca:=@Array.any_eq_true'
def sU:=@Array.getD_eq_getD_getElem?
def y5:=@Array.getElem?_eq_getElem
def wC:=@Array.getElem?_eq_none
def ny:=@Array.getElem?_eq_some_iff
def mV:=@Array.length_toList
def wB:=@Array.mem_of_getElem?
def Cb:=@Array.setIfInBounds_comm
def wJ:=@Array.size_append
def B5:=@Array.toArray_toList
def yO:=@Array.toList_append
def wV:=@Array.toList_filter
def wQ:=@Array.toList_push
def q9:=@BitVec.ofInt_natCast
def Dn:=@BitVec.toNat_and
def p6:=@BitVec.toNat_ofNat
def If:=@Bool.and_eq_false_iff
def cZ:=@Bool.and_eq_true
def yj:=@Bool.and_eq_true_iff
def tC:=@Bool.and_false
def pL:=@Bool.eq_iff_iff
def sb:=@Bool.false_and
def hr:=@Bool.false_eq_true
def yz:=@Bool.false_or
def rV:=@Bool.not_eq_false
def rU:=@Bool.not_eq_false'
def k7:=@Bool.not_eq_true
def j3:=@Bool.not_eq_true'
def yy:=@Bool.not_true
def E6:=@Bool.or_eq_false_iff
def ib:=@Bool.or_eq_true
def qn:=@Bool.or_true
def pa:=@Bool.true_and
def acq:=@Classical.choose_spec
def wb:=@Eq.refl
def ht:=@Eq.symm
def hI:=@Eq.trans
def y6:=@Go.ChangeMaps.map_eraseIdx
def rk:=@Go.Value.slice.injEq
def q7:=@Int.eq_ofNat_of_zero_le
def zl:=@Int.fdiv_eq_ediv_of_nonneg
def ju:=@Int.le_refl
def KP:=@Int.mul_le_mul_of_nonneg_left
def sd:=@Int.natCast_nonneg
def iB:=@Int.toNat_natCast
def DA:=@Int.toNat_of_nonneg
def aE:=@List.Mem.head
def aF:=@List.Mem.tail
def AW:=@List.Perm.append_left
def Gb:=@List.Perm.append_right
def qK:=@List.Perm.cons
def gA:=@List.Perm.refl
def gZ:=@List.Perm.swap
def kO:=@List.Perm.trans
def tQ:=@List.Sublist.cons
def og:=@List.Sublist.cons_cons
def uE:=@List.Sublist.refl
def pb:=@List.Sublist.slnil
def yt:=@List.all_cons
def gX:=@List.all_eq_true
def cd:=@List.append_assoc
def dk:=@List.append_nil
def L9:=@List.concat_eq_append
def pP:=@List.cons.injEq
def kn:=@List.cons_append
def EV:=@List.count_le_length
def uV:=@List.drop_append
def vc:=@List.drop_append_of_le_length
def pO:=@List.drop_drop
def tz:=@List.drop_eq_getElem_cons
def zc:=@List.drop_left
def qN:=@List.drop_of_length_le
def y3:=@List.drop_succ_cons
def yB:=@List.drop_zero
def F8:=@List.eq_nil_iff_forall_not_mem
def kk:=@List.eq_nil_of_length_eq_zero
def E1:=@List.eq_nil_or_concat
def HH:=@List.eraseIdx_cons_succ
def Ey:=@List.eraseIdx_eq_take_drop_succ
def va:=@List.eraseIdx_sublist
def mX:=@List.ext_getElem?
def mq:=@List.filter_append
def wX:=@List.filter_cons
def Qd:=@List.filter_cons_of_pos
def wW:=@List.filter_eq_self
def H5:=@List.filter_sublist
def vt:=@List.findIdx?_eq_none_iff
def tD:=@List.findIdx?_eq_some_iff_getElem
def lP:=@List.flatMap_append
def fG:=@List.flatMap_cons
def uR:=@List.flatMap_def
def m2:=@List.flatMap_nil
def yI:=@List.flatten_cons
def tx:=@List.foldl_append
def n6:=@List.foldl_cons
def jM:=@List.getD_eq_getElem?_getD
def pR:=@List.getElem?_append_left
def iu:=@List.getElem?_append_right
def qJ:=@List.getElem?_cons_succ
def oZ:=@List.getElem?_cons_zero
def lL:=@List.getElem?_drop
def gM:=@List.getElem?_eq_getElem
def u6:=@List.getElem?_eq_none
def cI:=@List.getElem?_eq_some_iff
def ho:=@List.getElem?_map
def pY:=@List.getElem?_modify
def qZ:=@List.getElem?_of_mem
def w3:=@List.getElem?_replicate
def kq:=@List.getElem?_set
def A5:=@List.getElem?_set_ne
def oO:=@List.getElem?_set_self
def kC:=@List.getElem?_take
def bM:=@List.length_append
def dp:=@List.length_cons
def j6:=@List.length_drop
def zU:=@List.length_eraseIdx
def xA:=@List.length_eraseIdx_le
def ri:=@List.length_filter_le
def ev:=@List.length_map
def fY:=@List.length_nil
def od:=@List.length_pos_iff
def b9:=@List.length_set
def m4:=@List.length_singleton
def eX:=@List.length_take
def iA:=@List.map_append
def Ga:=@List.map_congr_left
def eK:=@List.map_cons
def CW:=@List.map_eq_nil_iff
def wc:=@List.map_map
def kE:=@List.map_nil
def q2:=@List.map_toArray
def eN:=@List.mem_append
def qd:=@List.mem_append_left
def O2:=@List.mem_append_right
def dq:=@List.mem_cons
def hn:=@List.mem_cons_of_mem
def iT:=@List.mem_cons_self
def r3:=@List.mem_filter
def vd:=@List.mem_flatMap
def fh:=@List.mem_map
def j5:=@List.mem_of_getElem?
def yh:=@List.mem_of_mem_eraseIdx
def qD:=@List.mem_range
def iz:=@List.mem_singleton
def gi:=@List.nil_append
def gV:=@List.nodup_append
def lf:=@List.nodup_cons
def oh:=@List.nodup_nil
def iU:=@List.not_mem_nil
def mZ:=@List.perm_append_comm
def mO:=@List.perm_middle
def se:=@List.range_succ
def yC:=@List.replicate_succ
def Cw:=@List.set_cons_zero
def Dy:=@List.set_eq_take_append_cons_drop
def Gt:=@List.set_set
def tt:=@List.singleton_append
def nA:=@List.size_toArray
def Cr:=@List.sublist_append_left
def Ib:=@List.sublist_cons_self
def v8:=@List.sum_cons
def mY:=@List.take_add_one
def qO:=@List.take_append
def mU:=@List.take_append_drop
def nB:=@List.take_append_of_le_length
def o0:=@List.take_left
def zG:=@List.take_left'
def hE:=@List.take_length
def C5:=@List.take_length_add_append
def j4:=@List.take_of_length_le
def tm:=@List.take_succ_cons
def B3:=@List.take_succ_eq_append_getElem
def r1:=@List.take_take
def uU:=@List.take_zero
def Q1:=@Go.MakeChecks.laidMetH_plain
def r0:=@Go.MapKept.run_getObj_map
def oX:=@Nat.add_assoc
def eZ:=@Nat.add_mul
def Pg:=@Nat.add_sub_cancel_left
def gJ:=@Nat.add_zero
def wu:=@Nat.beq_eq
def uG:=@Nat.beq_refl
def lk:=@Nat.blt_eq
def uK:=@Nat.eq_of_beq_eq_true
def iZ:=@Nat.le_add_right
def nw:=@Nat.le_of_ble_eq_true
def cl:=@Nat.le_refl
def uQ:=@Nat.le_succ
def yk:=@Nat.le_succ_of_le
def jk:=@Nat.le_trans
def n4:=@Nat.lt_or_ge
def pS:=@Nat.min_eq_left
def q3:=@Nat.mod_eq_of_lt
def zr:=@Nat.mul_comm
def y8:=@Nat.mul_le_mul
def jn:=@Nat.mul_le_mul_right
def nJ:=@Nat.mul_one
def vr:=@Nat.not_lt_zero
def vh:=@Nat.pow_succ
def zH:=@Nat.pow_zero
def y2:=@Nat.sub_zero
def pf:=@Nat.xor_assoc
def zs:=@Nat.xor_comm
def Dm:=@Nat.xor_lt_two_pow
def vz:=@Nat.xor_self
def hm:=@Nat.zero_add
def cw:=@Nat.zero_le
def pN:=@Nat.zero_mul
def nz:=@Ne.symm
def yq:=@Option.bind_eq_some_iff
def sZ:=@Option.isSome_iff_exists
def CL:=@Option.map_eq_map
def oW:=@Option.map_eq_some_iff
def nI:=@Option.map_some
def gW:=@Option.some.inj
def er:=@Option.some.injEq
def zO:=@Option.toList_none
def u9:=@Option.toList_some
def ut:=@Or.inl
def s8:=@Or.inr
def uO:=@Prod.mk.inj
def md:=@Prod.mk.injEq
def yA:=@Go.Region.free_spec
def dv:=@Go.Result.andThen_ok
def ct:=@Go.Sem.run_bind
def ed:=@Go.Sem.run_pure
def tc:=@Go.Src.ofSlice
def pQ:=@Go.Value.slice.injEq
def Cy:=@Go.World.alloc_heap_new
def Ct:=@Go.World.ownsRow_nil
def s3:=@Go.World.putObj_heap_other
def qR:=@Go.World.putObj_heap_same
def nL:=@and_false
def ld:=@and_true
def dh:=@beq_eq_false_iff_ne
def cH:=@beq_iff_eq
def uH:=@cond_false
def qw:=@cond_true
def db:=@congrArg
def df:=@decide_eq_decide
def kc:=@decide_eq_false
def j8:=@decide_eq_false_iff_not
def iE:=@decide_eq_true
def da:=@decide_eq_true_eq
def uZ:=@decide_false
def wH:=@Go.grownCap_ge
def wI:=@Go.grownCap_le_maxLen
def wK:=@Go.growslice_fits
def wr:=@Go.heap_alloc_new
def rI:=@Go.heap_alloc_old
def ii:=@if_false
def aN:=@if_neg
def aT:=@if_pos
def hA:=@if_true
def pM:=@Go.mem_ready
def cV:=@ne_eq
def o3:=@not_false_eq_true
def q4:=@not_or
def rW:=@not_true_eq_false
def yF:=@of_decide_eq_true
def fU:=@or_false
def qE:=@Go.ready_mono
def yP:=@Go.run_append_grow_src
def tb:=@Go.run_firstCells_some
def yn:=@Go.run_loadVar_mid
def n8:=@Go.run_sizeOf
def rL:=@Go.run_storeCells_at
def dN:=@Go.run_underlying
def pH:=@Go.setRow_heap
def uF:=@Go.setRow_other
def yN:=@Go.size_zeroCells
def sV:=@Go.wpIn_mono
abbrev ab:=@List
abbrev aj:=Go.Value
abbrev aQ:=@Option
abbrev aP:=UInt8
abbrev aY:=Go.World
abbrev aZ:=Go.TypeId
abbrev bd:=Go.Operand
abbrev bF:=Go.Program
abbrev bS:=Go.Oper
abbrev dj:=Go.Exit
abbrev eg:=Go.FuncId
def ac{p:Prop}(h:p:=by omega):p:=h
def XB{p:Prop}(h:p:=by(repeat first|exact aE _|apply aF)):p:=h
def XC{p:Prop}(h:p:=by(repeat(first|exact ak.nil|exact al.here|apply ak.cons|apply al.there))):p:=h
def XD{p:Prop}(h:p:=by kernel_rfl):p:=h
def XE{p:Prop}(h:p:=by simp):p:=h
def XF{p:Prop}(h:p:=by assumption):p:=h
def XG{p:Prop}(h:p:=by decide):p:=h
def XH{p:Prop}(h:p:=by repeat first|exact az.here _ _ _|apply az.there):p:=h
def XI{p:Prop}(h:p:=by refine cj ?_;rw[aeO,q];clear ao R u t D;(simp_all<;>omega)):p:=h
def XJ{p:Prop}(h:p:=by(intro _;repeat first|exact az.here _ _ _|apply az.there)):p:=h
def XK{p:Prop}(h:p:=by grind):p:=h
def XL{p:Prop}(h:p:=by refine di ?_;(try simp only[cH,dh,cV,df]at*);(simp[cK,T,t]<;>omega)):p:=h
def XM{p:Prop}(h:p:=by simp;omega):p:=h
def XN{p:Prop}(h:p:=by rw[b9];omega):p:=h
def XO{p:Prop}(h:p:=by show i+1<=_;omega):p:=h
def XP{p:Prop}(h:p:=by rw[b9];exact M):p:=h
def XQ{p:Prop}(h:p:=by(repeat first|exact az.here _ _ _|apply az.there)):p:=h
def XR{p:Prop}(h:p:=by show Z.length-(i+1)<Z.length-i;omega):p:=h
def XS{p:Prop}(h:p:=by simp[a8];omega):p:=h
def XT{p:Prop}(h:p:=by cases h):p:=h
def XU{p:Prop}(h:p:=by simp at h):p:=h
def XV{p:Prop}(h:p:=by simpa using h):p:=h
def XW{p:Prop}(h:p:=by cases G):p:=h
def XX{p:Prop}(h:p:=by rw[<-L];rfl):p:=h
def XY{p:Prop}(h:p:=by simp[d]):p:=h
def XZ{p:Prop}(h:p:=by exact⟨_,_,⟨_,_,rfl,rfl⟩,(by(repeat(first|exact ak.nil|exact al.here|apply ak.cons|apply al.there)))⟩):p:=h
def X0{p:Prop}(h:p:=by simp only[hr,nL,fU];(try simp_all);first|done|(split<;>first|rfl|omega)|omega):p:=h
def X1{p:Prop}(h:p:=by simp only[ld];(try simp_all);first|done|(split<;>first|rfl|omega)|omega):p:=h
def X2{p:Prop}(h:p:=by repeat first|exact aE _|apply aF):p:=h
def X3{p:Prop}(h:p:=by simpa using q):p:=h
def X4{p:Prop}(h:p:=by rw[eX];omega):p:=h
def X5{p:Prop}(h:p:=by dsimp only;omega):p:=h
def X6{p:Prop}(h:p:=by rintro _ _ _ _ _ _ _ h;exact h.elim):p:=h
def X7{p:Prop}(h:p:=by rw[Y]):p:=h
def X8{p:Prop}(h:p:=by simpa using cr):p:=h
def X9{p:Prop}(h:p:=by simpa using ej):p:=h
def Ya{p:Prop}(h:p:=by apply_assumption;assumption):p:=h
def Yb{p:Prop}(h:p:=by show k+1<=_;omega):p:=h
def Zu{p:Prop}(h:p:=by simp[a8,K.oF]):p:=h
def Zv{p:Prop}(h:p:=by simp only[maxLen];omega):p:=h
def Zw{p:Prop}(h:p:=by show j+1<=_;omega):p:=h
def Zy{p:Prop}(h:p:=by rw[bb]):p:=h
def Zz{p:Prop}(h:p:=by rw[W]):p:=h
def ZA{p:Prop}(h:p:=by rw[o];simp):p:=h
def ZB{p:Prop}(h:p:=by show 7-(k+1)<7-k;omega):p:=h
def ZC{p:Prop}(h:p:=by unfold fb;clear R t u;simp only[cV]at*;(simp_all<;>omega)):p:=h
def ZD{p:Prop}(h:p:=by have:=h.size;omega):p:=h
def ZE{p:Prop}(h:p:=by rw[T];rfl):p:=h
def ZF{p:Prop}(h:p:=by intro j G Q k;simp only[jh,dq,iU,fU]at G;rcases G with rfl|rfl|rfl|rfl|rfl|rfl|rfl|rfl|rfl|rfl<;>first|exact absurd rfl Q|exact⟨rfl,rfl⟩|exact(u (by decide) k).elim|exact(u (by decide) (h.pE k)).elim):p:=h
def ZG{p:Prop}(h:p:=by simpa using z):p:=h
def ZH{p:Prop}(h:p:=by simp[q]):p:=h
def ZI{p:Prop}(h:p:=by simp only at h;subst h;rfl):p:=h
def ZJ{p:Prop}(h:p:=by simpa using hu):p:=h
def ZK{p:Prop}(h:p:=by unfold fy;(repeat first|exact aE _|apply aF)):p:=h
def ZL{p:Prop}(h:p:=by rw[lk];simp[ca];omega):p:=h
def ZM{p:Prop}(h:p:=by show k+1<=7;omega):p:=h
def ZN{p:Prop}(h:p:=by simp[N]):p:=h
def ZO{p:Prop}(h:p:=by exact⟨_,_,.inr ⟨N,_,rfl,rfl⟩,(by(repeat(first|exact ak.nil|exact al.here|apply ak.cons|apply al.there)))⟩):p:=h
def ZP{p:Prop}(h:p:=by simp[a8]):p:=h
def ZQ{p:Prop}(h:p:=by simpa using v):p:=h
def ZR{p:Prop}(h:p:=by simp at q):p:=h
def ZS{p:Prop}(h:p:=by simpa using T):p:=h
def ZT{p:Prop}(h:p:=by push_cast;omega):p:=h
def ZU{p:Prop}(h:p:=by unfold cD;omega):p:=h
def ZV{p:Prop}(h:p:=by rw[Q.length_eq,o]):p:=h
def ZW{p:Prop}(h:p:=by rw[w];(repeat(first|exact dg.nil|refine dg.cons rfl rfl ?_))):p:=h
def ZX{p:Prop}(h:p:=by rw[w];(repeat(first|exact ak.nil|exact al.here|apply ak.cons|apply al.there))):p:=h
def ZY{p:Prop}(h:p:=by rw[w.h];exact T):p:=h
def ZZ{p:Prop}(h:p:=by have:=h.len;omega):p:=h
def Z0{p:Prop}(h:p:=by show s.out.length<=_;omega):p:=h
def Z1{p:Prop}(h:p:=by unfold bX ec;(repeat(first|exact ak.nil|exact al.here|apply ak.cons|apply al.there))):p:=h
def Z2{p:Prop}(h:p:=by simp[g7];omega):p:=h
def aaQ{p:Prop}(h:p:=by intro h;cases h):p:=h
def Z4{p:Prop}(h:p:=by simpa using t):p:=h
def Z5{p:Prop}(h:p:=by simpa using d):p:=h
def Z6{p:Prop}(h:p:=by simp[MapKept.IsKey]):p:=h
def Z7{p:Prop}(h:p:=by have:=db List.length E;simpa using this):p:=h
def Z8{p:Prop}(h:p:=by obtain⟨p,q,rfl,_⟩:=fF.split;simp):p:=h
def Z9{p:Prop}(h:p:=by rintro r Y⟨rfl,rfl⟩;exact⟨_,⟨rfl,rfl⟩,dM.bare.symm⟩):p:=h
def M0{p:Prop}(h:p:=by have:=(cI.1 K).1;rwa[bI.RX]at this):p:=h
def P4{p:Prop}(h:p:=by rw[bI.RX];omega):p:=h
def OB{p:Prop}(h:p:=by show l.length-(i+1)<l.length-i;omega):p:=h
def Io{p:Prop}(h:p:=by simpa using M):p:=h
def P8{p:Prop}(h:p:=by rw[aN e,aN (λh=>e h.2.2)]):p:=h
def PL{p:Prop}(h:p:=by simp only[Go.maxLen]at M;omega):p:=h
def HZ{p:Prop}(h:p:=by rw[b9];exact C):p:=h
def MH{p:Prop}(h:p:=by show k+1<=b;omega):p:=h
def LH{p:Prop}(h:p:=by rw[E];(repeat(first|exact ak.nil|exact al.here|apply ak.cons|apply al.there))):p:=h
def Oy{p:Prop}(h:p:=by rw[w.pre];omega):p:=h
def IA{p:Prop}(h:p:=by grind [c3.parts,List.append_assoc]):p:=h
def Oi{p:Prop}(h:p:=by rw[aT u]at X;refine aq 15 λP=>?_;refine aa 15 ?_;refine ai.o (O.N' ad aV.c [p.Call] rfl (bx.agg rfl bx.nil) rfl rfl (λYe=>?_));refine ai.o' rfl (dT _) ?_;refine aa 9 ?_;rotate_left;all_goals(refine Out.t' F (i+1) ?_ (by show Z.length-(i+1)<Z.length-i;omega) (q:=by rw[X];(repeat(first|exact ak.nil|exact al.here|apply ak.cons|apply al.there)));exact (by show i+1<=_;omega))):p:=h
def JL{p:Prop}(h:p:=by rw[aN u]at X;refine aq 15 λP=>?_;refine aa 18 ?_;rotate_left;all_goals(refine Out.t' F (i+1) ?_ (by show Z.length-(i+1)<Z.length-i;omega) (q:=by rw[X];(repeat(first|exact ak.nil|exact al.here|apply ak.cons|apply al.there)));exact (by show i+1<=_;omega))):p:=h
def P3{p:Prop}(h:p:=by rw[k];simp):p:=h
def H2{p:Prop}(h:p:=by exact⟨_,_,⟨_,q,rfl,rfl⟩,(by(repeat(first|exact ak.nil|exact al.here|apply ak.cons|apply al.there)))⟩):p:=h
def Jq{p:Prop}(h:p:=by subst y;(repeat(first|exact ak.nil|exact al.here|apply ak.cons|apply al.there))):p:=h
def JM{p:Prop}(h:p:=by grind [aC.R5]):p:=h
def Q4{p:Prop}(h:p:=by show s.n<=7;omega):p:=h
def NI{p:Prop}(h:p:=by show s.inbox.length<=_;omega):p:=h
def Lo{p:Prop}(h:p:=by exact pA (k:=0) rfl (by decide)):p:=h
def Ph{p:Prop}(h:p:=by show Z.length-(k+1)<Z.length-k;omega):p:=h
def Jt{p:Prop}(h:p:=by first|exact⟨_,_,⟨true,(by intro h;cases h),rfl,rfl⟩,(by(repeat(first|exact ak.nil|exact al.here|apply ak.cons|apply al.there)))⟩|exact⟨_,_,⟨_,(by intro h;simp at h;exact⟨by omega,by omega,s⟩),rfl,rfl⟩,(by(repeat(first|exact ak.nil|exact al.here|apply ak.cons|apply al.there)))⟩):p:=h
def Lz{p:Prop}(h:p:=by exact .inl ⟨rfl,v,t⟩):p:=h
def QF{p:Prop}(h:p:=by simp[execOp,z.eval o,z.eval d,eqGuard,binOp,Op.intArith,IntWalk.i64_in _ g]):p:=h
def HA{p:Prop}(h:p:=by rw[<-s6 a v u t];exact g):p:=h
def aaA{p:Prop}(h:p:=by rw[e]at this;simp at this):p:=h
def IY{p:Prop}(h:p:=by simp[bg,hl,Value.ownBlock]):p:=h
def Lq{p:Prop}(h:p:=by have:=gI.R7 (bc:=[bZ l rec .normal,aI (S b)]) (an:=[]) h;simpa using this):p:=h
def HT{p:Prop}(h:p:=by simpa using gZ ..):p:=h
def I1{p:Prop}(h:p:=by rw[h b (by simp)];exact bY):p:=h
def My{p:Prop}(h:p:=by rw[hS,e1,hl];simp[bg,Value.ownBlock]):p:=h
def H7{p:Prop}(h:p:=by rw[<-eZ];exact jn _ (by omega)):p:=h
def Pl{p:Prop}(h:p:=by rw[v];exact gX.1 (cm.flat _)):p:=h
def Bb{p:Prop}(h:p:=by unfold pd;split<;>simp_all<;>omega):p:=h
def Q9{p:Prop}(h:p:=by rintro r Y⟨rfl,rfl⟩;exact⟨_,⟨rfl,rfl⟩,d.symm⟩):p:=h
def NW{p:Prop}(h:p:=by simp[aJ.at,bB,q.1.1.1,q.1.1.2,q.1.2,q.2,T]):p:=h
def LK{p:Prop}(h:p:=by rintro r Y⟨dE,iD,rfl,rfl⟩;exact⟨_,⟨N.set k dE,w.set k iD,by simpa using ej,by simpa using hu,rfl,rfl⟩,dM.shut (by omega) (by omega) (by omega) (by omega)⟩):p:=h
def LV{p:Prop}(h:p:=by rw[cM];exact tv (by omega) (by omega)):p:=h
def M8{p:Prop}(h:p:=by rintro r Y⟨rfl,rfl⟩;exact⟨_,⟨N,w,ej,hu,rfl,rfl⟩,dM.bare.symm⟩):p:=h
def M6{p:Prop}(h:p:=by simp only[bM];omega):p:=h
def KR{p:Prop}(h:p:=by exact⟨_,_,⟨⟨a,z,C,D⟩,rfl,rfl⟩,(by(repeat(first|exact ak.nil|exact al.here|apply ak.cons|apply al.there)))⟩):p:=h
def Z3{p:Prop}(h:p:=by have:=(cI.1 G).1;omega):p:=h
def QI{p:Prop}(h:p:=by cases m.dB<;>decide):p:=h
def HB{p:Prop}(h:p:=by cases i.dB<;>decide):p:=h
def Nb{p:Prop}(h:p:=by exact⟨_,_,⟨_,_,_,rfl,rfl⟩,(by(repeat(first|exact ak.nil|exact al.here|apply ak.cons|apply al.there)))⟩):p:=h
def KU{p:Prop}(h:p:=by exact⟨none,0,0,0,rfl,Rd.nil⟩):p:=h
def HV{p:Prop}(h:p:=by simp only[bM,dp,fY];omega):p:=h
def Lh{p:Prop}(h:p:=by show 5-(j+1)<5-j;omega):p:=h
def Ia{p:Prop}(h:p:=by show a+1<=k+1;omega):p:=h
def MS{p:Prop}(h:p:=by refine aa 14 ?_;exact Out.t' j h Q trivial):p:=h
def KA{p:Prop}(h:p:=by rw[lk,dP.len w];omega):p:=h
def PH{p:Prop}(h:p:=by show R-(k+1)<R-k;omega):p:=h
def Qy{p:Prop}(h:p:=by(repeat(first|exact dg.nil|refine dg.cons rfl rfl ?_))):p:=h
def K8{p:Prop}(h:p:=by rw[l];(repeat(first|exact ak.nil|exact al.here|apply ak.cons|apply al.there))):p:=h
def QH{p:Prop}(h:p:=by exact⟨a,k.n,k.self,k.item,k.b2,k.phase⟩):p:=h
def JY{p:Prop}(h:p:=by have:=w.gt;omega):p:=h
def KF{p:Prop}(h:p:=by exact⟨_,_,⟨none,0,0,j,g,lr,rfl,rfl⟩,(by(repeat(first|exact ak.nil|exact al.here|apply ak.cons|apply al.there)))⟩):p:=h
def KT{p:Prop}(h:p:=by rename_i y;rw[aN y];exact afu m i h):p:=h
def Qz{p:Prop}(h:p:=by unfold bX;(repeat(first|exact ak.nil|exact al.here|apply ak.cons|apply al.there))):p:=h
def OD{p:Prop}(h:p:=by show br (bw _ _ _) _=_;rw[kM,aT rfl]):p:=h
def Jl{p:Prop}(h:p:=by rintro v Y⟨m,C,rfl,rfl⟩;exact⟨_,⟨(m,C),rfl,rfl⟩,λ_ _ _ h=>h⟩):p:=h
def J1{p:Prop}(h:p:=by rw[lk,dl.len];omega):p:=h
def PZ{p:Prop}(h:p:=by rw[E.on];exact cw _):p:=h
def LN{p:Prop}(h:p:=by rw[E.oi];exact cw _):p:=h
def KL{p:Prop}(h:p:=by exact⟨rfl,rfl,rfl,_,rfl,rfl,rfl,rfl⟩):p:=h
def IU{p:Prop}(h:p:=by unfold bJ c9 dm;(repeat(first|exact ak.nil|exact al.here|apply ak.cons|apply al.there))):p:=h
def PE{p:Prop}(h:p:=by show c.aS.length-(i+1)<c.aS.length-i;omega):p:=h
def Nh{p:Prop}(h:p:=by rw[v];exact K.item):p:=h
def Ky{p:Prop}(h:p:=by rcases o with h|h|h|h<;>exact absurd (show(2:Int)=_ from h) (by decide)):p:=h
def LU{p:Prop}(h:p:=by show¬((2:Int)=8);decide):p:=h
def KO{p:Prop}(h:p:=by rw[r.cut];exact h.cut):p:=h
def P1{p:Prop}(h:p:=by exact⟨h.of rfl (λy G=>yh G) rfl rfl,u⟩):p:=h
def HS{p:Prop}(h:p:=by simp only[m,dif_pos h];exact acq (ex a w h)):p:=h
def Pp{p:Prop}(h:p:=by show Result.ok (Next.value (a.eval x)) w=_;rw[d.eval q]):p:=h
def Ks{p:Prop}(h:p:=by cases x<;>first|(cases h;done)|(cases y<;>first|rfl|(cases h;done))):p:=h
def H1{p:Prop}(h:p:=by subst z;simp[execOp,g.eval o,g.eval d,eqGuard,binOp,Op.shift,show¬q<0 by omega]):p:=h
def Q0{p:Prop}(h:p:=by have:=aL.append (an:=[aI (S m)]) aL.aI (aL.refl (Z (b4 m)++(u++T)));simpa using this):p:=h
def Ij{p:Prop}(h:p:=by unfold partAt;rw[aN (by omega)];simp[ta]):p:=h
def Hk{p:Prop}(h:p:=by apply mX;intro j;rw[rR _ _ _ _ (by simp[ca];omega)];simp only[ca,nJ,dp,fY];grind):p:=h
def IK{p:Prop}(h:p:=by simp only[aJ.h,aJ.new,jM,w3];split<;>rfl):p:=h
def OX{p:Prop}(h:p:=by refine aq 2 λn=>?_;refine aq 0 λU=>?_;refine aq 5 λK=>?_;refine aa 4 ?_;refine ah.n' ?_ aA.d'.d'.d'.d'.d'.d'.j.j;refine ae 7 0 ?_;refine af.i' 7 rfl (V.y' ad (g:=ca.r)) ?_;refine ae 12 8 ?_;refine af.i' 20 rfl (V.y' ad (g:=aO)) ?_;refine ae 4 21 ?_;refine bs 31 ?_;refine ae 6 25 ?_;refine af.i' 31 rfl (V.y' ad (g:=q8)) ?_;refine ae 4 32 ?_;refine af.i' 36 rfl (V.RZ ad rfl (by(repeat first|exact aE _|apply aF)) (λ_=>rfl) (by assumption)) ?_;refine ae 2 37 ?_;exact aM 13):p:=h
def OS{p:Prop}(h:p:=by refine aq 2 λn=>?_;refine aq 0 λU=>?_;refine aq 5 λK=>?_;refine aa 4 ?_;refine ah.n' ?_ aA.d'.d'.d'.d'.d'.d'.j.j;refine ae 7 0 ?_;refine af.i' 7 rfl (V.y' ad (g:=ca.r)) ?_;refine ae 12 8 ?_;refine af.i' 20 rfl (V.y' ad (g:=aO)) ?_;refine ae 4 21 ?_;refine bs 31 ?_;refine ae 6 25 ?_;refine af.i' 31 rfl (V.y' ad (g:=q8)) ?_;refine ae 4 32 ?_;refine af.i' 36 rfl (V.RZ ad rfl (by(repeat first|exact aE _|apply aF)) (λ_=>rfl) (by assumption)) ?_;refine ae 2 37 ?_;refine aa 6 ?_;refine ah.n' ?_ aA.d'.d'.d'.d'.d'.d'.j.j;refine ae 6 0 ?_;refine af.i' 6 rfl (V.y' ad (g:=aO)) ?_;refine ae 4 7 ?_;refine af.i' 11 rfl (V.E' ad rfl (by(repeat first|exact aE _|apply aF)) (λ_=>rfl) (by assumption)) ?_;refine ae 2 12 ?_;exact aM 4):p:=h
def QQ{p:Prop}(h:p:=by simp only[IntKind.wrap,IntKind.signed,IntKind.bits];simp):p:=h
def Kj{p:Prop}(h:p:=by subst Q;exact⟨_,_,⟨_,rfl,rfl⟩,ak.cons al.here (ak.cons al.here ak.nil)⟩):p:=h
def Kl{p:Prop}(h:p:=by simp only[IntKind.wrap,IntKind.signed,IntKind.bits];simp;omega):p:=h
def Hr{p:Prop}(h:p:=by refine aB Tryz.func169 λW=>?_;refine aq 2 λo=>?_;exact aM 29):p:=h
def OF{p:Prop}(h:p:=by first|(simp_all;done)|(simp only[f,uZ,sb,pa,tC];done)|(simp only[f,uZ,sb,pa,tC];rfl)):p:=h
def Kr{p:Prop}(h:p:=by rintro r F⟨z,U,rfl⟩;exact⟨_,⟨z,U,rfl⟩,aL.aI.symm⟩):p:=h
def H0{p:Prop}(h:p:=by refine aB Tryz.func221 λW=>?_;refine aq 2 λa=>?_;refine aa 14 ?_;refine ah.n' ?_ aA.d'.d'.d'.d';refine ae 5 0 ?_;refine af.bu 5 9 rfl rfl ?_ ?_;refine aw.R' rfl (d) (by(repeat(first|exact ak.nil|exact al.here|apply ak.cons|apply al.there))) ?_;refine aa 2 ?_;refine ae 3 6 ?_;refine c1 9 λC=>?_;refine ae 2 10 ?_;exact aM 10;refine O.K' ad (λC=>?_);refine av ?_;refine af.o' 5 rfl rfl (d) ?_;refine aa 2 ?_;refine ae 3 6 ?_;refine ae 2 10 ?_;exact aM 10):p:=h
def N3{p:Prop}(h:p:=by refine aB Tryz.func222 λW=>?_;refine aq 2 λa=>?_;refine aa 14 ?_;refine ah.n' ?_ aA.d'.d'.d'.d';refine ae 5 0 ?_;refine af.o' 5 rfl rfl (z) ?_;refine aa 2 ?_;refine ae 5 6 ?_;exact aM 10):p:=h
def HN{p:Prop}(h:p:=by refine aB Tryz.func161 λW=>?_;refine aq 2 λa=>?_;refine aq 0 λh=>?_;refine aa 14 ?_;refine ah.n' ?_ aA.d'.d'.d'.d'.j;refine ae 5 0 ?_;refine af.o' 5 rfl rfl (d) ?_;refine aa 2 ?_;refine ae 4 6 ?_;exact aM 4):p:=h
def NF{p:Prop}(h:p:=by exact⟨_,_,⟨f,.inl M,rfl⟩,(by(repeat(first|exact ak.nil|exact al.here|apply ak.cons|apply al.there)))⟩):p:=h
def I4{p:Prop}(h:p:=by first|(exfalso;omega)|exact DR (λh=>cc ⟨h.jb,h.kd⟩)):p:=h
def OO{p:Prop}(h:p:=by simp[he,mr,ks,jN,q,show m.Kind=2 from U,iX,h0,cd]):p:=h
def QE{p:Prop}(h:p:=by rw[gb,aN (by omega),bt,iB];simp only[cd]):p:=h
def Pb{p:Prop}(h:p:=by first|(exfalso;omega)|exact⟨_,_,⟨_,_,rfl,rfl⟩,(by(repeat(first|exact ak.nil|exact al.here|apply ak.cons|apply al.there)))⟩):p:=h
def Nr{p:Prop}(h:p:=by first|(simp only[iB]at*;simp_all;done)|exact db B (by rw[kc (by omega)];rfl)):p:=h
def Rb{p:Prop}(h:p:=by have:=y.2;obtain⟨a,b,e⟩:=List.append_of_mem o;rw[e,iI,hS,gV,gV]at this;simpa[bg]using this.2.1.1):p:=h
def LB{p:Prop}(h:p:=by(intro _ _;repeat first|exact az.here _ _ _|apply az.there)):p:=h
def HQ{p:Prop}(h:p:=by exact⟨_,_,⟨u,_,R,rfl,rfl⟩,(by(repeat(first|exact ak.nil|exact al.here|apply ak.cons|apply al.there)))⟩):p:=h
def OU{p:Prop}(h:p:=by show Q.length-(i+1)<Q.length-i;omega):p:=h
def La{p:Prop}(h:p:=by rw[n];(repeat(first|exact dg.nil|refine dg.cons rfl rfl ?_))):p:=h
def O3{p:Prop}(h:p:=by rw[n];(repeat(first|exact ak.nil|exact al.here|apply ak.cons|apply al.there))):p:=h
def KS{p:Prop}(h:p:=by intro e j;simp only[dq,iU,fU]at j⊢;rcases j with rfl|rfl<;>simp):p:=h
def IH{p:Prop}(h:p:=by rw[F];(repeat(first|exact ak.nil|exact al.here|apply ak.cons|apply al.there))):p:=h
def N2{p:Prop}(h:p:=by exact⟨_,_,⟨l,Q,rfl,rfl⟩,(by(repeat(first|exact ak.nil|exact al.here|apply ak.cons|apply al.there)))⟩):p:=h
def MX{p:Prop}(h:p:=by simp[Go.IntKind.wrap,Go.IntKind.signed,Go.IntKind.bits];omega):p:=h
def LZ{p:Prop}(h:p:=by rw[show((k:Int)).toNat=k by omega,List.getD,L];rfl):p:=h
def IW{p:Prop}(h:p:=by rw[show choose n x Z=(2,vN.Call) by unfold choose;rw[aN d,f];simp only[w,U,s,hA]];refine aB Tryz.func266 λW=>?_;refine aq 2 λG=>?_;refine aq 1 λM=>?_;refine aq 24 λT=>?_;refine aq 20 λy=>?_;refine aq 13 λC=>?_;refine aa 30 ?_;rintro _ _⟨L,j,rfl,rfl⟩;refine aa 21 ?_;refine ah.n' ?_ aA.j.j.j.j.j.d'.d';refine ae 1 0 ?_;refine af.i' 1 rfl (V.x' ad (k:=0) rfl rfl) ?_;refine ae 1 2 ?_;refine af.i' 3 rfl (V.SH ad (k:=0) (o:=11) rfl (by(repeat first|exact aE _|apply aF)) aD.len rfl) ?_;refine ae 2 4 ?_;exact aM 5):p:=h
def L6{p:Prop}(h:p:=by rw[aT M];refine aa 5 ?_;refine ah.n' ?_ aA.j.d'.j.d'.d';refine ae 1 0 ?_;refine af.o' 1 rfl rfl (Ye) ?_;refine aa 2 ?_;refine ae 10 2 ?_;refine aa 4 ?_;refine ah.n' ?_ aA.j.j.j.d'.d';refine ae 3 0 ?_;refine ae 4 4 ?_;refine af.o' 3 rfl rfl (Yc) ?_;refine aa 2 ?_;refine ae 3 8 ?_;exact aM 12):p:=h
def NB{p:Prop}(h:p:=by exact⟨a.phase 3,k.n,k.self,k.item,k.b2,.inr (.inr (.inl rfl))⟩):p:=h
def Ng{p:Prop}(h:p:=by unfold hh;(repeat first|exact aE _|apply aF)):p:=h
def QM{p:Prop}(h:p:=by show(449-s.idx.length)*450+(W.map λf=>f.l.length+1).sum<_;omega):p:=h
def NH{p:Prop}(h:p:=by show(449-s.idx.length)*450+((W++[f.next n]).map λf=>f.l.length+1).sum<_;rw[J];omega):p:=h
def NY{p:Prop}(h:p:=by show l.length-(j+1)<l.length-j;omega):p:=h
def Ht{p:Prop}(h:p:=by show l.length-(k+1)<l.length-k;omega):p:=h
def Kw{p:Prop}(h:p:=by rintro v Y⟨_,⟨rfl,rfl⟩,rfl⟩;exact⟨_,⟨rfl,rfl⟩,λ_ _ _ h=>h⟩):p:=h
def MQ{p:Prop}(h:p:=by show s.cF.length-(k+1)<s.cF.length-k;omega):p:=h
def Oz{p:Prop}(h:p:=by show i.length-(j+1)<i.length-j;omega):p:=h
def N0{p:Prop}(h:p:=by show(jx l).length-(i+1)<(jx l).length-i;omega):p:=h
def MI{p:Prop}(h:p:=by exact⟨_,_,.inl ⟨o,rfl,rfl⟩,(by(repeat(first|exact ak.nil|exact al.here|apply ak.cons|apply al.there)))⟩):p:=h
def Jo{p:Prop}(h:p:=by have:r.l2=some o:=k;rw[q]at this;cases this):p:=h
def LD{p:Prop}(h:p:=by have:=h.gR;show 0<=s.gR+1/\s.gR+1<=((n+1:Nat):Int);omega):p:=h
def Le{p:Prop}(h:p:=by exact⟨_,_,⟨_,_,_,j,g,lr,rfl,rfl⟩,(by(repeat(first|exact ak.nil|exact al.here|apply ak.cons|apply al.there)))⟩):p:=h
def O7{p:Prop}(h:p:=by intro fa Ye;refine ah.n' ?_ aA.j.j.j.j.d'.d'.j;refine ae 6 0 ?_;refine af.bu 6 7 rfl rfl ?_ ?_;refine aw.q' (aK.R6 (l:=j) (k:=d.cy) (aR:=qk) io.z Q sx sw tW rfl rfl (by(repeat first|exact aE _|apply aF))) ?_;refine av ?_;refine c1 7 λlV=>?_;refine ae 1 8 ?_;refine av ?_;rotate_left;refine O.K' ad (λlV=>?_);refine av ?_;refine af.p' 6 rfl (aw.q' (aK.R6 (l:=j) (k:=d.cy) (aR:=qk) io.z Q sx sw tW rfl rfl (by(repeat first|exact aE _|apply aF))) ?_);refine av ?_;refine ae 1 8 ?_;refine av ?_;rotate_left;all_goals exact Out.t' Ye _ trivial trivial):p:=h
def Ov{p:Prop}(h:p:=by have:=db List.length G;rw[bM,m4,m4]at this;exact kk (by omega)):p:=h
def Mj{p:Prop}(h:p:=by have h:=aK.look (P:=P) (n:=n) (am:=Y) (an:=F) (dst:=J) (a1:=C) (a6:=U) (a7:=M) (aW:=G) (l:=l) (k:=k) a j c u T E;rw[q]at h;exact h):p:=h
def PB{p:Prop}(h:p:=by unfold qm bX;(repeat(first|exact ak.nil|exact al.here|apply ak.cons|apply al.there))):p:=h
def KJ{p:Prop}(h:p:=by unfold qm;(repeat(first|exact ak.nil|exact al.here|apply ak.cons|apply al.there))):p:=h
def Nx{p:Prop}(h:p:=by rintro v J⟨cG,C,rfl,rfl⟩;exact⟨_,⟨(cG,C),rfl,rfl⟩,λ_ _ _ h=>h⟩):p:=h
def Jv{p:Prop}(h:p:=by exact⟨h.n,h.self,h.now,h.run,h.M,⟨h.fs.w,h.fs.t,h.fs.aW,h.fs.td,h.fs.bC⟩⟩):p:=h
def Nn{p:Prop}(h:p:=by rw[Array.size_setIfInBounds];exact h.aG):p:=h
def Nu{p:Prop}(h:p:=by intro j G Q k;simp only[jh,dq,iU,fU]at G;rcases G with rfl|rfl|rfl|rfl|rfl|rfl|rfl|rfl|rfl|rfl<;>first|exact absurd rfl Q|exact⟨rfl,rfl⟩):p:=h
def Pj{p:Prop}(h:p:=by exact⟨⟨⟨h.n,h.len⟩,h.cut,jk (xA ..) h.bQ,by show 0<=c.lost+1/\c.lost+1<=_;omega,K.told,K.now⟩,K.up,K.dn,λx U=>h.i2 x ((va ..).subset U)⟩):p:=h
def M9{p:Prop}(h:p:=by unfold bJ c9 dm;rw[P,t,d];(repeat(first|exact ak.nil|exact al.here|apply ak.cons|apply al.there))):p:=h
def Ox{p:Prop}(h:p:=by exact⟨some ⟨Z,0,none⟩,C,Z,0,rfl,⟨T.length,T.small,T.addr,λM J=>T.reads M (((pT _ _).1 J).1 _ o)⟩⟩):p:=h
def Lr{p:Prop}(h:p:=by refine PW λn U K=>?_;refine ah.n' ?_ aA.d'.d'.d'.d'.j.j;refine Rq ?_;refine ae 31 8 ?_;exact aM 13):p:=h
def HX{p:Prop}(h:p:=by refine KD λfp lV=>?_;refine ah.n' ?_ aA.d'.d'.d'.d'.j;refine Rq ?_;refine ae 3 8 ?_;exact aM 11):p:=h
def Iv{p:Prop}(h:p:=by refine PW λn U K=>?_;refine ah.n' ?_ aA.d'.d'.d'.d'.d'.d'.j.j;refine Rq ?_;exact Jg):p:=h
def Ki{p:Prop}(h:p:=by simp only[execOp,resolve,invoke,builtin,q2,eK,kE,cT.eval cr,cT.eval e7,ct,ed,dv,e6]):p:=h
def Ip{p:Prop}(h:p:=by refine Mu ?_;refine ae 5 27 ?_;refine bs 37 ?_;refine ae 9 32 ?_;exact aM 12):p:=h
def O4{p:Prop}(h:p:=by refine ai.v (V.y' ad (v:=B true) (g:=by rw[<-q];rfl)) ?_;exact aM 14):p:=h
def PT{p:Prop}(h:p:=by obtain⟨es,qX,bY,_⟩:=h;exact(Array.getElem?_eq_some_iff.1 bY).1):p:=h
def Ma{p:Prop}(h:p:=by unfold bJ c9 dm at w⊢;refine aB Tryz.func12 λW=>?_;exact aM 24):p:=h
def JI{p:Prop}(h:p:=by obtain⟨rfl,rfl⟩:=h;exact⟨_,⟨X,rfl,rfl⟩,aL.aI.symm⟩):p:=h
def Ps{p:Prop}(h:p:=by refine ah.n' ?_ aA.j.j.j.j.j.d';refine ae 4 0 ?_;exact aM 5):p:=h
def PU{p:Prop}(h:p:=by simp[execOp,resolve,invoke,builtin,cT.eval o,cT.eval j,e6]):p:=h
def Oc{p:Prop}(h:p:=by refine Qp λW h=>?_;refine ai.o' rfl (T _ _) ?_;exact M3):p:=h
def NA{p:Prop}(h:p:=by refine aa 20 ?_;refine ai.v (V.y' ad (g:=K)) ?_;exact aM 5):p:=h
def PS{p:Prop}(h:p:=by refine RF ?_;refine NM ?_;refine ae 19 3 ?_;exact aM 13):p:=h
def Pq{p:Prop}(h:p:=by refine aa 2 ?_;refine ai.o (O.R9 (λt=>?_));exact aM 11):p:=h
def LW{p:Prop}(h:p:=by simp only[cZ]at this;exact⟨this.1,λcs b e=>aaA⟩):p:=h
def J8{p:Prop}(h:p:=by simp only[qw,er]at h;have y:=uK e;subst y h;simp):p:=h
def LO{p:Prop}(h:p:=by exact Out.t' p (i+1,_,q,m+1) ⟨XO,w⟩ XR):p:=h
def Kk{p:Prop}(h:p:=by exact F.perm (kO (qK _ (gZ ..)) (gZ ..))):p:=h
def L8{p:Prop}(h:p:=by simp only[fG,m2,dk]at this;exact this):p:=h
def J5{p:Prop}(h:p:=by exact Out.t' Yc (m-1) ⟨ac,ac⟩ ac):p:=h
def Jm{p:Prop}(h:p:=by exact Out.t' J (k+1) ⟨ac,ac⟩ ac):p:=h
def Mo{p:Prop}(h:p:=by rw[iI,gV]at this;exact this.1):p:=h
def IL{p:Prop}(h:p:=by exact Out.t' a (k+1) ac ac):p:=h
namespace Go.ay
open Go
variable{D:ab Nat}{b:Nat}
structure ax where
 fB:ab Nat
 holds:aY->Prop
 loc:∀(w h9:aY),(∀b,b∈fB->h9.heap[b]?=w.heap[b]?)->holds w->holds h9
 lt:∀(w:aY),holds w->∀b,b∈fB->b<w.heap.size
variable{an:ab ax}
@[irreducible] def cells(b:Nat)(T:TypeId)(c:List Value):ax where
 fB:=[b]
 holds w:=w.heap[b]?=some (.cells c.toArray T (0,0))
 loc w h9 h cB:=by rw[h b XE];exact cB
 lt w h x cr:=by
  have:x=b:=X8
  subst this;exact(Array.getElem?_eq_some_iff.1 h).1
@[irreducible] def row(v:Value)(T:TypeId)(aG n:Nat)(xs:List Value):ax where
 fB:=v.ownBlock.toList
 holds w:=w.ownsRow 0 T aG v n xs
 loc w h9 h cB:=by
  refine⟨cB.1,?_⟩;rcases cB.2 with c6|⟨g,cap,Hj,rfl,bY,bU,Z⟩
  .exact .inl c6
  .exact .inr ⟨g,cap,Hj,rfl,bY,by rw[h g (by simp[Value.ownBlock])];exact bU,Z⟩
 lt w h x cr:=by
  have cc:v.ownBlock=some x:=X8
  exact(h.lt x cc).2
@[irreducible] def bG(b:Nat)(o:Obj):ax where
 fB:=[b]
 holds w:=w.heap[b]?=some o
 loc w h9 h cB:=by rw[h b XE];exact cB
 lt w h x cr:=by
  have:x=b:=X8
  subst this;exact(Array.getElem?_eq_some_iff.1 h).1
def rG(b o):(bG b o).fB=[b]:=by unfold bG;rfl
def qv(b o w):(bG b o).holds w↔w.heap[b]?=some o:=by unfold bG;rfl
def fC(b:Nat):ax:=bG b (.deferred (some []))
def g9:ab Nat->ab ax
 |[]=>[]
 |b::l=>fC b::g9 l
def uC(b T c):(cells b T c).fB=[b]:=by unfold cells;rfl
def rH(b T c w):(cells b T c).holds w↔w.heap[b]?=some (.cells c.toArray T (0,0)):=by unfold cells;rfl
def hl(v T aG n q):(row v T aG n q).fB=v.ownBlock.toList:=by unfold row;rfl
def hz(v T aG n q w):(row v T aG n q).holds w↔w.ownsRow 0 T aG v n q:=by unfold row;rfl
def bg(an:ab ax):ab Nat:=an.flatMap (·.fB)
def iI(an bc:ab ax):bg (an++bc)=bg an++bg bc:=by simp[bg]
def hS(e:ax)(bc:ab ax):bg (e::bc)=e.fB++bg bc:=by simp[bg]
def uD:b∈bg an↔∃e∈an,b∈e.fB:=by simp[bg]
structure gI(an:ab ax)(w:aY):Prop where
 fm:∀e,e∈an->e.holds w
 nodup:(bg an).Nodup
structure H(W:aY)(D:ab Nat)(an:ab ax)(w:aY):Prop where
 fm:∀e,e∈an->e.holds w
 nodup:(bg an).Nodup
 own:∀b,b∈bg an->b∈D\/W.heap.size<=b
 cx:∀b,b<W.heap.size->b∉D->w.heap[b]?=W.heap[b]?
 size:W.heap.size<=w.heap.size
 os:w.os=W.os
 tape:w.tape=W.tape
 output:w.output=W.output
 nv:W.drawn<=w.drawn
def gI.start{w:aY}(h:gI an w):H w (bg an) an w:=
 ⟨h.fm,h.nodup,λ_ q=>.inl q,λ_ _ _=>rfl,cl _,rfl,rfl,rfl,cl _⟩
def H.ep{W:aY}{w:aY}(h:H W D an w):gI an w:=⟨h.fm,h.nodup⟩
def gI.lt{w:aY}(h:gI an w)(q:b∈bg an):b<w.heap.size:=by obtain⟨e,d,o⟩:=uD.1 q;exact e.lt w (h.fm e d) b o
section
variable{W:aY}{aX:ab ax}{w eY:aY}
def H.drew(h:H W D an w):H W D an w.drew:=⟨λe d=>e.loc w _ (λ_ _=>rfl) (h.fm e d),h.nodup,h.own,h.cx,h.size,h.os,h.tape,h.output,yk h.nv⟩
def H.TT(h:H W D an w)(n:Nat):H W D an {w with drawn:=w.drawn+n}:=⟨λe d=>e.loc w _ (λ_ _=>rfl) (h.fm e d),h.nodup,h.own,h.cx,h.size,h.os,h.tape,h.output,Nat.le_add_right_of_le h.nv⟩
def H.perm(h:H W D an w)(v:an.Perm aX):H W D aX w:=
 ⟨λe d=>h.fm e (v.mem_iff.2 d),(v.flatMap_right _).nodup_iff.1 h.nodup,λb q=>h.own b ((v.flatMap_right _).mem_iff.2 q),h.cx,h.size,h.os,h.tape,h.output,h.nv⟩
def BD{bc:ab ax}(h:an.Sublist bc):(bg an).Sublist (bg bc):=by
 induction h with
 |slnil=>exact uE _
 |cons a _ q=>rw[hS];exact q.trans (List.sublist_append_right _ _)
 |cons_cons a _ q=>rw[hS,hS];exact(uE _).append q
def H.sub(h:H W D an w)(o:aX.Sublist an):H W D aX w:=
 ⟨λe d=>h.fm e (o.mem d),(BD o).nodup h.nodup,λb q=>h.own b ((BD o).mem q),h.cx,h.size,h.os,h.tape,h.output,h.nv⟩
def H.call{j2 kB i:ab ax}(h:H W D (j2++kB) w)(q:H w (bg j2) i eY):H W D (i++kB) eY:=by
 have ep:=h.ep;have z:=h.nodup;rw[iI,gV]at z;have k:∀b,b∈bg kB->b<w.heap.size:=λb t=>ep.lt (by rw[iI];simp[t]);have s:∀b,b∈bg kB->b∉bg j2:=λb t y=>z.2.2 b y b t rfl;refine⟨?_,?_,?_,?_,jk h.size q.size,q.os.trans h.os,q.tape.trans h.tape,q.output.trans h.output,jk h.nv q.nv⟩
 .intro e d;rcases eN.1 d with d|d
  .exact q.fm e d
  .exact e.loc w eY (λb t=>q.cx b (k b (uD.2 ⟨e,d,t⟩)) (s b (uD.2 ⟨e,d,t⟩))) (h.fm e XY)
 .rw[iI,gV];refine⟨q.nodup,z.2.1,λa g b t o=>?_⟩;subst o;rcases q.own a g with o|o
  .exact s a t o
  .have:=k a t;omega
 .intro b t;rw[iI,eN]at t;rcases t with t|t
  .rcases q.own b t with o|o
   .exact h.own b (by rw[iI];simp[o])
   .exact .inr (jk h.size o)
  .exact h.own b (by rw[iI];simp[t])
 .intro b t i;have d:b∉bg j2:=λs=>by
   rcases h.own b (by rw[iI];simp[s])with o|o
   .exact i o
   .omega
  exact(q.cx b (Nat.lt_of_lt_of_le t h.size) d).trans (h.cx b t i)
def H.new{wq:ab ax}(h:H W D an w)(q:H w [] wq eY):H W D (wq++an) eY:=by have v:H W D ([]++an) w:=h;exact v.call (j2:=[]) (by simpa[bg]using q)
def H.alloc(h:H W D an w)(T:aZ)(c:ab aj):H W D (cells w.heap.size T c::an) (w.alloc (.cells c.toArray T)):=by
 have:H w [] [cells w.heap.size T c] (w.alloc (.cells c.toArray T)):=by
  refine⟨λe d=>?_,by simp[bg,uC],λb q=>?_,λb q _=>rI _ _ q,XE,rfl,rfl,rfl,cl _⟩
  .obtain rfl:e=_:=by simpa using d
   rw[rH];exact wr _ _
  .obtain rfl:b=w.heap.size:=by simpa[bg,uC]using q
   exact .inr (cl _)
 exact h.new this
@[irreducible] def az(an:List ax)(e y:ax)(aX:List ax):Prop:=∃l r,an=l++e::r/\aX=l++y::r
def az.here(e y:ax)(an:ab ax):az (e::an) e y (y::an):=by unfold az;exact⟨[],an,rfl,rfl⟩
def az.there(x e y:ax)(an aX:ab ax)(h:az an e y aX):az (x::an) e y (x::aX):=by unfold az at*;obtain⟨l,r,rfl,rfl⟩:=h;exact⟨x::l,r,rfl,rfl⟩
def az.split{e y:ax}(u:az an e y aX):∃l r,an=l++e::r/\aX=l++y::r:=by unfold az at u;exact u
def H.mN{e y:ax}(h:H W D an w)(u:az an e y aX)(q:H w e.fB [y] eY):H W D aX eY:=by
 obtain⟨l,r,rfl,rfl⟩:=u.split;have v:(l++e::r).Perm ([e]++(l++r)):=XE
 have o:([y]++(l++r)).Perm (l++y::r):=by simpa using(mO (a:=y) (l₁:=l) (l₂:=r)).symm
 exact((h.perm v).call (j2:=[e]) (by simpa[bg]using q)).perm o
def H.mem{e:ax}(h:H W D an w)(d:e∈an):e.holds w:=h.fm e d
end
end Go.ay
namespace Go.ay
open Go
variable{T:aZ}{Q:dj->Act->aY->Prop}{b:Nat}{aW:aQ (Nat×Bool)}{a7:Array Edge}
def sS:TypeDesc->Bool
 |.struct _|.array _ _=>true
 |_=>false
def rJ(P:bF)(T:aZ)(k:Nat):Bool:=
 match P.underlying T with
 |some d=>sS d&&((P.info? T).map (·.size)==some k)
 |none=>false
def rK(P:bF)(T:aZ):Bool:=
 match P.underlying T with
 |some d=>!sS d&&((P.info? T).map (·.size)==some 1)
 |none=>false
section
variable{P:bF}
def sT{k:Nat}(h:rJ P T k=true):∃d,P.underlying T=some d/\d.isRow=true/\(P.info? T).map (·.size)=some k:=by
 unfold rJ at h;split at h
 .rename_i d b;simp only[cZ,cH]at h;exact⟨d,b,by cases d<;>simp_all[sS],h.2⟩
 .cases h
def yl(h:rK P T=true):∃d,P.underlying T=some d/\sS d=false/\(P.info? T).map (·.size)=some 1:=by
 unfold rK at h;split at h
 .rename_i d b;simp only[cZ,cH,j3]at h;exact⟨d,b,h.1,h.2⟩
 .cases h
def ws{w:aY}(h:rK P T=true){a:Addr}{v:aj}(q:w.cell? a=some v):(loadVar T a).run P w=.ok v w:=by
 obtain⟨d,o,b,_⟩:=yl h;have t:(isAgg T).run P w=.ok false w:=by unfold isAgg;rw[ct,dN o w];cases d<;>simp_all[sS]
 simp[loadVar,ct,t,Go.load,Sem.run,q]
def ym{w:aY}{c:ab aj}(h:(cells b T c).holds w)(i:Nat):w.cell? ⟨b,i,none⟩=c[i]?:=by rw[rH]at h;rw[cell_of_row w b i _ T (0,0) h];simp
def iJ(o k:Nat)(c:ab aj):ab aj:=(c.drop o).take k
def abr{w:aY}{E:aZ}{o k:Nat}{c:ab aj}(h:rJ P T k=true)(q:(cells b E c).holds w)(t:o+k<=c.length):(loadVar T ⟨b,o,none⟩).run P w=.ok (.agg (iJ o k c).toArray) w:=by
 obtain⟨d,z,i,ao⟩:=sT h;refine yn w b o T (iJ o k c) d (λj v g=>?_) z i (by rw[ao];simp[iJ];omega);rw[ym q];simp only[iJ,kC,lL]at g;split at g
 .exact g
 .cases g
def i5(P:bF)(T:aZ)(o:Nat)(c:ab aj)(v:aj):Prop:=
 (rK P T=true/\c[o]?=some v)\/(∃k,rJ P T k=true/\o+k<=c.length/\v=.agg (iJ o k c).toArray)
def i5.one{o:Nat}{c:ab aj}{v:aj}(h:rK P T=true)(q:c[o]?=some v):i5 P T o c v:=.inl ⟨h,q⟩
def i5.agg{o k:Nat}{c v:ab aj}(h:rJ P T k=true)(t:Nat.ble (o+k) c.length=true)(q:iJ o k c=v):i5 P T o c (.agg v.toArray):=.inr ⟨k,h,nw t,by rw[q]⟩
def i5.run{w:aY}{E:aZ}{o:Nat}{c:ab aj}{v:aj}(h:i5 P T o c v)(d:(cells b E c).holds w):(loadVar T ⟨b,o,none⟩).run P w=.ok v w:=by
 rcases h with⟨q,t⟩|⟨k,q,t,rfl⟩
 .exact ws q (by rw[ym d];exact t)
 .exact abr q d t
def dD(o:Nat)(n c:ab aj):ab aj:=c.take o++n++c.drop (o+n.length)
def acI{w:aY}{E:aZ}{o:Nat}{c:ab aj}{v:aj}(h:(P.info? T).map (·.size)=some v.cells.size)(d:(cells b E c).holds w)(g:o+v.cells.size<=c.length)(q:v.cells.all (·.oneCell')=true):(storeVar T ⟨b,o,none⟩ v).run P w=.ok () (w.setRow b (dD o v.cells.toList c).toArray):=by
 rw[rH]at d;cases bb:P.info? T with
 |none=>simp[bb]at h
 |some i=>
  have t:v.cells.size=i.size:=by simp[bb]at h;omega
  have k:=rL P b o E v.cells.toList 0 c.toArray w d (by simpa using g) (λu z=>(wt.1 q) u ZG);simp only[gJ]at k;have e:(c.toArray.toList.take o++v.cells.toList++c.toArray.toList.drop (o+v.cells.toList.length)).toArray=(dD o v.cells.toList c).toArray:=by simp[dD]
  rw[e]at k;simp[storeVar,sizeOf,typeInfo,bb,t,k]
variable{W:aY}{D:ab Nat}{an aX:ab ax}{w eY:aY}{F:Array bS}{Z:ab bS}{a:Act}
def H.setRow(h:H W D an w){c v:ab aj}(u:az an (cells b T c) (cells b T v) aX):H W D aX (w.setRow b v.toArray):=by
 have o:cells b T c∈an:=by obtain⟨l,r,rfl,_⟩:=u.split;simp
 have eJ:=h.mem o;rw[rH]at eJ;refine h.mN u ⟨λe d=>?_,by simp[bg,uC],λx q=>?_,λk t y=>?_,XE,rfl,rfl,rfl,cl _⟩
 .obtain rfl:e=_:=by simpa using d
  rw[rH];exact pH w b _ _ T _ eJ
 .left;simpa[bg,uC]using q
 .exact uF w b k _ (by simpa[uC]using y)
section
variable{dst:aQ Tmp}{a1:aZ}{a6:String}
end
end
end Go.ay
namespace Go.ay
open Go
variable{id:Nat}{a:Act}{K:Act->aY->Prop}{d:Nat}{b:Bool}{a7:Array Edge}
abbrev bv:=ab (Nat×aj)
variable{am:bv}
def dS:bv->Nat->aQ aj
 |[],_=>none
 |(k,v)::l,j=>bif Nat.beq k j then some v else dS l j
structure c7 where
 n:Nat
 ds:ab Nat
variable{n:c7}
def mark(b:Nat):Deferred:={target:=.collected b,args:=#[]}
structure dc(n:c7)(am:bv)(a:Act):Prop where
 size:a.tmps.size=n.n
 defers:a.defers=n.ds.map mark
 get:∀j v,dS am j=some v->j<n.n/\a.tmps.getD j undef=v
def aO(am:bv):bd->aQ aj
 |.tmp t=>dS am t
 |.const v=>some v
 |.global g=>some (.pointer (some ⟨g,0,none⟩))
 |.func f=>some (.func (.func f) #[] #[])
def dc.eval(h:dc n am a){x:bd}{v:aj}(q:aO am x=some v):a.eval x=v:=by
 cases x with
 |tmp t=>exact(h.get t v q).2
 |const u=>exact gW q
 |global g=>exact gW q
 |func f=>exact gW q
def dc.put(h:dc n am a)(b:Nat.blt d n.n=true)(v:aj):dc n ((d,v)::am) (a.put (some d) v):=by
 have q:d<n.n:=nw b;refine⟨by simp[Act.put,h.size],by simp[Act.put,h.defers],λj u y=>?_⟩;simp only[dS]at y;by_cases e:d=j
 .subst e;rw[show Nat.beq d d=true from uG d]at y;simp only[qw,er]at y;subst y;exact⟨q,by simp[Act.put,h.size,q]⟩
 .rw[show Nat.beq d j=false from by rw[<-k7,wu];exact e]at y;simp only[uH]at y;obtain⟨q,o⟩:=h.get j u y;refine⟨q,?_⟩;simp only[sU,Act.put]at o⊢;rw[Array.getElem?_setIfInBounds_ne e];exact o
def dc.SB(h:dc n am a)(v:aj):dc n am (a.put none v):=h
def dc.sub{J:bv}(h:dc n am a)(q:∀j v,dS J j=some v->dS am j=some v):dc n J a:=
 ⟨h.size,h.defers,λj v y=>h.get j v (q j v y)⟩
def dg(am:bv):bv->Prop
 |[]=>True
 |(k,v)::l=>dS am k=some v/\dg am l
def dg.get{am:bv}:∀{l:bv},dg am l->∀j v,dS l j=some v->dS am j=some v
 |[],_,j,v,h=>XT
 |(k,u)::l,q,j,v,h=>by
  simp only[dS]at h;by_cases e:k=j
  .subst e;rw[show Nat.beq k k=true from uG k]at h;simp only[qw,er]at h;subst h;exact q.1
  .rw[show Nat.beq k j=false from by rw[<-k7,wu];exact e]at h;exact dg.get q.2 j v h
abbrev k8(r:aQ Nat):Fence:={Fence.wide with round:=r}
abbrev cE:=dj->Act->aY->Prop
def lM(P:bF)(r:aQ Nat)(o:bS)(a:Act)(w:aY)(K:Act->aY->Prop)(Q:cE):Prop:=
 o.uponIn (k8 r) 0 P a K Q ((o.semAt r a.eval).run P w)
def yo{P:bF}{r:aQ Nat}{o:bS}{w:aY}{Q:cE}(h:lM P r o a w K Q):o.wpIn (k8 r) 0 P a w K Q:=
 ⟨λ_ _=>trivial,h⟩
section
variable(P:bF)(r:aQ Nat)(W:aY)(D:ab Nat)(n:c7)
def ah(Q:cE)(c:Code)(am:bv)(an:ab ax):Prop:=∀a w,dc n am a->H W D an w->c.wpIn (k8 r) 0 P Q a w
def ai(F:Array bS)(Q:cE)(l:ab bS)(am:bv)(an:ab ax):Prop:=∀a w,dc n am a->H W D an w->wpListIn (k8 r) 0 P F Q l a w
def Out(Q:cE)(e:dj)(am:bv)(an:ab ax):Prop:=∀a w,dc n am a->H W D an w->Q e a w
def aw(o:bS)(am:bv)(an:ab ax)(C:bv->ab ax->Prop):Prop:=
 ∀(K:Act->aY->Prop) (Q:cE),(∀J aX,C J aX->∀a w,dc n J a->H W D aX w->K a w)->∀a w,dc n am a->H W D an w->lM P r o a w K Q
end
section
variable{P:bF}{r:aQ Nat}{W:aY}{D:ab Nat}{Q:cE}{J:bv}{an aX:ab ax}{F:Array bS}{Z:ab bS}
def gK(am:bv)(F:Array bS)(g:aQ (Nat×Bool)):aQ Bool:=
 match g with
 |none=>some true
 |some (j,q)=>
  match F[j]? with
  |some o=>match o.dst with
   |some d=>match dS am d with
    |some (.bool b)=>some (b==q)
    |some (.tuple _)=>some false
    |_=>none
   |none=>none
  |none=>none
def dc.Un(h:dc n am a){j:Nat}{v:aj}(t:dS am j=some v):a.tmps[j]?=some v:=by
 obtain⟨q,o⟩:=h.get j v t;have:j<a.tmps.size:=by rw[h.size];exact q
 simp[this]at o⊢;exact o
def pI(h:dc n am a){o:bS}(g:gK am F o.guard=some b):Region.wanted o (yielded F a.tmps)=b:=by
 unfold gK at g;unfold Region.wanted;split at g
 .rename_i e;rw[e];simpa using g
 .rename_i j k e;rw[e];simp only;split at g
  .rename_i s z;split at g
   .rename_i d i;split at g
    .rename_i y t;have q:yielded F a.tmps j=some y:=by simp[yielded,z,i,h.Un t]
     rw[q];simp only[er]at g;subst g;cases y<;>cases k<;>rfl
    .rename_i v t;have q:yielded F a.tmps j=none:=by simp[yielded,z,i,h.Un t]
     rw[q];simp only[er]at g;subst g;rfl
    .cases g
   .cases g
  .cases g
def ai.nil(h:Out W D n Q .normal am an):ai P r W D n F Q [] am an:=h
def ai.op{o:bS}(q:gK am F o.guard=some true)(h:aw P r W D n o am an (ai P r W D n F Q Z)):ai P r W D n F Q (o::Z) am an:=λa w d j=>by unfold wpListIn;rw[aT (pI d q)];exact yo (h _ _ (λJ aX q a w d j=>q a w d j) a w d j)
def ai.skip{K:Op}{a1:aZ}{a6:String}{g:aQ (Nat×Bool)}(q:gK am F g=some false)(b:Nat.blt d n.n=true)(h:ai P r W D n F Q Z ((d,undef)::am) an):ai P r W D n F Q (⟨some d,K,a1,a6,a7,g⟩::Z) am an:=λa w d j=>by unfold wpListIn;rw[aN (by rw[pI d q];simp)];exact⟨λ_ _=>trivial,h _ w (d.put b undef) j⟩
def yp(F:Array bS)(g:aQ (Nat×Bool)):aQ Nat:=
 match g with
 |none=>none
 |some (j,_)=>(F[j]?).bind (·.dst)
def dc.ir(h:dc n am a){v:aj}(t:dS am d=some v):dc n ((d,v)::am) a:=by
 refine⟨h.size,h.defers,λj u y=>?_⟩;simp only[dS]at y;by_cases e:d=j
 .subst e;rw[show Nat.beq d d=true from uG d]at y;simp only[qw,er]at y;subst y;exact h.get d v t
 .rw[show Nat.beq d j=false from by rw[<-k7,wu];exact e]at y;exact h.get j u y
def ai.part{o:bS}(q:yp F o.guard=some d)(t:dS am d=some (.bool b))(v:b=true->ai P r W D n F Q (o::Z) ((d,.bool true)::am) an)(s:b=false->ai P r W D n F Q (o::Z) ((d,.bool false)::am) an):ai P r W D n F Q (o::Z) am an:=λa w d j=>by
 have:=q;cases b with
 |true=>exact v rfl a w (d.ir t) j
 |false=>exact s rfl a w (d.ir t) j
def ah.region{l:ab bS}(h:ai P r W D n l.toArray Q l am an):ah P r W D n Q (.region id l.toArray false) am an:=λa w d j=>wpIn_region_lit (h a w d j)
def ah.seq{x y:Code}(h:ah P r W D n (Exit.then (y.wpIn (k8 r) 0 P Q) Q) x am an):ah P r W D n Q (.seq x y) am an:=λa w d j=>wpIn_seq (h a w d j)
def ah.block{x:Code}(h:ah P r W D n (Exit.inBlock id Q) x am an):ah P r W D n Q (.block id x) am an:=λa w d j=>wpIn_block (h a w d j)
def ah.skip(h:Out W D n Q .normal am an):ah P r W D n Q .skip am an:=λa w d j=>wpIn_skip (h a w d j)
def ah.ret(h:Out W D n Q .ret am an):ah P r W D n Q .ret am an:=λa w d j=>wpIn_ret (h a w d j)
def ah.exit(h:Out W D n Q (.exit id) am an):ah P r W D n Q (.exit id) am an:=λa w d j=>wpIn_exit (h a w d j)
def ah.VF{c:bd}{x y:Code}(q:aO am c=some (.bool true))(h:ah P r W D n Q x am an):ah P r W D n Q (.cond c x y) am an:=λa w d j=>wpIn_cond_true (d.eval q) (h a w d j)
def ah.VG{c:bd}{x y:Code}(q:aO am c=some (.bool false))(h:ah P r W D n Q y am an):ah P r W D n Q (.cond c x y) am an:=λa w d j=>wpIn_cond_false (d.eval q) (h a w d j)
def ah.cond{c:bd}{x y:Code}(t:aO am c=some (.bool b))(q:b=true->ah P r W D n Q x am an)(o:b=false->ah P r W D n Q y am an):ah P r W D n Q (.cond c x y) am an:=
 λa w d j=>wpIn_cond_split (d.eval t) (λe=>q e a w d j) (λe=>o e a w d j)
def Out.VH{y:Code}(h:ah P r W D n Q y am an):Out W D n (Exit.then (y.wpIn (k8 r) 0 P Q) Q) .normal am an:=h
def Out.VI(h:Out W D n Q .ret am an):Out W D n (Exit.then K Q) .ret am an:=h
def Out.VJ(h:Out W D n Q (.exit id) am an):Out W D n (Exit.then K Q) (.exit id) am an:=h
def Out.VK(h:Out W D n Q .normal am an):Out W D n (Exit.inBlock id Q) .normal am an:=h
def Out.VL(h:Out W D n Q .ret am an):Out W D n (Exit.inBlock id Q) .ret am an:=h
def Out.VM(h:Out W D n Q .normal am an):Out W D n (Exit.inBlock id Q) (.exit id) am an:=λa w d j=>by simp only[Exit.inBlock,hA];exact h a w d j
def Out.VN{y:Nat}(q:Nat.beq y id=false)(h:Out W D n Q (.exit y) am an):Out W D n (Exit.inBlock id Q) (.exit y) am an:=λa w d j=>by
 have o:y≠id:=by intro e;rw[e]at q;rw[show Nat.beq id id=true from uG id]at q;cases q
 simp only[Exit.inBlock,aN o];exact h a w d j
def BE(N:Nat->Prop):∀k,N k->∃m,N m/\∀j,j<m->¬N j:=by
 intro k;induction k using Nat.strongRecOn with
 |_ k o=>
  intro q;by_cases h:∃j,j<k/\N j
  .obtain⟨j,y,b⟩:=h;exact o j y b
  .exact⟨k,q,λj y b=>h ⟨j,y,b⟩⟩
def ah.loop{bl:Type}{c:Code}(E:bl->bv)(S:bl->ab ax)(z:bl->Nat)(t:bl)(g:dg am (E t))(o:∀w,H W D an w->H W D (S t) w)(h:∀x,ah P r W D n (Exit.then (λa w=>∃y,z y<z x/\dc n (E y) a/\H W D (S y) w) Q) c (E x) (S x)):ah P r W D n Q (.loop c) am an:=λa w d v=>by
 classical
 let I:Act->aY->Prop:=λa w=>∃x,dc n (E x) a/\H W D (S x) w;let N:Act->aY->Nat->Prop:=λa w k=>∃x,z x=k/\dc n (E x) a/\H W D (S x) w;have ex:∀a w,I a w->∃k,N a w k/\∀j,j<k->¬N a w j:=λa w ⟨x,q⟩=>BE _ (z x) ⟨x,rfl,q⟩;let m:Act->aY->Nat:=λa w=>if h:I a w then Classical.choose (ex a w h)else 0
 have mspec:∀a w (h:I a w),N a w (m a w)/\∀j,j<m a w->¬N a w j:=λa w h=>HS
 refine wpIn_loop I m ⟨t,d.sub g.get,o w v⟩ λa w j=>?_;obtain⟨⟨x,q,s,b⟩,_⟩:=mspec a w j;refine sV (h x a w s b) λe i k bb=>?_;cases e with
 |normal=>
  obtain⟨y,q,s,h⟩:=bb;refine⟨⟨y,s,h⟩,?_⟩;have q:I i k:=⟨y,s,h⟩
  have:=(mspec i k q).2 (z y);rcases n4 (z y) (m i k)with b|q
  .exact absurd ⟨y,rfl,s,h⟩ (this b)
  .omega
 |_=>exact bb
end
end Go.ay
namespace Go.ay
open Go
variable{K:Act->aY->Prop}{b:Bool}{a:Act}{Q:cE}{k:IntKind}{args:ab aj}{R:aj->ab ax->Prop}{aW:aQ (Nat×Bool)}{C:bv->ab ax->Prop}{T:aZ}{a7:Array Edge}
abbrev I(n:Int):aj:=.int .i64 n
abbrev S(l:ab aP):aj:=.string ⟨l.toArray⟩
abbrev B(b:Bool):aj:=.bool b
abbrev A(c:ab aj):aj:=.agg c.toArray
abbrev au(b o:Nat):aj:=.pointer (some ⟨b,o,none⟩)
def jl:Op->Bool
 |.defer _=>false
 |_=>true
section
variable{P:bF}{r:aQ Nat}{W:aY}{D:ab Nat}{n:c7}{am J:bv}{an aX:ab ax}{F:Array bS}{Z:ab bS}
variable{dst:Nat}{a1:aZ}{a6:String}
def sW{r:aQ Nat}{o:bS}(h:jl o.op=true)(q:bd->aj):o.semAt r q=execOp q o:=by refine Oper.semAt_eq r q o λc e=>?_;rw[e]at h;cases h
def iK{o:bS}{w s:aY}{v:aj}(y:jl o.op=true)(t:(execOp a.eval o).run P w=.ok (.value v) s)(q:K (a.put o.dst v) s):lM P r o a w K Q:=by unfold lM;rw[sW y,t];exact q
def rM{o:bS}{w s:aY}(y:jl o.op=true)(t:(execOp a.eval o).run P w=.ok .skip s)(q:K (a.put o.dst undef) s):lM P r o a w K Q:=by unfold lM;rw[sW y,t];exact q
def wv{o:bS}{w s:aY}{f:eg}{args:Array aj}(y:jl o.op=true)(z:(execOp a.eval o).run P w=.ok (.enter f args) s)(d:Calls P f args s λe b=>∃v,e=.returned v/\K (a.put o.dst v) b):lM P r o a w K Q:=by unfold lM;rw[sW y,z];refine⟨λh=>XT,?_⟩;have q:CallsIn Fence.wide 0 P f args s λe b=>∃v,e=.returned v/\K (a.put o.dst v) b:=callsIn_wide.2 d;have t:CallsIn (k8 r) 0 P f args s λe b=>∃v,e=.returned v/\K (a.put o.dst v) b:=q;exact t.mono λe b ⟨v,j,g⟩=>by subst j;exact g
def e4(N:ab ax)(w:aY):Prop:=∀e,e∈N->e.holds w
def H.hold{w:aY}(h:H W D an w):e4 an w:=h.fm
def aK(P:bF)(n:c7)(am:bv)(an:ab ax)(o:bS)(v:aj):Prop:=
 ∀a w,dc n am a->e4 an w->(execOp a.eval o).run P w=.ok (.value v) w
def aw.Uo{K:Op}{v:aj}(i:jl K=true)(b:Nat.blt dst n.n=true)(h:aK P n am an ⟨some dst,K,a1,a6,a7,aW⟩ v)(q:C ((dst,v)::am) an):aw P r W D n ⟨some dst,K,a1,a6,a7,aW⟩ am an C:=λ_ _ y a w d j=>
 iK i (h a w d j.hold) (y _ _ q _ _ (d.put b v) j)
def ai.val{K:Op}{v:aj}(q:gK am F aW=some true)(y:jl K=true)(b:Nat.blt dst n.n=true)(h:aK P n am an ⟨some dst,K,a1,a6,a7,aW⟩ v)(o:ai P r W D n F Q Z ((dst,v)::am) an):ai P r W D n F Q (⟨some dst,K,a1,a6,a7,aW⟩::Z) am an:=ai.op q (aw.Uo y b h o)
def aK.move{x:bd}{v:aj}(q:aO am x=some v):aK P n am an ⟨some dst,.move x,a1,a6,a7,aW⟩ (v):=
 λa w d _=>Pp
def aK.assign{x:bd}{v:aj}(q:aO am x=some v):aK P n am an ⟨some dst,.assign x,a1,a6,a7,aW⟩ (v):=
 λa w d _=>Pp
def aK.pick{c x y:bd}{v:aj}(t:aO am c=some (.bool b))(q:b=true->aO am x=some v)(o:b=false->aO am y=some v):aK P n am an ⟨some dst,.pick c x y,a1,a6,a7,aW⟩ (v):=
 λa w d _=>by
  cases b with
  |true=>simp[execOp,d.eval t,asBool,d.eval (q rfl)]
  |false=>simp[execOp,d.eval t,asBool,d.eval (o rfl)]
def a8(K:BinOp)(p q:Int):aQ Bool:=
 match K with
 |.eql=>some (decide (p=q))
 |.neq=>some (!decide (p=q))
 |.lss=>some (decide (p<q))
 |.leq=>some (decide (p<=q))
 |.gtr=>some (decide (q<p))
 |.geq=>some (decide (q<=p))
 |_=>none
def aK.cmp{K:BinOp}{t j:aZ}{x y:bd}{p q:Int}(o:aO am x=some (.int k p))(d:aO am y=some (.int k q))(g:a8 K p q=some b):aK P n am an ⟨some dst,.binOp K t x y j,a1,a6,a7,aW⟩ (.bool b):=
 λa w z _=>by simp only[execOp,z.eval o,z.eval d];cases K<;>simp only[a8,er,reduceCtorEq]at g<;>subst g<;>simp[eqGuard,binOp,Op.intCmp,bne,BEq.beq]
def aK.add{t z:aZ}{x y:bd}{p q:Int}(o:aO am x=some (I p))(d:aO am y=some (I q))(g:-9223372036854775808<=p+q/\p+q<=9223372036854775807):aK P n am an ⟨some dst,.binOp .add t x y z,a1,a6,a7,aW⟩ (I (p+q)):=
 λa w z _=>QF
def aK.sub{t z:aZ}{x y:bd}{p q:Int}(o:aO am x=some (I p))(d:aO am y=some (I q))(g:-9223372036854775808<=p-q/\p-q<=9223372036854775807):aK P n am an ⟨some dst,.binOp .sub t x y z,a1,a6,a7,aW⟩ (I (p-q)):=
 λa w z _=>QF
def aK.mul{t z:aZ}{x y:bd}{p q:Int}(o:aO am x=some (I p))(d:aO am y=some (I q))(g:-9223372036854775808<=p*q/\p*q<=9223372036854775807):aK P n am an ⟨some dst,.binOp .mul t x y z,a1,a6,a7,aW⟩ (I (p*q)):=
 λa w z _=>QF
def aK.arith{K:BinOp}{t j:aZ}{x y:bd}{p q u:Int}(o:aO am x=some (.int k p))(d:aO am y=some (.int k q))(g:(match K with|.add=>some (k.wrap (p+q))|.sub=>some (k.wrap (p-q))|.mul=>some (k.wrap (p*q))|_=>none)=some u):aK P n am an ⟨some dst,.binOp K t x y j,a1,a6,a7,aW⟩ (.int k u):=
 λa w z _=>by simp only[execOp,z.eval o,z.eval d];cases K<;>simp only[er,reduceCtorEq]at g<;>subst g<;>simp[eqGuard,binOp,Op.intArith]
def aK.quo{t z:aZ}{x y:bd}{p q:Int}(o:aO am x=some (I p))(d:aO am y=some (I q))(g:0<=p/\p<=9223372036854775807/\1<=q):aK P n am an ⟨some dst,.binOp .quo t x y z,a1,a6,a7,aW⟩ (I (p/q)):=
 λa w z _=>by
  have bb:q≠0:=ac
  simp[execOp,z.eval o,z.eval d,eqGuard,binOp,Op.intDiv,bb,IntWalk.i64_quo _ _ g]
def cS(P:bF)(d:Nat)(T:aZ)(x y:aj)(b:Bool):Prop:=∀w,(Op.equalIn d T x y).run P w=.ok b w
def sX:aj->aj->Bool
 |.int ..,_|.float ..,_|.complex ..,_|.string _,_|.pointer _,.int ..|.nilIface,.nilIface=>false
 |_,_=>true
def Hn{t:aZ}{x y:aj}(h:sX x y=true)(w:aY):(binOp .eql t x y).run P w=((Op.equalIn 10000 t x y).run P w).andThen λb s=>.ok (.bool b) s:=by
 have e:binOp .eql t x y=(do pure (.bool (<-Op.equal t x y))):=Ks
 rw[e];show((do pure (Value.bool (<-Op.equal t x y)):Sem aj)).run P w=_
 rw[ct];rfl
def Ho{t:aZ}{x y:aj}(h:sX x y=true)(w:aY):(binOp .neq t x y).run P w=((Op.equalIn 10000 t x y).run P w).andThen λb s=>.ok (.bool (!b)) s:=by
 have e:binOp .neq t x y=(do pure (.bool (!(<-Op.equal t x y)))):=Ks
 rw[e];show((do pure (Value.bool (!(<-Op.equal t x y))):Sem aj)).run P w=_
 rw[ct];rfl
def sY(P:bF)(t:aZ):aj->aj->Bool
 |.nilIface,.nilIface=>false
 |.agg _,.agg _=>!P.eqGuardType P.depth t
 |_,_=>true
def BF{K:BinOp}{t:aZ}{x y:bd}{a b:aj}(h:sY P t a b=true)(w:aY):(eqGuard K t x y a b).run P w=.ok () w:=by
 unfold sY at h;unfold eqGuard;split at h
 .cases h
 .simp only[j3]at h;cases K<;>simp[h]
 .cases K<;>first|rfl|(simp only;split<;>first|rfl|simp_all)
def aK.eql{t g:aZ}{x y:bd}{u v:aj}(q:aO am x=some u)(o:aO am y=some v)(i:sX u v=true)(d:sY P t u v=true)(s:cS P 10000 t u v b):aK P n am an ⟨some dst,.binOp .eql t x y g,a1,a6,a7,aW⟩ (.bool b):=
 λa w g _=>by simp only[execOp,g.eval q,g.eval o,ct,BF d,dv,Hn i,s w,ed]
def aK.neq{t g:aZ}{x y:bd}{u v:aj}(q:aO am x=some u)(o:aO am y=some v)(i:sX u v=true)(d:sY P t u v=true)(s:cS P 10000 t u v b):aK P n am an ⟨some dst,.binOp .neq t x y g,a1,a6,a7,aW⟩ (.bool (!b)):=
 λa w g _=>by simp only[execOp,g.eval q,g.eval o,ct,BF d,dv,Ho i,s w,ed]
def cS.bool{d:Nat}{t:aZ}{p q:Bool}(j:P.underlying t=some .bool):cS P (d+1) t (.bool p) (.bool q) (p==q):=λw=>run_equalIn_bool w d t p q j
def aK.not{t:aZ}{x:bd}{p:Bool}(q:aO am x=some (.bool p)):aK P n am an ⟨some dst,.unOp .not t x,a1,a6,a7,aW⟩ (.bool (!p)):=
 λa w d _=>by simp[execOp,d.eval q,Op.unary]
def aK.conv{t u:aZ}{x:bd}{y:IntKind}{p:Int}(q:aO am x=some (.int k p))(j:P.underlying u=some (.int y))(o:(P.underlying t).isSome=true):aK P n am an ⟨some dst,.convert t u x,a1,a6,a7,aW⟩ (.int y (y.wrap p)):=
 λa w g _=>by obtain⟨d,t⟩:=sZ.1 o;simp[execOp,g.eval q,convert,dN j,dN t,Conv.intToInt]
def aK.extract{x:bd}{nx:Nat}{o:ab aj}{v:aj}(q:aO am x=some (.tuple o.toArray))(t:o[nx]?=some v):aK P n am an ⟨some dst,.extract x nx,a1,a6,a7,aW⟩ (v):=
 λa w d _=>by simp[execOp,d.eval q,Instr.extract,t]
def aK.nilCheck{x:bd}{b o:Nat}(q:aO am x=some (au b o)):aK P n am an ⟨some dst,.nilCheck x,a1,a6,a7,aW⟩ (au b o):=
 λa w d _=>by simp[execOp,d.eval q]
def uI(P:bF)(s:aZ)(f:Nat):aQ Nat:=
 match P.underlying s with
 |some (.struct z)=>match z[f]? with
  |some k=>match P.info? k.type with
   |some i=>if i.size=0 then none else some k.offset
   |none=>none
  |none=>none
 |_=>none
def Addr.VO(b o j:Nat):(⟨b,o,none⟩:Addr).add j=⟨b,o+j,none⟩:=Addr.add_mid b o j
def adD{s:aZ}{f off b o:Nat}(h:uI P s f=some off)(w:aY):(Instr.fieldAt s (au b o) f).run P w=.ok (au b (o+off)) w:=by
 unfold uI at h;split at h
 .rename_i z q;split at h
  .rename_i k x;split at h
   .rename_i i ao;split at h
    .cases h
    .rename_i y;simp only[er]at h;subst h;simp[Instr.fieldAt,dN q,x,Instr.sureAddr,fieldPlace,sizeOf,typeInfo,ao,y,Addr.VO]
   .cases h
  .cases h
 .cases h
def aK.fieldAddr{s:aZ}{x:bd}{f b o off i:Nat}(q:aO am x=some (au b o))(k:uI P s f=some off)(t:o+off=i):aK P n am an ⟨some dst,.fieldAddr s x f,a1,a6,a7,aW⟩ (au b i):=
 λa w d _=>by subst t;simp[execOp,d.eval q,adD k]
def aK.load{E:aZ}{x:bd}{b o:Nat}{c:ab aj}{v:aj}(q:aO am x=some (au b o))(t:cells b E c∈an)(d:i5 P T o c v):aK P n am an ⟨some dst,.load T x,a1,a6,a7,aW⟩ (v):=
 λa w g j=>by simp only[execOp,g.eval q,Instr.loadAt,Instr.sureAddr,ct,ed,dv,d.run (j _ t)]
def aw.store{E:aZ}{x y:bd}{b o:Nat}{c h:ab aj}{v:aj}(t:aO am x=some (au b o))(d:aO am y=some v)(g:az an (cells b E c) (cells b E h) aX)(z:(P.info? T).map (·.size)=some v.cells.size)(i:Nat.ble (o+v.cells.size) c.length=true)(q:v.cells.all (·.oneCell')=true)(j:dD o v.cells.toList c=h)(ee:C am aX):aw P r W D n ⟨none,.store T x y,a1,a6,a7,aW⟩ am an C:=λK Q cu a w s k=>by
 subst j;have Yc:cells b E c∈an:=by obtain⟨l,r,rfl,_⟩:=g.split;simp
 refine rM rfl ?_ (cu _ _ ee _ _ (s.SB undef) (k.setRow g));simp only[execOp,s.eval t,s.eval d,Instr.storeAt,Instr.sureAddr,ct,ed,dv,acI z (k.mem Yc) (nw i) q]
def aw.box{x:bd}{v:aj}{c:ab aj}(i:Nat.blt dst n.n=true)(o:aO am x=some v)(q:v.cells.toList=c)(g:∀b,C ((dst,au b 0)::am) (cells b T c::an)):aw P r W D n ⟨some dst,.box T x,a1,a6,a7,aW⟩ am an C:=λK Q y a w d j=>by subst q;have q:=j.alloc T v.cells.toList;have t:(Instr.box T v).run P w=.ok (au w.heap.size 0) (w.alloc (.cells v.cells T)):=rfl;refine iK rfl ?_ (y _ _ (g w.heap.size) _ _ (d.put i _) X3);simp only[execOp,d.eval o,ct,ed,dv,t]
def aw.alloc{z:aj}{c:ab aj}(k:Nat.blt dst n.n=true)(s:(P.info? T).bind (·.zero)=some z)(q:z.cells.toList=c)(t:∀b,C ((dst,au b 0)::am) (cells b T c::an)):aw P r W D n ⟨some dst,.alloc T,a1,a6,a7,aW⟩ am an C:=λK Q y a w d j=>by
 subst q;have q:=j.alloc T z.cells.toList;obtain⟨i,ao,h⟩:=yq.1 s;have s:(zeroValue T).run P w=.ok z w:=by simp[zeroValue,typeInfo,ao,h]
 have o:(newVar T z).run P w=.ok ⟨w.heap.size,0,none⟩ (w.alloc (.cells z.cells T)):=rfl;refine iK rfl ?_ (y _ _ (t w.heap.size) _ _ (d.put k _) X3);simp only[execOp,Instr.alloc,ct,ed,dv,s,o]
def ar(P:bF)(f:eg)(args:ab aj)(an:ab ax)(R:aj->ab ax->Prop):Prop:=
 ∀w,gI an w->Calls P f args.toArray w λe s=>∃v aX,e=.returned v/\R v aX/\H w (bg an) aX s
def ar.mono{f:eg}{q:aj->ab ax->Prop}(h:ar P f args an R)(o:∀v aX,R v aX->q v aX):ar P f args an q:=
 λw y=>(h w y).mono λ_ _ ⟨v,aX,d,q,j⟩=>⟨v,aX,d,o _ _ q,j⟩
def jE(P:bF)(f:eg):Bool:=match P.funcs[f]? with|some fn=>fn.body.isSome&&!(fn.name== "runtime.NumGoroutine")|none=>false
def uJ{f:eg}(h:jE P f=true)(args:Array aj)(w:aY):(callFunc f args).run P w=.ok (.enter f args) w:=by
 unfold jE at h;split at h
 .rename_i fn s;simp only[cZ,j3,dh]at h;obtain⟨q,o⟩:=h;have t:fn.body≠none:=by intro e;rw[e]at q;cases q
  simp[callFunc,s,o,t]
 .cases h
def ha(am:bv):ab bd->aQ (ab aj)
 |[]=>some []
 |x::q=>match aO am x,ha am q with
  |some v,some q=>some (v::q)
  |_,_=>none
def dc.ha{a:Act}(h:dc n am a):∀{t:ab bd} {g:ab aj},ay.ha am t=some g->t.map a.eval=g
 |[],g,o=>by simp[ay.ha]at o;subst o;rfl
 |x::t,g,o=>by
  simp only[ay.ha]at o;split at o
  .rename_i v z q d;simp only[er]at o;subst o;simp[h.eval q,dc.ha h d]
  .cases o
def aw.call{f:eg}{o:ab bd}{Yc:Array aZ}{j2 kB:ab ax}(b:Nat.blt dst n.n=true)(i:jE P f=true)(q:ay.ha am o=some args)(x:an.Perm (j2++kB))(s:ar P f args j2 R)(t:∀v aX,R v aX->C ((dst,v)::am) (aX++kB)):aw P r W D n ⟨some dst,.call ⟨.value (.func f),o.toArray,Yc⟩,a1,a6,a7,aW⟩ am an C:=λK Q y a w d j=>by
 have h:=j.perm x;have Yf:o.toArray.map a.eval=args.toArray:=by rw[<-d.ha q];simp
 refine wv (f:=f) (args:=args.toArray) (s:=w) rfl ?_ ?_
 .simp only[execOp,resolve,ct,Yf];simp[Act.eval,Deferred.ofValue,invoke,uJ i]
 .refine(s w ⟨λe g=>h.fm e (by simp[g]),?_⟩).mono ?_
  .have:=h.nodup;exact Mo
  .rintro e k⟨v,aX,rfl,z,Ye⟩;exact⟨v,rfl,y _ _ (t v aX z) _ _ (d.put b v) (h.call Ye)⟩
end
end Go.ay
namespace Go.ay
open Go
variable{R:aj->ab ax->Prop}{a:Act}{args:ab aj}{m:Nat}
section
variable{P:bF}{r:aQ Nat}{W:aY}{D:ab Nat}{n:c7}{Q:cE}{am J:bv}{an aX:ab ax}{F:Array bS}{Z:ab bS}
def s0:Nat->ab aj->bv
 |_,[]=>[]
 |k,v::q=>(k,v)::s0 (k+1) q
def BG:∀(q:ab aj) (k j:Nat) (v:aj),dS (s0 k q) j=some v->∃i,j=k+i/\q[i]?=some v
 |[],_,_,_,h=>XT
 |u::y,k,j,v,h=>by
  simp only[s0,dS]at h;by_cases e:k=j
  .subst e;rw[show Nat.beq k k=true from uG k]at h;simp only[qw,er]at h;subst h;exact⟨0,rfl,rfl⟩
  .rw[show Nat.beq k j=false from by rw[<-k7,wu];exact e]at h;obtain⟨i,ao,t⟩:=BG y (k+1) j v h;exact⟨i+1,ac,Z4⟩
def dc.enter(h:Nat.ble args.length m=true):dc ⟨m,[]⟩ (s0 0 args) {tmps:=args.toArray++Array.replicate (m-args.toArray.size) undef,defers:=[]}:=by have b:=nw h;refine⟨XM,rfl,λj v y=>?_⟩;obtain⟨i,rfl,t⟩:=BG _ _ _ _ y;have ao:i<args.length:=(cI.1 t).1;refine⟨by show _<m;omega,?_⟩;simp only[hm,sU];rw[Array.getElem?_append_left (by simpa using ao)];simp[t]
def Ends(R:aj->ab ax->Prop)(W:aY)(D:ab Nat)(e:Ending)(w:aY):Prop:=∃v aX,e=.returned v/\R v aX/\H W D aX w
def n5(P:bF)(fn:Func)(R:Ending->aY->Prop):cE:=bodyPostM Fence.wide 0 P fn R
def qx(an:ab ax)(w:aY):Prop:=∀b E c,cells b E c∈an->(cells b E c).holds w
def H.eJ{w:aY}(h:H W D an w):qx an w:=λ_ _ _ q=>h.mem q
def H.Up{w:aY}{e:ax}{b:Nat}(o:Obj)(d:e.fB=[b])(h:H W D (e::an) w):H W D an (w.putObj b o):=by
 have y:H W D ([e]++an) w:=h;have q:H w (bg [e]) [] (w.putObj b o):=by refine⟨λ_ h=>XT,by simp[bg],λ_ h=>(by simp[bg]at h),λk _ v=>?_,XE,rfl,rfl,rfl,cl _⟩;exact s3 (by simpa[bg,d]using v)
 simpa using y.call q
def BH{fn:Func}{z:Array aj}{R:Ending->aY->Prop}{bc:ab ax}:∀(y:ab Nat) (aX:ab ax) (w:aY),H W D (g9 y++aX) w->qx bc w->(∀s,H W D aX s->qx bc s->∃v,(results fn z).run P s=.ok v s/\R (.returned v) s)->LeavesInM Fence.wide 0 P fn z R (y.map mark) .returning w
 |[],_,w,h,d,g=>g w h d
 |b::y,aX,w,h,d,g=>by
  have t:w.heap[b]?=some (.deferred (some [])):=by have:=h.mem (e:=fC b) (by simp[g9]);rwa[fC,qv]at this
  refine⟨XE,.inl ⟨b,_,rfl,run_takeDeferred t,BH y aX _ (H.Up (e:=fC b) _ (by rw[fC,rG]) h) ?_ g⟩⟩;intro c E cs o;have q:=d c E cs o;rw[rH]at q⊢;rw[s3 (λe=>by subst e;rw[t]at q;cases q)];exact q
def ar.enter{f:eg}{fn:Func}{c:Code}(s:P.funcs[f]?=some fn)(q:fn.body=some c)(v:Nat.ble args.length fn.ntmps=true)(h:∀W,ah P none W (bg an) ⟨fn.ntmps,[]⟩ (n5 P fn (Ends R W (bg an))) c (s0 0 args) an):ar P f args an R:=λw j=>by refine(callsIn_wide (n:=0)).1 (callsIn_of_wp_marks s q trivial ?_ rfl);exact h w _ w (dc.enter v) j.start
def eG(P:bF)(am:bv)(an:ab ax):ResultVar->aj->Prop
 |.tmp t,v=>dS am t=some v
 |.cell p T,v=>∃b E c o,dS am p=some (au b o)/\cells b E c∈an/\i5 P T o c v
def ww(q:Array aj):ResultVar->Sem aj
 |.tmp t=>pure (q.getD t undef)
 |.cell p T=>do loadVar T (<-asAddr (q.getD p undef))
def yr(fn:Func)(o:Array aj):results fn o=(do let q<-fn.results.mapM (ww o);pure (if h:q.size=1 then q[0]else .tuple q)):=by unfold results;congr 1
def eG.run{w:aY}(d:dc n am a)(j:qx an w){y:ResultVar}{v:aj}(h:eG P am an y v):(ww a.tmps y).run P w=.ok v w:=by
 cases y with
 |tmp t=>simp only[ww,ed];rw[(d.get t v h).2]
 |cell p T=>
  obtain⟨b,E,c,o,v,q,t⟩:=h;simp only[ww,(d.get p _ v).2,asAddr,ct,ed,dv,t.run (j _ _ _ q)]
def Hq{fn:Func}{y:ResultVar}{v:aj}{w:aY}(o:fn.results=#[y])(d:dc n am a)(j:qx an w)(h:eG P am an y v):(results fn a.tmps).run P w=.ok v w:=by have y:=h.run d j;rw[yr,o];simp[y]
def aby{fn:Func}{z h:ResultVar}{g s:aj}{w:aY}(t:fn.results=#[z,h])(d:dc n am a)(j:qx an w)(q:eG P am an z g)(o:eG P am an h s):(results fn a.tmps).run P w=.ok (.tuple #[g,s]) w:=by have y:=q.run d j;have q:=o.run d j;rw[yr,t];simp[ct,y,q]
def Hs{fn:Func}{v h y:ResultVar}{z s x:aj}{w:aY}(t:fn.results=#[v,h,y])(d:dc n am a)(j:qx an w)(q:eG P am an v z)(o:eG P am an h s)(g:eG P am an y x):(results fn a.tmps).run P w=.ok (.tuple #[z,s,x]) w:=by have y:=q.run d j;have q:=o.run d j;have b:=g.run d j;rw[yr,t];simp[ct,y,q,b]
variable{fn:Func}
end
end Go.ay
namespace Go.ay
open Go
variable{T k:Nat}{aW:aQ (Nat×Bool)}{C:bv->ab ax->Prop}{P:bF}{a7:Array Edge}
def mP:ab (Nat×Nat×Nat)->Nat->Nat->aQ Nat
 |[],_,_=>none
 |(a,b,v)::l,i,j=>bif Nat.beq a i&&Nat.beq b j then some v else mP l i j
def bA:ab (Nat×Nat)->Nat->aQ Nat
 |[],_=>none
 |(a,v)::l,i=>bif Nat.beq a i then some v else bA l i
def hT:ab (Nat×ab aj)->Nat->aQ (ab aj)
 |[],_=>none
 |(a,v)::l,i=>bif Nat.beq a i then some v else hT l i
def k9:ab (Nat×IntKind)->Nat->aQ IntKind
 |[],_=>none
 |(a,v)::l,i=>bif Nat.beq a i then some v else k9 l i
def ys:∀{l:ab (Nat×Nat×Nat)} {i j v:Nat},mP l i j=some v->(i,j,v)∈l
 |(a,b,u)::l,i,j,v,h=>by
  simp only[mP]at h;cases e:(Nat.beq a i&&Nat.beq b j)with
  |true=>
   rw[e]at h;simp only[qw,er]at h;simp only[cZ]at e;have y:=uK e.1;have q:=uK e.2;subst y q h;simp
  |false=>rw[e]at h;simp only[uH]at h;exact hn _ (ys h)
def qy:∀{l:ab (Nat×Nat)} {i v:Nat},bA l i=some v->(i,v)∈l
 |(a,u)::l,i,v,h=>by
  simp only[bA]at h;cases e:Nat.beq a i with
  |true=>
   rw[e]at h;exact J8
  |false=>rw[e]at h;simp only[uH]at h;exact hn _ (qy h)
def BI:∀{l:ab (Nat×IntKind)} {i:Nat} {v:IntKind},k9 l i=some v->(i,v)∈l
 |(a,u)::l,i,v,h=>by
  simp only[k9]at h;cases e:Nat.beq a i with
  |true=>
   rw[e]at h;exact J8
  |false=>rw[e]at h;simp only[uH]at h;exact hn _ (BI h)
def BJ:∀{l:ab (Nat×ab aj)} {i:Nat} {v:ab aj},hT l i=some v->(i,v)∈l
 |(a,u)::l,i,v,h=>by
  simp only[hT]at h;cases e:Nat.beq a i with
  |true=>
   rw[e]at h;exact J8
  |false=>rw[e]at h;simp only[uH]at h;exact hn _ (BJ h)
def s4(P:bF):ab (Nat×ab aj)->Prop
 |[]=>True
 |(T,c)::l=>((P.info? T).bind (·.zero)).map (·.cells.toList)=some c/\s4 P l
def s4.get{P:bF}:∀{l:ab (Nat×ab aj)},s4 P l->∀e,e∈l->((P.info? e.1).bind (·.zero)).map (·.cells.toList)=some e.2
 |(T,c)::l,h,e,d=>by
  rcases dq.1 d with rfl|d
  .exact h.1
  .exact s4.get h.2 e d
def BK(P:bF)(t:aZ)(k:IntKind):Bool:=match P.underlying t with|some (.int y)=>k==y|_=>false
def BL(P:bF)(t:aZ):Bool:=match P.underlying t with|some .string=>true|_=>false
def BM(P:bF)(t:aZ):Bool:=match P.underlying t with|some .bool=>true|_=>false
def aej(P:bF)(t e aG q:Nat):Bool:=match P.underlying t,P.info? e with|some (.slice y),some i=>e==y&&i.size==aG&&i.bytes==q&&i.zero.isSome&&!(aG==0)&&(match i.zero with|some z=>z.cells.size==aG|none=>false)|_,_=>false
def wx(P:bF)(T f off k:Nat):Bool:=
 match P.underlying T with
 |some (.struct z)=>match z[f]? with
  |some h=>h.offset==off&&((P.info? h.type).map (·.size)==some k)
  |none=>false
 |_=>false
def pJ(P:bF)(t e:Nat):Bool:=match P.underlying t with|some (.slice y)=>e==y|_=>false
def BN(P:bF)(i:ab (Nat×Nat×Nat))(e:Nat×Nat×Nat):Bool:=match mP i e.1 e.2.1 with|some off=>wx P e.1 e.2.1 off e.2.2|none=>false
def BO(P:bF)(T n E:Nat):Bool:=match P.underlying T with|some (.array q y)=>n==q&&E==y|_=>false
def qz:ab (Nat×Nat×Nat)->Nat->aQ (Nat×Nat)
 |[],_=>none
 |(a,v)::l,i=>bif Nat.beq a i then some v else qz l i
def BP:∀{l:ab (Nat×Nat×Nat)} {i:Nat} {v:Nat×Nat},qz l i=some v->(i,v)∈l
 |(a,u)::l,i,v,h=>by
  simp only[qz]at h;cases e:Nat.beq a i with
  |true=>
   rw[e]at h;exact J8
  |false=>rw[e]at h;simp only[uH]at h;exact hn _ (BP h)
structure bV(P:bF) where
 pK:ab (Nat×Nat×Nat)
 uL:ab (Nat×Nat×Nat)
 eO:ab (Nat×Nat)
 gp:ab (Nat×Nat)
 agg:ab (Nat×Nat)
 one:ab (Nat×Nat)
 ia:ab (Nat×ab aj)
 ints:ab (Nat×IntKind)
 strs:ab (Nat×Nat)
 uM:ab (Nat×Nat)
 kD:ab (Nat×Nat)
 arr:ab (Nat×Nat×Nat)
 BQ:(pK.all λe=>uI P e.1 e.2.1==some e.2.2)=true
 BR:(agg.all λe=>rJ P e.1 e.2)=true
 BS:(one.all λe=>rK P e.1&&e.2==1)=true
 BT:(ints.all λe=>BK P e.1 e.2)=true
 BU:(strs.all λe=>BL P e.1)=true
 BV:(uL.all (BN P pK))=true
 BW:(eO.all λe=>pJ P e.1 e.2)=true
 BX:(gp.all λe=>(P.info? e.1).map (·.size)==some e.2)=true
 BY:(uM.all λe=>BM P e.1)=true
 BZ:(kD.all λe=>(P.info? e.1).map (·.bytes)==some e.2)=true
 B0:(arr.all λe=>BO P e.1 e.2.1 e.2.2)=true
 B1:s4 P ia
section
variable(ad:bV P)
def bV.VP{s f off:Nat}(h:mP ad.pK s f=some off):uI P s f=some off:=by have:=gX.1 ad.BQ _ (ys h);simpa using this
def bV.RM{E:Nat}(h:bA ad.eO T=some E):pJ P T E=true:=gX.1 ad.BW _ (qy h)
def bV.TU{n E:Nat}(h:qz ad.arr T=some (n,E)):P.underlying T=some (.array n E):=by
 have:=gX.1 ad.B0 _ (BP h);simp only[BO]at this;split at this
 .rename_i q y d;simp only[cZ,cH]at this;rw[d,this.1,this.2]
 .cases this
def bV.Sw(h:bA ad.gp T=some k):(P.info? T).map (·.size)=some k:=by have:=gX.1 ad.BX _ (qy h);simpa using this
def bV.VQ(h:bA ad.kD T=some k):(P.info? T).map (·.bytes)=some k:=by have:=gX.1 ad.BZ _ (qy h);simpa using this
def bV.Uq{f off:Nat}(h:mP ad.pK T f=some off)(q:mP ad.uL T f=some k):wx P T f off k=true:=by have:=gX.1 ad.BV _ (ys q);simp only[BN,h]at this;exact this
def bV.Sd(h:bA ad.agg T=some k):rJ P T k=true:=gX.1 ad.BR _ (qy h)
def bV.V'(h:bA ad.one T=some k):rK P T=true:=by have:=gX.1 ad.BS _ (qy h);simp only[cZ]at this;exact this.1
def bV.R0{k:IntKind}(h:k9 ad.ints T=some k):P.underlying T=some (.int k):=by
 have:=gX.1 ad.BT _ (BI h);simp only[BK]at this;split at this
 .rename_i y e;rw[e];simp at this;rw[this]
 .cases this
def bV.SF(h:bA ad.strs T=some k):P.underlying T=some .string:=by
 have:=gX.1 ad.BU _ (qy h);simp only[BL]at this;split at this
 .assumption
 .cases this
def bV.Ur(h:bA ad.uM T=some k):P.underlying T=some .bool:=by
 have:=gX.1 ad.BY _ (qy h);simp only[BM]at this;split at this
 .assumption
 .cases this
def bV.zeroAt{c:ab aj}(h:hT ad.ia T=some c):∃z,(P.info? T).bind (·.zero)=some z/\z.cells.toList=c:=by have:=ad.B1.get _ (BJ h);obtain⟨z,y,q⟩:=oW.1 this;exact⟨z,y,q⟩
def bV.Us(h:bA ad.agg T=some k):(P.info? T).map (·.size)=some k:=(sT (ad.Sd h)).choose_spec.2.2
def bV.Ty(h:bA ad.one T=some k):(P.info? T).map (·.size)=some 1:=(yl (ad.V' h)).choose_spec.2.2
end
class et(o k:Nat)(c:List Value)(b6:outParam (List Value)):Prop where
 eq:iJ o k c=b6
class bq(o:Nat)(x c:List Value)(b6:outParam (List Value)):Prop where
 eq:dD o x c=b6
section
variable{r:aQ Nat}{W:aY}{D:ab Nat}{n:c7}{Q:cE}{am J:bv}{an aX:ab ax}{F:Array bS}{Z:ab bS}
variable{dst:Nat}{a1:aZ}{a6:String}
def aK.VR(ad:bV P){T E:aZ}{x:bd}{b o u:Nat}{c:ab aj}{v:aj}(q:bA ad.one T=some u)(t:aO am x=some (au b o))(d:cells b E c∈an)(g:c[o]?=some v):aK P n am an ⟨some dst,.load T x,a1,a6,a7,aW⟩ (v):=
 aK.load t d (i5.one (ad.V' q) g)
def aK.VS(ad:bV P){T E:aZ}{x:bd}{b o:Nat}{c v:ab aj}(q:bA ad.agg T=some k)(t:aO am x=some (au b o))(d:cells b E c∈an)(z:Nat.ble (o+k) c.length=true)(g:et o k c v):aK P n am an ⟨some dst,.load T x,a1,a6,a7,aW⟩ (A v):=
 aK.load t d (i5.agg (ad.Sd q) z g.eq)
def aw.VT(ad:bV P){T E:aZ}{x y:bd}{b o u:Nat}{c s:ab aj}{v:aj}(q:bA ad.one T=some u)(t:aO am x=some (au b o))(d:aO am y=some v)(i:v.oneCell'=true)(g:az an (cells b E c) (cells b E s) aX)(j:Nat.blt o c.length=true)(z:bq o [v] c s)(k:C am aX):aw P r W D n ⟨none,.store T x y,a1,a6,a7,aW⟩ am an C:=by
 have h:v.cells=#[v]:=by cases v<;>first|rfl|(cases i;done)
 refine aw.store t d g (by rw[ad.Ty q,h];rfl) (by rw[h];exact j) (by rw[h];simp[i]) ?_ k;rw[h];exact z.eq
def aw.VU(ad:bV P){T E:aZ}{x y:bd}{b o:Nat}{c s u:ab aj}(q:bA ad.agg T=some k)(t:aO am x=some (au b o))(d:aO am y=some (A u))(j:u.length=k)(i:u.all (·.oneCell')=true)(g:az an (cells b E c) (cells b E s) aX)(v:Nat.ble (o+k) c.length=true)(z:bq o u c s)(h:C am aX):aw P r W D n ⟨none,.store T x y,a1,a6,a7,aW⟩ am an C:=by subst j;exact aw.store t d g (by rw[ad.Us q];simp[Value.cells]) (by simpa[Value.cells]using v) (by simpa[Value.cells]using i) z.eq h
def aK.VV(ad:bV P){s:aZ}{x:bd}{f b o off i:Nat}(q:aO am x=some (au b o))(k:mP ad.pK s f=some off)(t:o+off=i):aK P n am an ⟨some dst,.fieldAddr s x f,a1,a6,a7,aW⟩ (au b i):=
 aK.fieldAddr q (ad.VP k) t
def aw.Ut{T:aZ}{x:bd}{c:ab aj}(i:Nat.blt dst n.n=true)(q:aO am x=some (A c))(o:∀b,C ((dst,au b 0)::am) (cells b T c::an)):aw P r W D n ⟨some dst,.box T x,a1,a6,a7,aW⟩ am an C:=aw.box i q rfl o
def aw.VW{T:aZ}{x:bd}{v:aj}(i:Nat.blt dst n.n=true)(q:aO am x=some v)(t:v.cells.toList=[v])(o:∀b,C ((dst,au b 0)::am) (cells b T [v]::an)):aw P r W D n ⟨some dst,.box T x,a1,a6,a7,aW⟩ am an C:=aw.box i q t o
def aw.VX(ad:bV P){T:aZ}{c:ab aj}(i:Nat.blt dst n.n=true)(y:hT ad.ia T=some c)(t:∀b,C ((dst,au b 0)::am) (cells b T c::an)):aw P r W D n ⟨some dst,.alloc T,a1,a6,a7,aW⟩ am an C:=by obtain⟨z,q,o⟩:=ad.zeroAt y;exact aw.alloc i q o t
def aK.Uu(ad:bV P){t u:aZ}{x:bd}{k y d:IntKind}{p:Int}(q:aO am x=some (.int k p))(j:k9 ad.ints u=some y)(o:k9 ad.ints t=some d):aK P n am an ⟨some dst,.convert t u x,a1,a6,a7,aW⟩ (.int y (y.wrap p)):=
 aK.conv q (ad.R0 j) (by rw[ad.R0 o];rfl)
end
end Go.ay
namespace Go.ay
open Go
variable{T:aZ}{d:Nat}{aW:aQ (Nat×Bool)}{C:bv->ab ax->Prop}{P:bF}{b:Bool}{a7:Array Edge}
section
def i5.part{o:Nat}{c:ab aj}{v:aj}(h:i5 P T o c v)(w:aY):(Go.part T c.toArray o).run P w=.ok v w:=by
 rcases h with⟨q,t⟩|⟨k,q,t,rfl⟩
 .obtain⟨d,g,b,_⟩:=yl q;have z:(isAgg T).run P w=.ok false w:=by unfold isAgg;rw[ct,dN g w];cases d<;>simp_all[sS]
  simp[Go.part,ct,z,t]
 .obtain⟨d,g,b,ao⟩:=sT q;have z:(isAgg T).run P w=.ok true w:=by unfold isAgg;rw[ct,dN g w];cases d<;>simp_all
  cases bb:P.info? T with
  |none=>simp[bb]at ao
  |some i=>
   have q:i.size=k:=by simpa[bb]using ao
   simp[Go.part,ct,z,sizeOf,typeInfo,bb,q,iJ,List.take_drop]
def mQ(P:bF)(d:Nat)(q t:ab aj):ab (Nat×Nat)->Bool->Prop
 |[],b=>b=true
 |f::z,b=>∃u v g o,i5 P f.1 f.2 q u/\i5 P f.1 f.2 t v/\cS P d f.1 u v g/\mQ P d q t z o/\b=(g&&o)
def mQ.run{d:Nat}{q s:ab aj}:∀{i:ab Field} {b:Bool},(i.all λf=>!(f.name== "_"))=true->mQ P d q s (i.map λf=>(f.type,f.offset)) b->∀w,(Op.eqFields d q.toArray s.toArray i).run P w=.ok b w
 |[],b,_,h,w=>by simp only[kE,mQ]at h;subst h;simp[Op.eqFields]
 |f::i,b,y,h,w=>by
  obtain⟨u,v,k,j,z,t,g,o,rfl⟩:=h;simp only[yt,cZ]at y;have d:f.name≠ "_" :=by have:=y.1;simpa using this
  have q:=mQ.run y.2 o w;cases k with
  |true=>simp[Op.eqFields,d,ct,z.part w,t.part w,g w,q]
  |false=>simp[Op.eqFields,d,ct,z.part w,t.part w,g w]
def wy(P:bF)(T:aZ)(l:ab (Nat×Nat)):Bool:=
 match P.underlying T with
 |some (.struct z)=>(z.toList.map λf=>(f.type,f.offset))==l&&z.toList.all (λf=>!(f.name== "_"))&&!P.stoodInHeld T
 |_=>false
def cS.struct{xs qA:ab aj}{l:ab (Nat×Nat)}(q:wy P T l=true)(h:mQ P d xs qA l b):cS P (d+1) T (.agg xs.toArray) (.agg qA.toArray) b:=λw=>by
 unfold wy at q;split at q
 .rename_i z o;simp only[cZ,cH,j3]at q;obtain⟨⟨rfl,y⟩,v⟩:=q;have s:P.fieldsOf T=z:=by simp[Program.fieldsOf,o]
  rw[run_equalIn_struct w d T _ _ (by rw[s,o]) v,s];exact mQ.run y h w
 .cases q
def mQ.Uv{d:Nat}{q y:ab aj}{e c:Nat}:∀{k:ab Nat} {b:Bool},mQ P d q y (k.map λi=>(e,i*c)) b->∀w,(Op.eqItems d e c q.toArray y.toArray k).run P w=.ok b w
 |[],b,h,w=>by simp only[kE,mQ]at h;subst h;simp[Op.eqItems]
 |i::k,b,h,w=>by
  obtain⟨u,v,s,j,z,t,g,o,rfl⟩:=h;have q:=mQ.Uv o w;cases s with
  |true=>simp[Op.eqItems,ct,z.part w,t.part w,g w,q]
  |false=>simp[Op.eqItems,ct,z.part w,t.part w,g w]
def B2(P:bF)(T:aZ)(l:ab (Nat×Nat)):Bool:=
 match P.underlying T with
 |some (.array n e)=>((List.range n).map λi=>(e,i*P.cellsOf e))==l&&(P.info? e).isSome
 |_=>false
def cS.array{q g:ab aj}{l:ab (Nat×Nat)}(o:B2 P T l=true)(h:mQ P d q g l b):cS P (d+1) T (.agg q.toArray) (.agg g.toArray) b:=λw=>by
 unfold B2 at o;split at o
 .rename_i n e t;simp only[cZ,cH]at o;obtain⟨rfl,ao⟩:=o;obtain⟨i,ao⟩:=sZ.1 ao;rw[run_equalIn_array w d _ _ t ao];exact mQ.Uv h w
 .cases o
def cS.int{k qB:IntKind}{p q:Int}(h:P.underlying T=some (.int qB)):cS P (d+1) T (.int k p) (.int k q) (decide (p=q)):=λw=>by rw[run_equalIn_int w d T k qB p q h];rfl
def cS.str{p q:ab aP}(h:P.underlying T=some .string):cS P (d+1) T (S p) (S q) (decide (p=q)):=λw=>by rw[run_equalIn_string w d T _ _ h];congr 1;rw[pL];simp[ByteArray.toList_eq]
end
def ab2(o:Nat)(x:aj)(l c:ab aj)(h:o<c.length):dD (o+1) l (c.set o x)=dD o (x::l) c:=by
 simp only[dD,dp];rw[show o+(l.length+1)=o+1+l.length by omega];have y:(c.set o x).take (o+1)=c.take o++[x]:=by rw[B3 XV,List.take_set_of_le (cl _)];simp
 have q:(c.set o x).drop (o+1+l.length)=c.drop (o+1+l.length):=by rw[List.drop_set_of_lt ac]
 rw[y,q];simp
def yu(off:Nat):∀(l:ab aj) (k:Nat) (c:Array aj),off+k+l.length<=c.size->(l.zipIdx k).foldl (λcs (p:aj×Nat)=>cs.setIfInBounds (off+p.2) p.1) c=(dD (off+k) l c.toList).toArray
 |[],k,c,_=>by simp[dD]
 |x::l,k,c,h=>by simp only[List.zipIdx_cons,n6];rw[yu off l (k+1) _ (by simp at h⊢;omega)];rw[<-ab2 (off+k) x l c.toList (by simp at h⊢;omega)];simp[oX]
section
def kF(P:bF)(T:aZ):ab (Nat×aj)->ab aj->ab aj->Prop
 |[],c,y=>y=c
 |(f,v)::l,c,y=>∃off z,wx P T f off v.cells.size=true/\Nat.ble (off+v.cells.size) c.length=true/\dD off v.cells.toList c=z/\kF P T l z y
def B4{T:aZ}{z:Array Field}{s:Array (Nat×Nat)}(d:P.underlying T=some (.struct z))(o:∀(f:Nat) (rN:Field) (k:Nat),z[f]?=some rN->(P.info? rN.type).map (·.size)=some k->s[f]?=some (rN.offset,k)):∀{l:ab (Nat×aj)} {c y:ab aj},kF P T l c y->Instr.fill (s[·]?) c.toArray l=some y.toArray
 |[],c,y,h=>by simp only[kF]at h;subst h;rfl
 |(f,v)::l,c,y,h=>by
  obtain⟨off,i,b,g,q,t⟩:=h;unfold wx at b;rw[d]at b;simp only at b;split at b
  .rename_i rN Ye;simp only[cZ,cH]at b;have Yc:=o f rN v.cells.size Ye b.2;have Yg:=nw g;subst q;unfold Instr.fill;simp only[Yc,b.1];rw[aN XM];have Yf:=yu off v.cells.toList 0 c.toArray (by simpa using Yg);simp only[gJ]at Yf;have e:(v.cells.zipIdx.foldl (λcs (x:aj×Nat)=>match x with|(c,j)=>cs.setIfInBounds (off+j) c) c.toArray)=(dD off v.cells.toList c).toArray:=by rw[<-Array.foldl_toList];simpa using Yf
   rw[e];exact B4 d o t
  .cases b
def wz(f:Field):Sem (Nat×Nat):=do pure (f.offset,<-sizeOf f.type)
def Hu(w:aY){f:Field}(h:(P.info? f.type).isSome=true):(wz f).run P w=.ok (f.offset,P.cellsOf f.type) w:=by obtain⟨i,ao⟩:=sZ.1 h;simp[wz,sizeOf,typeInfo,ao,Program.cellsOf]
def run_places(w:aY):∀(l:ab Field),(l.all λf=>(P.info? f.type).isSome)=true->(l.mapM wz).run P w=.ok (l.map λf=>(f.offset,P.cellsOf f.type)) w
 |[],_=>XE
 |f::l,h=>by simp only[yt,cZ]at h;rw[List.mapM_cons];simp only[ct,Hu w h.1,run_places w l h.2,dv,ed,eK]
def wA(P:bF)(T:aZ):Bool:=
 match P.underlying T with
 |some (.struct z)=>z.toList.all λf=>(P.info? f.type).isSome
 |_=>false
def run_build{z:aj}{b:ab (Nat×aj)}{v:ab aj}(g:wA P T=true)(y:(P.info? T).bind (·.zero)=some z)(o:kF P T b z.cells.toList v)(w:aY):(Instr.build T b.toArray).run P w=.ok (A v) w:=by
 unfold wA at g;split at g
 .rename_i j d;obtain⟨i,ao,h⟩:=yq.1 y;have Ye:(zeroValue T).run P w=.ok z w:=by simp[zeroValue,typeInfo,ao,h]
  have q:(j.mapM wz).run P w=.ok (j.map λf=>(f.offset,P.cellsOf f.type)) w:=by rw[Array.mapM_eq_mapM_toList];have:=run_places (P:=P) w j.toList g;simp only[Sem.run_map,this];simp[<-Array.toList_map]
  have s:=B4 (s:=j.map λf=>(f.offset,P.cellsOf f.type)) d (λf rN k Yc t=>by
   have:P.cellsOf rN.type=k:=by simp[Program.cellsOf,t]
   simp[Yc,this]) o
  simp only[B5]at s;have x:(j.mapM λf=>(do pure (f.offset,<-sizeOf f.type):Sem (Nat×Nat))).run P w=.ok (j.map λf=>(f.offset,P.cellsOf f.type)) w:=q;unfold Instr.build;simp only[ct,Ye,dN d,dv,x,s,ed]
 .cases g
end
section
variable{r:aQ Nat}{W:aY}{D:ab Nat}{n:c7}{Q:cE}{am J:bv}{an aX:ab ax}{F:Array bS}{Z:ab bS}
variable{dst:Nat}{a1:aZ}{a6:String}
def lN(am:bv):ab (Nat×bd)->aQ (ab (Nat×aj))
 |[]=>some []
 |(i,x)::q=>match aO am x,lN am q with
  |some v,some q=>some ((i,v)::q)
  |_,_=>none
def dc.lN{a:Act}(h:dc n am a):∀{t:ab (Nat×bd)} {g:ab (Nat×aj)},ay.lN am t=some g->t.map (λp=>(p.1,a.eval p.2))=g
 |[],g,o=>by simp[ay.lN]at o;subst o;rfl
 |(i,x)::t,g,o=>by
  simp only[ay.lN]at o;split at o
  .rename_i v z q d;simp only[er]at o;subst o;simp[h.eval q,dc.lN h d]
  .cases o
def aK.build(ad:bV P){b:ab (Nat×bd)}{g:ab (Nat×aj)}{c v:ab aj}(j:wA P T=true)(y:hT ad.ia T=some c)(o:ay.lN am b=some g)(t:kF P T g c v):aK P n am an ⟨some dst,.build T b.toArray,a1,a6,a7,aW⟩ (A v):=λa w d _=>by
 obtain⟨z,q,rfl⟩:=ad.zeroAt y;have e:(b.toArray.map λ(p:Nat×bd)=>(p.1,a.eval p.2))=g.toArray:=by rw[<-d.lN o];simp
 have y:(b.toArray.map λ(x:Nat×bd)=>match x with|(i,x)=>(i,a.eval x))=g.toArray:=e;simp only[execOp,ct,y,run_build j q t w,dv,ed]
def kF.nil{c:ab aj}:kF P T [] c c:=rfl
def kF.VY(ad:bV P){f off k:Nat}{v:aj}{l:ab (Nat×aj)}{c j y:ab aj}(s:mP ad.pK T f=some off)(t:mP ad.uL T f=some k)(q:k=1)(z:v.cells=#[v])(d:Nat.blt off c.length=true)(o:bq off [v] c j)(g:kF P T l j y):kF P T ((f,v)::l) c y:=by subst q;exact⟨off,j,by rw[z];exact ad.Uq s t,by rw[z];exact d,by rw[z];exact o.eq,g⟩
def kF.VZ(ad:bV P){f off k:Nat}{u:ab aj}{l:ab (Nat×aj)}{c z v:ab aj}(s:mP ad.pK T f=some off)(o:mP ad.uL T f=some k)(g:u.length=k)(t:Nat.ble (off+k) c.length=true)(q:bq off u c z)(d:kF P T l z v):kF P T ((f,A u)::l) c v:=by subst g;exact⟨off,z,by simpa[Value.cells]using ad.Uq s o,by simpa[Value.cells]using t,q.eq,d⟩
end
end Go.ay
namespace Go.ay
open Go
variable{k:IntKind}{d:Array aZ}{a:aQ Addr}{aW:aQ (Nat×Bool)}{C:bv->ab ax->Prop}{a7:Array Edge}
section
variable{P:bF}{r:aQ Nat}{W:aY}{D:ab Nat}{n:c7}{Q:cE}{am J:bv}{an aX:ab ax}{F:Array bS}{Z:ab bS}
variable{dst:Nat}{a1:aZ}{a6:String}
def aK.V0{c x y:bd}{v:aj}(o:aO am c=some (.bool true))(q:aO am x=some v):aK P n am an ⟨some dst,.pick c x y,a1,a6,a7,aW⟩ (v):=
 aK.pick o (λ_=>q) (λh=>XT)
def aK.V1{c x y:bd}{v:aj}(o:aO am c=some (.bool false))(q:aO am y=some v):aK P n am an ⟨some dst,.pick c x y,a1,a6,a7,aW⟩ (v):=
 aK.pick o (λh=>XT) (λ_=>q)
def uN(l:ab aP):(⟨l.toArray⟩:ByteArray).size=l.length:=rfl
def mR(K:BinOp)(p q:ab aP):aQ Bool:=
 match K with
 |.eql=>some (decide (p=q))
 |.neq=>some (!decide (p=q))
 |.lss=>some (Op.bytesLess p q)
 |.leq=>some (Op.bytesLess p q||decide (p=q))
 |.gtr=>some (!(Op.bytesLess p q||decide (p=q)))
 |.geq=>some (!Op.bytesLess p q)
 |_=>none
def aK.mR{K:BinOp}{t j:aZ}{x y:bd}{p q:ab aP}{b:Bool}(o:aO am x=some (S p))(d:aO am y=some (S q))(g:ay.mR K p q=some b):aK P n am an ⟨some dst,.binOp K t x y j,a1,a6,a7,aW⟩ (.bool b):=
 λa w z _=>by
  have e:(p==q)=decide (p=q):=by rw[pL];simp
  simp only[execOp,z.eval o,z.eval d];cases K<;>simp only[ay.mR,er,reduceCtorEq]at g<;>subst g<;>simp[eqGuard,binOp,Op.stringOp,e]
def aK.TV(ad:bV P){t u:aZ}{x:bd}{p:ab aP}(q:aO am x=some (S p))(j:bA ad.strs t=some u):aK P n am an ⟨some dst,.call ⟨.builtin .len,#[x],#[t]⟩,a1,a6,a7,aW⟩ (I (p.length:Int)):=
 λa w d _=>by simp[execOp,resolve,invoke,builtin,Builtin.len_,d.eval q,dN (ad.SF j),goInt,uN]
def fM{t e:Nat}(h:pJ P t e=true):P.underlying t=some (.slice e):=by
 unfold pJ at h;split at h
 .rename_i y d;rw[d];simp at h;rw[h]
 .cases h
def aK.Tz{t e:aZ}{x:bd}{d o:Nat}(q:aO am x=some (.slice a d o))(j:pJ P t e=true):aK P n am an ⟨some dst,.call ⟨.builtin .len,#[x],#[t]⟩,a1,a6,a7,aW⟩ (I (d:Int)):=
 λa w d _=>by simp[execOp,resolve,invoke,builtin,Builtin.len_,d.eval q,dN (fM j),goInt]
def aK.V2(ad:bV P){t e:aZ}{x:bd}{d o:Nat}(q:aO am x=some (.slice a d o))(j:bA ad.eO t=some e):aK P n am an ⟨some dst,.call ⟨.builtin .len,#[x],#[t]⟩,a1,a6,a7,aW⟩ (I (d:Int)):=
 aK.Tz q (ad.RM j)
def aK.V3{t e E:aZ}{x:bd}{v:aj}{aG k:Nat}{o:ab aj}(q:aO am x=some v)(z:row v E aG k o∈an)(b:pJ P t e=true):aK P n am an ⟨some dst,.call ⟨.builtin .len,#[x],#[t]⟩,a1,a6,a7,aW⟩ (I (k:Int)):=
 λa w j y=>by
  have h:=y _ z;rw[hz]at h;rcases h.2 with⟨rfl,rfl⟩|⟨g,d,i,rfl,_⟩<;>
  simp[execOp,resolve,invoke,builtin,Builtin.len_,j.eval q,dN (fM b),goInt]
def aK.max{x y:bd}{p q:Int}(o:aO am x=some (I p))(t:aO am y=some (I q)):aK P n am an ⟨some dst,.call ⟨.builtin .max,#[x,y],d⟩,a1,a6,a7,aW⟩ (I (Max.max p q)):=
 λa w d _=>by
  have e:(if q>p then q else p)=Max.max p q:=ac
  simp[execOp,resolve,invoke,builtin,Builtin.max_,Builtin.max2,d.eval o,d.eval t,e]
def aK.min{x y:bd}{p q:Int}(o:aO am x=some (I p))(t:aO am y=some (I q)):aK P n am an ⟨some dst,.call ⟨.builtin .min,#[x,y],d⟩,a1,a6,a7,aW⟩ (I (Min.min p q)):=
 λa w d _=>by
  have e:(if q<p then q else p)=Min.min p q:=ac
  simp[execOp,resolve,invoke,builtin,Builtin.min_,Builtin.min2,d.eval o,d.eval t,e]
def aK.Uw(ad:bV P){t u:aZ}{x y:bd}{p:ab aP}{i:Int}{b:aP}(q:aO am x=some (S p))(o:aO am y=some (.int k i))(v:bA ad.strs t=some u)(j:0<=i)(d:p[i.toNat]?=some b):aK P n am an ⟨some dst,.index t x y,a1,a6,a7,aW⟩ (.int .u8 (b.toNat:Int)):=
 λa w g _=>by
  have y:i.toNat<p.length:=(cI.1 d).1;have t:(⟨p.toArray⟩:ByteArray)[i.toNat]?=some b:=by
   rw[getElem?_pos _ _ (by simpa[uN]using y)];have:p[i.toNat]=b:=by simpa[y]using d
   simp[ByteArray.getElem_eq_getElem_data,this]
  simp[execOp,Instr.index,g.eval q,g.eval o,asIntOf,dN (ad.SF v),j,t]
def B6(p:ab aP)(l h:Nat):(⟨p.toArray⟩:ByteArray).extract l h=⟨((p.drop l).take (h-l)).toArray⟩:=by apply ByteArray.ext;simp[ByteArray.data_extract,List.take_drop]
def aK.V4(ad:bV P){t u:aZ}{x g:bd}{p:ab aP}{i:Int}(o:aO am x=some (S p))(d:aO am g=some (.int k i))(v:bA ad.strs t=some u)(j:0<=i)(q:i<=p.length):aK P n am an ⟨some dst,.slice t x (some g) none none,a1,a6,a7,aW⟩ (S (p.drop i.toNat)):=
 λa w g _=>by have e:(p.drop i.toNat).take (p.length-i.toNat)=p.drop i.toNat:=j4 XE;simp[execOp,Instr.sliceAt,Instr.slice,Instr.sliceBounds,Instr.sliceBound,g.eval o,g.eval d,asIntOf,dN (ad.SF v),j,q,uN,B6,e]
def aK.V5(ad:bV P){t u:aZ}{x ao:bd}{p:ab aP}{i:Int}(o:aO am x=some (S p))(d:aO am ao=some (.int k i))(v:bA ad.strs t=some u)(j:0<=i)(q:i<=p.length):aK P n am an ⟨some dst,.slice t x none (some ao) none,a1,a6,a7,aW⟩ (S (p.take i.toNat)):=
 λa w g _=>by simp[execOp,Instr.sliceAt,Instr.slice,Instr.sliceBounds,Instr.sliceBound,g.eval o,g.eval d,asIntOf,dN (ad.SF v),j,q,uN,B6]
end
end Go.ay
namespace Go.ay
open Go
variable{M:Act->aY->Prop}{Y:Array Bool}{K:Act->aY->Prop}{X:ab Nat}{a:Act}{Q:cE}{U:aY->Prop}{aW:aQ (Nat×Bool)}{fo:bS}{a7:Array Edge}
section
variable{P:bF}{r:aQ Nat}{F:Array bS}{u:Region.Mode}
def jm(P:bF)(r:aQ Nat)(F:Array bS)(Q:cE)(i:Nat)(K:Act->aY->Prop)(a:Act)(w:aY):Prop:=
 match F[i]? with
 |none=>K a w
 |some o=>if Region.wanted o (yielded F a.tmps)then lM P r o a w K Q else K (a.put o.dst undef) w
def Any(P:bF)(r:aQ Nat)(u:Region.Mode)(F:Array bS)(Q:cE)(S T:aY->Prop)(X:ab Nat):Nat->Array Bool->Act->aY->Prop
 |0,Y,a,w=>Region.ready u F Y=[]/\Q .normal a w
 |U+1,Y,a,w=>
  (Region.ready u F Y=[]->Q .normal a w)/\
  ∀i∈Region.ready u F Y,jm P r F Q i (λy s=>T s/\(S w->X.contains i=false->S s)/\Any P r u F Q S T X U (Y.setIfInBounds i true) y s) a w
def B7{o:bS}{w:aY}{b:Act->aY->Prop}(h:∀a w,K a w->b a w)(y:lM P r o a w K Q):lM P r o a w b Q:=
 (Oper.wpIn_mono (F:=k8 r) (n:=0) h (yo y)).2
def afl{i:Nat}{s:Act->aY->Prop}{w:aY}(h:∀a w,K a w->s a w)(b:jm P r F Q i K a w):wpOpIn (k8 r) 0 P F Q i s a w:=by
 unfold jm at b;unfold wpOpIn;split
 .rename_i e;rw[e]at b;exact h _ _ b
 .rename_i o e;rw[e]at b;simp only at b;split
  .rename_i y;rw[aT y]at b;exact yo (B7 h b)
  .rename_i y;rw[aN y]at b;exact⟨λ_ _=>trivial,h _ _ b⟩
def B8{Q:cE}{S T:aY->Prop}{X:ab Nat}:∀(U:Nat) (Y:Array Bool) (a:Act) (w:aY),Any P r u F Q S T X U Y a w->wpAnyIn (k8 r) 0 P u F Q U Y a w
 |0,_,_,_,h=>h
 |U+1,_,_,_,h=>⟨h.1,λi ao=>afl (λa w v=>B8 U _ a w v.2.2) (h.2 i ao)⟩
def mS(P:bF)(F:Array bS)(U:aY->Prop)(o:bS)(v:aj)(a:Act):Prop:=
 (Region.wanted o (yielded F a.tmps)=true/\jl o.op=true/\∀w,U w->(execOp a.eval o).run P w=.ok (.value v) w)\/
 (Region.wanted o (yielded F a.tmps)=false/\v=undef)
def mS.jm{i:Nat}{o:bS}{v:aj}(ao:F[i]?=some o)(q:mS P F U o v a){w:aY}(s:U w)(h:K (a.put o.dst v) w):jm P r F Q i K a w:=by
 unfold ay.jm;rw[ao];simp only;rcases q with⟨y,b,t⟩|⟨y,rfl⟩
 .rw[aT y];exact iK b (t w s) h
 .rw[aN (by rw[y];simp)];exact h
def mS.of_same{o:bS}{v:aj}{b:Act}(q:mS P F U o v a)(d:execOp b.eval o=execOp a.eval o)(y:Region.wanted o (yielded F b.tmps)=Region.wanted o (yielded F a.tmps)):mS P F U o v b:=by unfold mS at*;rw[d,y];exact q
def s5(F:Array bS):Bool:=F.all λo=>jl o.op&&(match o.op with|.select ..=>false|_=>true)
def yv{j:Nat}{k:bS}{v:aj}(y:F[j]?=some k)(Yg:fo.apart F k=true)(Yh:∀cs b,fo.op≠.select cs b)(Yj:∀cs b,k.op≠.select cs b)(Yi:jl k.op=true){w:aY}(o:mS P F U fo v a)(h:jm P r F (λe a w=>match e with|.normal=>M a w|_=>False) j K (a.put fo.dst v) w):jm P r F (λe a w=>match e with|.normal=>M a w|_=>False) j (λgq s=>mS P F U fo v gq/\K (gq.put fo.dst v) s) a w:=by
 obtain⟨q,t,z⟩:=Oper.apart_spec Yg;have Yc:∀(a:Act),mS P F U fo v a->∀u,mS P F U fo v (a.put k.dst u):=λa o u=>
  o.of_same (execOp_put fo Yh a k.dst u z) (wanted_put fo a k.dst u z)
 unfold jm at*;simp only[y]at*;rw[wanted_put k a fo.dst v q]at h;split
 .rename_i i;simp only[i,hA]at h;unfold lM at*;rw[sW Yi,execOp_put k Yj a fo.dst v q]at h;rw[sW Yi];generalize(execOp a.eval k).run P w=x at*;cases x with
  |ok x s=>
   cases x<;>simp only[Oper.uponIn]at h⊢;case value u=>exact⟨Yc a o u,by rw[<-s6 a v u t];exact h⟩
   case skip=>exact⟨Yc a o _,by rw[<-s6 a v undef t];exact h⟩
   case defer d=>
    refine⟨?_,?_⟩
    .exact(o.of_same (b:={a with defers:=d::a.defers}) rfl rfl).of_same (execOp_put fo Yh _ k.dst undef z) (wanted_put fo _ k.dst undef z)
    .rw[<-s6 _ v undef t,<-Act.put_defers];exact h
   case enter f args=>
    refine⟨h.1,CallsIn.mono h.2 λe Yf g=>?_⟩;cases e with
    |returned u=>exact⟨Yc a o u,HA⟩
    |panicked c=>exact g
    |outgrown=>exact g
   case row row args=>exact⟨h.1,RowsIn.mono h.2 λu Yf g=>⟨Yc a o u,HA⟩⟩
   case round l f Ye assign body=>
    refine⟨h.1,RoundIn.mono h.2 λe Yf g=>?_⟩;cases e with
    |returned u=>exact⟨Yc a o u,HA⟩
    |panicked c=>exact g
    |outgrown=>exact g
  |halt x s=>
   cases x<;>simp only[Oper.uponIn]at h⊢
 .rename_i i;simp only[i]at h;exact⟨Yc a o _,by rw[<-s6 a v undef t];exact h⟩
def yw{i:Nat}{s:Act->aY->Prop}{w:aY}(h:∀a w,K a w->s a w)(b:jm P r F Q i K a w):jm P r F Q i s a w:=by
 unfold jm at*;split
 .rename_i e;rw[e]at b;exact h _ _ b
 .rename_i o e;rw[e]at b;simp only at b;split
  .rename_i y;rw[aT y]at b;exact B7 h b
  .rename_i y;rw[aN y]at b;exact h _ _ b
abbrev qC(M:Act->aY->Prop):cE:=λe a w=>match e with|.normal=>M a w|_=>False
def B9(u:Region.Mode)(F:Array bS)(X:ab Nat)(i:Nat):Bool:=
 X.all λj=>match F[j]? with
  |some q=>q.after.any λe=>Region.binds u e&&(e.on==i||(match F[e.on]? with
    |some q=>q.after.any λy=>Region.binds u y&&y.on==i
    |none=>false))
  |none=>true
def yx(u:Region.Mode)(F:Array bS)(Y:Array Bool):Bool:=
 (List.range F.size).all λm=>!Y.getD m false||(match F[m]? with
  |some q=>q.after.all λe=>!Region.binds u e||Y.getD e.on false
  |none=>true)
def n7(u:Region.Mode)(F:Array bS)(Y:Array Bool):Prop:=
 ∀(m:Nat) (q:bS),F[m]?=some q->Y.getD m false=true->∀e∈q.after,Region.binds u e=true->Y.getD e.on false=true
def n7.of(h:yx u F Y=true):n7 u F Y:=by intro m q o d e g t;have q:=gX.1 h m (qD.2 (ny.1 o).1);simp only[o,d,yy,yz]at q;have o:=wt.1 q e g;simpa[t]using o
def n7.step{Y:Array Bool}{j:Nat}(h:n7 u F Y)(y:j∈Region.ready u F Y):n7 u F (Y.setIfInBounds j true):=by
 intro m z q t e d o;refine getD_set_true ?_;by_cases v:j=m
 .subst v;obtain⟨_,g,b,i⟩:=pM.1 y;rw[q]at b;obtain rfl:=gW b;exact i e d o
 .rw[getD_set_ne false v]at t;exact h m z q t e d o
def Any.first{S T:aY->Prop}{i:Nat}{v:aj}(ao:F[i]?=some fo)(Ye:s5 F=true)(c8:B9 u F X i=true):∀(U:Nat) (Y:Array Bool) (a:Act) (w:aY),(∀j eW,F[j]?=some eW->j≠i->Y.getD j true=false->(∀e∈eW.after,Region.binds u e=true->e.on≠i)->fo.apart F eW=true)->i∈Region.ready u F Y->n7 u F Y->mS P F S fo v a->S w->T w->Any P r u F (qC M) S T X U (Y.setIfInBounds i true) (a.put fo.dst v) w->Any P r u F (qC M) S T X (U+1) Y a w:=by
 have Ym:∀(j:Nat) (eW:bS),F[j]?=some eW->jl eW.op=true/\∀cs b,eW.op≠.select cs b:=λj eW eB=>by have:=wt.1 Ye eW (wB eB);exact LW
 intro U;induction U with
 |zero=>
  intro Y a w _ s _ o hB dW H;refine⟨λh=>(by rw[h]at s;cases s),λj eB=>?_⟩;by_cases Yf:j=i
  .subst Yf;exact o.jm ao hB ⟨dW,λ_ _=>hB,H⟩
  .have:=qE eB Yf;rw[H.1]at this;cases this
 |succ U la=>
  intro Y a w Yo s Yg o hB dW H;have Yi:=(pM.1 s).1;refine⟨λh=>(by rw[h]at s;cases s),λj eB=>?_⟩;by_cases Yf:j=i
  .subst Yf;exact o.jm ao hB ⟨dW,λ_ _=>hB,H⟩
  .have q:=H.2 j (qE eB Yf);obtain⟨Yp,eW,Yj,Yh⟩:=pM.1 eB;have Yq:∀e∈eW.after,Region.binds u e=true->e.on≠i:=λe x g Yr=>by
    have q:=Yh e x g;rw[Yr]at q;rcases n4 i Y.size with gY|gY
    .simp[gY]at Yi q;rw[Yi]at q;cases q
    .simp[wC gY]at q
   have Yu:X.contains j=false:=by
    cases z:X.contains j with
    |false=>rfl
    |true=>
     have d:j∈X:=ZG
     have:=gX.1 c8 j d;rw[Yj]at this;obtain⟨e,x,g⟩:=Ca.1 this;simp only[cZ,ib,cH]at g;rcases g.2 with t|t
     .exact absurd t (Yq e x g.1)
     .split at t
      .rename_i fD Yv;obtain⟨kG,Yn,Yk⟩:=Ca.1 t;simp only[cZ,cH]at Yk;have cp:=Yg e.on fD Yv (Yh e x g.1) kG Yn Yk.1;rw[Yk.2]at cp;rcases n4 i Y.size with gY|gY
       .simp[gY]at Yi cp;rw[Yi]at cp;cases cp
       .simp[wC gY]at cp
      .cases t
   have t:=yv Yj (Yo j eW Yj Yf Yp Yq) (Ym i fo ao).2 (Ym j eW Yj).2 (Ym j eW Yj).1 o q;have Ys:∀k ok,F[k]?=some ok->k≠i->(Y.setIfInBounds j true).getD k true=false->
     (∀e∈ok.after,Region.binds u e=true->e.on≠i)->fo.apart F ok=true:=λk ok y Yt Yi Yc=>by
    refine Yo k ok y Yt ?_ Yc
    by_cases Yl:j=k
    .subst Yl;exact Yp
    .rw[getD_set_ne true Yl]at Yi;exact Yi
   refine yw (λy k cp=>⟨cp.2.1,cp.2.2.1,la (Y.setIfInBounds j true) y k Ys (qE s (nz Yf)) (Yg.step eB) cp.1 (cp.2.2.1 hB Yu) cp.2.1 ?_⟩) t;rw[Cb _ _ Yf];exact cp.2.2.2
def Any.V6{S T:aY->Prop}{i:Nat}{v:aj}(ao:F[i]?=some fo)(Ye:s5 F=true):∀(U:Nat) (Y:Array Bool) (a:Act) (w:aY),(∀j eW,F[j]?=some eW->j≠i->Y.getD j true=false->(∀e∈eW.after,Region.binds u e=true->e.on≠i)->fo.apart F eW=true)->i∈Region.ready u F Y->mS P F T fo v a->T w->Any P r u F (qC M) S T X U (Y.setIfInBounds i true) (a.put fo.dst v) w->Any P r u F (qC M) S T X (U+1) Y a w:=by
 have Yk:∀(j:Nat) (eW:bS),F[j]?=some eW->jl eW.op=true/\∀cs b,eW.op≠.select cs b:=λj eW s=>by have:=wt.1 Ye eW (wB s);exact LW
 intro U;induction U with
 |zero=>
  intro Y a w _ z o dW H;refine⟨λh=>(by rw[h]at z;cases z),λj s=>?_⟩;by_cases Yf:j=i
  .subst Yf;exact o.jm ao dW ⟨dW,λh _=>h,H⟩
  .have:=qE s Yf;rw[H.1]at this;cases this
 |succ U x=>
  intro Y a w Yl z o dW H;have Yh:=(pM.1 z).1;refine⟨λh=>(by rw[h]at z;cases z),λj s=>?_⟩;by_cases Yf:j=i
  .subst Yf;exact o.jm ao dW ⟨dW,λh _=>h,H⟩
  .have q:=H.2 j (qE s Yf);obtain⟨Ym,eW,Yi,Yg⟩:=pM.1 s;have Yn:∀e∈eW.after,Region.binds u e=true->e.on≠i:=λe y d Yo=>by
    have q:=Yg e y d;rw[Yo]at q;rcases n4 i Y.size with gY|gY
    .simp[gY]at Yh q;rw[Yh]at q;cases q
    .simp[wC gY]at q
   have t:=yv Yi (Yl j eW Yi Yf Ym Yn) (Yk i fo ao).2 (Yk j eW Yi).2 (Yk j eW Yi).1 o q;have Yp:∀k ok,F[k]?=some ok->k≠i->(Y.setIfInBounds j true).getD k true=false->
     (∀e∈ok.after,Region.binds u e=true->e.on≠i)->fo.apart F ok=true:=λk ok g Yq Yh Yc=>by
    refine Yl k ok g Yq ?_ Yc
    by_cases Yj:j=k
    .subst Yj;exact Ym
    .rw[getD_set_ne true Yj]at Yh;exact Yh
   refine yw (λy s g=>⟨g.2.1,g.2.2.1,x (Y.setIfInBounds j true) y s Yp (qE z (nz Yf)) g.1 g.2.1 ?_⟩) t;rw[Cb _ _ Yf];exact g.2.2.2
section
variable{W:aY}{D:ab Nat}{n:c7}{am J:bv}{an aX:ab ax}
def af(P:bF)(r:aQ Nat)(W:aY)(D:ab Nat)(n:c7)(F:Array bS)(M:Act->aY->Prop)(N G:ab ax)(X:ab Nat)(T:Bool)(U:Nat)(Y:Array Bool)(am:bv)(an:ab ax):Prop:=
 ∀a w,dc n am a->H W D an w->e4 G w->(T=true->e4 N w)->Any P r .any F (qC M) (e4 N) (e4 G) X U Y a w
def ah.draw{id:Nat}{l:ab bS}(N G:ab ax)(X:ab Nat)(q:P.follows .mixedOrders=true)(v:∀w,H W D an w->e4 N w)(o:∀w,H W D an w->e4 G w)(h:af P r W D n l.toArray (Q .normal) N G X true l.length (Array.replicate l.length false) am an):ah P r W D n Q (.region id l.toArray true) am an:=λa w d j=>by
 refine sV (Q:=qC (Q .normal)) (wpIn_region_any q ?_) ?_
 .have:=B8 _ _ _ _ (h a _ d (j.TT 1) (o _ (j.TT 1)) (λ_=>v _ (j.TT 1)));simpa using this
 .intro e a w bb;cases e with
  |normal=>exact bb
  |_=>exact bb.elim
def qF(u:Region.Mode)(F:Array bS)(Y:Array Bool)(i:Nat):Bool:=Region.ready u F Y==[i]
def rO(F:Array bS)(X:ab Nat)(Y:Array Bool)(i:Nat):Bool:=
 s5 F&&B9 .any F X i&&Region.free .any F Y i&&(Region.ready .any F Y).contains i&&yx .any F Y
section
variable{N G:ab ax}{U:Nat}{T:Bool}
variable{dst:Nat}{K:Op}{a1:aZ}{a6:String}
def af.take{v:aj}(i:Nat)(ao:F[i]?=some ⟨some dst,K,a1,a6,a7,aW⟩)(d:rO F X Y i=true)(g:gK am F aW=some true)(Yc:jl K=true)(b:Nat.blt dst n.n=true)(o:aK P n am N ⟨some dst,K,a1,a6,a7,aW⟩ v)(h:af P r W D n F M N G X true U (Y.setIfInBounds i true) ((dst,v)::am) an):af P r W D n F M N G X true (U+1) Y am an:=λa w z y x s=>by simp only[rO,cZ]at d;obtain⟨⟨⟨⟨q,t⟩,j⟩,i⟩,lb⟩:=d;exact Any.first ao q t U Y a w (yA ao j) (by simpa using i) (n7.of lb) (.inl ⟨pI z g,Yc,λk d=>o a k z d⟩) (s rfl) x (h _ _ (z.put b v) y x s)
def af.skip(i:Nat)(ao:F[i]?=some ⟨some dst,K,a1,a6,a7,aW⟩)(t:rO F X Y i=true)(d:gK am F aW=some false)(b:Nat.blt dst n.n=true)(h:af P r W D n F M N G X true U (Y.setIfInBounds i true) ((dst,undef)::am) an):af P r W D n F M N G X true (U+1) Y am an:=λa w g j i y=>by simp only[rO,cZ]at t;obtain⟨⟨⟨⟨q,o⟩,z⟩,v⟩,s⟩:=t;exact Any.first ao q o U Y a w (yA ao z) ZQ (n7.of s) (.inr ⟨pI g d,rfl⟩) (y rfl) i (h _ _ (g.put b undef) j i y)
def wD(F:Array bS)(Y:Array Bool)(i:Nat):Bool:=
 s5 F&&Region.free .any F Y i&&(Region.ready .any F Y).contains i
def af.V7{v:aj}(i:Nat)(ao:F[i]?=some ⟨some dst,K,a1,a6,a7,aW⟩)(t:wD F Y i=true)(d:gK am F aW=some true)(x:jl K=true)(b:Nat.blt dst n.n=true)(o:aK P n am G ⟨some dst,K,a1,a6,a7,aW⟩ v)(h:af P r W D n F M N G X T U (Y.setIfInBounds i true) ((dst,v)::am) an):af P r W D n F M N G X T (U+1) Y am an:=λa w g j k i=>by simp only[wD,cZ]at t;obtain⟨⟨q,z⟩,y⟩:=t;exact Any.V6 ao q U Y a w (yA ao z) (by simpa using y) (.inl ⟨pI g d,x,λs t=>o a s g t⟩) k (h _ _ (g.put b v) j k i)
def af.only{o:bS}(i:Nat)(ao:F[i]?=some o)(q:qF .any F Y i=true)(t:gK am F o.guard=some true)(h:aw P r W D n o am an (λJ aX=>(∀w,H W D aX w->e4 N w)/\(∀w,H W D aX w->e4 G w)/\af P r W D n F M N G X true U (Y.setIfInBounds i true) J aX)):af P r W D n F M N G X T (U+1) Y am an:=λa w g v z _=>by
 have d:Region.ready .any F Y=[i]:=by simpa[qF]using q
 refine⟨λe=>(by rw[d]at e;cases e),λj y=>?_⟩;rw[d]at y;obtain rfl:j=i:=by simpa using y
 unfold jm;rw[ao];simp only;rw[aT (pI g t)];exact h _ _ (λJ aX q a w g v=>⟨q.2.1 w v,λ_ _=>q.1 w v,q.2.2 a w g v (q.2.1 w v) (λ_=>q.1 w v)⟩) a w g v
def af.last{o:bS}(i:Nat)(ao:F[i]?=some o)(q:(qF .any F Y i&&X.contains i)=true)(t:gK am F o.guard=some true)(h:aw P r W D n o am an (λJ aX=>(∀w,H W D aX w->e4 G w)/\af P r W D n F M N G X false U (Y.setIfInBounds i true) J aX)):af P r W D n F M N G X T (U+1) Y am an:=λa w g v s _=>by
 simp only[cZ]at q;have d:Region.ready .any F Y=[i]:=by simpa[qF]using q.1
 refine⟨λe=>(by rw[d]at e;cases e),λj b=>?_⟩;rw[d]at b;obtain rfl:j=i:=by simpa using b
 unfold jm;rw[ao];simp only;rw[aT (pI g t)];exact h _ _ (λJ aX z a w g v=>⟨z.1 w v,λ_ y=>(by rw[q.2]at y;cases y),z.2 a w g v (z.1 w v) (λe=>by cases e)⟩) a w g v
def af.each(b:ab Nat)(q:(Region.ready .any F Y==b&&!b.isEmpty)=true)(h:∀i∈b,∃o,F[i]?=some o/\gK am F o.guard=some true/\aw P r W D n o am an (λJ aX=>(∀w,H W D aX w->e4 N w)/\(∀w,H W D aX w->e4 G w)/\af P r W D n F M N G X true U (Y.setIfInBounds i true) J aX)):af P r W D n F M N G X T (U+1) Y am an:=λa w d v g _=>by simp only[cZ,cH,j3]at q;obtain⟨t,z⟩:=q;refine⟨λe=>(by rw[t]at e;rw[e]at z;cases z),λj y=>?_⟩;rw[t]at y;obtain⟨o,g,t,q⟩:=h j y;unfold jm;rw[g];simp only;rw[aT (pI d t)];exact q _ _ (λJ aX o a w d v=>⟨o.2.1 w v,λ_ _=>o.1 w v,o.2.2 a w d v (o.2.1 w v) (λ_=>o.1 w v)⟩) a w d v
def af.done(q:(Region.ready .any F Y).isEmpty=true)(h:∀a w,dc n am a->H W D an w->M a w):∀{U:Nat},af P r W D n F M N G X T U Y am an
 |0=>λa w d j _ _=>⟨X3,h a w d j⟩
 |_+1=>λa w d j _ _=>⟨λ_=>h a w d j,by rw[show Region.ready .any F Y=[] by simpa using q];simp⟩
def af.out{e:dj}(q:(Region.ready .any F Y).isEmpty=true)(h:Out W D n Q e am an){U:Nat}:af P r W D n F (Q e) N G X T U Y am an:=af.done q h
def af.part{d:Nat}{b:Bool}(t:dS am d=some (.bool b))(v:b=true->af P r W D n F M N G X T U Y ((d,.bool true)::am) an)(s:b=false->af P r W D n F M N G X T U Y ((d,.bool false)::am) an):af P r W D n F M N G X T U Y am an:=λa w d j q y=>by
 cases b with
 |true=>exact v rfl a w (d.ir t) j q y
 |false=>exact s rfl a w (d.ir t) j q y
def Cc:∀w,H W D an w->e4 [] w:=λ_ _ _ h=>XT
def Cd{e:ax}{bc:ab ax}(h:e∈an)(v:∀w,H W D an w->e4 bc w):∀w,H W D an w->e4 (e::bc) w:=λw j x q=>by
 rcases dq.1 q with rfl|q
 .exact j.mem h
 .exact v w j x q
end
end
end
end Go.ay
namespace Go.ay
open Go
section
variable{P:bF}{r:aQ Nat}{W:aY}{D:ab Nat}{n:c7}{Q:cE}{am J:bv}{an aX:ab ax}{F:Array bS}{Z:ab bS}
variable{dst:Nat}{a1:aZ}{a6:String}{a7:Array Edge}{aW:aQ (Nat×Bool)}{C:bv->ab ax->Prop}
abbrev cX(P:bF)(f:eg)(args:ab aj)(x:aj):Prop:=ar P f args [] (λv aX=>v=x/\aX=[])
def aw.fun{f:eg}{t:ab bd}{j:Array aZ}{args:ab aj}{x:aj}(b:Nat.blt dst n.n=true)(z:jE P f=true) (o:ay.ha am t=some args) (s:cX P f args x) (g:C ((dst,x)::am) an):aw P r W D n ⟨some dst,.call ⟨.value (.func f),t.toArray,j⟩,a1,a6,a7,aW⟩ am an C:=
 aw.call (j2:=[]) (kB:=an) b z o (gA _) s (λv aX ⟨q,d⟩=>by subst q d;exact g)
end
end Go.ay
namespace Go.ay
open Go
inductive mT where
 |b|i (k:IntKind)|s
def mT.ok:mT->aj->Prop
 |.b,v=>∃x,v=.bool x
 |.i k,v=>∃n,v=.int k n/\(Lit.int k n).wf=true
 |.s,v=>∃l:ab aP,v=S l/\l.length<=140737488351232
def gL:ab mT->ab aj->Prop
 |[],[]=>True
 |f::z,v::q=>f.ok v/\gL z q
 |_,_=>False
def gL.cons{f:mT}{z:ab mT}{q:ab aj}(h:gL (f::z) q):∃v o,q=v::o/\f.ok v/\gL z o:=by
 cases q with
 |nil=>exact h.elim
 |cons v q=>exact⟨v,q,rfl,h.1,h.2⟩
def gL.nil{q:ab aj}(h:gL [] q):q=[]:=by
 cases q with
 |nil=>rfl
 |cons v q=>exact h.elim
abbrev lc(k:IntKind)(n:Int):Prop:=(Lit.int k n).wf=true
def lc.TW{n:Int}(h:-9223372036854775808<=n/\n<=9223372036854775807):lc .i64 n:=WalkArith.wf_i64 h
def gL.append:∀{z s:ab mT} {q v:ab aj},gL z q->gL s v->gL (z++s) (q++v)
 |[],_,[],_,_,h=>h
 |[],_,_::_,_,h,_=>h.elim
 |_::_,_,[],_,h,_=>h.elim
 |_::_,_,_::_,_,h,k=>⟨h.1,gL.append h.2 k⟩
section
variable{kH:Type}{L:aZ×aj->kH}{P:bF}{w:aY}{c:Nat}{p:Nat->Bool}{l:Bool}
def leaves(P:bF):Nat->aZ->aQ (ab mT)
 |0,_=>none
 |m+1,T=>
  match P.underlying T with
  |some .bool=>some [.b]
  |some (.int k)=>some [.i k]
  |some .string=>some [.s]
  |some (.struct oY)=>match fields m 0 oY.toList with
   |some ls=>if ls.length=P.cellsOf T then some ls else none
   |none=>none
  |some (.array n e)=>match leaves P m e with
   |some ls=>if ls.length=P.cellsOf e/\n*ls.length=P.cellsOf T then some (List.replicate n ls).flatten else none
   |none=>none
  |_=>none
 where
 fields:Nat->Nat->ab Field->aQ (ab mT)
  |_,_,[]=>some []
  |0,_,_=>none
  |m+1,o,f::oY=>
   match leaves P m f.type,fields m (o+P.cellsOf f.type) oY with
   |some ls,some Z=>if f.offset=o/\ls.length=P.cellsOf f.type then some (ls++Z)else none
   |_,_=>none
def Ce{d:ab mT}:∀(n:Nat) (cs:ab aj),cs.length=n*d.length->(∀i,i<n->gL d ((cs.drop (i*d.length)).take d.length))->gL (List.replicate n d).flatten cs
 |0,cs,q,_=>by have:cs=[]:=kk X3;subst this;exact trivial
 |n+1,cs,q,h=>by
  have j:=h 0 ac;simp only[pN,yB]at j;have o:=Ce (d:=d) n (cs.drop d.length) (by simp[q,eZ]) (λi ao=>by have:=h (i+1) ac;rw[pO];rw[show d.length+i*d.length=(i+1)*d.length by rw[eZ];omega];exact this)
  have:=j.append o;rw[mU]at this;simpa[yC]using this
def yD{e:aZ}:∀{y:ab (DataW kH)} {d:DataW kH},d∈y->∀n∈d.weights P e,n∈DataW.weightsAll P e y
 |q::y,d,h,n,v=>by
  simp only[DataW.weightsAll,eN];rcases dq.1 h with rfl|h
  .exact .inl v
  .exact .inr (yD h n v)
def wE(P:bF)(T:aZ)(d:DataW kH):Prop:=∀k,k∈d.weights P T->k<=140737488351232
mutual
def yE:∀(m:Nat) (T:aZ) (ls:ab mT) (U:Nat) (cs:ab aj) (x:DataW kH×ab MemPlace),leaves P m T=some ls->DataW.trod L P w c p l U T cs=some x->wE P T x.1->gL ls cs
 |0,_,_,_,_,_,h,_,_=>by simp[leaves]at h
 |m+1,T,ls,U,cs,x,h,c8,Yc=>by
  unfold leaves at h;split at h
  .rename_i e;obtain⟨b,rfl,_⟩:=DataW.trod_bool e c8;simp only[er]at h;subst h;exact⟨⟨b,rfl⟩,trivial⟩
  .rename_i k e;obtain⟨q,rfl,_,cB⟩:=DataW.trod_int e c8;simp only[er]at h;subst h;exact⟨⟨q,rfl,cB⟩,trivial⟩
  .rename_i e;obtain⟨s,rfl,rfl,z⟩:=DataW.trod_string e c8;simp only[er]at h;subst h;exact⟨⟨s.data.toList,XE,Yc _ (by simp[DataW.weights])⟩,trivial⟩
  .rename_i oY e;split at h
   .rename_i Yj dK;split at h
    .rename_i Ye;simp only[er]at h;subst h;obtain⟨g,q,rfl,rfl,y,Yh,o⟩:=DataW.trod_struct e c8;have:=Cf m 0 oY.toList Yj q cs ac dK (λi f ao=>by
      have Yg:oY[i]?=some f:=by simpa using ao
      have Yk:i<oY.size:=(ny.1 Yg).1;have Yi:g[i]?=some (g[i]' ac):=gM ac;refine⟨g[i]' ac,by rw[o i f Yg,Yi],λk v=>Yc k ?_⟩;have:=DataW.weights_mem_each (P:=P) (ts:=oY.toList.map (·.type)) (ds:=g.map (·.1)) (j:=i) (t:=f.type) (d:=(g[i]' ac).1) (by simp[Yg]) (by simp[Yi]) k v;simpa[DataW.weights,e]using this)
     simpa using this
    .cases h
   .cases h
  .rename_i k e Cg;split at h
   .rename_i Yj Yf;split at h
    .rename_i Ye;simp only[er]at h;subst h;obtain⟨g,q,rfl,rfl,y,Yh,o⟩:=DataW.trod_array Cg c8;rw[<-Ye.1]at o;exact Ce k cs (by rw[y,Ye.2]) (λi ao=>yE m e Yj q _ (g[i]' ac) Yf (by rw[o i ao];simp[Yh,ao]) (λn c6=>Yc n (by have:=yD (P:=P) (e:=e) (y:=g.map (·.1)) (d:=(g[i]' ac).1) (fh.2 ⟨_,List.getElem_mem _,rfl⟩) n c6;simpa[DataW.weights,Cg]using this)))
    .cases h
   .cases h
  .cases h
def Cf:∀(m o:Nat) (b:ab Field) (k:ab mT) (U:Nat) (cs:ab aj),cs.length=o+k.length->leaves.fields P m o b=some k->(∀(i:Nat) (f:Field),b[i]?=some f->∃y:DataW kH×ab MemPlace,DataW.trod L P w c p l U f.type ((cs.drop f.offset).take (P.cellsOf f.type))=some y/\wE P f.type y.1)->gL k (cs.drop o)
 |m,o,[],k,U,cs,j,h,_=>by
  have:k=[]:=by cases m<;>simpa[leaves.fields]using h.symm
  subst this;have:cs.drop o=[]:=List.drop_eq_nil_of_le (by simp at j;omega);rw[this];exact trivial
 |0,_,_::_,_,_,_,_,h,_=>by simp[leaves.fields]at h
 |m+1,o,f::b,k,U,cs,j,h,s=>by
  simp only[leaves.fields]at h;split at h
  .rename_i x Z q d;split at h
   .rename_i z;simp only[er]at h;subst h;obtain⟨y,t,Yc⟩:=s 0 f rfl;rw[z.1]at t;have f1:=yE m f.type x U _ y q t Yc;have f2:=Cf m (o+P.cellsOf f.type) b Z U cs (by simp at j;omega) d (λi g v=>s (i+1) g v);have:=f1.append f2;rw[<-pO,mU]at this;exact this
   .cases h
  .cases h
end
end
end Go.ay
namespace Go.ay
open Go Go.ChangeShapes Go.WideShapes Go.ChangeAt Go.RowKit
section
variable{kH:Type}{L:aZ×aj->kH}{P:bF}{w:aY}{c:Nat}{p:Nat->Bool}{l:Bool}
def Hw{s:ab aZ}{y:ab (DataW kH)}(h:(DataW.weightsEach P s y).all (·<=reachBytes)=true)(j:Nat){t:aZ}{d:DataW kH}(v:s[j]?=some t)(b:y[j]?=some d):wE P t d:=λk q=>by exact yF (gX.1 h _ (DataW.weights_mem_each v b k q))
def qG(w:aY)(b off aG:Nat)(q:ab (ab aj)):Prop:=
 ∀(i:Nat) (x:ab aj),q[i]?=some x->x.length=aG/\∀(j:Nat) (u:aj),x[j]?=some u->w.cell? ⟨b,off+i*aG+j,none⟩=some u
def yG{cs:ab aj}{a:Addr}{k:Nat}{c:Nat}(h:w.cells? c a k=some cs):cs.length=k/\∀j,j<k->w.cell? (a.add j)=cs[j]?:=by obtain⟨_,q,o⟩:=World.cells?_some h;exact⟨q,o⟩
def Hx{T e m:Nat}{g:ab mT}{v:aj}{d:DataW kH}{aU:ab MemPlace}{rP:Reach}{gN:Nat}(dW:P.underlying T=some (.slice e))(Yh:leaves P m e=some g)(Yc:g.length=P.cellsOf e)(Yg:0<g.length) (Yt:Value.okWide P w rP gN T v) (ef:DataW.Trod L P w c p l T v d aU) (s:wE P T d):∃(cG:aQ Addr) (b off o t:Nat) (xs:ab (ab aj)),v=.slice cG o t/\xs.length=o/\o<=t/\t<=maxLen/\(0<o->cG=some ⟨b,off,none⟩/\b<w.heap.size)/\qG w b off g.length xs/\(∀x,x∈xs->gL g x)/\o*P.bytesOf e<=140737488351232:=by
 obtain⟨U,dK⟩:=ef;obtain⟨cG,o,t,rfl⟩:=okWide_slice dW Yt;have Ym:DataW.trod L P w c p l U T [.slice cG o t]=some (d,aU):=by simpa[Value.cells]using dK
 rcases Go.Deep.open_slice dW Ym with⟨y,_⟩|⟨a,Yn,Yf,q,n,kI,aeQ,Yj,_,fE,fF,bb,Yq,ao⟩
 .simp only[pP,pQ,ld]at y;obtain⟨rfl,rfl,rfl⟩:=y;exact⟨none,0,0,0,0,[],rfl,rfl,cl _,cw _,λh=>absurd h ac,λi x h=>XU,λx h=>XT,XE⟩
 .simp only[pP,pQ,ld]at Yj;obtain⟨rfl,rfl,rfl⟩:=Yj;have Yx:o<=q:=by rw[bb];split<;>omega
  rw[<-Yc]at ao;refine⟨some a,a.block,a.off,o,t,(List.range o).map λi=>(w.cells? c (a.add (i*g.length)) g.length).getD [],rfl,XE,fE,fF,λYo=>?_,λi x cr=>?_,λx cr=>?_,?_⟩
  .obtain⟨Yp,eJ,_⟩:=ao 0 ac;obtain⟨Yi,Ys⟩:=yG eJ;have y:=Ys 0 Yg;have ic:(a.add (0*g.length)).add 0=a:=by simp[Addr.add]
   rw[ic]at y;have s:0<Yp.length:=ac
   rw[gM s]at y;have k:a.spot=none:=by
    unfold World.cell? at y;split at y
    .cases cf:a.spot with
     |none=>rfl
     |some z=>simp[cf]at y
    .cases y
   refine⟨?_,block_lt_of_cell y⟩;obtain⟨dt,Yr,qH⟩:=a;simp only at k;subst k;rfl
  .have Yl:i<o:=by have:=(cI.1 cr).1;simpa using this
   obtain⟨Yw,Yk,_⟩:=ao 0 ac;obtain⟨Yp,eJ,_⟩:=ao i ac;obtain⟨Yi,Ys⟩:=yG eJ;have Ye:x=Yp:=by rw[ho,List.getElem?_range Yl]at cr;simpa[eJ]using cr.symm
   subst Ye;refine⟨Yi,λj u hu=>?_⟩;have eB:j<g.length:=by have:=(cI.1 hu).1;omega
   have bU:=Ys j eB;rw[hu]at bU;obtain⟨Yy,Yv⟩:=yG Yk;have y:=Yv 0 Yg;have ic:(a.add (0*g.length)).add 0=a:=by simp[Addr.add]
   rw[ic,gM (by omega:0<Yw.length)]at y;have k:a.spot=none:=by
    unfold World.cell? at y;split at y
    .cases cf:a.spot with
     |none=>rfl
     |some z=>simp[cf]at y
    .cases y
   obtain⟨dt,Yr,qH⟩:=a;simp only at k;subst k;simpa[Addr.add_mid]using bU
  .obtain⟨i,Yu,rfl⟩:=fh.1 cr;have Yl:i<o:=qD.1 Yu;obtain⟨Yp,eJ,v⟩:=ao i ac;rw[eJ];refine yE m e g n Yp _ Yh v λk t=>s k ?_;simp only[md]at Yq;rw[Yq.1];have:=yD (P:=P) (e:=e) (y:=(List.range o).map kI) (d:=kI i) (fh.2 ⟨i,Yu,rfl⟩) k t;simp only[DataW.weights,dW,dq,eN];exact .inr (.inl this)
  .simp only[md]at Yq;rw[Yq.1]at s;have:=s (((List.range o).map kI).length+((List.range (q-o)).map λj=>kI (o+j)).length|>(·*P.bytesOf e)) (by simp[DataW.weights,dW]);have t:o*P.bytesOf e<=(((List.range o).map kI).length+((List.range (q-o)).map λj=>kI (o+j)).length)*P.bytesOf e:=jn _ XE;exact jk t this
def Ch(j:laidOutB P=true){W s:aY}{Yf:Nat->Bool}:∀{x:ab aZ} {i:ab aj} {k:ab (DataW kH)} {aU:ab MemPlace},(x.all λt=>P.readableRec t&&decide (t<P.types.size))=true->DataW.TrodAll L P W c (λ_=>true) true x i k aU->(∀p∈aU,W.sameAt s p)->(∀p∈aU,Yf p.block=true)->DataW.TrodAll L P s c Yf true x i k aU
 |[],i,k,aU,_,h,_,_=>by obtain⟨rfl,rfl,rfl⟩:=trodAll_nil h;exact trodAll_mk0
 |t::x,i,k,aU,y,h,z,b=>by
  obtain⟨v,Yc,d,Ye,p,q,rfl,rfl,rfl,o,g⟩:=trodAll_cons h;simp only[yt,cZ,da]at y;exact trodAll_cons_mk (WideElems.Trod_stays j y.1.1 y.1.2 o (λx q=>z x ZH) (λx q=>b x ZH))
   (Ch j y.2 g (λx q=>z x ZH) (λx q=>b x ZH))
structure s7(W eh:aY):Prop where
 block:∀b,b<W.heap.size->eh.heap[b]?=W.heap[b]?
 os:eh.os=W.os
 output:eh.output=W.output
def s7.same{W d:aY}(h:s7 W d){p:MemPlace}(v:p.block<W.heap.size):W.sameAt d p:=by
 cases p with
 |cell b o=>exact World.cell?_of_block (w:=W) (h.block b v)
 |map b=>exact h.block b v
def s7.frame{W d:aY}(h:s7 W d)(o:MemPlace->Prop):W.keptBut d o:=by refine⟨h.os,h.output,λi ao=>?_⟩;rw[h.block i ao];split<;>simp_all
def Hy{f:Func}{s:ChangeSpec}{v i b k:Bool}{W j:aY}{args:Array aj}{y:ab (DataW kH)}{x:ab MemPlace}{Ye:aZ} (h:DataW.Whole L P f.params.toList s.vars v W args.toList y [] x) (z:DataW.TrodAll L P W 0 (λ_=>true) true f.params.toList args.toList y x) (g:s.vars=[]) (Yc:s.fn kH (y++[])={results:=[.lit (.bool true)],args:=y}) (q:s7 W j) (o:laidOutB P=true) (d:(f.params.toList.all λt=>P.readableRec t&&decide (t<P.types.size))=true) (Yh:f.resultTypes=#[Ye]) (Yi:P.underlying Ye=some .bool):s.post L P f v i b k W args (.bool true) j:=by
 have k:=h.lt;have Yg:∀(b:Nat) (t:Nat->Bool) (i:Bool),DataW.TrodAll L P j b t i f.resultTypes.toList ((Value.bool true).resultList f.resultTypes.size) (s.fn kH (y++[])).results []:=λ_ _ _=>by rw[Yc,Yh];exact trodAll_mk1 (shut_bool Yi _)
 have Yf:∀t:Nat->Bool,(∀p∈x,t p.block=true)->DataW.TrodAll L P j 0 t true f.params.toList args.toList (s.fn kH (y++[])).args x:=λt i=>by rw[Yc];exact Ch o d z (λp v=>q.same (k p v)) i
 have d:∀t:Nat->Bool,DataW.TrodVars L P j t s.vars (s.fn kH (y++[])).vars []:=λt=>by rw[Yc,g];rfl
 have o:∀p∈x,(λb=>decide (b<W.heap.size)) p.block=true:=λp v=>by simpa using k p v
 refine⟨y,[],x,[],x,[],h,Yg _ _ _,Yf _ o,d _,World.keptBut_mono (λp v=>⟨v,s8 ZQ⟩) (q.frame (·∈x)),λ_=>?_⟩;obtain⟨_,_,_,_,_,i,y⟩:=h;refine⟨ok_one Yh rfl (okWide_bool_mk Yi _),_,_,([]++x)++[],⟨[]++x,[],trodAll_append (Yf _ (λ_ _=>rfl)) (Yg _ _ _),d _,rfl,?_,?_⟩,?_⟩
 .intro b off v;have o:MemPlace.cell b off∈x:=by simpa using v
  rw[World.frozen?_of_block (w:=W) (q.block b (k _ o))];exact i b off o
 .intro o;have:=y o;simpa using this
 .intro p v _;simpa using v
@[irreducible] def snap(Ci:World)(Cj:List Nat):ax where
 fB:=Cj
 holds w:=∀b,b∈Cj->w.heap[b]?=Ci.heap[b]?/\b<Ci.heap.size
 loc w h9 h cB:=λb bY=>⟨(h b bY).trans (cB b bY).1,(cB b bY).2⟩
 lt w cB b bY:=by
  have:=(cB b bY).1;have dd:=(cB b bY).2;rcases Nat.lt_or_ge b w.heap.size with cp|cp
  .exact cp
  .rw[Array.getElem?_eq_none cp,Array.getElem?_eq_getElem dd]at this;cases this
theorem Ck(s q):(snap s q).fB=q:=by unfold snap;rfl
theorem yH(s q w):(snap s q).holds w↔∀b,b∈q->w.heap[b]?=s.heap[b]?/\b<s.heap.size:=by unfold snap;rfl
def qG.V8{s w:aY}{b off aG:Nat}{q:ab (ab aj)}{o:ab Nat}(h:qG s b off aG q)(g:(snap s o).holds w)(d:0<q.length->b∈o):qG w b off aG q:=by
 rw[yH]at g;intro i x o;have ao:0<q.length:=by have:=(cI.1 o).1;omega
 obtain⟨q,t⟩:=h i x o;exact⟨q,λj u o=>(World.cell?_of_block (w:=s) (g b (d ao)).1).trans (t j u o)⟩
end
end Go.ay
namespace Go.ay
open Go
section
variable{P:bF}{r:aQ Nat}{W:aY}{D:ab Nat}{n:c7}{Q:cE}{am:bv}{an:ab ax}
def hp(am:bv)(an:ab ax):ab Nat->ab ax->Prop
 |[],bc=>bc=[]
 |d::y,bc=>∃b o T c q,dS am d=some (au b o)/\cells b T c∈an/\bc=cells b T c::q/\hp am an y q
def aK.V9(ad:bV P){dst:Nat}{a1:aZ}{a6:String}{a7:Array Edge}{aW:aQ (Nat×Bool)}{t g:aZ}{x y:bd}{p q:Bool}{u:Nat}(o:aO am x=some (.bool p))(d:aO am y=some (.bool q))(j:bA ad.uM t=some u):aK P n am an ⟨some dst,.binOp .neq t x y g,a1,a6,a7,aW⟩ (.bool (!(p==q))):=
 aK.neq o d rfl rfl (cS.bool (ad.Ur j))
def ar.run{f:eg}{args:ab aj}{R:aj->ab ax->Prop}(h:ar P f args an R)(w:aY)(j:gI an w):Calls P f args.toArray w λe s=>∃v aX,e=.returned v/\R v aX/\H w (bg an) aX s:=h w j
end
end Go.ay
namespace Go.ay
open Go
variable{aG k:Nat}{e:ax}{args:ab aj}{C:bv->ab ax->Prop}{off:Nat}{aW:aQ (Nat×Bool)}{R:aj->ab ax->Prop}{bl:Type}{Yf:ab (Nat×bd)}{a7:Array Edge}{xs q:ab (ab aj)}
section
variable{P:bF}{r:aQ Nat}{W:aY}{D:ab Nat}{n:c7}{Q:cE}{am J:bv}{an aX:ab ax}{F:Array bS}{Z:ab bS}
variable{dst:Nat}{a1:aZ}{a6:String}
structure Rd(e:ax)(cG:aQ Addr)(len b off aG:Nat)(xs:ab (ab aj)):Prop where
 length:xs.length=len
 small:len<=maxLen
 addr:0<len->cG=some ⟨b,off,none⟩
 reads:∀w,e.holds w->qG w b off aG xs
def Rd.snap{s:aY}{y:aQ Addr}{len b:Nat}(g:q.length=len)(o:len<=maxLen)(z:0<len->y=some ⟨b,off,none⟩/\b<s.heap.size)(d:qG s b off aG q){j:ab Nat}(t:0<len->b∈j):Rd (snap s j) y len b off aG q:=
 ⟨g,o,λh=>(z h).1,λw y=>d.V8 y (by rw[g];exact t)⟩
def qI(b o j:Nat):(⟨b,o,none⟩:Addr).add j=⟨b,o+j,none⟩:=Addr.add_mid b o j
def Cl{aG:Nat}:∀{q:ab (ab aj)} {i:Nat} {x:ab aj},(∀y,y∈q->y.length=aG)->q[i]?=some x->∀(j:Nat) (u:aj),x[j]?=some u->q.flatten[i*aG+j]?=some u
 |[],_,_,_,h,_,_,_=>XU
 |y::d,0,x,o,h,j,u,t=>by simp only[oZ,er]at h;subst h;have:=(cI.1 t).1;rw[yI,pR ac];simpa using t
 |y::d,i+1,x,o,h,j,u,t=>by have q:y.length=aG:=o y XE;simp only[qJ]at h;have d:=Cl (λz y=>o z (by simp[y])) h j u t;rw[yI,iu (by rw[q,eZ];omega),q];rw[show(i+1)*aG+j-aG=i*aG+j by rw[eZ];omega];exact d
def Rd.row{g E cap:Nat}(o:xs.length=k)(b:∀y,y∈xs->y.length=aG)(q:k<=maxLen):Rd (row (.slice (some ⟨g,0,none⟩) k cap) E aG k xs.flatten) (some ⟨g,0,none⟩) k g 0 aG xs:=
 ⟨o,q,λ_=>rfl,λw s i x q=>by
  rw[hz]at s;refine⟨b x (j5 q),λj u o=>?_⟩;have ao:i<xs.length:=(cI.1 q).1;have y:j<aG:=by have:=(cI.1 o).1;rw[b x (j5 q)]at this;exact this
  have y:i*aG+j<k*aG:=by have:(i+1)*aG<=k*aG:=jn aG ac;rw[eZ]at this;omega
  have:=s.cellAt (i*aG+j) y;rw[hm,this];exact Cl b q j u o⟩
def n8{T:Nat}(h:(P.info? T).map (·.size)=some aG)(w:aY):(sizeOf T).run P w=.ok aG w:=by obtain⟨i,ao,rfl⟩:=oW.1 h;simp[sizeOf,typeInfo,ao]
def aK.Wa{t E:aZ}{x y:bd}{i:aQ Addr}{s g b:Nat}{o:ab (ab aj)}(k:Nat)(q:aO am x=some (.slice i s g))(d:aO am y=some (I (k:Int)))(v:Rd e i s b off aG o)(j:pJ P t E=true)(g:(P.info? E).map (·.size)=some aG)(z:k<s):aK P n am an ⟨some dst,.indexAddr t x y,a1,a6,a7,aW⟩ (au b (off+k*aG)):=λa w z _=>by
 have h:=fM j;have j:P.elem t=E:=by simp[Program.elem,h]
 have o:=v.addr ac;simp only[execOp,z.eval q,z.eval d,o];rw[ct,run_indexAt_slice w t _ _ _ _ _ (by rw[j];exact h)];have v:(0:Int)<=(k:Int)/\(k:Int)<(s:Int):=⟨ac,ac⟩
 rw[aT v,j,n8 g];simp[qI]
def aK.Wb(ad:bV P){t E:aZ}{x y:bd}{i:aQ Addr}{v g b:Nat}{o:ab (ab aj)}(q:aO am x=some (.slice i v g))(d:aO am y=some (I (k:Int)))(s:Rd e i v b off aG o)(j:bA ad.eO t=some E)(g:bA ad.gp E=some aG)(z:k<v):aK P n am an ⟨some dst,.indexAddr t x y,a1,a6,a7,aW⟩ (au b (off+k*aG)):=
 aK.Wa k q d s (ad.RM j) (ad.Sw g) z
def aK.Wc(ad:bV P){T:aZ}{x:bd}{y:aQ Addr}{d b:Nat}{t:ab (ab aj)}{c:ab aj}(q:bA ad.agg T=some aG)(o:aO am x=some (au b (off+k*aG)))(s:Rd e y d b off aG t)(g:e∈an)(z:t[k]?=some c):aK P n am an ⟨some dst,.load T x,a1,a6,a7,aW⟩ (A c):=λa w j v=>by obtain⟨d,y,i,ao⟩:=sT (ad.Sd q);obtain⟨t,q⟩:=s.reads w (v _ g) k c z;simp only[execOp,j.eval o,Instr.loadAt,Instr.sureAddr,ct,ed,dv];rw[yn w b (off+k*aG) T c d (λj v g=>q j v g) y i (by rw[ao,t])];rfl
def aK.Wd(ad:bV P){T u:aZ}{x:bd}{y:aQ Addr}{z b:Nat}{t:ab (ab aj)}{v:aj}(q:bA ad.one T=some u)(o:aO am x=some (au b (off+k*1)))(i:Rd e y z b off 1 t)(d:e∈an)(g:t[k]?=some [v]):aK P n am an ⟨some dst,.load T x,a1,a6,a7,aW⟩ v:=λa w j y=>by obtain⟨z,t⟩:=i.reads w (y _ d) k [v] g;simp only[execOp,j.eval o,Instr.loadAt,Instr.sureAddr,ct,ed,dv];have j:=t 0 v rfl;rw[gJ]at j;rw[ws (ad.V' q) j];rfl
def aw.We{f:eg}{x:bd}{o:ab bd}{Yh:Array aZ}{Yg h:ab ax}(b:Nat.blt dst n.n=true)(t:aO am x=some (.func (.func f) #[] #[]))(Yc:jE P f=true)(q:ay.ha am o=some args)(Yf:an.Perm (Yg++h))(s:ar P f args Yg R)(z:∀v aX,R v aX->C ((dst,v)::am) (aX++h)):aw P r W D n ⟨some dst,.call ⟨.value x,o.toArray,Yh⟩,a1,a6,a7,aW⟩ am an C:=λK Q y a w d j=>by
 have Ye:=j.perm Yf;have Yj:o.toArray.map a.eval=args.toArray:=by rw[<-d.ha q];simp
 refine wv (f:=f) (args:=args.toArray) (s:=w) rfl ?_ ?_
 .simp only[execOp,resolve,ct,Yj,d.eval t];simp[Deferred.ofValue,invoke,uJ Yc]
 .refine(s w ⟨λe g=>Ye.fm e (by simp[g]),?_⟩).mono ?_
  .have:=Ye.nodup;exact Mo
  .rintro e k⟨v,aX,rfl,i,Yi⟩;exact⟨_,rfl,y _ _ (z v aX i) _ _ (d.put b v) (Ye.call Yi)⟩
def aw.Wf{f:eg}{x:bd}{t:ab bd}{y:Array aZ}{v:aj}(b:Nat.blt dst n.n=true)(g:aO am x=some (.func (.func f) #[] #[]))(j:jE P f=true)(o:ay.ha am t=some args)(s:cX P f args v)(z:C ((dst,v)::am) an):aw P r W D n ⟨some dst,.call ⟨.value x,t.toArray,y⟩,a1,a6,a7,aW⟩ am an C:=
 aw.We (Yg:=[]) (h:=an) b g j o (gA _) s (λv aX ⟨q,d⟩=>by subst q d;exact z)
def aw.Ux{o:bS}{j:bv->ab ax->Prop}(h:aw P r W D n o am an C)(q:∀J aX,C J aX->∃t,j J t/\∀w,H W D aX w->H W D t w):aw P r W D n o am an j:=
 λK Q y=>h K Q (λJ aX o a w d j=>by obtain⟨t,g,b⟩:=q J aX o;exact y J t g a w d (b w j))
def bx(aG:Nat):Nat->ab (Nat×aj)->ab aj->Prop
 |_,[],cs=>cs=[]
 |k,(i,v)::l,cs=>i=k/\∃c q,v.cells=c.toArray/\c.length=aG/\cs=c++q/\bx aG (k+1) l q
def bx.nil:bx aG k [] []:=rfl
def bx.agg{c cs:ab aj}{l:ab (Nat×aj)}(q:c.length=aG)(h:bx aG (k+1) l cs):bx aG k ((k,A c)::l) (c++cs):=⟨rfl,c,cs,rfl,q,rfl,h⟩
def bx.one{v:aj}{cs:ab aj}{l:ab (Nat×aj)}(t:v.cells=#[v])(h:bx 1 (k+1) l cs):bx 1 k ((k,v)::l) (v::cs):=⟨rfl,[v],cs,t,rfl,rfl,h⟩
def bx.length:∀{k:Nat} {l:ab (Nat×aj)} {cs:ab aj},bx aG k l cs->cs.length=l.length*aG
 |_,[],cs,h=>by obtain rfl:cs=[]:=h;simp
 |k,(i,v)::l,cs,h=>by obtain⟨_,c,o,_,q,rfl,y⟩:=h;simp[q,y.length,eZ];omega
def bx.fill{aG:Nat}:∀{l:ab (Nat×aj)} {k:Nat} {cs:ab aj} (z:Array aj),bx aG k l cs->z.size=(k+l.length)*aG->Instr.fill (λi=>some (i*aG,aG)) z l=some (z.toList.take (k*aG)++cs).toArray
 |[],k,cs,z,h,y=>by obtain rfl:cs=[]:=h;simp only[Instr.fill,dk];rw[j4 (by simpa using Nat.le_of_eq y)]
 |(i,v)::l,k,cs,z,h,y=>by
  obtain⟨rfl,c,d,t,q,rfl,o⟩:=h;have s:i*aG+aG<=z.size:=by
   rw[y];simp only[dp];have:(i+(l.length+1))*aG=i*aG+aG+l.length*aG:=by rw[eZ,eZ];omega
   omega
  simp only[Instr.fill,t,nA,q];rw[aN XM];have s:=yu (i*aG) c 0 z ac;simp only[gJ]at s;have e:((c.toArray.zipIdx.foldl (λcs (p:aj×Nat)=>cs.setIfInBounds (i*aG+p.2) p.1) z))=(dD (i*aG) c z.toList).toArray:=by rw[<-s];simp
  have b:(c.toArray.zipIdx.foldl (λcs x=>match x with|(c,j)=>cs.setIfInBounds (i*aG+j) c) z)=(dD (i*aG) c z.toList).toArray:=e;rw[b];rw[bx.fill _ o (by
   simp only[dD,nA,bM,eX,j6,mV,q];rw[pS ac];have:(i+1+l.length)*aG=(i+(l.length+1))*aG:=by congr 1;omega
   rw[this,<-dp (a:=(i,v)),<-y];omega)]
  congr 2;simp only[dD,cd];rw[<-cd,nB (by simp[q];rw[pS ac,eZ];omega)];rw[j4 (by simp[q];rw[pS ac,eZ];omega)];simp
def ad5{t E:aZ}{b:Nat}{g:ab (Nat×aj)}{cs:ab aj}{z:aj}(j:pJ P t E=true)(o:(P.info? E).map (·.size)=some aG)(y:(P.info? E).bind (·.zero)=some z)(v:bx aG 0 g cs)(d:g.length=b)(q:b*aG<=1000)(w:aY):(Instr.buildSlice t b g.toArray).run P w=.ok (.slice (some ⟨w.heap.size,0,none⟩) b b) (w.alloc (.cells cs.toArray E)):=by
 have s:(zeroValue E).run P w=.ok z w:=by obtain⟨i,ao,k⟩:=yq.1 y;simp[zeroValue,typeInfo,ao,k]
 have q:∀(y:Array aj),Instr.fill (λi=>some (i*aG,aG)) ((Array.range (b*aG)).map (y[·%y.size]!)) g=some cs.toArray:=λy=>by rw[v.fill _ XY];simp
 unfold Instr.buildSlice;simp only[ct,dN (fM j),dv,n8 o];rw[aN ac];by_cases j:b*aG=0
 .simp only[ed,dv,ct,aT j,q];rfl
 .simp only[ed,dv,ct,aN j,s,q];rfl
def aw.lit(ad:bV P){t E:aZ}{Yc:Nat}{hq:ab (Nat×aj)}{hU cs:ab aj}(ef:Nat.blt dst n.n=true)(k:pJ P t E=true)(j:(P.info? E).map (·.size)=some aG)(e0:hT ad.ia E=some hU)(o:ay.lN am Yf=some hq)(ei:bx aG 0 hq cs)(v:hq.length=Yc)(g:Nat.ble (Yc*aG) 1000=true)(Yg:Nat.ble 1 aG=true)(ee:∀b,C ((dst,.slice (some ⟨b,0,none⟩) Yc Yc)::am) (row (.slice (some ⟨b,0,none⟩) Yc Yc) E aG Yc cs::an)):aw P r W D n ⟨some dst,.buildSlice t Yc Yf.toArray,a1,a6,a7,aW⟩ am an C:=λK Q cu a w y s=>by
 obtain⟨z,q,rfl⟩:=ad.zeroAt e0;have Yh:Yc*aG<=1000:=nw g;have Ye:=ei.length;have e:(Yf.toArray.map λ(p:Nat×bd)=>(p.1,a.eval p.2))=hq.toArray:=by rw[<-y.lN o];simp
 have kG:(Yf.toArray.map λ(x:Nat×bd)=>match x with|(i,x)=>(i,a.eval x))=hq.toArray:=e;have Yi:H w [] [row (.slice (some ⟨w.heap.size,0,none⟩) Yc Yc) E aG Yc cs] (w.alloc (.cells cs.toArray E)):=by
  refine⟨λx o=>?_,IY,λb g=>?_,λb g _=>rI _ _ g,XE,rfl,rfl,rfl,cl _⟩
  .obtain rfl:x=_:=by simpa using o
   rw[hz];have d:Yc<=maxLen\/aG=0:=by
    rcases Nat.eq_zero_or_pos aG with h|h
    .exact .inr h
    .left;have:=Nat.le_mul_of_pos_right Yc h;simp only[maxLen];omega
   rcases d with d|d
   .have:=World.ownsRow_lit (base:=0) (e:=E) (size:=aG) w cs.toArray Yc (cw _) d (by simp[Ye,v]);simpa using this
   .exact absurd d (by have:=nw Yg;omega)
  .obtain rfl:b=w.heap.size:=by simpa[bg,hl,Value.ownBlock]using g
   exact .inr (cl _)
 refine iK rfl ?_ (cu _ _ (ee w.heap.size) _ _ (y.put ef _) (s.new Yi));simp only[execOp,ct,kG,ad5 k j q ei v Yh w,dv,ed]
def aw.Uy(ad:bV P){t E:aZ}{s:Nat}{k:ab (Nat×bd)}{z:ab (Nat×aj)}{q cs:ab aj}(i:Nat.blt dst n.n=true)(j:bA ad.eO t=some E)(d:bA ad.gp E=some aG)(y:hT ad.ia E=some q)(q:ay.lN am k=some z)(v:bx aG 0 z cs)(g:z.length=s)(o:Nat.ble (s*aG) 1000=true)(h:Nat.ble 1 aG=true)(z:∀b,C ((dst,.slice (some ⟨b,0,none⟩) s s)::am) (row (.slice (some ⟨b,0,none⟩) s s) E aG s cs::an)):aw P r W D n ⟨some dst,.buildSlice t s k.toArray,a1,a6,a7,aW⟩ am an C:=aw.lit ad i (ad.RM j) (ad.Sw d) y q v g o h z
def ah.Wg{c:Code}(J:bl->Prop)(E:bl->bv)(S:bl->ab ax)(z:bl->Nat)(t:bl)(v:J t)(g:dg am (E t))(o:∀w,H W D an w->H W D (S t) w)(h:∀x,J x->ah P r W D n (Exit.then (λa w=>∃y,J y/\z y<z x/\dc n (E y) a/\H W D (S y) w) Q) c (E x) (S x)):ah P r W D n Q (.loop c) am an:=
 ah.loop (bl:={x:bl//J x}) (λx=>E x.1) (λx=>S x.1) (λx=>z x.1) ⟨t,v⟩ g o λ⟨x,q⟩ a w d j=>
  sV (h x q a w d j) λe b s bb=>by
   cases e with
   |normal=>
    obtain⟨y,o,q,t,g⟩:=bb;exact⟨⟨y,o⟩,q,t,g⟩
   |_=>exact bb
def Cm{bl:Type}(f:bl->ab aj)(g:bl->Prop){d:ab mT}:∀{q:ab (ab aj)},(∀x,x∈q->gL d x)->(∀{x:ab aj},gL d x->∃y,x=f y/\g y)->∃t:ab bl,q=t.map f/\∀y,y∈t->g y
 |[],_,_=>⟨[],rfl,λ_ h=>XT⟩
 |x::q,h,s=>by
  obtain⟨y,rfl,o⟩:=s (h x XE);obtain⟨t,rfl,j⟩:=Cm f g (q:=q) (λz b=>h z (by simp[b])) s;exact⟨y::t,rfl,λz b=>by
   rcases dq.1 b with rfl|b
   .exact o
   .exact j z b⟩
def lO:ab (Nat×Nat)->ab Nat
 |[]=>[]
 |(q,b)::l=>if 0<q/\b∉lO l then b::lO l else lO l
def yJ:∀l,(lO l).Nodup
 |[]=>by simp[lO]
 |(q,b)::l=>by
  unfold lO;split
  .rename_i h;exact lf.2 ⟨h.2,yJ l⟩
  .exact yJ l
def Cn:∀{l:ab (Nat×Nat)} {o b:Nat},(o,b)∈l->0<o->b∈lO l
 |(g,q)::l,o,b,h,v=>by
  unfold lO;rcases dq.1 h with d|h
  .obtain⟨rfl,rfl⟩:=uO d;split
   .simp
   .rename_i y;by_cases q:b∈lO l
    .exact q
    .exact absurd ⟨v,q⟩ y
  .have:=Cn h v;split<;>simp[this]
def Co{N:Nat}:∀{l:ab (Nat×Nat)},(∀p,p∈l->0<p.1->p.2<N)->∀b,b∈lO l->b<N
 |[],_,b,h=>by simp[lO]at h
 |(g,d)::l,h,b,q=>by
  have t:=Co (l:=l) (λp v=>h p (by simp[v]));unfold lO at q;split at q
  .rename_i o;rcases dq.1 q with rfl|q
   .exact h (g,b) XE o.1
   .exact t b q
  .exact t b q
end
end Go.ay
namespace Go.ay
open Go
variable{R:aj->ab ax->Prop}{e:dj}{args:ab aj}{am:bv}{bl:Type}{bc an:ab ax}{aW:aQ (Nat×Bool)}{C:bv->ab ax->Prop}{b:Bool}{a7:Array Edge}{d:Nat}
inductive al:List ax->ax->List ax->Prop
 |here {e:ax} {an:List ax}:al (e::an) e an
 |there {x e:ax} {an aX:List ax}:al an e aX->al (x::an) e (x::aX)
inductive ak:List ax->List ax->List ax->Prop
 |nil {an:List ax}:ak an [] an
 |cons {an Cp bc uP:List ax} {e:ax}:al an e Cp->ak Cp bc uP->ak an (e::bc) uP
def al.perm{e:ax}{aX:ab ax}(h:al an e aX):an.Perm (e::aX):=by
 induction h with
 |here=>exact gA _
 |there _ q=>exact(qK _ q).trans (gZ _ _ _)
def ak.perm{q:ab ax}(h:ak an bc q):an.Perm (bc++q):=by
 induction h with
 |nil=>exact gA _
 |cons h _ q=>exact h.perm.trans (qK _ q)
inductive me:List ax->List ax->List ax->Prop
 |nil {an:List ax}:me [] an an
 |cons {e:ax} {an bc uP:List ax}:me an bc uP->me (e::an) bc (e::uP)
def me.eq{q:ab ax}(h:me an bc q):an++bc=q:=by
 induction h with
 |nil=>rfl
 |cons _ q=>simp[q]
inductive kJ(am:bv):List Nat->bv->Prop
 |nil:kJ am [] []
 |cons {k:Nat} {v:Value} {Cq:List Nat} {e:bv}:dS am k=some v->kJ am Cq e->kJ am (k::Cq) ((k,v)::e)
def kJ.sub{y:ab Nat}{e:bv}(h:kJ am y e):dg am e:=by
 induction h with
 |nil=>trivial
 |cons h _ q=>exact⟨h,q⟩
def dg.app{am:bv}:∀{l m:bv},dg am l->dg am m->dg am (l++m)
 |[],_,_,h=>h
 |(_,_)::_,_,h,q=>⟨h.1,dg.app h.2 q⟩
def dg.nil:dg am []:=trivial
def dg.cons{l:bv}{k:Nat}{u v:aj}(h:dS am k=some u)(e:u=v)(q:dg am l):dg am ((k,v)::l):=⟨by rw[h,e],q⟩
section
variable{P:bF}{r:aQ Nat}{W:aY}{D:ab Nat}{n:c7}{Q:cE}{J:bv}{aX:ab ax}{F:Array bS}{Z:ab bS}
variable{dst:Nat}{K:Op}{a1:aZ}{a6:String}
def H.gB{w:aY}{o:ab ax}(q:ak an bc o)(h:H W D an w):H W D bc w:=(h.perm q.perm).sub (Cr _ _)
def H.Se{w:aY}{o:ab ax}(q:ak an bc o)(h:H W D an w):H W D (bc++o) w:=h.perm q.perm
def ai.v{v:aj}(h:aK P n am an ⟨some dst,K,a1,a6,a7,aW⟩ v)(o:ai P r W D n F Q Z ((dst,v)::am) an)(q:gK am F aW=some true:=by exact rfl)(y:jl K=true:=by exact rfl)(b:Nat.blt dst n.n=true:=by exact rfl):ai P r W D n F Q (⟨some dst,K,a1,a6,a7,aW⟩::Z) am an:=ai.val q y b h o
def ai.o{o:bS}(h:aw P r W D n o am an (ai P r W D n F Q Z))(q:gK am F o.guard=some true:=by exact rfl):ai P r W D n F Q (o::Z) am an:=ai.op q h
def ai.Wh(h:ai P r W D n F Q Z ((d,undef)::am) an)(q:gK am F aW=some false:=by exact rfl)(b:Nat.blt d n.n=true:=by exact rfl):ai P r W D n F Q (⟨some d,K,a1,a6,a7,aW⟩::Z) am an:=ai.skip q b h
def ai.de{o:bS}(j:b=true->ai P r W D n F Q (o::Z) ((d,.bool true)::am) an)(s:b=false->ai P r W D n F Q (o::Z) ((d,.bool false)::am) an)(q:yp F o.guard=some d:=by exact rfl)(t:dS am d=some (.bool b):=by exact rfl):ai P r W D n F Q (o::Z) am an:=ai.part q t j s
def ah.Wi{c:bd}{x y:Code}(h:ah P r W D n Q x am an)(q:aO am c=some (.bool true):=by exact rfl):ah P r W D n Q (.cond c x y) am an:=ah.VF q h
def ah.Wj{c:bd}{x y:Code}(h:ah P r W D n Q y am an)(q:aO am c=some (.bool false):=by exact rfl):ah P r W D n Q (.cond c x y) am an:=ah.VG q h
def ah.c{c:bd}{x y:Code}(q:b=true->ah P r W D n Q x am an)(o:b=false->ah P r W D n Q y am an)(t:aO am c=some (.bool b):=by exact rfl):ah P r W D n Q (.cond c x y) am an:=ah.cond t q o
def Out.S2{id y:Nat}(h:Out W D n Q (.exit y) am an)(q:Nat.beq y id=false:=by exact rfl):Out W D n (Exit.inBlock id Q) (.exit y) am an:=Out.VN q h
def aw.R'{f:eg}{o:ab bd}{i:Array aZ}{y d:ab ax}(q:ay.ha am o=some args)(s:ar P f args y R)(j:ak an y d)(t:∀v aX,R v aX->∃z,me aX d z/\C ((dst,v)::am) z)(b:Nat.blt dst n.n=true:=by exact rfl)(g:jE P f=true:=by kernel_rfl):aw P r W D n ⟨some dst,.call ⟨.value (.func f),o.toArray,i⟩,a1,a6,a7,aW⟩ am an C:=
 aw.call b g q j.perm s λv aX o=>by obtain⟨z,q,h⟩:=t v aX o;rw[q.eq];exact h
def aw.Uz{f:eg}{x:bd}{o:ab bd}{Yj:Array aZ}{Yf:ab aj}{Yi h:ab ax}(t:aO am x=some (.func (.func f) #[] Yf.toArray))(q:ay.ha am o=some args)(s:ar P f (args++Yf) Yi R)(Yh:ak an Yi h)(z:∀v aX,R v aX->∃Ye,me aX h Ye/\C ((dst,v)::am) Ye)(b:Nat.blt dst n.n=true:=by exact rfl)(Yc:jE P f=true:=by kernel_rfl):aw P r W D n ⟨some dst,.call ⟨.value x,o.toArray,Yj⟩,a1,a6,a7,aW⟩ am an C:=λK Q y a w d j=>by
 have Yg:=j.perm Yh.perm;have Yl:o.toArray.map a.eval=args.toArray:=by rw[<-d.ha q];simp
 refine wv (f:=f) (args:=(args++Yf).toArray) (s:=w) rfl ?_ ?_
 .simp only[execOp,resolve,ct,Yl,d.eval t];simp[Deferred.ofValue,invoke,uJ Yc]
 .refine(s w ⟨λe g=>Yg.fm e (by simp[g]),?_⟩).mono ?_
  .have:=Yg.nodup;exact Mo
  .rintro e k⟨v,aX,rfl,i,Yk⟩;obtain⟨Ye,q,h⟩:=z v aX i;refine⟨_,rfl,y _ _ h _ _ (d.put b v) ?_⟩;have:=Yg.call Yk;rwa[q.eq]at this
def aw.fn{f:eg}{o:ab bd}{d:Array aZ}{x:aj}(q:ay.ha am o=some args)(s:cX P f args x)(t:C ((dst,x)::am) an)(b:Nat.blt dst n.n=true:=by exact rfl)(g:jE P f=true:=by kernel_rfl):aw P r W D n ⟨some dst,.call ⟨.value (.func f),o.toArray,d⟩,a1,a6,a7,aW⟩ am an C:=aw.fun b g q s t
def aw.TA{f:eg}{x:bd}{o:ab bd}{z:Array aZ}{v:aj}(t:aO am x=some (.func (.func f) #[] #[]))(q:ay.ha am o=some args)(s:cX P f args v)(d:C ((dst,v)::am) an)(b:Nat.blt dst n.n=true:=by exact rfl)(g:jE P f=true:=by kernel_rfl):aw P r W D n ⟨some dst,.call ⟨.value x,o.toArray,z⟩,a1,a6,a7,aW⟩ am an C:=aw.Wf b t g q s d
def ah.cb{c:Code}(b:ab Nat)(J:bl->Prop)(E:bl->bv)(S:bl->ab ax)(z:bl->Nat)(t:bl){i:bv}{o:ab ax}(j:J t)(h:∀x,J x->∀K:Act->aY->Prop,(∀y,J y->z y<z x->∀a w,dc n (E y++i) a->H W D (S y++o) w->K a w)->ah P r W D n (Exit.then K Q) c (E x++i) (S x++o))(q:kJ am b i:=by(repeat(first|exact kJ.nil|apply kJ.cons rfl)))(g:dg am (E t):=by(repeat(first|exact dg.nil|refine dg.cons rfl rfl ?_)))(d:ak an (S t) o:=by(repeat(first|exact ak.nil|exact al.here|apply ak.cons|apply al.there))):ah P r W D n Q (.loop c) am an:=
 ah.Wg J (λx=>E x++i) (λx=>S x++o) z t j (g.app q.sub) (λ_ b=>b.Se d) λx o=>h x o _ λy q t _ _ z j=>⟨y,q,t,z,j⟩
def Out.t'{J G:bl->Prop}{E:bl->bv}{S:bl->ab ax}{i:bv}{t o:ab ax}{K:Act->aY->Prop}(b:∀y,J y->G y->∀a w,dc n (E y++i) a->H W D (S y++t) w->K a w)(y:bl)(z:J y)(v:G y)(g:dg am (E y++i):=by(repeat(first|exact dg.nil|refine dg.cons rfl rfl ?_)))(q:ak an (S y++t) o:=by(repeat(first|exact ak.nil|exact al.here|apply ak.cons|apply al.there))):Out W D n (Exit.then K Q) .normal am an:=λ_ _ d j=>b y z v _ _ (d.sub g.get) (j.gB q)
def ah.mt{x y:Code}(i:ab Nat)(J:bl->Prop)(E:bl->bv)(S:bl->ab ax){k:bv}{s b:ab ax}(q:∀K:Act->aY->Prop,(∀z,J z->True->∀a w,dc n (E z++k) a->H W D (S z++s) w->K a w)->ah P r W D n (Exit.then K Q) x am an)(o:∀z,J z->ah P r W D n Q y (E z++k) (S z++s))(t:kJ am i k:=by(repeat(first|exact kJ.nil|apply kJ.cons rfl)))(d:ak an b s:=by(repeat(first|exact ak.nil|exact al.here|apply ak.cons|apply al.there))):ah P r W D n Q (.seq x y) am an:=
 ah.seq λa w g v=>sV (q (λa w=>∃z,J z/\dc n (E z++k) a/\H W D (S z++s) w) (λz q _ _ _ t j=>⟨z,q,t,j⟩) a w g v) λe i k bb=>by
  cases e with
  |normal=>
   obtain⟨z,q,s,y⟩:=bb;exact o z q i k s y
  |_=>exact bb
variable{fn:Func}
def Out.TB{v:aj}(j:e=.ret\/e=.normal)(g:∀a w,dc n am a->qx an w->(results fn a.tmps).run P w=.ok v w)(h:∃aX i,R v aX/\ak an (g9 n.ds++aX) i):Out W D n (n5 P fn (Ends R W D)) e am an:=λa w z y=>by
 obtain⟨aX,i,b,d⟩:=h;have t:LeavesInM Fence.wide 0 P fn a.tmps (Ends R W D) a.defers .returning w:=by rw[z.defers];exact BH n.ds aX w (y.gB d) y.eJ λs q o=>⟨v,g a s z o,v,aX,rfl,b,q⟩
 rcases j with rfl|rfl<;>exact t
def Out.fS(o:fn.results=#[])(h:∃aX q,R (.tuple #[]) aX/\ak an (g9 n.ds++aX) q)(d:e=.ret\/e=.normal:=by first|exact .inl rfl|exact .inr rfl):Out W D n (n5 P fn (Ends R W D)) e am an:=
 Out.TB d (λ_ _ _ _=>by simp[results,o]) h
def Out.eu{j:ResultVar}{v:aj}(o:fn.results=#[j])(q:eG P am an j v)(h:∃aX t,R v aX/\ak an (g9 n.ds++aX) t)(g:e=.ret\/e=.normal:=by first|exact .inl rfl|exact .inr rfl):Out W D n (n5 P fn (Ends R W D)) e am an:=
 Out.TB g (λ_ _ d j=>Hq o d j q) h
def Out.bu{j x:ResultVar}{z s:aj}(t:fn.results=#[j,x])(q:eG P am an j z)(o:eG P am an x s)(h:∃aX d,R (.tuple #[z,s]) aX/\ak an (g9 n.ds++aX) d)(g:e=.ret\/e=.normal:=by first|exact .inl rfl|exact .inr rfl):Out W D n (n5 P fn (Ends R W D)) e am an:=
 Out.TB g (λ_ _ d j=>aby t d j q o) h
def Out.hb{v y b:ResultVar}{j s x:aj}(t:fn.results=#[v,y,b])(q:eG P am an v j)(o:eG P am an y s)(z:eG P am an b x)(h:∃aX d,R (.tuple #[j,s,x]) aX/\ak an (g9 n.ds++aX) d)(g:e=.ret\/e=.normal:=by first|exact .inl rfl|exact .inr rfl):Out W D n (n5 P fn (Ends R W D)) e am an:=
 Out.TB g (λ_ _ d j=>Hs t d j q o z) h
def Out.f0{t:ab ax}(o:fn.results=#[])(h:R (.tuple #[]) bc)(q:ak an (g9 n.ds++bc) t:=by(repeat(first|exact ak.nil|exact al.here|apply ak.cons|apply al.there)))(d:e=.ret\/e=.normal:=by first|exact .inl rfl|exact .inr rfl):Out W D n (n5 P fn (Ends R W D)) e am an:=Out.fS o ⟨bc,t,h,q⟩ d
def Out.f1{j:ResultVar}{v:aj}{g:ab ax}(t:fn.results=#[j])(q:eG P am an j v)(h:R v bc)(o:ak an (g9 n.ds++bc) g:=by(repeat(first|exact ak.nil|exact al.here|apply ak.cons|apply al.there)))(d:e=.ret\/e=.normal:=by first|exact .inl rfl|exact .inr rfl):Out W D n (n5 P fn (Ends R W D)) e am an:=Out.eu t q ⟨bc,g,h,o⟩ d
def Out.f2{j:ResultVar}{g:aj}{x:ResultVar}{s:aj}{z:ab ax}(d:fn.results=#[j,x])(q:eG P am an j g)(o:eG P am an x s)(h:R (.tuple #[g,s]) bc)(t:ak an (g9 n.ds++bc) z:=by(repeat(first|exact ak.nil|exact al.here|apply ak.cons|apply al.there)))(g:e=.ret\/e=.normal:=by first|exact .inl rfl|exact .inr rfl):Out W D n (n5 P fn (Ends R W D)) e am an:=Out.bu d q o ⟨bc,z,h,t⟩ g
def Out.f3{v:ResultVar}{g:aj}{y:ResultVar}{s:aj}{b:ResultVar}{x:aj}{j:ab ax}(d:fn.results=#[v,y,b])(q:eG P am an v g)(o:eG P am an y s)(z:eG P am an b x)(h:R (.tuple #[g,s,x]) bc)(t:ak an (g9 n.ds++bc) j:=by(repeat(first|exact ak.nil|exact al.here|apply ak.cons|apply al.there)))(g:e=.ret\/e=.normal:=by first|exact .inl rfl|exact .inr rfl):Out W D n (n5 P fn (Ends R W D)) e am an:=Out.hb d q o z ⟨bc,j,h,t⟩ g
def eG.t{t:Tmp}{v:aj}(h:dS am t=some v:=by exact rfl):eG P am an (.tmp t) v:=h
def eG.SS(ad:bV P){p:Tmp}{T E:aZ}{b o k:Nat}{c v:ab aj}(h:dS am p=some (au b o):=by exact rfl)(t:cells b E c∈an:=by(repeat first|exact aE _|apply aF))(q:bA ad.agg T=some k:=by exact rfl)(g:Nat.ble (o+k) c.length=true:=by exact rfl)(d:et o k c v:=by infer_instance):eG P am an (.cell p T) (A v):=⟨b,E,c,o,h,t,i5.agg (ad.Sd q) g d.eq⟩
def eG.ie(ad:bV P){p:Tmp}{T E:aZ}{b o u:Nat}{c:ab aj}{v:aj}(h:dS am p=some (au b o):=by exact rfl)(t:cells b E c∈an:=by(repeat first|exact aE _|apply aF))(q:bA ad.one T=some u:=by exact rfl)(d:c[o]?=some v:=by exact rfl):eG P am an (.cell p T) v:=⟨b,E,c,o,h,t,i5.one (ad.V' q) d⟩
end
end Go.ay
namespace Go.ay
open Go
variable{k:IntKind}{T:aZ}{b:Bool}{K:BinOp}{q:Int}{d:Array aZ}{aW:aQ (Nat×Bool)}{C:bv->ab ax->Prop}{e:ax}{M:Act->aY->Prop}{off:Nat}{a7:Array Edge}{U:Nat}{Y:Array Bool}
section
variable{P:bF}{r:aQ Nat}{W:aY}{D:ab Nat}{n:c7}{Q:cE}{am J:bv}{an aX:ab ax}{F:Array bS}{Z:ab bS}
variable{dst:Nat}{a1:aZ}{a6:String}
def V.e5{x:bd}{v:aj}(q:aO am x=some v:=by exact rfl):aK P n am an ⟨some dst,.move x,a1,a6,a7,aW⟩ v:=aK.move q
def V.qH{x:bd}{v:aj}(q:aO am x=some v:=by exact rfl):aK P n am an ⟨some dst,.assign x,a1,a6,a7,aW⟩ v:=aK.assign q
def V.UA{c x y:bd}{v:aj}(o:aO am c=some (.bool true):=by exact rfl)(q:aO am x=some v:=by exact rfl):aK P n am an ⟨some dst,.pick c x y,a1,a6,a7,aW⟩ v:=aK.V0 o q
def V.UB{c x y:bd}{v:aj}(o:aO am c=some (.bool false):=by exact rfl)(q:aO am y=some v:=by exact rfl):aK P n am an ⟨some dst,.pick c x y,a1,a6,a7,aW⟩ v:=aK.V1 o q
def V.cmp{t z:aZ}{x y:bd}{p:Int}(o:aO am x=some (.int k p):=by exact rfl)(d:aO am y=some (.int k q):=by exact rfl)(g:a8 K p q=some b:=by exact rfl):aK P n am an ⟨some dst,.binOp K t x y z,a1,a6,a7,aW⟩ (.bool b):=aK.cmp o d g
def V.mR{t z:aZ}{x y:bd}{p q:ab aP}(o:aO am x=some (S p):=by exact rfl)(d:aO am y=some (S q):=by exact rfl)(g:ay.mR K p q=some b:=by exact rfl):aK P n am an ⟨some dst,.binOp K t x y z,a1,a6,a7,aW⟩ (.bool b):=aK.mR o d g
def V.TC(ad:bV P){t g:aZ}{x y:bd}{p q:Bool}{u:Nat}(o:aO am x=some (.bool p):=by exact rfl)(d:aO am y=some (.bool q):=by exact rfl)(j:bA ad.uM t=some u:=by exact rfl):aK P n am an ⟨some dst,.binOp .neq t x y g,a1,a6,a7,aW⟩ (.bool (!(p==q))):=aK.V9 ad o d j
def V.eq{t g:aZ}{x y:bd}{u v:aj}(s:cS P 10000 t u v b)(q:aO am x=some u:=by exact rfl)(o:aO am y=some v:=by exact rfl)(i:sX u v=true:=by exact rfl)(d:sY P t u v=true:=by kernel_rfl):aK P n am an ⟨some dst,.binOp .eql t x y g,a1,a6,a7,aW⟩ (.bool b):=aK.eql q o i d s
def V.ne{t g:aZ}{x y:bd}{u v:aj}(s:cS P 10000 t u v b)(q:aO am x=some u:=by exact rfl)(o:aO am y=some v:=by exact rfl)(i:sX u v=true:=by exact rfl)(d:sY P t u v=true:=by kernel_rfl):aK P n am an ⟨some dst,.binOp .neq t x y g,a1,a6,a7,aW⟩ (.bool (!b)):=aK.neq q o i d s
def V.add{t z:aZ}{x y:bd}{p:Int}(o:aO am x=some (I p):=by exact rfl)(d:aO am y=some (I q):=by exact rfl)(g:-9223372036854775808<=p+q/\p+q<=9223372036854775807:=by first|omega|(dsimp only;omega)):aK P n am an ⟨some dst,.binOp .add t x y z,a1,a6,a7,aW⟩ (I (p+q)):=aK.add o d g
def V.sub{t z:aZ}{x y:bd}{p:Int}(o:aO am x=some (I p):=by exact rfl)(d:aO am y=some (I q):=by exact rfl)(g:-9223372036854775808<=p-q/\p-q<=9223372036854775807:=by first|omega|(dsimp only;omega)):aK P n am an ⟨some dst,.binOp .sub t x y z,a1,a6,a7,aW⟩ (I (p-q)):=aK.sub o d g
def V.mul{t z:aZ}{x y:bd}{p:Int}(o:aO am x=some (I p):=by exact rfl)(d:aO am y=some (I q):=by exact rfl)(g:-9223372036854775808<=p*q/\p*q<=9223372036854775807:=by first|omega|(dsimp only;omega)):aK P n am an ⟨some dst,.binOp .mul t x y z,a1,a6,a7,aW⟩ (I (p*q)):=aK.mul o d g
def wF(K:BinOp)(k:IntKind)(p q:Int):aQ Int:=match K with|.add=>some (k.wrap (p+q))|.sub=>some (k.wrap (p-q))|.mul=>some (k.wrap (p*q))|_=>none
def V.UC{t z:aZ}{x y:bd}{p u:Int}(o:aO am x=some (.int k p):=by exact rfl)(d:aO am y=some (.int k q):=by exact rfl)(g:wF K k p q=some u:=by exact rfl):aK P n am an ⟨some dst,.binOp K t x y z,a1,a6,a7,aW⟩ (.int k u):=aK.arith o d g
def V.quo{t z:aZ}{x y:bd}{p:Int}(o:aO am x=some (I p):=by exact rfl)(d:aO am y=some (I q):=by exact rfl)(g:0<=p/\p<=9223372036854775807/\1<=q:=by first|omega|(dsimp only;omega)):aK P n am an ⟨some dst,.binOp .quo t x y z,a1,a6,a7,aW⟩ (I (p/q)):=aK.quo o d g
def V.UD{t z:aZ}{x y:bd}{p:Int}(o:aO am x=some (.int k p):=by exact rfl)(d:aO am y=some (.int k q):=by exact rfl)(g:q≠0:=by first|omega|(dsimp only;omega)):aK P n am an ⟨some dst,.binOp .rem t x y z,a1,a6,a7,aW⟩ (.int k (p.tmod q)):=
 λa w z _=>by simp[execOp,z.eval o,z.eval d,eqGuard,binOp,Op.intDiv,g]
def j7(K:BinOp)(k:IntKind)(x y:Int):aQ Int:=
 match K with
 |.and=>some (k.wrap (BitVec.ofInt k.bits x&&&BitVec.ofInt k.bits y).toNat)
 |.or=>some (k.wrap (BitVec.ofInt k.bits x|||BitVec.ofInt k.bits y).toNat)
 |.xor=>some (k.wrap (BitVec.ofInt k.bits x^^^BitVec.ofInt k.bits y).toNat)
 |.andNot=>some (k.wrap (BitVec.ofInt k.bits x&&&~~~(BitVec.ofInt k.bits y)).toNat)
 |_=>none
def V.bit{t b:aZ}{x y:bd}{p u v:Int}(z:u=v)(o:aO am x=some (.int k p):=by exact rfl)(d:aO am y=some (.int k q):=by exact rfl)(g:j7 K k p q=some u:=by exact rfl):aK P n am an ⟨some dst,.binOp K t x y b,a1,a6,a7,aW⟩ (.int k v):=
 λa w j _=>by subst z;simp only[execOp,j.eval o,j.eval d];cases K<;>simp only[j7,er,reduceCtorEq]at g<;>subst g<;>simp[eqGuard,binOp,Op.intBits]
def V.shl{t v:aZ}{x y:bd}{b:IntKind}{p u:Int}(o:aO am x=some (.int k p):=by exact rfl)(d:aO am y=some (.int b q):=by exact rfl)(j:0<=q:=by omega)(z:k.wrap (p*2^(Min.min q.toNat k.bits))=u:=by exact rfl):aK P n am an ⟨some dst,.binOp .shl t x y v,a1,a6,a7,aW⟩ (.int k u):=
 λa w g _=>H1
def V.shr{t v:aZ}{x y:bd}{b:IntKind}{p u:Int}(o:aO am x=some (.int k p):=by exact rfl)(d:aO am y=some (.int b q):=by exact rfl)(j:0<=q:=by omega)(z:p.fdiv (2^(Min.min q.toNat k.bits))=u:=by exact rfl):aK P n am an ⟨some dst,.binOp .shr t x y v,a1,a6,a7,aW⟩ (.int k u):=
 λa w g _=>H1
def V.Wk{t:aZ}{x:bd}{p u v:Int}(d:u=v)(q:aO am x=some (.int k p):=by exact rfl)(o:j7 .xor k (if k.signed then-1 else k.max) p=some u:=by exact rfl):aK P n am an ⟨some dst,.unOp .xor t x,a1,a6,a7,aW⟩ (.int k v):=
 λa w g _=>by subst d;simp only[j7,er]at o;subst o;simp[execOp,g.eval q,Op.unary,Op.intBits]
def V.not{t:aZ}{x:bd}{p:Bool}(q:aO am x=some (.bool p):=by exact rfl):aK P n am an ⟨some dst,.unOp .not t x,a1,a6,a7,aW⟩ (.bool (!p)):=aK.not q
def V.Ta(ad:bV P){t u:aZ}{x:bd}{y d:IntKind}{p:Int}(q:aO am x=some (.int k p):=by exact rfl)(j:k9 ad.ints u=some y:=by exact rfl)(o:k9 ad.ints t=some d:=by exact rfl):aK P n am an ⟨some dst,.convert t u x,a1,a6,a7,aW⟩ (.int y (y.wrap p)):=aK.Uu ad q j o
def yK{p:Int}(h:lc k p):k.wrap p=p:=by unfold lc Lit.wf at h;simp only[cZ,da]at h;obtain⟨q,o⟩:=h;cases k<;>simp_all[IntKind.wrap,IntKind.min,IntKind.max,IntKind.signed,IntKind.bits]<;>omega
def V.ex{x:bd}{nx:Nat}{o:ab aj}{v:aj}(q:aO am x=some (.tuple o.toArray):=by exact rfl)(t:o[nx]?=some v:=by exact rfl):aK P n am an ⟨some dst,.extract x nx,a1,a6,a7,aW⟩ v:=aK.extract q t
def V.Tb{x:bd}{b o:Nat}(q:aO am x=some (au b o):=by exact rfl):aK P n am an ⟨some dst,.nilCheck x,a1,a6,a7,aW⟩ (au b o):=aK.nilCheck q
def V.qL{fn:Fn}{z cs:ab bd}{q t:ab aj}(s:ay.ha am z=some q:=by exact rfl)(o:ay.ha am cs=some t:=by exact rfl):aK P n am an ⟨some dst,.makeFunc fn z.toArray cs.toArray,a1,a6,a7,aW⟩ (.func fn q.toArray t.toArray):=
 λa w d _=>by
  have y:z.toArray.map a.eval=q.toArray:=by rw[<-d.ha s];simp
  have q:cs.toArray.map a.eval=t.toArray:=by rw[<-d.ha o];simp
  simp only[execOp,Instr.makeFunc,y,q,ct,ed,dv]
def V.iL(ad:bV P){s:aZ}{x:bd}{f b o i:Nat}(q:aO am x=some (au b o):=by exact rfl)(k:mP ad.pK s f=some off:=by exact rfl)(t:o+off=i:=by(first|exact hm _|exact gJ _|(simp only[Nat.reduceAdd];done)|exact rfl)):aK P n am an ⟨some dst,.fieldAddr s x f,a1,a6,a7,aW⟩ (au b i):=aK.VV ad q k t
def V.y'(ad:bV P){E:aZ}{x:bd}{b o u:Nat}{c:ab aj}{v:aj}(q:bA ad.one T=some u:=by exact rfl)(t:aO am x=some (au b o):=by exact rfl)(d:cells b E c∈an:=by(repeat first|exact aE _|apply aF))(g:c[o]?=some v:=by exact rfl):aK P n am an ⟨some dst,.load T x,a1,a6,a7,aW⟩ v:=aK.VR ad q t d g
def V.Si(ad:bV P){E:aZ}{x:bd}{b o k:Nat}{c v:ab aj}(q:bA ad.agg T=some k:=by exact rfl)(t:aO am x=some (au b o):=by exact rfl)(d:cells b E c∈an:=by(repeat first|exact aE _|apply aF))(z:Nat.ble (o+k) c.length=true:=by exact rfl)(g:et o k c v:=by infer_instance):aK P n am an ⟨some dst,.load T x,a1,a6,a7,aW⟩ (A v):=aK.VS ad q t d z g
def V.Sj(ad:bV P){d:ab (Nat×bd)}{t:ab (Nat×aj)}{c v:ab aj}(g:wA P T=true:=by kernel_rfl)(y:hT ad.ia T=some c:=by exact rfl)(q:ay.lN am d=some t:=by exact rfl)(o:kF P T t c v:=by(repeat first|exact kF.nil|(apply kF.VY ad;exact rfl;exact rfl;exact rfl;exact rfl;exact rfl;infer_instance)|(apply kF.VZ ad;exact rfl;exact rfl;exact rfl;exact rfl;infer_instance))):aK P n am an ⟨some dst,.build T d.toArray,a1,a6,a7,aW⟩ (A v):=aK.build ad g y q o
def V.TV(ad:bV P){t u:aZ}{x:bd}{p:ab aP}(q:aO am x=some (S p):=by exact rfl)(j:bA ad.strs t=some u:=by exact rfl):aK P n am an ⟨some dst,.call ⟨.builtin .len,#[x],#[t]⟩,a1,a6,a7,aW⟩ (I (p.length:Int)):=aK.TV ad q j
def V.Tz(ad:bV P){t e:aZ}{x:bd}{a:aQ Addr}{d o:Nat}(q:aO am x=some (.slice a d o):=by exact rfl)(j:bA ad.eO t=some e:=by exact rfl):aK P n am an ⟨some dst,.call ⟨.builtin .len,#[x],#[t]⟩,a1,a6,a7,aW⟩ (I (d:Int)):=aK.V2 ad q j
def V.max{x y:bd}{p:Int}(o:aO am x=some (I p):=by exact rfl)(t:aO am y=some (I q):=by exact rfl):aK P n am an ⟨some dst,.call ⟨.builtin .max,#[x,y],d⟩,a1,a6,a7,aW⟩ (I (Max.max p q)):=aK.max o t
def V.min{x y:bd}{p:Int}(o:aO am x=some (I p):=by exact rfl)(t:aO am y=some (I q):=by exact rfl):aK P n am an ⟨some dst,.call ⟨.builtin .min,#[x,y],d⟩,a1,a6,a7,aW⟩ (I (Min.min p q)):=aK.min o t
def V.TX(ad:bV P){t u:aZ}{x y:bd}{p:ab aP}{i:Int}{b:aP}(q:aO am x=some (S p))(o:aO am y=some (.int k i))(j:0<=i)(d:p[i.toNat]?=some b)(v:bA ad.strs t=some u:=by exact rfl):aK P n am an ⟨some dst,.index t x y,a1,a6,a7,aW⟩ (.int .u8 (b.toNat:Int)):=aK.Uw ad q o v j d
def V.Wl(ad:bV P){t u:aZ}{x y:bd}{p:ab aP}{i:Nat}{b:aP}(q:aO am x=some (S p))(o:aO am y=some (.int k (i:Int)))(d:p[i]?=some b)(j:bA ad.strs t=some u:=by exact rfl):aK P n am an ⟨some dst,.index t x y,a1,a6,a7,aW⟩ (.int .u8 (b.toNat:Int)):=aK.Uw ad q o j ac Z5
def V.UE(ad:bV P){t u:aZ}{x g:bd}{p:ab aP}{i:Int}(o:aO am x=some (S p):=by exact rfl)(d:aO am g=some (.int k i):=by exact rfl)(v:bA ad.strs t=some u:=by exact rfl)(j:0<=i:=by first|omega|(dsimp only;omega))(q:i<=p.length:=by first|omega|(dsimp only;omega)):aK P n am an ⟨some dst,.slice t x (some g) none none,a1,a6,a7,aW⟩ (S (p.drop i.toNat)):=aK.V4 ad o d v j q
def V.TD(ad:bV P){t u:aZ}{x ao:bd}{p:ab aP}{i:Int}(o:aO am x=some (S p):=by exact rfl)(d:aO am ao=some (.int k i):=by exact rfl)(v:bA ad.strs t=some u:=by exact rfl)(j:0<=i:=by first|omega|(dsimp only;omega))(q:i<=p.length:=by first|omega|(dsimp only;omega)):aK P n am an ⟨some dst,.slice t x none (some ao) none,a1,a6,a7,aW⟩ (S (p.take i.toNat)):=aK.V5 ad o d v j q
def V.SG(ad:bV P){t E:aZ}{x y:bd}{i:aQ Addr}{v g b aG:Nat}{o:ab (ab aj)}{k:Nat}(q:aO am x=some (.slice i v g))(d:aO am y=some (I (k:Int)))(s:Rd e i v b off aG o)(j:bA ad.eO t=some E:=by exact rfl)(o:bA ad.gp E=some aG:=by exact rfl)(z:k<v:=by omega):aK P n am an ⟨some dst,.indexAddr t x y,a1,a6,a7,aW⟩ (au b (off+k*aG)):=aK.Wb ad q d s j o z
def V.RP(ad:bV P){x:bd}{y:aQ Addr}{g b aG k:Nat}{t:ab (ab aj)}{c:ab aj}(o:aO am x=some (au b (off+k*aG)))(z:Rd e y g b off aG t)(d:t[k]?=some c)(q:bA ad.agg T=some aG:=by exact rfl)(t:e∈an:=by(repeat first|exact aE _|apply aF)):aK P n am an ⟨some dst,.load T x,a1,a6,a7,aW⟩ (A c):=aK.Wc ad q o z t d
def V.SU(ad:bV P){u:aZ}{x:bd}{y:aQ Addr}{g b k:Nat}{t:ab (ab aj)}{v:aj}(o:aO am x=some (au b (off+k*1)))(z:Rd e y g b off 1 t)(d:t[k]?=some [v])(q:bA ad.one T=some u:=by exact rfl)(t:e∈an:=by(repeat first|exact aE _|apply aF)):aK P n am an ⟨some dst,.load T x,a1,a6,a7,aW⟩ v:=aK.Wd ad q o z t d
def cS.UF{d:Nat}{e:aZ}{b o:Nat}(h:P.underlying T=some (.pointer e)):cS P (d+1) T (au b o) (.pointer none) false:=λw=>by simp[Op.equalIn,ct,dN h]
def cS.UG{d:Nat}{e:aZ}(h:P.underlying T=some (.pointer e)):cS P (d+1) T (.pointer none) (.pointer none) true:=λw=>by simp[Op.equalIn,ct,dN h]
def s9(P:bF)(t:aZ):Bool:=match P.underlying t with|some (.pointer _)=>true|_=>false
def wG{t:aZ}(h:s9 P t=true):∃e,P.underlying t=some (.pointer e):=by
 unfold s9 at h;split at h
 .exact⟨_,XF⟩
 .cases h
def V.UH{t d:aZ}{x y:bd}{b o:Nat}(q:aO am x=some (au b o):=by exact rfl)(o:aO am y=some (.pointer none):=by exact rfl)(j:s9 P t=true:=by kernel_rfl):aK P n am an ⟨some dst,.binOp .eql t x y d,a1,a6,a7,aW⟩ (.bool false):=by obtain⟨e,g⟩:=wG j;exact aK.eql q o rfl rfl (cS.UF (d:=9999) g)
def V.UI{t d:aZ}{x y:bd}{b o:Nat}(q:aO am x=some (au b o):=by exact rfl)(o:aO am y=some (.pointer none):=by exact rfl)(j:s9 P t=true:=by kernel_rfl):aK P n am an ⟨some dst,.binOp .neq t x y d,a1,a6,a7,aW⟩ (.bool true):=by obtain⟨e,g⟩:=wG j;exact aK.neq q o rfl rfl (cS.UF (d:=9999) g)
def V.UJ{t d:aZ}{x y:bd}(q:aO am x=some (.pointer none):=by exact rfl)(o:aO am y=some (.pointer none):=by exact rfl)(j:s9 P t=true:=by kernel_rfl):aK P n am an ⟨some dst,.binOp .eql t x y d,a1,a6,a7,aW⟩ (.bool true):=by obtain⟨e,g⟩:=wG j;exact aK.eql q o rfl rfl (cS.UG (d:=9999) g)
def V.UK{t d:aZ}{x y:bd}(q:aO am x=some (.pointer none):=by exact rfl)(o:aO am y=some (.pointer none):=by exact rfl)(j:s9 P t=true:=by kernel_rfl):aK P n am an ⟨some dst,.binOp .neq t x y d,a1,a6,a7,aW⟩ (.bool false):=by obtain⟨e,g⟩:=wG j;exact aK.neq q o rfl rfl (cS.UG (d:=9999) g)
def aaz{v:aj}(h:v.oneCell'=true):v.cells.toList=[v]:=by cases v<;>first|rfl|(cases h;done)
def O.G'(ad:bV P){E:aZ}{x y:bd}{b o u:Nat}{c s:ab aj}{v:aj}(k:C am aX)(q:bA ad.one T=some u:=by exact rfl)(t:aO am x=some (au b o):=by exact rfl)(d:aO am y=some v:=by exact rfl)(i:v.oneCell'=true:=by first|exact rfl|with_reducible assumption)(g:az an (cells b E c) (cells b E s) aX:=by(repeat first|exact az.here _ _ _|apply az.there))(j:Nat.blt o c.length=true:=by exact rfl)(z:bq o [v] c s:=by infer_instance):aw P r W D n ⟨none,.store T x y,a1,a6,a7,aW⟩ am an C:=aw.VT ad q t d i g j z k
def O.Tc(ad:bV P){E:aZ}{x y:bd}{b o k:Nat}{c s u:ab aj}(h:C am aX)(q:bA ad.agg T=some k:=by exact rfl)(t:aO am x=some (au b o):=by exact rfl)(d:aO am y=some (A u):=by exact rfl)(j:u.length=k:=by exact rfl)(i:u.all (·.oneCell')=true:=by exact rfl)(g:az an (cells b E c) (cells b E s) aX:=by(repeat first|exact az.here _ _ _|apply az.there))(v:Nat.ble (o+k) c.length=true:=by exact rfl)(z:bq o u c s:=by infer_instance):aw P r W D n ⟨none,.store T x y,a1,a6,a7,aW⟩ am an C:=aw.VU ad q t d j i g v z h
def O.TE{x:bd}{c:ab aj}(o:∀b,C ((dst,au b 0)::am) (cells b T c::an))(i:Nat.blt dst n.n=true:=by exact rfl)(q:aO am x=some (A c):=by exact rfl):aw P r W D n ⟨some dst,.box T x,a1,a6,a7,aW⟩ am an C:=aw.Ut i q o
def O.R9{x:bd}{v:aj}(o:∀b,C ((dst,au b 0)::am) (cells b T [v]::an))(i:Nat.blt dst n.n=true:=by exact rfl)(q:aO am x=some v:=by exact rfl)(t:v.cells.toList=[v]:=by first|exact rfl|exact aaz (by assumption)):aw P r W D n ⟨some dst,.box T x,a1,a6,a7,aW⟩ am an C:=aw.VW i q t o
def O.K'(ad:bV P){c:ab aj}(q:∀b,C ((dst,au b 0)::am) (cells b T c::an))(i:Nat.blt dst n.n=true:=by exact rfl)(y:hT ad.ia T=some c:=by exact rfl):aw P r W D n ⟨some dst,.alloc T,a1,a6,a7,aW⟩ am an C:=aw.VX ad i y q
def O.lit(ad:bV P){t E:aZ}{z aG:Nat}{s:ab (Nat×bd)}{o:ab (Nat×aj)}{q cs:ab aj}(i:∀b,C ((dst,.slice (some ⟨b,0,none⟩) z z)::am) (row (.slice (some ⟨b,0,none⟩) z z) E aG z cs::an))(b:Nat.blt dst n.n=true:=by exact rfl)(j:bA ad.eO t=some E:=by exact rfl)(d:bA ad.gp E=some aG:=by exact rfl)(y:hT ad.ia E=some q:=by exact rfl)(q:ay.lN am s=some o:=by exact rfl)(v:bx aG 0 o cs:=by(repeat first|exact bx.nil|(exact bx.last rfl)|(apply bx.agg;exact rfl)|(apply bx.one;exact rfl)))(g:o.length=z:=by exact rfl)(o:Nat.ble (z*aG) 1000=true:=by exact rfl)(k:Nat.ble 1 aG=true:=by exact rfl):aw P r W D n ⟨some dst,.buildSlice t z s.toArray,a1,a6,a7,aW⟩ am an C:=aw.Uy ad b j d y q v g o k i
def aw.q'{K:Op}{v:aj}(h:aK P n am an ⟨some dst,K,a1,a6,a7,aW⟩ v)(q:C ((dst,v)::am) an)(y:jl K=true:=by exact rfl)(b:Nat.blt dst n.n=true:=by exact rfl):aw P r W D n ⟨some dst,K,a1,a6,a7,aW⟩ am an C:=aw.Uo y b h q
variable{N G:ab ax}{X:ab Nat}{T:Bool}{K:Op}
def af.t{v:aj}(i:Nat)(ao:F[i]?=some ⟨some dst,K,a1,a6,a7,aW⟩)(q:aK P n am N ⟨some dst,K,a1,a6,a7,aW⟩ v)(h:af P r W D n F M N G X true U (Y.setIfInBounds i true) ((dst,v)::am) an)(o:rO F X Y i=true:=by kernel_rfl)(t:gK am F aW=some true:=by exact rfl)(y:jl K=true:=by exact rfl)(b:Nat.blt dst n.n=true:=by exact rfl):af P r W D n F M N G X true (U+1) Y am an:=af.take i ao o t y b q h
def af.i'{v:aj}(i:Nat)(ao:F[i]?=some ⟨some dst,K,a1,a6,a7,aW⟩)(q:aK P n am G ⟨some dst,K,a1,a6,a7,aW⟩ v)(h:af P r W D n F M N G X T U (Y.setIfInBounds i true) ((dst,v)::am) an)(o:wD F Y i=true:=by kernel_rfl)(t:gK am F aW=some true:=by exact rfl)(y:jl K=true:=by exact rfl)(b:Nat.blt dst n.n=true:=by exact rfl):af P r W D n F M N G X T (U+1) Y am an:=af.V7 i ao o t y b q h
def af.s(i:Nat)(ao:F[i]?=some ⟨some dst,K,a1,a6,a7,aW⟩)(h:af P r W D n F M N G X true U (Y.setIfInBounds i true) ((dst,undef)::am) an)(q:rO F X Y i=true:=by kernel_rfl)(o:gK am F aW=some false:=by exact rfl)(b:Nat.blt dst n.n=true:=by exact rfl):af P r W D n F M N G X true (U+1) Y am an:=af.skip i ao q o b h
def af.p'{o:bS}(i:Nat)(ao:F[i]?=some o)(h:aw P r W D n o am an (λJ aX=>(∀w,H W D aX w->e4 N w)/\(∀w,H W D aX w->e4 G w)/\af P r W D n F M N G X true U (Y.setIfInBounds i true) J aX))(q:qF .any F Y i=true:=by kernel_rfl)(t:gK am F o.guard=some true:=by exact rfl):af P r W D n F M N G X T (U+1) Y am an:=af.only i ao q t h
def af.l{o:bS}(i:Nat)(ao:F[i]?=some o)(h:aw P r W D n o am an (λJ aX=>(∀w,H W D aX w->e4 G w)/\af P r W D n F M N G X false U (Y.setIfInBounds i true) J aX))(q:(qF .any F Y i&&X.contains i)=true:=by kernel_rfl)(t:gK am F o.guard=some true:=by exact rfl):af P r W D n F M N G X T (U+1) Y am an:=af.last i ao q t h
def af.Wm{e:dj}(h:Out W D n Q e am an)(q:(Region.ready .any F Y).isEmpty=true:=by kernel_rfl):af P r W D n F (Q e) N G X T U Y am an:=af.out q h
def af.de(d:Nat)(j:b=true->af P r W D n F M N G X T U Y ((d,.bool true)::am) an)(s:b=false->af P r W D n F M N G X T U Y ((d,.bool false)::am) an)(t:dS am d=some (.bool b):=by exact rfl):af P r W D n F M N G X T U Y am an:=af.part t j s
inductive qM(an:List ax):List ax->Prop
 |nil:qM an []
 |cons {e:ax} {bc:List ax} (h:e∈an) (k:qM an bc):qM an (e::bc)
def qM.mem{bc:ab ax}(h:qM an bc):∀e,e∈bc->e∈an:=by
 induction h with
 |nil=>intro e d;cases d
 |cons h _ q=>intro e d;rcases dq.1 d with rfl|d<;>first|exact h|exact q _ d
def yL(q:qM an N:=by(repeat(first|exact qM.nil|refine qM.cons XB ?_))):∀w,H W D an w->e4 N w:=λ_ y e d=>y.fm e (q.mem e d)
end
end Go.ay
namespace Go.ay
open Go
section
variable{P:bF}{r:aQ Nat}{W:aY}{D:ab Nat}{n:c7}{Q:cE}{am J:bv}{an aX:ab ax}
def ah.RN{id:Nat}{l:ab bS}{N G:ab ax}(X:ab Nat)(h:af P r W D n l.toArray (Q .normal) N G X true l.length (Array.replicate l.length false) am an)(o:N.Sublist an)(j:G.Sublist an)(q:P.follows .mixedOrders=true:=by kernel_rfl):ah P r W D n Q (.region id l.toArray true) am an:=
 ah.draw N G X q (λ_ y=>(y.sub o).hold) (λ_ y=>(y.sub j).hold) h
def Cs{C:ab ax->Prop}{an bc o:ab ax}(h:C o)(q:me an bc o:=by(repeat(first|exact me.nil|apply me.cons))):∃o,me an bc o/\C o:=⟨_,q,h⟩
end
end Go.ay
namespace Go.ay
open Go
variable{aG:Nat}{aW:aQ (Nat×Bool)}{C:bv->ab ax->Prop}{q:ab aj}{a7:Array Edge}{k:Nat}
section
variable{P:bF}{w:aY}
def yM(t cg a1 e:aZ)(i:TypeInfo)(z:aj)(Yi bytes:Nat)(c8:P.underlying t=some (.slice e))(ao:P.info? e=some i)(e0:i.zero=some z)(Yv:i.size=Yi)(Yt:i.bytes=bytes)(Yq:z.cells.size=Yi)(Yg:0<Yi)(v:aj)(n:Nat)(o:ab aj)(Yh:w.ownsRow 0 e Yi v n o)(x:aj)(m:Nat)(Yf:ab aj)(y:Src P Yi cg x m Yf w)(Yn:n+m<=maxLen)(Yu:(n+m)*bytes<=140737488355328):∃dE h9,(Builtin.append_ #[t,cg] a1 #[v,x]).run P w=.ok dE h9/\h9.ownsRow 0 e Yi dE (n+m) (o++Yf)/\w.grownBy h9 v.ownBlock/\(dE=.slice none 0 0↔v=.slice none 0 0/\m=0)/\(dE.ownBlock=v.ownBlock\/dE.ownBlock=some w.heap.size)/\w.drawn<=h9.drawn:=by
 subst Yv;subst Yt;have s:=y.newsLen;have Yy:n+m<=9223372036854775807:=by simp only[maxLen]at Yn;omega
 have Ye:(o++Yf).length=(n+m)*i.size:=by rw[bM,Yh.1,s,eZ]
 have Yx:∀(Ys:Nat),Ys<n+m->∀(row:aQ Nat),
   (w.drew.alloc (.cells ((o++Yf).toArray++Builtin.zeroCells z.cells (grownCap w (n+m) Ys e-(n+m))) e)).ownsRow 0 e i.size
    (.slice (some ⟨w.heap.size,0,none⟩) (n+m) (grownCap w (n+m) Ys e)) (n+m) (o++Yf)/\
   w.grownBy (w.drew.alloc (.cells ((o++Yf).toArray++Builtin.zeroCells z.cells (grownCap w (n+m) Ys e-(n+m))) e)) row:=by
  intro Ys dz row
  have Yo:=wH w (n+m) Ys e
  have Yj:grownCap w (n+m) Ys e<=maxLen:=wI w (n+m) Ys e Yn
  refine⟨⟨Ye,.inr ⟨w.heap.size,_,_,rfl,cw _,wr w.drew _,Yo,Yj,?_,?_⟩⟩,⟨rfl,rfl,rfl,XE,λk b _=>rI w.drew _ b⟩⟩
  .simp only[wJ,nA,yN,Yq,Ye,<-eZ]
   congr 1
   omega
  .simp only[yO]
   rw[<-Ye]
   exact o0
 rcases Yh.2 with⟨rfl,rfl⟩|⟨g,d,Yc,rfl,Yr,h,Ym,Yj,Yk,Yl⟩
 .have q:o=[]:=kk (by simpa using Yh.1);subst q;by_cases j:m=0
  .subst j;have c6:Yf=[]:=kk (by simpa using s);subst c6;refine⟨.slice none 0 0,w,?_,Ct w 0 e i.size,⟨rfl,rfl,rfl,cl _,λ_ _ _=>rfl⟩,XE,.inl rfl,cl _⟩;have q:=y.cells;rcases y.kind with⟨kG,b⟩|b<;>simp[Builtin.append_,dN c8,dN b,sizeOf,typeInfo,ao,y.len,q]
  .have v:=yP (P:=P) w t cg a1 e i z c8 ao e0 none 0 0 [] (run_firstCells_none w.drew i.size 0 0 0) x m Yf y ac ac (wK ac (by simpa using Yu));have Yp:=Yx 0 ac (Value.ownBlock (.slice none 0 0));simp only[hm,gi]at Yp v⊢;exact⟨_,_,v,Yp.1,Yp.2,by simp[j],.inr rfl,uQ _⟩
 .by_cases j:n+m<=d
  .have Yw:n*i.size+Yf.length<=Yc.size:=by rw[s,Yk,<-eZ];exact jn _ j
   have q:=rL P g (n*i.size) e Yf 0 Yc w h (by simpa using Yw) y.one;simp only[gJ]at q;have v:(Builtin.append_ #[t,cg] a1 #[.slice (some ⟨g,0,none⟩) n d,x]).run P w=
     .ok (.slice (some ⟨g,0,none⟩) (n+m) d) (w.setRow g (Yc.toList.take (n*i.size)++Yf++Yc.toList.drop (n*i.size+Yf.length)).toArray):=by
    rcases y.kind with⟨kG,b⟩|b<;>simp[Builtin.append_,dN c8,dN b,sizeOf,typeInfo,ao,y.len,j,y.cells,ta,q]
   refine⟨_,_,v,⟨Ye,.inr ⟨g,d,_,rfl,Yr,pH w g Yc _ e _ h,j,Yj,?_,?_⟩⟩,⟨rfl,rfl,rfl,XE,λk _ b=>uF w g k _ (λe=>b (by simp[Value.ownBlock,e]))⟩,XE,.inl rfl,cl _⟩
   .simp only[nA,bM,eX,j6,mV];omega
   .rw[Yl,<-Ye];exact o0
  .have s:∀j u,o[j]?=some u->w.cell? ((⟨g,0,none⟩:Addr).add j)=some u:=Yh.cells (g:=g) rfl;have v:=yP (P:=P) w t cg a1 e i z c8 ao e0 (some ⟨g,0,none⟩) n d o (tb w.drew i.size n _ n d o Yh.1 (by simpa using s)) x m Yf y ac ac (wK ac Yu);have Yp:=Yx d ac (Value.ownBlock (.slice (some ⟨g,0,none⟩) n d));exact⟨_,_,v,Yp.1,Yp.2,XE,.inr rfl,uQ _⟩
end
section
variable{P:bF}{r:aQ Nat}{W:aY}{D:ab Nat}{n:c7}{Q:cE}{am J:bv}{an aX:ab ax}{F:Array bS}{Z:ab bS}
variable{dst:Nat}{K:Op}{a1:aZ}{a6:String}
def mW(P:bF)(an:ab ax)(aG:Nat)(cg:aZ)(x:aj)(m:Nat)(y:ab aj):Prop:=∀w,e4 an w->Src P aG cg x m y w
def mW.row(ad:bV P){E cg b m:Nat}{x:aj}{i:ab aj}(t:row x E aG m i∈an)(j:bA ad.eO cg=some b)(q:i.all (·.oneCell')=true):mW P an aG cg x m i:=λw y=>by
 have h:=y _ t;rw[hz]at h;have d:∀u∈i,u.oneCell'=true:=gX.1 q;rcases h.2 with⟨rfl,rfl⟩|⟨g,cap,k,rfl,_⟩
 .have o:i=[]:=kk (by simpa using h.1);subst o;exact Src.ofNil w (fM (ad.RM j)) 0
 .exact tc w (fM (ad.RM j)) _ _ _ _ h.1 (h.cells (g:=g) rfl) d
def mW.str(ad:bV P){cg u:Nat}{l:ab aP}(j:bA ad.strs cg=some u):mW P an 1 cg (S l) l.length (l.map λb=>.int .u8 (b.toNat:Int)):=λw _=>by have:=Src.ofString (P:=P) w (ad.SF j) ⟨l.toArray⟩;simpa[byteCells,uN]using this
def aaS{q:ab (ab aj)}(d:∀x,x∈q->x.length=aG){j:Nat}{u:aj}(h:q.flatten[j]?=some u):∃i x k,q[i]?=some x/\x[k]?=some u/\j=i*aG+k:=by
 induction q generalizing j with
 |nil=>simp at h
 |cons y q z=>
  rw[yI]at h;rcases n4 j y.length with b|q
  .rw[pR b]at h;exact⟨0,y,j,rfl,h,XE⟩
  .rw[iu q]at h;obtain⟨i,x,k,q,t,g⟩:=z (λx o=>d x (by simp[o])) h;have o:=d y XE;exact⟨i+1,x,k,X3,t,by rw[eZ];omega⟩
def mW.rd(ad:bV P){e:ax}{cg kG Yc cap b off:Nat}{cG:aQ Addr}{t:ab (ab aj)}(eU:Rd e cG Yc b off aG t)(g:e∈an)(h:bA ad.eO cg=some kG)(q:t.flatten.all (·.oneCell')=true)(Ye:∀x,x∈t->x.length=aG)(Yf:0<Yc):mW P an aG cg (.slice cG Yc cap) Yc t.flatten:=λw cB=>by
 have ic:=eU.addr Yf;have v:=eU.reads w (cB _ g);have z:t.flatten.length=Yc*aG:=by
  rw[<-eU.length];clear v q eU;induction t with
  |nil=>simp
  |cons y qA la=>rw[yI,bM,Ye y XE,la (λx o=>Ye x (by simp[o])),dp,eZ];omega
 subst ic;refine tc w (fM (ad.RM h)) _ _ _ _ z (λj u hu=>?_) (gX.1 q);obtain⟨i,x,k,d,s,rfl⟩:=aaS Ye hu;rw[qI];have:=(v i x d).2 k u s;rwa[oX]at this
def H.append{E m:Nat}{v j:aj}{o s:ab aj}{w eY:aY}(h:H W D an w)(u:az an (row v E aG k o) (row j E aG m s) aX)(z:eY.ownsRow 0 E aG j m s)(d:w.grownBy eY v.ownBlock)(t:j.ownBlock=v.ownBlock\/j.ownBlock=some w.heap.size)(Ye:w.drawn<=eY.drawn):H W D aX eY:=by
 refine h.mN u ⟨λe g=>?_,?_,λx q=>?_,λb i y=>?_,d.size,d.os,d.tape,d.output,Ye⟩
 .obtain rfl:e=_:=by simpa using g
  rw[hz];exact z
 .have:bg [row j E aG m s]=j.ownBlock.toList:=by simp[bg,hl]
  rw[this];cases j.ownBlock<;>simp
 .have Yc:j.ownBlock=some x:=by simpa[bg,hl]using q
  rcases t with t|t
  .left;rw[hl,<-t,Yc];simp
  .right;rw[t]at Yc;injection Yc with Yc;omega
 .refine d.block b i λe=>y ?_;rw[hl,<-e];simp
def bV.info(ad:bV P){E d:Nat}(o:bA ad.gp E=some aG)(t:bA ad.kD E=some d)(y:hT ad.ia E=some q):∃i z,P.info? E=some i/\i.zero=some z/\i.size=aG/\i.bytes=d/\z.cells.toList=q:=by have q:=ad.Sw o;have o:=ad.VQ t;obtain⟨z,g,j⟩:=ad.zeroAt y;obtain⟨i,ao,t⟩:=yq.1 g;rw[ao]at q o;exact⟨i,z,ao,t,X3,by simpa using o,j⟩
def O.Wn(ad:bV P){t cg E fN m:Nat}{x y:bd}{v u:aj}{d Ye hU:ab aj}{aX:aj->ab ax}(o:aO am x=some v)(j:aO am y=some u)(cf:mW P an aG cg u m Ye)(ee:∀dE,dE.oneCell'=true->(dE=.slice none 0 0↔v=.slice none 0 0/\m=0)->C ((dst,dE)::am) (aX dE))(h:∀dE,az an (row v E aG k d) (row dE E aG (k+m) (d++Ye)) (aX dE):=by(intro _;repeat first|exact az.here _ _ _|apply az.there))(ef:Nat.blt dst n.n=true:=by exact rfl)(c8:bA ad.eO t=some E:=by exact rfl)(Yf:bA ad.gp E=some aG:=by exact rfl)(Yk:bA ad.kD E=some fN:=by exact rfl)(e0:hT ad.ia E=some hU:=by exact rfl)(Ym:hU.length=aG:=by exact rfl)(Yh:Nat.blt 0 aG=true:=by exact rfl)(Yo:k+m<=9223372036854775807:=by omega)(Yn:(k+m)*fN<=140737488355328:=by omega):aw P r W D n ⟨some dst,.call ⟨.builtin .append,#[x,y],#[t,cg]⟩,a1,a6,a7,aW⟩ am an C:=λK Q cu a w cT cM=>by
 obtain⟨i,z,ao,Yi,q,b,cp⟩:=ad.info Yf Yk e0;obtain⟨l,rP,fE,_⟩:=(h v).split;have Yg:=cM.mem (e:=row v E aG k d) (by rw[fE];simp);rw[hz]at Yg;have Yp:0<aG:=nw Yh;have Yl:z.cells.size=aG:=by rw[<-mV,cp,Ym]
 obtain⟨dE,eY,e6,dz,bU,c6,bY,Yj⟩:=yM (P:=P) (w:=w) t cg a1 E i z aG fN (fM (ad.RM c8)) ao Yi q b Yl Yp v k d Yg u m Ye (cf w cM.hold) Zv Yn;have q:dE.oneCell'=true:=by rcases dz.2 with⟨rfl,_⟩|⟨g,s,Yc,rfl,_⟩<;>rfl
 refine iK rfl ?_ (cu _ _ (ee dE q c6) _ _ (cT.put ef _) (cM.append (h dE) dz bU bY Yj));exact PU
def O.ap(ad:bV P){t cg E fN m:Nat}{x y:bd}{v u:aj}{d Ye hU:ab aj}{aX:aj->ab ax}(o:aO am x=some v)(j:aO am y=some u)(cf:mW P an aG cg u m Ye)(ee:∀g s,C ((dst,.slice (some ⟨g,0,none⟩) (k+m) s)::am) (aX (.slice (some ⟨g,0,none⟩) (k+m) s)))(ep:0<k+m:=by omega)(h:∀dE,az an (row v E aG k d) (row dE E aG (k+m) (d++Ye)) (aX dE):=by(intro _;repeat first|exact az.here _ _ _|apply az.there))(ef:Nat.blt dst n.n=true:=by exact rfl)(c8:bA ad.eO t=some E:=by exact rfl)(Yf:bA ad.gp E=some aG:=by exact rfl)(Yk:bA ad.kD E=some fN:=by exact rfl)(e0:hT ad.ia E=some hU:=by exact rfl)(Ym:hU.length=aG:=by exact rfl)(Yh:Nat.blt 0 aG=true:=by exact rfl)(Yo:k+m<=9223372036854775807:=by omega)(Yn:(k+m)*fN<=140737488355328:=by omega):aw P r W D n ⟨some dst,.call ⟨.builtin .append,#[x,y],#[t,cg]⟩,a1,a6,a7,aW⟩ am an C:=λK Q cu a w cT cM=>by
 obtain⟨i,z,ao,Yi,q,b,cp⟩:=ad.info Yf Yk e0;obtain⟨l,rP,fE,_⟩:=(h v).split;have Yg:=cM.mem (e:=row v E aG k d) (by rw[fE];simp);rw[hz]at Yg;have Yp:0<aG:=nw Yh;have Yl:z.cells.size=aG:=by rw[<-mV,cp,Ym]
 obtain⟨dE,eY,e6,dz,bU,c6,bY,Yj⟩:=yM (P:=P) (w:=w) t cg a1 E i z aG fN (fM (ad.RM c8)) ao Yi q b Yl Yp v k d Yg u m Ye (cf w cM.hold) Zv Yn;rcases dz.2 with⟨_,ea⟩|⟨g,s,Yc,rfl,_⟩
 .omega
 .refine iK rfl ?_ (cu _ _ (ee g s) _ _ (cT.put ef _) (cM.append (h _) dz bU bY Yj));exact PU
def ah.fact{c:Code}{p:Prop}(v:∀w,H W D an w->p)(h:p->ah P r W D n Q c am an):ah P r W D n Q c am an:=λa w d j=>h (v w j) a w d j
def ai.fact{l:ab bS}{p:Prop}(v:∀w,H W D an w->p)(h:p->ai P r W D n F Q l am an):ai P r W D n F Q l am an:=λa w d j=>h (v w j) a w d j
def Out.fact{e:dj}{p:Prop}(v:∀w,H W D an w->p)(h:p->Out W D n Q e am an):Out W D n Q e am an:=λa w d j=>h (v w j) a w d j
def aeX{v:aj}{E:Nat}(o:row v E aG k q∈an):∀w,H W D an w->(v=.slice none 0 0/\k=0/\q=[])\/∃g t,v=.slice (some ⟨g,0,none⟩) k t/\k<=t/\t<=maxLen:=λw y=>by
 have h:=y.mem o;rw[hz]at h;rcases h.2 with⟨q,o⟩|⟨g,t,k,q,_,_,o,z,_⟩
 .exact .inl ⟨q,o,kk (by rw[h.1,o];simp)⟩
 .exact .inr ⟨g,t,q,o,z⟩
def H.Wo{w:aY}(E aG:Nat)(h:H W D an w):H W D (row (.slice none 0 0) E aG 0 []::an) w:=by
 have:H w [] [row (.slice none 0 0) E aG 0 []] w:=by
  refine⟨λe d=>?_,IY,λb q=>(by simp[bg,hl,Value.ownBlock]at q),λb _ _=>rfl,cl _,rfl,rfl,rfl,cl _⟩;obtain rfl:e=_:=Z5
  rw[hz];exact Ct w 0 E aG
 exact h.new this
def V.nx(ad:bV P){t E b o z d:Nat}{x y:bd}{k:IntKind}{i:Int}(q:aO am x=some (.slice (some ⟨b,o,none⟩) z d):=by exact rfl)(d:aO am y=some (.int k i):=by exact rfl)(j:bA ad.eO t=some E:=by exact rfl)(g:bA ad.gp E=some aG:=by exact rfl)(v:0<=i/\i<(z:Int):=by omega):aK P n am an ⟨some dst,.indexAddr t x y,a1,a6,a7,aW⟩ (au b (o+i.toNat*aG)):=λa w z _=>by
 have h:=fM (ad.RM j);have j:P.elem t=E:=by simp[Program.elem,h]
 simp only[execOp,z.eval q,z.eval d];simp[Instr.indexAt,ct,asIntOf,dN h,v,n8 (ad.Sw g),qI]
def V.x'(ad:bV P){t E b o z g:Nat}{x y:bd}(q:aO am x=some (.slice (some ⟨b,o,none⟩) z g))(d:aO am y=some (I (k:Int)))(v:bA ad.eO t=some E:=by exact rfl)(g:bA ad.gp E=some aG:=by exact rfl)(j:k<z:=by omega):aK P n am an ⟨some dst,.indexAddr t x y,a1,a6,a7,aW⟩ (au b (o+k*aG)):=by have:=V.nx (n:=n) (am:=am) (an:=an) (dst:=dst) (a1:=a1) (a6:=a6) (a7:=a7) (aW:=aW) ad (t:=t) q d v g ac;simpa using this
def run_bytesToString{w:aY}{E:Nat}{v:aj}{l:ab aP}(h:w.ownsRow 0 E 1 v k (l.map λb=>.int .u8 (b.toNat:Int))):(Conv.bytesToString v).run P w=.ok (S l) w:=by
 have d:l.length=k:=by simpa using h.1
 rcases h.2 with⟨rfl,rfl⟩|⟨g,o,x,rfl,_⟩
 .have:l=[]:=kk d;subst this;rfl
 .have t:=h.cells (g:=g) rfl;have z:(loadCells ⟨g,0,none⟩ k).run P w=.ok (l.map λb=>Value.int .u8 (b.toNat:Int)).toArray w:=by have:=tb (P:=P) w 1 k ⟨g,0,none⟩ k o _ h.1 t;simpa[Builtin.firstCells]using this
  have i:∀(q:ab aP) (s:ByteArray),(q.map λb=>(b.toNat:Int)).foldl (λr n=>r.push (UInt8.ofNat n.toNat)) s=⟨s.data++q.toArray⟩:=by
   intro q;induction q with
   |nil=>intro s;simp
   |cons x q t=>
    intro s;simp only[eK,n6];rw[t];apply ByteArray.ext;simp[ByteArray.push]
  rw[Go.run_bytesToString w ⟨g,0,none⟩ k o (l.map λb=>(b.toNat:Int)) (by simpa[Function.comp_def]using z),i];simp
def V.UL(ad:bV P){t u E e a:Nat}{x:bd}{v:aj}{l:ab aP}(q:aO am x=some v:=by exact rfl)(d:row v E 1 k (l.map λb=>.int .u8 (b.toNat:Int))∈an:=by(repeat first|exact aE _|apply aF))(c8:bA ad.strs u=some a:=by exact rfl)(hu:bA ad.eO t=some e:=by exact rfl)(i:k9 ad.ints e=some .u8:=by exact rfl):aK P n am an ⟨some dst,.convert t u x,a1,a6,a7,aW⟩ (S l):=λa w y s=>by
 have h:=s _ d;rw[hz]at h;have z:=run_bytesToString (P:=P) h;have j:∃cG Yc o,v=.slice cG Yc o:=by rcases h.2 with⟨rfl,_⟩|⟨g,o,Ye,rfl,_⟩<;>exact⟨_,_,_,rfl⟩
 obtain⟨cG,Yc,o,rfl⟩:=j;simp only[execOp,y.eval q,convert,ct,dN (ad.SF c8),dN (fM (ad.RM hu)),dv,dN (ad.R0 i),z,ed]
end
end Go.ay
namespace Go.ay
open Go
variable{bl:Type}{aG:Nat}{k:IntKind}{aW:aQ (Nat×Bool)}{C:bv->ab ax->Prop}{a7:Array Edge}{q:ab (ab aj)}
def Cu[Inhabited bl]{f:bl->aj}{q:ab bl}{k:Nat}(o:k<q.length):(q.map λx=>[f x])[k]?=some [f (q.getD k default)]:=by simp[o]
@[irreducible] def rows{bl:Type}(f:bl->List Value)(v:Value)(E aG:Nat)(l:List bl):ax:=row v E aG l.length (l.flatMap f)
def e1(f:bl->ab aj)(v:aj)(E aG:Nat)(l:ab bl):rows f v E aG l=row v E aG l.length (l.flatMap f):=by unfold rows;rfl
def c0(b:aP):ab aj:=[.int .u8 (b.toNat:Int)]
def rQ(n:Int):ab aj:=[I n]
def eH(b:Bool):ab aj:=[B b]
def eP(l:ab aP):ab aj:=[S l]
abbrev iv{bl:Type}(f:bl->ab aj):Prop:=∀x,(f x).all (·.oneCell')=true
def Cv:iv c0:=λ_=>rfl
def nC:iv eH:=λ_=>rfl
def iv.flat{f:bl->ab aj}(h:iv f)(l:ab bl):(l.flatMap f).all (·.oneCell')=true:=by simp only[List.all_flatMap];exact gX.2 λx _=>h x
def wL(l:ab aP):l.flatMap c0=l.map λb=>.int .u8 (b.toNat:Int):=by
 induction l with
 |nil=>rfl
 |cons x l q=>rw[fG,q];rfl
def Rd.len{e:ax}{y:aQ Addr}{len b off:Nat}(h:Rd e y len b off aG q):len<=9223372036854775807:=by have:=h.small;simp only[maxLen]at this;omega
def bx.last{k:Nat}{c:ab aj}(q:c.length=aG):bx aG k [(k,A c)] c:=⟨rfl,c,[],rfl,q,XE,rfl⟩
def wM(f:bl->ab aj)(l:ab bl):(l.map f).flatten=l.flatMap f:=by rw[uR]
def Rd.lits(f:bl->ab aj){g E k o:Nat}{cs:ab aj}(l:ab bl)(z:l.length=k)(d:l.flatMap f=cs)(b:∀x,(f x).length=aG)(t:k<=1000000:=by first|omega|decide):Rd (ay.row (.slice (some ⟨g,0,none⟩) k o) E aG k cs) (some ⟨g,0,none⟩) k g 0 aG (l.map f):=by
 have:=Rd.row (g:=g) (E:=E) (aG:=aG) (k:=k) (cap:=o) (xs:=l.map f) ZG (λy q=>by obtain⟨x,_,rfl⟩:=fh.1 q;exact b x) Zv
 rwa[wM,d]at this
def Rd.rows{f:bl->ab aj}{g E cap:Nat}{l:ab bl}(b:∀x,(f x).length=aG)(o:l.length<=9223372036854775807):Rd (ay.rows f (.slice (some ⟨g,0,none⟩) l.length cap) E aG l) (some ⟨g,0,none⟩) l.length g 0 aG (l.map f):=by
 rw[e1];have:=Rd.row (g:=g) (E:=E) (aG:=aG) (k:=l.length) (cap:=cap) (xs:=l.map f) XE (λy q=>by obtain⟨x,_,rfl⟩:=fh.1 q;exact b x) Zv
 rwa[wM]at this
section
variable{P:bF}{r:aQ Nat}{W:aY}{D:ab Nat}{n:c7}{Q:cE}{am J:bv}{an aX:ab ax}{F:Array bS}{Z:ab bS}
variable{dst:Nat}{K:Op}{a1:aZ}{a6:String}
variable{f:bl->ab aj}
def ce(P:bF)(an:ab ax)(f:bl->ab aj)(aG:Nat)(cg:aZ)(x:aj)(l:ab bl):Prop:=mW P an aG cg x l.length (l.flatMap f)
def ce.one(ad:bV P){E cg y:Nat}{x:aj}{a:bl}(o:row x E aG 1 (f a)∈an)(q:iv f)(j:bA ad.eO cg=some y:=by exact rfl):ce P an f aG cg x [a]:=by have:=mW.row ad o j (q a);unfold ce;simpa using this
def ce.rows(ad:bV P){E cg y:Nat}{x:aj}{l:ab bl}(o:ay.rows f x E aG l∈an)(q:iv f)(j:bA ad.eO cg=some y:=by exact rfl):ce P an f aG cg x l:=by rw[e1]at o;exact mW.row ad o j (q.flat l)
def ce.str(ad:bV P){cg u:Nat}{l:ab aP}(j:bA ad.strs cg=some u:=by exact rfl):ce P an c0 1 cg (S l) l:=by unfold ce;rw[wL];exact mW.str ad j
def ce.rd(ad:bV P){e:ax}{cg k cap b off:Nat}{s:aQ Addr}{l:ab bl}(d:Rd e s l.length b off aG (l.map f))(t:e∈an)(q:iv f)(i:∀x,(f x).length=aG)(h:0<l.length)(j:bA ad.eO cg=some k:=by exact rfl):ce P an f aG cg (.slice s l.length cap) l:=by
 unfold ce;have:=mW.rd (cap:=cap) ad d t j (by rw[wM];exact q.flat l) (λy o=>by obtain⟨x,_,rfl⟩:=fh.1 o;exact i x) h
 rwa[wM]at this
def O.O'(ad:bV P){t cg E fN:Nat}{x y:bd}{v u:aj}{l m:ab bl}{k:ab aj}{aX:aj->ab ax}(q:aO am x=some v)(o:aO am y=some u)(z:∀dE,az an (rows f v E aG l) (rows f dE E aG (l++m)) (aX dE))(j:ce P an f aG cg u m)(h:∀g d,C ((dst,.slice (some ⟨g,0,none⟩) (l++m).length d)::am) (aX (.slice (some ⟨g,0,none⟩) (l++m).length d)))(s:Nat.blt dst n.n=true:=by exact rfl)(b:bA ad.eO t=some E:=by exact rfl)(Yc:bA ad.gp E=some aG:=by exact rfl)(Yf:bA ad.kD E=some fN:=by exact rfl)(i:hT ad.ia E=some k:=by exact rfl)(Yg:k.length=aG:=by exact rfl)(Ye:Nat.blt 0 aG=true:=by exact rfl)(Yh:(l.length+m.length)*fN<=140737488355328:=by(first|omega|(simp only[bM,dp,fY,ev];omega)))(Yi:l.length+m.length<=9223372036854775807:=by(first|omega|(simp only[bM,dp,fY,ev];omega)))(v:0<l.length+m.length:=by(first|omega|(simp only[bM,dp,fY,ev];omega))):aw P r W D n ⟨some dst,.call ⟨.builtin .append,#[x,y],#[t,cg]⟩,a1,a6,a7,aW⟩ am an C:=
 O.ap (n:=n) (am:=am) (an:=an) (dst:=dst) (k:=l.length) (m:=m.length) (d:=l.flatMap f) (Ye:=m.flatMap f) (aX:=aX) ad q o j (λg d=>by have:=h g d;rwa[bM]at this) v
  (λdE=>by have:=z dE;simp only[e1,bM,lP]at this;exact this) s b Yc Yf i Yg Ye Yi Yh
def O.SC(ad:bV P){t cg E fN:Nat}{x y:bd}{v u:aj}{l m:ab bl}{k:ab aj}{aX:aj->ab ax}(q:aO am x=some v)(o:aO am y=some u)(d:∀s,az an (rows f v E aG l) (rows f s E aG (l++m)) (aX s))(g:ce P an f aG cg u m)(z:∀s,s.oneCell'=true->(s=.slice none 0 0↔v=.slice none 0 0/\m.length=0)->C ((dst,s)::am) (aX s))(i:Nat.blt dst n.n=true:=by exact rfl)(j:bA ad.eO t=some E:=by exact rfl)(h:bA ad.gp E=some aG:=by exact rfl)(Yc:bA ad.kD E=some fN:=by exact rfl)(b:hT ad.ia E=some k:=by exact rfl)(Ye:k.length=aG:=by exact rfl)(v:Nat.blt 0 aG=true:=by exact rfl)(Yf:(l.length+m.length)*fN<=140737488355328:=by(first|omega|(simp only[bM,dp,fY,ev];omega)))(Yg:l.length+m.length<=9223372036854775807:=by(first|omega|(simp only[bM,dp,fY,ev];omega))):aw P r W D n ⟨some dst,.call ⟨.builtin .append,#[x,y],#[t,cg]⟩,a1,a6,a7,aW⟩ am an C:=
 O.Wn (n:=n) (am:=am) (an:=an) (dst:=dst) (k:=l.length) (m:=m.length) (d:=l.flatMap f) (Ye:=m.flatMap f) (aX:=aX) ad q o g z
  (λs=>by have:=d s;simp only[e1,bM,lP]at this;exact this) i j h Yc b Ye v Yg Yf
def V.SP(ad:bV P){t e E:aZ}{x:bd}{v:aj}{l:ab bl}(q:aO am x=some v:=by exact rfl)(o:rows f v E aG l∈an:=by(repeat first|exact aE _|apply aF))(j:bA ad.eO t=some e:=by exact rfl):aK P n am an ⟨some dst,.call ⟨.builtin .len,#[x],#[t]⟩,a1,a6,a7,aW⟩ (I (l.length:Int)):=by rw[e1]at o;exact aK.V3 q o (ad.RM j)
def te{aG:Nat}(y:∀x,(f x).length=aG):∀(l:ab bl) (k:Nat) (a:bl),l[k]?=some a->iJ (k*aG) aG (l.flatMap f)=f a
 |[],_,_,h=>XU
 |x::l,0,a,h=>by
  simp only[oZ,er]at h;subst h;show((f x++l.flatMap f).drop (0*aG)).take aG=f x
  rw[pN,yB,nB (by rw[y];omega),j4 (by rw[y];omega)]
 |x::l,k+1,a,h=>by
  have q:=te y l k a XV;rw[<-q];have e:(k+1)*aG=(f x).length+k*aG:=by rw[y x,eZ];omega
  simp only[iJ,fG,e];rw[<-pO];simp
def V.E'(ad:bV P){T E b k:Nat}{Yc t:Nat}{x:bd}{l:ab bl}{a:bl}(o:aO am x=some (au b (0+k*aG)))(z:rows f (.slice (some ⟨b,0,none⟩) Yc t) E aG l∈an)(e0:∀x,(f x).length=aG)(y:l[k]?=some a)(q:bA ad.agg T=some aG:=by exact rfl):aK P n am an ⟨some dst,.load T x,a1,a6,a7,aW⟩ (A (f a)):=λgq w s h=>by
 obtain⟨d,hu,ef,ao⟩:=sT (ad.Sd q);have Ye:=h _ z;rw[e1,hz]at Ye;simp only[execOp,s.eval o,Instr.loadAt,Instr.sureAddr,ct,ed,dv];rw[yn w b (0+k*aG) T (f a) d (λj v i=>?_) hu ef (by rw[ao,e0])]
 .rfl
 .have:=Ye.cells (g:=b) rfl (k*aG+j) v (by
   rw[<-te e0 l k a y]at i;simp only[iJ,kC,lL]at i;split at i
   .exact i
   .cases i)
  rw[qI]at this;simpa[oX]using this
def V.RZ(ad:bV P){T u E b k:Nat}{g q:Nat}{x:bd}{v:aj}{l:ab bl}{a:bl}(o:aO am x=some (au b (0+k*1)))(t:rows f (.slice (some ⟨b,0,none⟩) g q) E 1 l∈an)(y:∀x,(f x).length=1)(d:l[k]?=some a)(z:(f a)[0]?=some v:=by exact rfl)(q:bA ad.one T=some u:=by exact rfl):aK P n am an ⟨some dst,.load T x,a1,a6,a7,aW⟩ v:=λi w g j=>by
 have i:=j _ t;rw[e1,hz]at i;simp only[execOp,g.eval o,Instr.loadAt,Instr.sureAddr,ct,ed,dv];have t:=te y l k a d;have:=i.cells (g:=b) rfl (k*1) v (by have o:=z;rw[<-t]at o;simpa[iJ,kC,lL]using o)
 rw[qI]at this;rw[ws (ad.V' q) (by simpa using this)];rfl
def V.UM(ad:bV P){t u E e a:Nat}{x:bd}{v:aj}{l:ab aP}(q:aO am x=some v:=by exact rfl)(o:rows c0 v E 1 l∈an:=by(repeat first|exact aE _|apply aF))(j:bA ad.strs u=some a:=by exact rfl)(g:bA ad.eO t=some e:=by exact rfl)(d:k9 ad.ints e=some .u8:=by exact rfl):aK P n am an ⟨some dst,.convert t u x,a1,a6,a7,aW⟩ (S l):=by rw[e1,wL]at o;exact V.UL ad q o j g d
def hc{v:aj}{E:Nat}{l:ab bl}(t:rows f v E aG l∈an):∀w,H W D an w->(v=.slice none 0 0/\l=[])\/∃g q,v=.slice (some ⟨g,0,none⟩) l.length q/\l.length<=q/\q<=maxLen:=λw y=>by
 rw[e1]at t;rcases aeX t w y with⟨q,o,_⟩|h
 .exact .inl ⟨q,kk o⟩
 .exact .inr h
def H.Td{w:aY}(f:bl->ab aj)(E aG:Nat)(h:H W D an w):H W D (rows f (.slice none 0 0) E aG []::an) w:=by rw[e1];exact h.Wo E aG
def ah.RK{c:Code}(f:bl->ab aj)(E aG:Nat)(h:ah P r W D n Q c am (rows f (.slice none 0 0) E aG []::an)):ah P r W D n Q c am an:=λa w d j=>h a w d (j.Td f E aG)
def ah.hC{c:Code}{aX:ab ax}(q:∀w,H W D an w->H W D aX w)(h:ah P r W D n Q c am aX):ah P r W D n Q c am an:=λa w d j=>h a w d (q w j)
def Out.hC{e:dj}{aX:ab ax}(q:∀w,H W D an w->H W D aX w)(h:Out W D n Q e am aX):Out W D n Q e am an:=λa w d j=>h a w d (q w j)
def V.Sk(ad:bV P){t u:aZ}{x:bd}{y g:IntKind}{p q:Int}(o:aO am x=some (.int k p))(j:k9 ad.ints u=some y)(bb:y.wrap p=q)(d:k9 ad.ints t=some g:=by exact rfl):aK P n am an ⟨some dst,.convert t u x,a1,a6,a7,aW⟩ (.int y q):=by have:=aK.Uu (n:=n) (am:=am) (an:=an) (dst:=dst) (a1:=a1) (a6:=a6) (a7:=a7) (aW:=aW) ad o j d;rwa[bb]at this
def V.S3{K:BinOp}{t z:aZ}{x y:bd}{p q v:Int}(o:aO am x=some (.int k p))(d:aO am y=some (.int k q))(g:j7 K k p q=some v):aK P n am an ⟨some dst,.binOp K t x y z,a1,a6,a7,aW⟩ (.int k v):=V.bit rfl o d g
def V.SV{t z:aZ}{x y:bd}{b:IntKind}{p q u:Int}(o:aO am x=some (.int k p))(d:aO am y=some (.int b q))(g:p.fdiv (2^(Min.min q.toNat k.bits))=u)(j:0<=q:=by omega):aK P n am an ⟨some dst,.binOp .shr t x y z,a1,a6,a7,aW⟩ (.int k u):=V.shr o d j g
def V.Wp{t z:aZ}{x y:bd}{b:IntKind}{p q u:Int}(o:aO am x=some (.int k p))(d:aO am y=some (.int b q))(g:k.wrap (p*2^(Min.min q.toNat k.bits))=u)(j:0<=q:=by omega):aK P n am an ⟨some dst,.binOp .shl t x y z,a1,a6,a7,aW⟩ (.int k u):=V.shl o d j g
def V.Wq{K:BinOp}{t z:aZ}{x y:bd}{p q u:Int}(o:aO am x=some (.int k p))(d:aO am y=some (.int k q))(g:wF K k p q=some u):aK P n am an ⟨some dst,.binOp K t x y z,a1,a6,a7,aW⟩ (.int k u):=V.UC o d g
end
end Go.ay
namespace Go.ay
def getD_some{bl:Type}[Inhabited bl]{l:ab bl}{k:Nat}(q:k<l.length):l[k]?=some (l.getD k default):=ZH
end Go.ay
namespace Go.ay
open Go
variable{aG:Nat}{aW:aQ (Nat×Bool)}{C:bv->ab ax->Prop}{k:ab (Nat×bd)}{a7:Array Edge}
section
variable{P:bF}{r:aQ Nat}{W:aY}{D:ab Nat}{n:c7}{Q:cE}{am J:bv}{an aX:ab ax}{F:Array bS}{Z:ab bS}
variable{dst:Nat}{K:Op}{a1:aZ}{a6:String}
variable{bl:Type}{f:bl->ab aj}
def Rd.nil{e:ax}{y:aQ Addr}{b off:Nat}:Rd e y 0 b off aG []:=⟨rfl,cw _,λh=>absurd h ac,λ_ _ i x q=>ZR⟩
def ce.UN(ad:bV P){e:ax}{cg s o b off:Nat}{i:aQ Addr}{l:ab bl}(d:Rd e i l.length b off aG (l.map f))(t:e∈an)(q:iv f)(y:∀x,(f x).length=aG)(v:bA ad.eO cg=some s:=by exact rfl):ce P an f aG cg (.slice i l.length o) l:=by
 cases l with
 |cons x l=>exact ce.rd ad d t q y XE v
 |nil=>
  intro w _;cases i with
  |none=>exact Src.ofNil w (fM (ad.RM v)) o
  |some a=>exact tc w (fM (ad.RM v)) a 0 o [] XE (λj u h=>XU) (λu h=>XT)
def O.N'(ad:bV P){t E:aZ}{z:Nat}{o:ab (Nat×aj)}{g cs:ab aj}(f:bl->ab aj)(l:ab bl)(q:ay.lN am k=some o)(v:bx aG 0 o cs)(x:l.flatMap f=cs)(Yc:l.length=z)(s:∀b,C ((dst,.slice (some ⟨b,0,none⟩) z z)::am) (rows f (.slice (some ⟨b,0,none⟩) z z) E aG l::an))(i:Nat.blt dst n.n=true:=by exact rfl)(j:bA ad.eO t=some E:=by exact rfl)(d:bA ad.gp E=some aG:=by exact rfl)(y:hT ad.ia E=some g:=by exact rfl)(g:o.length=z:=by exact rfl)(o:Nat.ble (z*aG) 1000=true:=by exact rfl)(h:Nat.ble 1 aG=true:=by exact rfl):aw P r W D n ⟨some dst,.buildSlice t z k.toArray,a1,a6,a7,aW⟩ am an C:=by refine aw.Uy ad i j d y q v g o h λb=>?_;have:=s b;rw[e1,x,Yc]at this;exact this
def rR(o i:Nat)(c x:ab aj)(h:o<=c.length):(dD o x c)[i]?=if i<o then c[i]? else if i<o+x.length then x[i-o]? else c[i]?:=by
 simp only[dD,cd];have y:(c.take o).length=o:=X4
 by_cases q:i<o
 .rw[aT q,pR ac,kC,aT q]
 .rw[aN q,iu ac,y];by_cases q:i<o+x.length
  .rw[aT q,pR ac]
  .rw[aN q,iu ac,lL];congr 1;omega
def afF(o m:Nat)(c x:ab aj)(h:o+x.length<=m)(q:m<=c.length):(dD o x c).take m=dD o x (c.take m):=by
 apply mX;intro i;rw[kC,rR o i c x ac,rR o i (c.take m) x X4];simp only[kC];by_cases ao:i<m
 .simp[ao]
 .rw[aN ao,aN ac,aN ac,aN ao]
def yQ(o:Nat)(c x:ab aj)(h:o+x.length<=c.length):(dD o x c).length=c.length:=by simp[dD];omega
def H.TY{w:aY}{g z k E off:Nat}{t x:ab aj}(h:H W D an w)(u:az an (row (.slice (some ⟨g,0,none⟩) k z) E aG k t) (row (.slice (some ⟨g,0,none⟩) k z) E aG k (dD off x t)) aX)(o:off+x.length<=t.length)(q:x.all (·.oneCell')=true):∃eY,(storeCells ⟨g,off,none⟩ x).run P w=.ok () eY/\H W D aX eY:=by
 obtain⟨l,rP,v,_⟩:=u.split;have Yg:=h.mem (e:=row (.slice (some ⟨g,0,none⟩) k z) E aG k t) (by rw[v];simp);rw[hz]at Yg;rcases Yg.2 with⟨s,_⟩|⟨tf,Yh,Ye,s,j,i,Ym,Yi,Yk,Yl⟩
 .cases s
 .simp only[pQ,er,uS]at s;obtain⟨⟨rfl,_,_⟩,_,rfl⟩:=s;have Yn:=Yg.1;have Yj:Ye.toList.length=z*aG:=by simpa using Yk
  have Yo:k*aG<=z*aG:=jn _ Ym;have Yf:=rL P g off E x 0 Ye w i (by simp only[gJ];omega) (λu hu=>gX.1 q u hu);simp only[gJ]at Yf;refine⟨_,Yf,h.mN u ⟨λe s=>?_,IY,λy d=>?_,λb Yc c6=>uF w g b _ (λe=>c6 (by simp[hl,Value.ownBlock,e])),XE,rfl,rfl,rfl,cl _⟩⟩
  .obtain rfl:e=_:=by simpa using s
   rw[hz];refine⟨by rw[yQ _ _ _ o];exact Yn,.inr ⟨g,z,_,rfl,j,pH w g Ye _ E _ i,Ym,Yi,?_,?_⟩⟩
   .have:=yQ off Ye.toList x ac;simp only[dD]at this;simpa[Yk]using this
   .have:=afF off (k*aG) Ye.toList x ac ac;rw[Yl]at this;simpa[dD]using this
  .left;have:y=g:=by simpa[bg,hl,Value.ownBlock]using d
   subst this;simp[hl,Value.ownBlock]
def uT{aG:Nat}(y:∀x,(f x).length=aG):∀(l:ab bl) (k:Nat) (a:bl),k<l.length->dD (k*aG) (f a) (l.flatMap f)=(l.set k a).flatMap f
 |[],_,_,h=>XU
 |x::l,0,a,_=>by have b:=y x;have q:=y a;simp only[dD,pN,uU,gi,hm,fG,Cw,q];rw[uV,qN ac,b];simp
 |x::l,k+1,a,h=>by
  have q:=uT y l k a XV;have b:=y x;have e:(k+1)*aG=aG+k*aG:=by rw[eZ];omega
  simp only[fG,List.set_cons_succ,<-q];simp only[dD,e];rw[qO,uV,b];have y:(f x).take (aG+k*aG)=f x:=j4 ac;have q:(f x).drop (aG+k*aG+(f a).length)=[]:=qN ac;rw[y,q,show aG+k*aG-aG=k*aG by omega,show aG+k*aG+(f a).length-aG=k*aG+(f a).length by omega];simp
def jF(y:∀x,(f x).length=aG)(l:ab bl):(l.flatMap f).length=l.length*aG:=by
 induction l with
 |nil=>simp
 |cons x l q=>rw[fG,bM,q,y,dp,eZ];omega
def O.F'(ad:bV P){T E g k Yc z:Nat}{x y:bd}{l:ab bl}{a:bl}(o:aO am x=some (au g (0+k*aG)))(t:aO am y=some (A (f a)))(j:az an (rows f (.slice (some ⟨g,0,none⟩) Yc z) E aG l) (rows f (.slice (some ⟨g,0,none⟩) Yc z) E aG (l.set k a)) aX)(b:l.length=Yc)(v:k<l.length)(e0:∀x,(f x).length=aG)(q:iv f)(ee:C am aX)(d:bA ad.agg T=some aG:=by exact rfl):aw P r W D n ⟨none,.store T x y,a1,a6,a7,aW⟩ am an C:=λK Q h gq w s i=>by
 subst b;have y:az an (row (.slice (some ⟨g,0,none⟩) l.length z) E aG l.length (l.flatMap f)) (row (.slice (some ⟨g,0,none⟩) l.length z) E aG l.length (dD (k*aG) (f a) (l.flatMap f))) aX:=by have:=j;simp only[e1,b9]at this;rwa[uT e0 l k a v]
 have b:(k+1)*aG<=l.length*aG:=jn aG v;rw[eZ]at b;obtain⟨eY,z,j⟩:=H.TY (P:=P) i y (by rw[jF e0,e0];omega) (q a);refine rM rfl ?_ (h _ _ ee _ _ (s.SB undef) j);have q:(P.info? T).map (·.size)=some aG:=ad.Us d;obtain⟨i,ao,d⟩:=oW.1 q;simp only[execOp,s.eval o,s.eval t,Instr.storeAt,Instr.sureAddr,ct,ed,dv];have h:(storeVar T ⟨g,0+k*aG,none⟩ (A (f a))).run P w=.ok () eY:=by rw[hm];simp[storeVar,sizeOf,typeInfo,ao,Value.cells,e0,d,z]
 rw[h];rfl
def O.S4(ad:bV P){T u E g k Yc d:Nat}{x y:bd}{l:ab bl}{a:bl}{v:aj}(q:aO am x=some (au g (0+k*1)))(o:aO am y=some v)(ej:f a=[v])(Ye:v.oneCell'=true)(z:az an (rows f (.slice (some ⟨g,0,none⟩) Yc d) E 1 l) (rows f (.slice (some ⟨g,0,none⟩) Yc d) E 1 (l.set k a)) aX)(s:l.length=Yc)(b:k<l.length)(e0:∀x,(f x).length=1)(ee:C am aX)(t:bA ad.one T=some u:=by exact rfl):aw P r W D n ⟨none,.store T x y,a1,a6,a7,aW⟩ am an C:=λK Q cu gq w cT cM=>by
 subst s;have Yf:az an (row (.slice (some ⟨g,0,none⟩) l.length d) E 1 l.length (l.flatMap f)) (row (.slice (some ⟨g,0,none⟩) l.length d) E 1 l.length (dD (k*1) [v] (l.flatMap f))) aX:=by have:=z;simp only[e1,b9]at this;rwa[<-ej,uT e0 l k a b]
 obtain⟨eY,h,Yg⟩:=H.TY (P:=P) cM Yf (by rw[jF e0];simp;omega) (by simp[Ye]);refine rM rfl ?_ (cu _ _ ee _ _ (cT.SB undef) Yg);have j:(P.info? T).map (·.size)=some 1:=ad.Ty t;obtain⟨i,ao,Yh⟩:=oW.1 j;have Yi:v.cells=#[v]:=by cases v<;>first|rfl|(cases Ye;done)
 simp only[execOp,cT.eval q,cT.eval o,Instr.storeAt,Instr.sureAddr,ct,ed,dv];have x:(storeVar T ⟨g,0+k*1,none⟩ v).run P w=.ok () eY:=by
  rw[hm];have y:(storeCells ⟨g,k*1,none⟩ v.cells.toList).run P w=.ok () eY:=by rw[Yi];exact h
  simp[storeVar,sizeOf,typeInfo,ao,Yh,Yi]at y⊢;exact y
 rw[x];rfl
end
end Go.ay
namespace Go.ay
variable{bl:Type}{k:Nat}{q:ab bl}
def iM{o:Type}{f:bl->o}{x:bl}(h:q[k]?=some x):(q.map f)[k]?=some (f x):=by simp[h]
def kl{x:bl}(h:q[k]?=some x):q.take (k+1)=q.take k++[x]:=by rw[mY,h];rfl
def b8(h:k<q.length):∃x,q[k]?=some x:=⟨_,gM h⟩
end Go.ay
namespace Go.ay
open Go
@[irreducible] def aI(bc:List ax):ax where
 fB:=bg bc
 holds w:=(∀e,e∈bc->e.holds w)/\(bg bc).Nodup
 loc w h9 h cB:=⟨λe ea=>e.loc w h9 (λb bY=>h b (uD.2 ⟨e,ea,bY⟩)) (cB.1 e ea),cB.2⟩
 lt w h x cr:=by obtain⟨e,ea,bY⟩:=uD.1 cr;exact e.lt w (h.1 e ea) x bY
def tg(bc):(aI bc).fB=bg bc:=by unfold aI;rfl
def pT(bc w):(aI bc).holds w↔(∀e,e∈bc->e.holds w)/\(bg bc).Nodup:=by unfold aI;rfl
section
variable{P:bF}{r:aQ Nat}{W:aY}{D:ab Nat}{n:c7}{Q:cE}{am J:bv}{an aX bc:ab ax}{F:Array bS}{Z:ab bS}{w:aY}
variable{dst:Nat}{K:Op}{a1:aZ}{a6:String}{a7:Array Edge}{aW:aQ (Nat×Bool)}{C:bv->ab ax->Prop}
def H.R7(h:H W D (aI bc::an) w):H W D (bc++an) w:=by
 have b:bg (aI bc::an)=bg (bc++an):=by rw[hS,iI,tg]
 refine⟨λe d=>?_,b▸h.nodup,b▸h.own,h.cx,h.size,h.os,h.tape,h.output,h.nv⟩;rcases eN.1 d with d|d
 .have:=h.mem (e:=aI bc) XE;rw[pT]at this;exact this.1 e d
 .exact h.mem XY
def H.toBag(h:H W D (bc++an) w):H W D (ay.aI bc::an) w:=by
 have b:bg (ay.aI bc::an)=bg (bc++an):=by rw[hS,iI,tg]
 refine⟨λe d=>?_,b▸h.nodup,b▸h.own,h.cx,h.size,h.os,h.tape,h.output,h.nv⟩;rcases dq.1 d with rfl|d
 .rw[pT];refine⟨λe d=>h.mem XY,?_⟩;have:=h.nodup;exact Mo
 .exact h.mem XY
def gI.R7(h:gI (ay.aI bc::an) w):gI (bc++an) w:=(h.start.R7).ep
def gI.toBag(h:gI (bc++an) w):gI (ay.aI bc::an) w:=(h.start.toBag).ep
def qP:bg (ay.aI bc::an)=bg (bc++an):=by rw[hS,iI,tg]
def ah.R7{c:Code}(h:ah P r W D n Q c am (bc++an)):ah P r W D n Q c am (ay.aI bc::an):=λa w d j=>h a w d j.R7
def jG(P:bF)(l:Nat)(args:ab aj)(an:ab ax)(R:aj->ab ax->Prop):Prop:=
 ∀w,gI an w->∃fn q assign body,(Instr.yield l args.toArray).run P w=.ok (.round l fn q assign body) w/\
  RoundIn Fence.wide 0 P l fn q assign body w λe s=>∃v aX,e=.returned v/\R v aX/\H w (bg an) aX s
def HE{o:bS}{a:Act}{w s:aY}{K:Act->aY->Prop}{Q:cE}{l:Nat}{f:eg}{j:Array aj}{assign body:Code}(y:jl o.op=true)(g:(execOp a.eval o).run P w=.ok (.round l f j assign body) s) (t:RoundIn Fence.wide 0 P l f j assign body s λe b=>∃v,e=.returned v/\K (a.put o.dst v) b):lM P r o a w K Q:=by unfold lM;rw[sW y,g];refine⟨λh=>XT,?_⟩;have q:RoundIn (k8 r) 0 P l f j assign body s λe b=>∃v,e=.returned v/\K (a.put o.dst v) b:=t;exact q.mono λe b ⟨v,z,d⟩=>by subst z;exact d
def aw.Sx{l:Nat}{x:bd}{t:ab bd}{Yj:Array aZ}{args:ab aj}{Yi Yc:ab ax}{R:aj->ab ax->Prop}(g:aO am x=some (.func (.yield l) #[] #[]))(o:ay.ha am t=some args)(k:jG P l args Yi R)(Yh:ak an Yi Yc) (ee:∀v aX,R v aX->∃Ye,me aX Yc Ye/\C ((dst,v)::am) Ye) (s:Nat.blt dst n.n=true:=by exact rfl):aw P r W D n ⟨some dst,.call ⟨.value x,t.toArray,Yj⟩,a1,a6,a7,aW⟩ am an C:=λK Q i a w z y=>by
 have Yf:=y.perm Yh.perm;have Yl:t.toArray.map a.eval=args.toArray:=by rw[<-z.ha o];simp
 have b:gI Yi w:=⟨λe j=>Yf.fm e (by simp[j]),by have:=Yf.nodup;rw[iI,gV]at this;exact this.1⟩
 obtain⟨fn,Yg,assign,body,q,d⟩:=k w b;refine HE (s:=w) rfl ?_ (d.mono ?_)
 .simp only[execOp,resolve,ct,Yl,z.eval g];simp[Deferred.ofValue,invoke,q]
 .rintro e h⟨v,aX,rfl,eU,Yk⟩;obtain⟨Ye,q,h⟩:=ee v aX eU;refine⟨_,rfl,i _ _ h _ _ (z.put s v) ?_⟩;have:=Yf.call Yk;rwa[q.eq]at this
def mf:dj->aQ Code
 |.ret=>some .ret
 |.exit id=>some (.exit id)
 |_=>none
def eL:dj->Bool
 |.normal=>true
 |_=>false
def fv:dj->Bool
 |.normal|.ret|.exit _=>true
 |_=>false
@[irreducible] def bZ(l:Nat)(rec:LoopState->Option Code->Loop)(e:Exit):ax:=bG l (.loop (rec (if eL e then .ready else .done) (mf e)))
@[irreducible] def iN(l:Nat)(rec:LoopState->Option Code->Loop):ax:=bG l (.loop (rec .busy none))
def th(l rec e):bZ l rec e=bG l (.loop (rec (if eL e then .ready else .done) (mf e))):=by unfold bZ;rfl
def yR(l rec):iN l rec=bG l (.loop (rec .busy none)):=by unfold iN;rfl
def pU(P:bF)(l:Nat)(body:Code)(Q:cE)(a:Act)(w:aY):Prop:=
 ∃q,(Instr.beginRound l).run P w=.ok () q/\body.wpIn (k8 (some l)) 0 P Q a q
def qQ:cE:=λ_ _ _=>False
def H.UO{l:Nat}{o i:Obj}(h:H W D an w)(u:az an (bG l o) (bG l i) aX):H W D aX (w.putObj l i):=by
 have d:bG l o∈an:=by obtain⟨p,q,rfl,_⟩:=u.split;simp
 have eJ:=h.mem d;rw[qv]at eJ;refine h.mN u ⟨λe z=>?_,by simp[bg,rG],λx t=>?_,λk g v=>?_,XE,rfl,rfl,rfl,cl _⟩
 .obtain rfl:e=_:=by simpa using z
  rw[qv];exact qR (ny.1 eJ).1
 .left;simpa[bg,rG]using t
 .exact s3 (by simpa[rG]using v)
structure o1(rec:LoopState->aQ Code->Loop):Prop where
 state:∀s j,(rec s j).state=s
 pending:∀s j,(rec s j).pending=j
 Cx:∀s j cn,{rec s j with state:=cn}=rec cn j
 mN:∀s j cn yS,{rec s j with state:=cn,pending:=yS}=rec cn yS
def Out.Wr{l:Nat}{rec:LoopState->aQ Code->Loop}{body:Code}{v:cE}(t:o1 rec)(h:ah P (some l) W D n Q body am aX)(u:az an (bZ l rec .normal) (iN l rec) aX:=by(repeat first|exact az.here _ _ _|apply az.there)):Out W D n (Exit.then (pU P l body Q) v) .normal am an:=λa w d j=>by
 rw[th,yR]at u;have o:bG l (.loop (rec .ready none))∈an:=by obtain⟨p,q,rfl,_⟩:=u.split;simp[eL,mf]
 have q:=j.mem o;rw[qv]at q;refine⟨_,run_beginRound q (t.state _ _),h a _ d ?_⟩;rw[t.Cx];exact j.UO u
def o2:ab Tmp->ab aj->bv->bv
 |p::aU,v::q,e=>o2 aU q ((p,v)::e)
 |_,_,e=>e
def dc.zip{b:ab Nat}:∀(aU:ab Tmp) (o:ab aj) (am:bv) (d:Array aj),(aU.all λp=>Nat.blt p n.n)=true->aU.length=o.length->dc ⟨n.n,b⟩ am {tmps:=d,defers:=b.map mark}->dc ⟨n.n,b⟩ (o2 aU o am) {tmps:=(aU.zip o).foldl (λt (p,v)=>t.setIfInBounds p v) d,defers:=b.map mark}
 |[],[],am,d,_,_,h=>h
 |p::aU,v::o,am,d,y,q,h=>by simp only[yt,cZ]at y;exact dc.zip aU o _ _ y.2 X3 (h.put y.1 v)
 |[],_::_,_,_,_,q,_=>ZR
 |_::_,[],_,_,_,q,_=>ZR
def HF{e:dj}(h:fv e=true):(mf e).isNone=eL e:=by cases e<;>first|rfl|cases h
def jG.Ws{l fn:Nat}{rec:LoopState->aQ Code->Loop}{Yf:Array aj}{aU:ab Tmp}{assign body:Code}{args:ab aj}{m:Nat}{s:ax}{R:dj->ax->Prop} (z:o1 rec) (dK:∀st j,(rec st j).fn=fn/\(rec st j).tmps=Yf/\(rec st j).params=aU.toArray/\(rec st j).assign=assign/\(rec st j).body=body) (b:dc ⟨m,[]⟩ am {tmps:=Yf,defers:=[]}) (ei:(aU.all λp=>Nat.blt p m)=true) (g:aU.length=args.length) (h:∀(eh:aY) (K:cE),(∀e i,fv e=true->R e i->∀a w,H eh (bg [bZ l rec .normal,s]) [iN l rec,i] w->K e a w)->ah P (some l) eh (bg [bZ l rec .normal,s]) ⟨m,[]⟩ (Exit.then (pU P l body K) qQ) assign (o2 aU args am) [bZ l rec .normal,s]):jG P l args [bZ l rec .normal,s] (λv aX=>∃e i,v=.bool (eL e)/\fv e=true/\R e i/\aX=[bZ l rec e,i]):=λw ep=>by
 have d:=ep.fm (bZ l rec .normal) XE;rw[th,qv]at d;obtain⟨eu,bu,hb,n9,nD⟩:=dK .ready none;have q:=run_yield (P:=P) (args:=args.toArray) d (by simp only[eL,mf,hA];rw[hb];simp[g]);simp only[eL,mf,hA]at q;rw[eu,bu,hb,n9,nD]at q;refine⟨_,_,_,_,q,?_⟩;have e0:=dc.zip (n:=⟨m,[]⟩) (b:=[]) aU args am Yf ei g b;have Yc:=h w (λe a h9=>fv e=true/\∃i,R e i/\H w (bg [bZ l rec .normal,s]) [iN l rec,i] h9)
  (λe i cB eU a h9 k=>⟨cB,i,eU,k⟩) _ w e0 ep.start
 refine roundIn_of_wpIn trivial ?_;have fS:((aU.toArray.zip args.toArray).foldl (λYf (x:Tmp×aj)=>match x with|(t,a)=>Yf.setIfInBounds t a) Yf)=(aU.zip args).foldl (λt (p,v)=>t.setIfInBounds p v) Yf:=by rw[<-Array.foldl_toList];simp
 rw[fS];refine sV Yc ?_;intro e rS eY bb;cases e with
 |normal=>
  obtain⟨rT,o,Yj⟩:=bb;refine⟨rT,o,sV Yj ?_⟩;intro e qS pV ⟨cB,i,eU,k⟩;have Yg:=k.mem (e:=iN l rec) XE;rw[yR,qv]at Yg;have Yi:∀j:aQ Code,(Instr.endRound l j).run P pV=.ok (.bool j.isNone) (pV.putObj l (.loop (rec (if j.isNone then .ready else .done) j))):=λj=>by have:=run_endRound (P:=P) j Yg;rw[z.mN]at this;exact this
  have Ye:H w (bg [bZ l rec .normal,s]) [bZ l rec e,i] (pV.putObj l (.loop (rec (if(mf e).isNone then .ready else .done) (mf e)))):=by rw[yR]at k;rw[th l rec e,<-HF cB];exact k.UO (az.here _ _ _)
  have Yh:∀v,v=Value.bool (eL e)->∃dE aX,Ending.returned v=.returned dE/\(∃e i,dE=.bool (eL e)/\fv e=true/\R e i/\aX=[bZ l rec e,i])/\H w (bg [bZ l rec .normal,s]) aX (pV.putObj l (.loop (rec (if(mf e).isNone then .ready else .done) (mf e)))):=
   λv y=>⟨v,_,rfl,⟨e,i,y,cB,eU,rfl⟩,Ye⟩
  cases e with
  |normal=>exact⟨_,_,Yi none,Yh _ rfl⟩
  |ret=>exact⟨_,_,Yi (some .ret),Yh _ rfl⟩
  |exit id=>exact⟨_,_,Yi (some (.exit id)),Yh _ rfl⟩
  |_=>cases cB
 |_=>exact bb.elim
def H.UP(h:H W D an w)(o:Obj):H W D (bG w.heap.size o::an) (w.alloc o):=by
 have:H w [] [bG w.heap.size o] (w.alloc o):=by
  refine⟨λe d=>?_,by simp[bg,rG],λb q=>?_,λb q _=>rI _ _ q,XE,rfl,rfl,rfl,cl _⟩
  .obtain rfl:e=_:=by simpa using d
   rw[qv];exact Cy _ _
  .obtain rfl:b=w.heap.size:=by simpa[bg,rG]using q
   exact .inr (cl _)
 exact h.new this
def Code.iw{e:dj}(y:fv e=true){a:Act}{w:aY}(h:Q e a w):match mf e with|none=>Q .normal a w|some c=>c.wpIn (k8 r) 0 P Q a w:=by
 cases e with
 |normal=>exact h
 |ret=>exact wpIn_ret h
 |exit id=>exact wpIn_exit h
 |_=>cases y
def ah.Te{g:bd}{aU:ab Tmp}{assign body:Code}{s:eg}{o:ab aj}{km:Type}{d t:ab ax} (A:km->ab aj) (nE:ax) (S:km->ax) (T:km->dj->ax->Prop) (R:dj->ab ax->Prop) (bU:aO am g=some (.func (.func s) #[] o.toArray)) (Yc:jE P s=true) (Yg:ak an (nE::d) t) (dO:∀i,aU.length=(A i).length) (ei:(aU.all λp=>Nat.blt p n.n)=true) (round:∀(i:km) (l:Nat) (rec:LoopState->aQ Code->Loop),o1 rec->∀(eh:aY) (K:cE),(∀e y,fv e=true->T i e y->∀a w,H eh (bg [bZ l rec .normal,S i]) [iN l rec,y] w->K e a w)->ah P (some l) eh (bg [bZ l rec .normal,S i]) ⟨n.n,[]⟩ (Exit.then (pU P l body K) qQ) assign (o2 aU (A i) am) [bZ l rec .normal,S i]) (Yi:∀(l:Nat) (rec:LoopState->aQ Code->Loop),(∀i,jG P l (A i) [bZ l rec .normal,S i] (λv aX=>∃e y,v=.bool (eL e)/\fv e=true/\T i e y/\aX=[bZ l rec e,y]))->ar P s (.func (.yield l) #[] #[]::o) (bZ l rec .normal::nE::d) (λ_ aX=>∃e q,fv e=true/\R e q/\aX=bZ l rec e::q)) (Yl:∀(b:Nat) (e:dj) (q:ab ax),fv e=true->R e q->Out W D ⟨n.n,b::n.ds⟩ Q e am (fC b::(q++t))):ah P none W D n Q (.rangeFunc g aU.toArray assign body) am an:=λa w cT cM=>by
 have Yh:=((cM.Se Yg).UP (.deferred (some [])))
 refine wpIn_rangeFunc λfn _=>?_;obtain⟨rec,z⟩:∃rec:LoopState->aQ Code->Loop,rec=λst afx=>{state:=st,pending:=afx,fn,tmps:=a.tmps,params:=aU.toArray,assign,body,defers:=w.heap.size}:=⟨_,rfl⟩
 have e6:o1 rec:=by subst z;exact⟨λ_ _=>rfl,λ_ _=>rfl,λ_ _ _=>rfl,λ_ _ _ _=>rfl⟩
 have Yk:=Yh.UP (.loop (rec .ready none));rw[World.size_alloc]at Yk;have Yj:a.eval g=.func (.func s) #[] o.toArray:=cT.eval bU;have Ym:∀(args:Array aj) (w:aY),(callFunc s args).run P w=.ok (.enter s args) w:=λargs w=>uJ Yc args w;refine⟨w.heap.size+1,[mark w.heap.size],(w.alloc (.deferred (some []))).alloc (.loop (rec .ready none)),{target:=.fn (.func s) o.toArray,args:=#[.func (.yield (w.heap.size+1)) #[] #[]]},(w.alloc (.deferred (some []))).alloc (.loop (rec .ready none)),s,
  #[.func (.yield (w.heap.size+1)) #[] #[]]++o.toArray,(w.alloc (.deferred (some []))).alloc (.loop (rec .ready none)),?_,?_,?_,?_,λh=>XT,?_⟩
 .subst z;exact run_enterLoop_outer _ _ _ _ _
 .simp only[resolve,Yj];simp[Deferred.ofValue,Act.eval]
 .intro aeK _;trivial
 .simp[invoke,Ym]
 .have Yn:dc ⟨n.n,[]⟩ am {tmps:=a.tmps,defers:=[]}:=⟨cT.size,rfl,cT.get⟩
  have e7:∀i,jG P (w.heap.size+1) (A i) [bZ (w.heap.size+1) rec .normal,S i] (λv aX=>∃e y,v=.bool (eL e)/\fv e=true/\T i e y/\aX=[bZ (w.heap.size+1) rec e,y]):=λi=>
   jG.Ws (fn:=fn) (Yf:=a.tmps) (aU:=aU) (assign:=assign) (body:=body) e6 (λst j=>by subst z;exact⟨rfl,rfl,rfl,rfl,rfl⟩) Yn ei (dO i) (λeh K cu=>round i _ rec e6 eh K cu)
  have k:=Yi (w.heap.size+1) rec e7;have eu:bZ (w.heap.size+1) rec .normal=bG (w.heap.size+1) (.loop (rec .ready none)):=by rw[th];rfl
  have x:H W D ((bZ (w.heap.size+1) rec .normal::nE::d)++(fC w.heap.size::t)) ((w.alloc (.deferred (some []))).alloc (.loop (rec .ready none))):=by rw[eu,fC];refine Yk.perm ?_;simp only[kn];refine qK _ ?_;have:=(mO (a:=bG w.heap.size (.deferred (some []))) (l₁:=nE::d) (l₂:=t)).symm;simpa using this
  have ep:gI (bZ (w.heap.size+1) rec .normal::nE::d) ((w.alloc (.deferred (some []))).alloc (.loop (rec .ready none))):=by refine⟨λe ea=>x.fm e (by simp only[eN];exact .inl ea),?_⟩;have:=x.nodup;exact Mo
  have Yf:=k _ ep;have Ye:=(callsIn_wide (n:=0)).2 Yf;have bu:(#[Value.func (.yield (w.heap.size+1)) #[] #[]]++o.toArray)=(Value.func (.yield (w.heap.size+1)) #[] #[]::o).toArray:=XE
  rw[bu];refine CallsIn.mono (F:=k8 none) (n:=0-1) Ye ?_;rintro e h9⟨v,aX,rfl,⟨e,q,cB,eU,rfl⟩,Yo⟩;have g:=x.call Yo;have z:=g.mem (e:=bZ (w.heap.size+1) rec e) XE;rw[th,qv]at z;have o:=run_endLoop (P:=P) z (by rw[e6.state];split<;>simp);rw[e6.Cx,e6.pending]at o;refine⟨mf e,_,o,?_⟩;have y:dc ⟨n.n,w.heap.size::n.ds⟩ am {a with defers:=[mark w.heap.size]++a.defers}:=⟨cT.size,by simp[cT.defers],cT.get⟩
  have b:H W D (fC w.heap.size::(q++t)) (h9.putObj (w.heap.size+1) (.loop (rec .exhausted (mf e)))):=by
   have o:H W D (bZ (w.heap.size+1) rec e::(q++(fC w.heap.size::t))) h9:=by simpa using g
   have s:=H.Up (e:=bZ (w.heap.size+1) rec e) (.loop (rec .exhausted (mf e))) (by rw[th,rG]) o;refine s.perm ?_;exact mO
  have:=Yl w.heap.size e q cB eU _ _ y b;exact Code.iw cB this
end
end Go.ay
namespace Go.ay
open Go
variable{rec:LoopState->aQ Code->Loop}{args:ab aj}{bl:Type}
section
variable{P:bF}{r:aQ Nat}{W:aY}{D:ab Nat}{n:c7}{Q:cE}{am J:bv}{an aX bc:ab ax}{F:Array bS}{Z:ab bS}{w:aY}
def ar.conv{f:eg}{R q:aj->ab ax->Prop}(h:ar P f args an R)(y:∀w,gI bc w->gI an w)(i:bg bc=bg an)(t:∀v aX,R v aX->∃z,q v z/\∀W D w,H W D aX w->H W D z w):ar P f args bc q:=λw b=>
 (h w (y w b)).mono λ_ _ ⟨v,aX,d,g,j⟩=>by obtain⟨z,q,o⟩:=t v aX g;exact⟨v,z,d,q,by rw[i];exact o _ _ _ j⟩
def jG.conv{l:Nat}{R q:aj->ab ax->Prop}(h:jG P l args an R)(j:∀w,gI bc w->gI an w)(b:bg bc=bg an)(t:∀v aX,R v aX->∃i,q v i/\∀W D w,H W D aX w->H W D i w):jG P l args bc q:=λw y=>by obtain⟨fn,z,assign,body,q,o⟩:=h w (j w y);refine⟨fn,z,assign,body,q,o.mono λe s ⟨v,aX,d,g,j⟩=>?_⟩;obtain⟨i,q,o⟩:=t v aX g;exact⟨v,i,d,q,by rw[b];exact o _ _ _ j⟩
def pW(P:bF)(i:eg)(y:ab aj)(j:ab ax)(L:bl->ab aj)(q:ab bl)(g:ab ax):Prop:=
 ∀(l:Nat) (o:Type) (G X:ab bl->o->Prop) (S:o->ax) (z:o),G [] z->
  (∀pre x d b,q=pre++x::d->G pre b->jG P l (L x) [S b] (λv aX=>∃o t,v=.bool t/\(t=true->G (pre++[x]) o)/\(t=false->X (pre++[x]) o)/\aX=[S o]))->
  ar P i (.func (.yield l) #[] #[]::y) (S z::j) (λ_ aX=>∃o,(G q o\/∃pre,pre<+:q/\X pre o)/\aX=S o::g)
def Way{o:Type}(G:ab bl->o->Prop)(X:dj->ab bl->o->Prop)(pre:ab bl)(e:dj)(b:o):Prop:=
 match e with
 |.normal=>G pre b
 |e=>X e pre b
def Out.rd{o:Type}{l:Nat}{T:dj->o->Prop}{S:o->ab ax}{K:cE}{e:dj}{d:ab ax}(y:∀e b,fv e=true->T e b->∀a w,H W D (iN l rec::S b) w->K e a w)(b:o)(t:T e b)(q:ak an (iN l rec::S b) d:=by(repeat(first|exact ak.nil|exact al.here|apply ak.cons|apply al.there)))(i:fv e=true:=by exact rfl):Out W D n K e am an:=λa w _ j=>y e b i t a w (j.gB q)
def ah.rg{mg:Type}{g:bd}{aU:ab Tmp}{assign body:Code}{iO:eg}{Yk:ab aj}{L:bl->ab aj}{t:ab bl}{Yi Yf Yg:ab ax}(hV:pW P iO Yk Yi L t Yf)(S:mg->ab ax)(G:ab bl->mg->Prop)(X:dj->ab bl->mg->Prop)(gN:mg)(ep:G [] gN)(round:∀pre x Yc b l rec,t=pre++x::Yc->G pre b->o1 rec->∀(eh:aY) (iP:ab Nat) (K:cE),(∀e eM,fv e=true->Way G X (pre++[x]) e eM->∀a w,H eh iP (iN l rec::S eM) w->K e a w)->ah P (some l) eh iP ⟨n.n,[]⟩ (Exit.then (pU P l body K) qQ) assign (o2 aU (L x) am) (bZ l rec .normal::S b))(done:∀b c,G t b->Out W D ⟨n.n,c::n.ds⟩ Q .normal am (fC c::(S b++(Yf++Yg))))(left:∀b c e pre,fv e=true->eL e=false->pre<+:t->X e pre b->Out W D ⟨n.n,c::n.ds⟩ Q e am (fC c::(S b++(Yf++Yg))))(k:aO am g=some (.func (.func iO) #[] Yk.toArray):=by exact rfl)(Yh:jE P iO=true:=by kernel_rfl)(Yl:ak an (S gN++Yi) Yg:=by(repeat(first|exact ak.nil|exact al.here|apply ak.cons|apply al.there)))(dO:∀x,aU.length=(L x).length:=by intro _;rfl)(ei:(aU.all λp=>Nat.blt p n.n)=true:=by exact rfl):ah P none W D n Q (.rangeFunc g aU.toArray assign body) am an:=by
 have Ye:ah P none W D n Q (.rangeFunc g aU.toArray assign body) am (aI (S gN)::(Yi++Yg)):=by
  have Yn:∀{e:dj} {pre:ab bl} {b:mg},fv e=true->Way G X pre e b->(eL e=true/\G pre b)\/(eL e=false/\X e pre b):=by
   intro e pre b cB h;cases e with
   |normal=>exact .inl ⟨rfl,h⟩
   |ret=>exact .inr ⟨rfl,h⟩
   |exit id=>exact .inr ⟨rfl,h⟩
   |_=>cases cB
  refine ah.Te (km:={p:ab bl×bl×ab bl×mg//t=p.1++p.2.1::p.2.2.1/\G p.1 p.2.2.2}) (d:=Yi) (t:=Yg) (λi=>L i.1.2.1) (aI (S gN)) (λi=>aI (S i.1.2.2.2)) (λi e cn=>∃eM,cn=aI (S eM)/\Way G X (i.1.1++[i.1.2.1]) e eM)
   (λe Yj=>∃eM,Yj=aI (S eM)::Yf/\((e=.normal/\G t eM)\/(eL e=false/\∃pre,pre<+:t/\X e pre eM))) k Yh ?_ (λi=>dO _) ei ?_ ?_ ?_
  .have:∀(l:ab ax) (s:ax),ak (s::(l++Yg)) (s::l) Yg:=by
    intro l s;refine ak.cons al.here ?_;induction l with
    |nil=>exact ak.nil
    |cons x l la=>exact ak.cons al.here la
   exact this Yi _
  .rintro⟨⟨pre,x,Yc,b⟩,o,dT⟩ l rec e6 eh K cu;have ef:bg [bZ l rec .normal,aI (S b)]=bg (bZ l rec .normal::S b):=by simp only[hS,tg];simp[bg]
   have:=round pre x Yc b l rec o dT e6 eh (bg [bZ l rec .normal,aI (S b)]) K (λe eM cB dW a w cM=>cu e (aI (S eM)) cB ⟨eM,rfl,dW⟩ a w (by have q:H eh (bg [bZ l rec .normal,aI (S b)]) (S eM++[iN l rec]) w:=cM.perm (by simpa using(mZ (l₁:=[iN l rec]) (l₂:=S eM)));exact(q.toBag).perm (gZ ..)))
   intro a w cT cM;refine this a w cT ?_;have q:=(cM.perm (gZ ..)).R7;exact q.perm XE
  .intro l rec d;have y:=hV l (dj×mg) (λpre p=>p.1=.normal/\G pre p.2) (λpre p=>fv p.1=true/\eL p.1=false/\X p.1 pre p.2) (λp=>aI [bZ l rec p.1,aI (S p.2)]) (.normal,gN) ⟨rfl,ep⟩ ?_
   .refine y.conv (λw h=>?_) ?_ ?_
    .exact gI.toBag (bc:=[bZ l rec .normal,aI (S gN)]) h
    .exact(qP (bc:=[bZ l rec .normal,aI (S gN)])).symm
    .rintro v aX⟨⟨e,eM⟩,j,rfl⟩;refine⟨bZ l rec e::aI (S eM)::Yf,⟨e,_,?_,⟨eM,rfl,?_⟩,rfl⟩,λW D w h=>h.R7 (bc:=[bZ l rec e,aI (S eM)])⟩
     .rcases j with⟨h,_⟩|⟨_,_,h,_⟩
      exact ZI
      .exact h
     .rcases j with⟨h,z⟩|⟨pre,ei,_,cp,fZ⟩
      .exact .inl ⟨h,z⟩
      .exact .inr ⟨cp,pre,ei,fZ⟩
   .rintro pre x Yc⟨e,b⟩ o⟨ea,dT⟩;simp only at ea dT;subst ea;refine(d ⟨(pre,x,Yc,b),o,dT⟩).conv (λw h=>?_) ?_ ?_
    exact Lq
    .have:=(qP (bc:=[bZ l rec .normal,aI (S b)]) (an:=[]))
     simpa using this
    .rintro v aX⟨e,cn,rfl,cB,⟨eM,rfl,dW⟩,rfl⟩;refine⟨[aI [bZ l rec e,aI (S eM)]],⟨(e,eM),eL e,rfl,λh=>?_,λh=>?_,rfl⟩,λW D w h=>H.toBag (bc:=[bZ l rec e,aI (S eM)]) (an:=[]) XV⟩
     .rcases Yn cB dW with⟨q,z⟩|⟨q,z⟩
      .refine⟨?_,z⟩;cases e<;>first|rfl|cases q
      .rw[q]at h;cases h
     .rcases Yn cB dW with⟨q,z⟩|⟨q,z⟩
      .rw[q]at h;cases h
      .exact⟨cB,q,z⟩
  .rintro c e Yj cB⟨eM,rfl,j⟩;have conv:∀{e:dj},Out W D ⟨n.n,c::n.ds⟩ Q e am (fC c::(S eM++(Yf++Yg)))->Out W D ⟨n.n,c::n.ds⟩ Q e am (fC c::(aI (S eM)::Yf++Yg)):=λh a w cT cM=>by refine h a w cT ?_;have q:H W D (aI (S eM)::(fC c::(Yf++Yg))) w:=cM.perm HT;exact q.R7.perm mO
   rcases j with⟨rfl,dT⟩|⟨Ym,pre,Yo,hW⟩
   .exact conv (done eM c dT)
   .exact conv (left eM c e pre cB Ym Yo hW)
 intro a w cT cM;refine Ye a w cT ?_;have q:=cM.Se Yl;rw[cd]at q;exact q.toBag
end
end Go.ay
namespace Go.ay
open Go
variable{k:Nat}{args:ab aj}{aW:aQ (Nat×Bool)}{C:bv->ab ax->Prop}{M:Act->aY->Prop}{a7:Array Edge}{Y:Array Bool}
section
variable{P:bF}{r:aQ Nat}{W:aY}{D:ab Nat}{n:c7}{Q:cE}{am J:bv}{an aX bc:ab ax}{F:Array bS}{Z:ab bS}{w:aY}
variable{dst:Nat}{K:Op}{a1:aZ}{a6:String}
instance{x y:aj}:bq 0 [x] [y] [x]:=⟨rfl⟩
instance(priority:=100){o k:Nat}{c:ab aj}:et o k c (iJ o k c):=⟨rfl⟩
instance(priority:=100){o:Nat}{x c:ab aj}:bq o x c (dD o x c):=⟨rfl⟩
def V.UQ(ad:bV P){t E aG b o m:Nat}{q:IntKind}{x y:bd}(d:aO am x=some (au b o))(g:aO am y=some (.int q (k:Int)))(v:qz ad.arr t=some (m,E):=by exact rfl)(z:bA ad.gp E=some aG:=by exact rfl)(j:k<m:=by omega):aK P n am an ⟨some dst,.indexAddr t x y,a1,a6,a7,aW⟩ (au b (o+k*aG)):=λa w j _=>by
 have h:=ad.TU v;have q:(0:Int)<=(k:Int)/\(k:Int)<(m:Int):=⟨ac,ac⟩
 simp only[execOp,j.eval d,j.eval g];simp[Instr.indexAt,ct,asIntOf,dN h,Instr.sureAddr,q,n8 (ad.Sw z),qI];omega
def V.RL(ad:bV P){t E aG b o m:Nat}{z:IntKind}{i:Int}{x y:bd}(q:aO am x=some (au b o))(d:aO am y=some (.int z i))(ao:i=(k:Int))(v:qz ad.arr t=some (m,E):=by exact rfl)(g:bA ad.gp E=some aG:=by exact rfl)(j:k<m:=by omega):aK P n am an ⟨some dst,.indexAddr t x y,a1,a6,a7,aW⟩ (au b (o+k*aG)):=by subst ao;exact V.UQ ad q d v g j
structure aL(an bc:ab ax):Prop where
 bg:(bg an).Perm (bg bc)
 holds:∀w,(ay.bg an).Nodup->((∀e,e∈an->e.holds w)↔(∀e,e∈bc->e.holds w))
def aL.refl(an:ab ax):aL an an:=⟨gA _,λ_ _=>Iff.rfl⟩
def aL.symm(h:aL an bc):aL bc an:=⟨h.bg.symm,λw v=>(h.holds w (h.bg.nodup_iff.2 v)).symm⟩
def aL.trans{q:ab ax}(h:aL an bc)(k:aL bc q):aL an q:=⟨h.bg.trans k.bg,λw v=>(h.holds w v).trans (k.holds w (h.bg.nodup_iff.1 v))⟩
def aL.RS(h:an.Perm bc):aL an bc:=⟨h.flatMap_right _,λ_ _=>⟨λk e d=>k e (h.mem_iff.2 d),λk e d=>k e (h.mem_iff.1 d)⟩⟩
def aL.append{aX q:ab ax}(h:aL an bc)(k:aL aX q):aL (an++aX) (bc++q):=by
 refine⟨by rw[iI,iI];exact h.bg.append k.bg,λw v=>?_⟩;rw[iI,gV]at v;have o:=h.holds w v.1;have t:=k.holds w v.2.1;constructor
 .intro q e d;rcases eN.1 d with d|d
  .exact o.1 (λe d=>q e XY) e d
  .exact t.1 (λe d=>q e XY) e d
 .intro q e d;rcases eN.1 d with d|d
  .exact o.2 (λe d=>q e XY) e d
  .exact t.2 (λe d=>q e XY) e d
def aL.cons(e:ax)(h:aL an bc):aL (e::an) (e::bc):=(aL.refl [e]).append h
def aL.aI:aL [ay.aI bc] bc:=by
 refine⟨by rw[qP];simp,λw v=>?_⟩;rw[qP,dk]at v;constructor
 .intro q e d;have:=q (ay.aI bc) XE;rw[pT]at this;exact this.1 e d
 .intro q e d;obtain rfl:e=ay.aI bc:=by simpa using d
  rw[pT];exact⟨q,v⟩
def H.eqv(h:aL an bc)(k:H W D an w):H W D bc w:=
 ⟨(h.holds w k.nodup).1 k.fm,h.bg.nodup_iff.1 k.nodup,λb q=>k.own b (h.bg.mem_iff.2 q),k.cx,k.size,k.os,k.tape,k.output,k.nv⟩
def H.UR{h:ab Nat}(i:∀b,b∈D↔b∈h)(k:H W D an w):H W h an w:=
 ⟨k.fm,k.nodup,λb t=>(k.own b t).imp (i b).1 id,λb q o=>k.cx b q (λh=>o ((i b).1 h)),k.size,k.os,k.tape,k.output,k.nv⟩
def ah.eqv{c:Code}(h:aL an bc)(k:ah P r W D n Q c am bc):ah P r W D n Q c am an:=λa w d j=>k a w d (j.eqv h)
def Out.eqv{e:dj}(h:aL an bc)(k:Out W D n Q e am bc):Out W D n Q e am an:=λa w d j=>k a w d (j.eqv h)
def ar.eqv{f:eg}{R q:aj->ab ax->Prop}(h:aL an bc)(k:ar P f args bc R)(o:∀v aX,R v aX->∃g,q v g/\aL aX g):ar P f args an q:=λw j=>by have q:gI bc w:=(j.start.eqv h).ep;refine(k w q).mono λe s ⟨v,aX,d,t,j⟩=>?_;obtain⟨g,y,i⟩:=o v aX t;exact⟨v,g,d,y,(j.eqv i).UR (λb=>h.bg.symm.mem_iff)⟩
def jG.eqv{l:Nat}{R q:aj->ab ax->Prop}(h:aL an bc)(k:jG P l args bc R)(t:∀v aX,R v aX->∃y,q v y/\aL aX y):jG P l args an q:=λw j=>by have q:gI bc w:=(j.start.eqv h).ep;obtain⟨fn,z,assign,body,o,g⟩:=k w q;refine⟨fn,z,assign,body,o,g.mono λe s ⟨v,aX,d,g,j⟩=>?_⟩;obtain⟨y,s,i⟩:=t v aX g;exact⟨v,y,d,s,(j.eqv i).UR (λb=>h.bg.symm.mem_iff)⟩
section
variable{bl:Type}
def qT(f:bl->ab aj)(E aG:Nat):ab aj->ab (ab bl)->ab ax
 |v::q,l::d=>rows f v E aG l::qT f E aG q d
 |_,_=>[]
variable{f:bl->ab aj}{E aG:Nat}
def yT:∀{k:Nat} {o:ab aj} {d:ab (ab bl)} {v:aj} {l:ab bl},o[k]?=some v->d[k]?=some l->(qT f E aG o d).Perm (rows f v E aG l::qT f E aG (o.eraseIdx k) (d.eraseIdx k))
 |0,v::o,l::d,_,_,t,q=>by simp only[oZ,er]at t q;subst t q;exact gA _
 |k+1,u::o,m::d,v,l,t,q=>by simp only[qJ]at t q;simp only[qT,HH];exact((yT t q).cons _).trans (gZ ..)
 |0,[],_,_,_,t,_=>by simp at t
 |0,_::_,[],_,_,_,q=>ZR
 |k+1,[],_,_,_,t,_=>by simp at t
 |k+1,_::_,[],_,_,_,q=>ZR
def adI{o:ab aj}{z:ab (ab bl)}{d:aj}{g:ab bl}(t:k<o.length)(q:k<z.length):(qT f E aG (o.set k d) (z.set k g)).Perm (rows f d E aG g::qT f E aG (o.eraseIdx k) (z.eraseIdx k)):=by have:=yT (f:=f) (E:=E) (aG:=aG) (k:=k) (o:=o.set k d) (d:=z.set k g) (v:=d) (l:=g) (by simp[t]) ZH;simpa[List.eraseIdx_set_eq]using this
def gr(f:bl->ab aj)(E aG:Nat)(q:ab aj)(d:ab (ab bl)):ax:=ay.aI (qT f E aG q d)
def gr.open{o:ab aj}{d:ab (ab bl)}{v:aj}{l:ab bl}(t:o[k]?=some v)(q:d[k]?=some l):aL [gr f E aG o d] [rows f v E aG l,gr f E aG (o.eraseIdx k) (d.eraseIdx k)]:=
 aL.aI.trans ((aL.RS (yT t q)).trans (aL.cons _ aL.aI.symm))
def gr.shut{o:ab aj}{z:ab (ab bl)}{d:aj}{g:ab bl}(t:k<o.length)(q:k<z.length):aL [rows f d E aG g,gr f E aG (o.eraseIdx k) (z.eraseIdx k)] [gr f E aG (o.set k d) (z.set k g)]:=
 (aL.aI.trans ((aL.RS (adI t q)).trans (aL.cons _ aL.aI.symm))).symm
end
def af.bu{N G:ab ax}{X:ab Nat}{U:Nat}{T:Bool}{x g:bS}(i j:Nat)(ao:F[i]?=some x)(y:F[j]?=some g)(q:aw P r W D n x am an (λJ aX=>(∀w,H W D aX w->e4 N w)/\(∀w,H W D aX w->e4 G w)/\af P r W D n F M N G X true U (Y.setIfInBounds i true) J aX))(o:aw P r W D n g am an (λJ aX=>(∀w,H W D aX w->e4 N w)/\(∀w,H W D aX w->e4 G w)/\af P r W D n F M N G X true U (Y.setIfInBounds j true) J aX))(t:(Region.ready .any F Y==[i,j]&&![i,j].isEmpty)=true:=by kernel_rfl)(v:gK am F x.guard=some true:=by exact rfl)(b:gK am F g.guard=some true:=by exact rfl):af P r W D n F M N G X T (U+1) Y am an:=
 af.each [i,j] t (by
  intro k d;rcases dq.1 d with rfl|d
  .exact⟨x,ao,v,q⟩
  .obtain rfl:k=j:=by simpa using d
   exact⟨g,y,b,o⟩)
end
end Go.ay
namespace Go.ay
open Go
section
variable{P:bF}{r:aQ Nat}{W:aY}{D:ab Nat}{n:c7}{Q:cE}{am:bv}{an:ab ax}
def ah.form{bl:Type}{f:bl->ab aj}{v:aj}{E aG:Nat}{l:ab bl}{c:Code}(d:rows f v E aG l∈an)(y:v=.slice none 0 0->l=[]->ah P r W D n Q c am an) (q:∀g t,v=.slice (some ⟨g,0,none⟩) l.length t->ah P r W D n Q c am an):ah P r W D n Q c am an:=λa w z v=>by
 rcases hc d w v with⟨o,j⟩|⟨g,t,o,_⟩
 .exact y o j a w z v
 .exact q g t o a w z v
end
end Go.ay
namespace Go.ay
open Go
variable{R:aj->ab ax->Prop}{args:ab aj}{C:bv->ab ax->Prop}
section
variable{P:bF}{r:aQ Nat}{W:aY}{D:ab Nat}{n:c7}{Q:cE}{am:bv}{an:ab ax}{F:Array bS}
def ah.of{c:Code}(h:∀a w,dc n am a->H W D an w->c.wpIn (k8 r) 0 P Q a w):ah P r W D n Q c am an:=h
def ah.get{c:Code}(h:ah P r W D n Q c am an):∀a w,dc n am a->H W D an w->c.wpIn (k8 r) 0 P Q a w:=h
def Out.of{e:dj}(h:∀a w,dc n am a->H W D an w->Q e a w):Out W D n Q e am an:=h
def Out.get{e:dj}(h:Out W D n Q e am an):∀a w,dc n am a->H W D an w->Q e a w:=h
def aK.of{o:bS}{v:aj}(h:∀a w,dc n am a->e4 an w->(execOp a.eval o).run P w=.ok (.value v) w):aK P n am an o v:=h
def aK.get{o:bS}{v:aj}(h:aK P n am an o v):∀a w,dc n am a->e4 an w->(execOp a.eval o).run P w=.ok (.value v) w:=h
def e4.get{w:aY}(h:e4 an w):∀e,e∈an->e.holds w:=h
def aw.of{o:bS}(h:∀(K:Act->aY->Prop) (Q:cE),(∀J aX,C J aX->∀a w,dc n J a->H W D aX w->K a w)->∀a w,dc n am a->H W D an w->lM P r o a w K Q):aw P r W D n o am an C:=h
def ar.of{f:eg}(h:∀w,gI an w->Calls P f args.toArray w λe s=>∃v aX,e=.returned v/\R v aX/\H w (bg an) aX s):ar P f args an R:=h
def ar.get{f:eg}(h:ar P f args an R):∀w,gI an w->Calls P f args.toArray w λe s=>∃v aX,e=.returned v/\R v aX/\H w (bg an) aX s:=h
end
end Go.ay
section
attribute[irreducible] Go.ay.ah Go.ay.ai Go.ay.af Go.ay.Out Go.ay.aw Go.ay.ar Go.ay.aK Go.ay.e4 Go.ay.cS
end
