/-
 Part of the proof.
-/
import Derived.CallsIn
import Derived.ChangeKeysEq
import Derived.Deep.AppendSrc
import Derived.Deep.MidRow
import Derived.Deep.Quiet
import Derived.Deep.Slices
import Derived.LaidMore
import Derived.Laws.BytesString
import Derived.Laws.Externs
import Derived.Laws.OwnMore
import Derived.Laws.StructEq
import Derived.Lay
import Derived.Lib.AppendZerosOnto
import Derived.Lib.Builder
import Derived.Lib.ConvBytes
import Derived.Lib.ItoaNum
import Derived.Lib.Overlaps
import Derived.Lib.UnsafeStr
import Derived.Maps.RangeRun
import Derived.OpenShut
import Derived.OrdersHeld
import Derived.OrdersIn
import Derived.OwnWalk
import Derived.ProofKit
import Derived.RangeFuncNested
import Derived.RangeFuncRecord
import Derived.SevenTiedAt
import Derived.Shelf.Slices.In.SortNone
import Derived.Shelf.Small.Bits
import Derived.Shelf.Sort.Plain
import Derived.SizedLaws
import Derived.Sort.OwnSorted
import Derived.Stop.Joined
import Derived.TacticsIn
import Derived.WalkKit
import Derived.WideKeyArgs
set_option linter.all false
set_option maxRecDepth 8000
set_option maxHeartbeats 8000000
def v6:=@Go.Act.put_comm
def we:=@Go.Addr.add_lit
def xS:=@Go.Addr.mk.injEq
def zy:=@Array.all_eq_true_iff_forall_mem
def F9:=@Array.any_eq_true'
def vU:=@Array.getD_eq_getD_getElem?
def CP:=@Array.getElem?_eq_getElem
def zG:=@Array.getElem?_eq_none
def pT:=@Array.getElem?_eq_some_iff
def pg:=@Array.length_toList
def th:=@Array.mem_of_getElem?
def Ga:=@Array.setIfInBounds_comm
def zN:=@Array.size_append
def F4:=@Array.toArray_toList
def Cz:=@Array.toList_append
def zY:=@Array.toList_filter
def zT:=@Array.toList_push
def tL:=@BitVec.ofInt_natCast
def Ho:=@BitVec.toNat_and
def sr:=@BitVec.toNat_ofNat
def G1:=@Bool.and_eq_false_iff
def c1:=@Bool.and_eq_true
def BD:=@Bool.and_eq_true_iff
def wI:=@Bool.and_false
def r7:=@Bool.eq_iff_iff
def tP:=@Bool.false_and
def h8:=@Bool.false_eq_true
def xK:=@Bool.false_or
def uR:=@Bool.not_eq_false
def uQ:=@Bool.not_eq_false'
def mh:=@Bool.not_eq_true
def kf:=@Bool.not_eq_true'
def Cm:=@Bool.not_true
def yI:=@Bool.or_eq_false_iff
def hc:=@Bool.or_eq_true
def rU:=@Bool.or_true
def qB:=@Bool.true_and
def BF:=@Go.ChangeSpec.witness_shaped
def BM:=@Go.Claim7.holds_tied_plain_at
def akg:=@Classical.choose_spec
def lj:=@Eq.refl
def iL:=@Eq.symm
def i7:=@Eq.trans
def CS:=@Go.ChangeMaps.map_eraseIdx
def tS:=@Go.Value.slice.injEq
def Ip:=@Int.emod_lt_of_pos
def ru:=@Int.eq_ofNat_of_zero_le
def C6:=@Int.fdiv_eq_ediv_of_nonneg
def ge:=@Int.le_refl
def nD:=@Int.le_trans
def zm:=@Int.lt_of_lt_of_le
def OZ:=@Int.mul_le_mul_of_nonneg_left
def u7:=@Int.natCast_nonneg
def hY:=@Int.toNat_natCast
def HA:=@Int.toNat_of_nonneg
def aH:=@List.Mem.head
def aI:=@List.Mem.tail
def AN:=@List.Perm.append_left
def D3:=@List.Perm.append_right
def tp:=@List.Perm.cons
def hI:=@List.Perm.refl
def hV:=@List.Perm.swap
def mW:=@List.Perm.trans
def wV:=@List.Sublist.cons
def qD:=@List.Sublist.cons_cons
def vR:=@List.Sublist.refl
def rp:=@List.Sublist.slnil
def Ch:=@List.all_cons
def hk:=@List.all_eq_true
def ck:=@List.append_assoc
def db:=@List.append_nil
def DZ:=@List.concat_eq_append
def q9:=@List.cons.injEq
def mQ:=@List.cons_append
def IU:=@List.count_le_length
def wk:=@List.drop_append
def x8:=@List.drop_append_of_le_length
def sa:=@List.drop_drop
def wF:=@List.drop_eq_getElem_cons
def z7:=@List.drop_left
def IB:=@List.drop_length
def sc:=@List.drop_of_length_le
def CN:=@List.drop_succ_cons
def Co:=@List.drop_zero
def J5:=@List.eq_nil_iff_forall_not_mem
def ml:=@List.eq_nil_of_length_eq_zero
def I0:=@List.eq_nil_or_concat
def CF:=@List.eraseIdx_cons_succ
def Ix:=@List.eraseIdx_eq_take_drop_succ
def wx:=@List.eraseIdx_sublist
def pi:=@List.ext_getElem?
def nA:=@List.filter_append
def JO:=@List.filter_congr
def ro:=@List.filter_cons
def E2:=@List.filter_cons_of_neg
def E5:=@List.filter_cons_of_pos
def Kp:=@List.filter_eq_nil_iff
def ww:=@List.filter_eq_self
def Ex:=@List.filter_map
def yN:=@List.filter_nil
def CQ:=@List.filter_sublist
def yq:=@List.findIdx?_eq_none_iff
def wJ:=@List.findIdx?_eq_some_iff_getElem
def l3:=@List.flatMap_append
def fW:=@List.flatMap_cons
def xR:=@List.flatMap_def
def nY:=@List.flatMap_nil
def Ct:=@List.flatten_cons
def wC:=@List.foldl_append
def pc:=@List.foldl_cons
def hn:=@List.getD_eq_getElem?_getD
def G4:=@List.getElem?_append
def pU:=@List.getElem?_append_left
def iC:=@List.getElem?_append_right
def pV:=@List.getElem?_cons_succ
def ra:=@List.getElem?_cons_zero
def l0:=@List.getElem?_drop
def hl:=@List.getElem?_eq_getElem
def qE:=@List.getElem?_eq_none
def cF:=@List.getElem?_eq_some_iff
def h5:=@List.getElem?_map
def si:=@List.getElem?_modify
def tB:=@List.getElem?_of_mem
def u0:=@List.getElem?_replicate
def i2:=@List.getElem?_set
def mH:=@List.getElem?_set_ne
def hD:=@List.getElem?_set_self
def mN:=@List.getElem?_take
def Fg:=@List.getElem?_take_of_lt
def Gg:=@List.getElem_mem
def bQ:=@List.length_append
def df:=@List.length_cons
def jn:=@List.length_drop
def DE:=@List.length_eraseIdx
def yF:=@List.length_eraseIdx_le
def rC:=@List.length_filter_le
def dZ:=@List.length_map
def gv:=@List.length_nil
def qA:=@List.length_pos_iff
def cy:=@List.length_set
def nX:=@List.length_singleton
def e8:=@List.length_take
def hJ:=@List.map_append
def A5:=@List.map_congr_left
def eE:=@List.map_cons
def CR:=@List.map_eq_nil_iff
def sN:=@List.map_map
def lq:=@List.map_nil
def I3:=@List.map_singleton
def tF:=@List.map_toArray
def eh:=@List.mem_append
def oR:=@List.mem_append_left
def Ka:=@List.mem_append_right
def cQ:=@List.mem_cons
def e0:=@List.mem_cons_of_mem
def er:=@List.mem_cons_self
def mU:=@List.mem_filter
def wB:=@List.mem_flatMap
def dQ:=@List.mem_map
def zc:=@List.mem_nil_iff
def im:=@List.mem_of_getElem?
def uA:=@List.mem_of_mem_eraseIdx
def mi:=@List.mem_range
def fF:=@List.mem_singleton
def g4:=@List.nil_append
def gr:=@List.nodup_append
def ki:=@List.nodup_cons
def mT:=@List.nodup_nil
def kq:=@List.not_mem_nil
def AF:=@List.pairwise_cons
def oG:=@List.perm_append_comm
def ow:=@List.perm_middle
def sk:=@List.range_succ
def Cp:=@List.replicate_succ
def Gs:=@List.set_cons_zero
def yk:=@List.set_eq_take_append_cons_drop
def vC:=@List.set_set
def tH:=@List.singleton_append
def pW:=@List.size_toArray
def Cu:=@List.sublist_append_left
def GZ:=@List.sublist_cons_self
def AO:=@List.sum_append
def sG:=@List.sum_cons
def oC:=@List.take_add_one
def sd:=@List.take_append
def nU:=@List.take_append_drop
def oA:=@List.take_append_of_le_length
def pX:=@List.take_left
def As:=@List.take_left'
def iI:=@List.take_length
def G3:=@List.take_length_add_append
def lr:=@List.take_of_length_le
def ws:=@List.take_succ_cons
def F2:=@List.take_succ_eq_append_getElem
def tE:=@List.take_take
def xU:=@List.take_zero
def zd:=@Go.MakeChecks.laidMetH_plain
def uX:=@Go.MapKept.run_getObj_map
def pd:=@Nat.add_assoc
def fK:=@Nat.add_mul
def Kc:=@Nat.add_sub_cancel_left
def hj:=@Nat.add_zero
def zz:=@Nat.beq_eq
def xC:=@Nat.beq_refl
def nr:=@Nat.blt_eq
def xG:=@Nat.eq_of_beq_eq_true
def ks:=@Nat.le_add_right
def pQ:=@Nat.le_of_ble_eq_true
def cx:=@Nat.le_refl
def xQ:=@Nat.le_succ
def B7:=@Nat.le_succ_of_le
def iB:=@Nat.le_trans
def o9:=@Nat.lt_or_ge
def qw:=@Nat.min_eq_left
def tG:=@Nat.mod_eq_of_lt
def yd:=@Nat.mul_comm
def CU:=@Nat.mul_le_mul
def kY:=@Nat.mul_le_mul_right
def p3:=@Nat.mul_one
def yo:=@Nat.not_lt_zero
def wD:=@Nat.pow_succ
def Dp:=@Nat.pow_zero
def CM:=@Nat.sub_zero
def rx:=@Nat.xor_assoc
def Dc:=@Nat.xor_comm
def Hn:=@Nat.xor_lt_two_pow
def yx:=@Nat.xor_self
def h4:=@Nat.zero_add
def cG:=@Nat.zero_le
def r9:=@Nat.zero_mul
def ox:=@Ne.symm
def BL:=@Go.OpenClaim.holds_of_wide
def Ce:=@Option.bind_eq_some_iff
def uK:=@Option.isSome_iff_exists
def GI:=@Option.map_eq_map
def qs:=@Option.map_eq_some_iff
def p2:=@Option.map_some
def gs:=@Option.some.inj
def fj:=@Option.some.injEq
def Dw:=@Option.toList_none
def x6:=@Option.toList_some
def q1:=@Or.inl
def qu:=@Or.inr
def xO:=@Prod.mk.inj
def nV:=@Prod.mk.injEq
def Cn:=@Go.Region.free_spec
def ed:=@Go.Result.andThen_ok
def cW:=@Go.Sem.run_bind
def eW:=@Go.Sem.run_pure
def wh:=@Go.Src.ofSlice
def sb:=@Go.Value.slice.injEq
def Gu:=@Go.World.alloc_heap_new
def BG:=@Go.World.laidAll_os
def Gp:=@Go.World.ownsRow_nil
def vZ:=@Go.World.putObj_heap_other
def tu:=@Go.World.putObj_heap_same
def BH:=@Go.World.shaped_of_ZipB
def p4:=@and_false
def nm:=@and_true
def dU:=@beq_eq_false_iff_ne
def c9:=@beq_iff_eq
def xD:=@cond_false
def ta:=@cond_true
def c7:=@congrArg
def dR:=@decide_eq_decide
def l5:=@decide_eq_false
def jW:=@decide_eq_false_iff_not
def iq:=@decide_eq_true
def cO:=@decide_eq_true_eq
def uV:=@decide_false
def AH:=@decide_true
def zL:=@Go.grownCap_ge
def zM:=@Go.grownCap_le_maxLen
def zO:=@Go.growslice_fits
def zw:=@Go.heap_alloc_new
def uE:=@Go.heap_alloc_old
def iH:=@if_false
def aG:=@if_neg
def aJ:=@if_pos
def ik:=@if_true
def aeL:=@Go.laidMet_laidAll
def r8:=@Go.mem_ready
def dB:=@ne_eq
def rh:=@not_false_eq_true
def nt:=@not_or
def uS:=@not_true_eq_false
def tk:=@of_decide_eq_true
def gl:=@or_false
def ti:=@Go.ready_mono
def BE:=@Go.returnsInHanded_of_change_and
def CA:=@Go.run_append_grow_src
def wg:=@Go.run_firstCells_some
def Ca:=@Go.run_loadVar_mid
def qv:=@Go.run_sizeOf
def uH:=@Go.run_storeCells_at
def eD:=@Go.run_underlying
def r3:=@Go.setRow_heap
def xB:=@Go.setRow_other
def Cy:=@Go.size_zeroCells
def uI:=@Go.wpIn_mono
abbrev ab:=@List
abbrev aj:=Go.Value
abbrev aT:=@Option
abbrev aS:=UInt8
abbrev a2:=Go.World
abbrev a8:=Go.TypeId
abbrev bj:=Go.Operand
abbrev b1:=Go.Program
abbrev cc:=Go.Oper
abbrev dY:=Go.Exit
abbrev fb:=Go.FuncId
def ac{p:Prop}(h:p:=by omega):p:=h
def VF{p:Prop}(h:p:=by(repeat first|exact aH _|apply aI)):p:=h
def Vw{p:Prop}(h:p:=by kernel_rfl):p:=h
def VH{p:Prop}(h:p:=by(repeat(first|exact ak.nil|exact al.here|apply ak.cons|apply al.there))):p:=h
def VK{p:Prop}(h:p:=by simp):p:=h
def VI{p:Prop}(h:p:=by decide):p:=h
def VV{p:Prop}(h:p:=by assumption):p:=h
def VS{p:Prop}(h:p:=by repeat first|exact aB.here _ _ _|apply aB.there):p:=h
def VC{p:Prop}(h:p:=by refine cP ?_;rw[afT,j];clear am X q t G;(simp_all<;>omega)):p:=h
def Vz{p:Prop}(h:p:=by(intro _;repeat first|exact aB.here _ _ _|apply aB.there)):p:=h
def VL{p:Prop}(h:p:=by cases h):p:=h
def VD{p:Prop}(h:p:=by refine ag6 ?_;(try simp only[c9,dU,dB,dR]at*);(simp[dh,T,t]<;>omega)):p:=h
def VG{p:Prop}(h:p:=by simp;omega):p:=h
def Md{p:Prop}(h:p:=by rw[cy];omega):p:=h
def VU{p:Prop}(h:p:=by show i+1<=_;omega):p:=h
def VJ{p:Prop}(h:p:=by(repeat first|exact aB.here _ _ _|apply aB.there)):p:=h
def VB{p:Prop}(h:p:=by show N.length-(i+1)<N.length-i;omega):p:=h
def VA{p:Prop}(h:p:=by simp[bb];omega):p:=h
def VT{p:Prop}(h:p:=by simp at h):p:=h
def VR{p:Prop}(h:p:=by simpa using h):p:=h
def SE{p:Prop}(h:p:=by rw[cy];exact R):p:=h
def Vx{p:Prop}(h:p:=by simp[j]):p:=h
def Mm{p:Prop}(h:p:=by dsimp only;omega):p:=h
def VM{p:Prop}(h:p:=by cases C):p:=h
def Mx{p:Prop}(h:p:=by exact⟨_,_,⟨_,_,rfl,rfl⟩,(by(repeat(first|exact ak.nil|exact al.here|apply ak.cons|apply al.there)))⟩):p:=h
def UO{p:Prop}(h:p:=by rintro _ _ _ _ _ _ _ h;exact h.elim):p:=h
def O3{p:Prop}(h:p:=by rw[cy];exact d):p:=h
def Rh{p:Prop}(h:p:=by show k+1<=_;omega):p:=h
def Pq{p:Prop}(h:p:=by rw[e8];omega):p:=h
def O4{p:Prop}(h:p:=by simp only[h8,p4,gl];(try simp_all);first|done|(split<;>first|rfl|omega)|omega):p:=h
def Vt{p:Prop}(h:p:=by simp only[nm];(try simp_all);first|done|(split<;>first|rfl|omega)|omega):p:=h
def NC{p:Prop}(h:p:=by repeat first|exact aH _|apply aI):p:=h
def zh{p:Prop}(h:p:=by split<;>rfl):p:=h
def EY{p:Prop}(h:p:=by show j+1<=_;omega):p:=h
def Oc{p:Prop}(h:p:=by rw[C]):p:=h
def aei{p:Prop}(h:p:=by decide+kernel):p:=h
def PS{p:Prop}(h:p:=by rw[T];rfl):p:=h
def TU{p:Prop}(h:p:=by simpa using b6):p:=h
def Ra{p:Prop}(h:p:=by simpa using g):p:=h
def OU{p:Prop}(h:p:=by simpa using dO):p:=h
def aen{p:Prop}(h:p:=by rw[h];(repeat(first|exact ak.nil|exact al.here|apply ak.cons|apply al.there))):p:=h
def L7{p:Prop}(h:p:=by apply_assumption;assumption):p:=h
def Sh{p:Prop}(h:p:=by simp[bb,K.oT]):p:=h
def Uy{p:Prop}(h:p:=by show N.length-(k+1)<N.length-k;omega):p:=h
def Nk{p:Prop}(h:p:=by rw[a]at h;exact h):p:=h
def TP{p:Prop}(h:p:=by simp[d]):p:=h
def P7{p:Prop}(h:p:=by simp only[maxLen];omega):p:=h
def U4{p:Prop}(h:p:=by rw[j];(repeat(first|exact ak.nil|exact al.here|apply ak.cons|apply al.there))):p:=h
def Mk{p:Prop}(h:p:=by rw[aV]):p:=h
def Ur{p:Prop}(h:p:=by rw[o]):p:=h
def TC{p:Prop}(h:p:=by rw[W];simp):p:=h
def Mn{p:Prop}(h:p:=by show 7-(k+1)<7-k;omega):p:=h
def MI{p:Prop}(h:p:=by unfold ff;clear X t q;simp only[dB]at*;(simp_all<;>omega)):p:=h
def T6{p:Prop}(h:p:=by have:=h.size;omega):p:=h
def RD{p:Prop}(h:p:=by simp[bb]):p:=h
def M1{p:Prop}(h:p:=by intro j a u k;simp only[kQ,cQ,kq,gl]at a;rcases a with rfl|rfl|rfl|rfl|rfl|rfl|rfl|rfl|rfl|rfl<;>first|exact absurd rfl u|exact⟨rfl,rfl⟩|exact(t (by decide) k).elim|exact(t (by decide) (h.rT k)).elim):p:=h
def Rv{p:Prop}(h:p:=by rw[m.cut];exact h.cut):p:=h
def SS{p:Prop}(h:p:=by have:=p.r;have:=p.j6;omega):p:=h
def Ul{p:Prop}(h:p:=by simpa using t):p:=h
def Qv{p:Prop}(h:p:=by simp only at h;subst h;rfl):p:=h
def Mj{p:Prop}(h:p:=by simpa using hu):p:=h
def OB{p:Prop}(h:p:=by unfold gC;(repeat first|exact aH _|apply aI)):p:=h
def TJ{p:Prop}(h:p:=by rw[nr];simp[cA];omega):p:=h
def Hs{p:Prop}(h:p:=by rw[Y];simp):p:=h
def BI{p:Prop}(h:p:=by show k+1<=7;omega):p:=h
def U0{p:Prop}(h:p:=by rw[dZ];omega):p:=h
def Tw{p:Prop}(h:p:=by exact⟨_,_,.inr ⟨Z,_,rfl,rfl⟩,(by(repeat(first|exact ak.nil|exact al.here|apply ak.cons|apply al.there)))⟩):p:=h
def T7{p:Prop}(h:p:=by rw[p];exact h):p:=h
def To{p:Prop}(h:p:=by rw[x];exact h):p:=h
def Uu{p:Prop}(h:p:=by cases Z):p:=h
def PN{p:Prop}(h:p:=by rw[e,hD am]):p:=h
def Sa{p:Prop}(h:p:=by rw[mH (by omega)];exact g):p:=h
def P1{p:Prop}(h:p:=by simpa using v):p:=h
def UZ{p:Prop}(h:p:=by simp at g):p:=h
def Pm{p:Prop}(h:p:=by rw[k];simp):p:=h
def MN{p:Prop}(h:p:=by rw[U];simp):p:=h
def RG{p:Prop}(h:p:=by push_cast;omega):p:=h
def Tc{p:Prop}(h:p:=by unfold cg;omega):p:=h
def Pf{p:Prop}(h:p:=by simpa using T):p:=h
def Ti{p:Prop}(h:p:=by simp[U]):p:=h
def UN{p:Prop}(h:p:=by simp only[Go.maxLen]at Z;omega):p:=h
def Ny{p:Prop}(h:p:=by rw[j];(repeat(first|exact dy.nil|refine dy.cons rfl rfl ?_))):p:=h
def LV{p:Prop}(h:p:=by rw[w.h];exact T):p:=h
def St{p:Prop}(h:p:=by have:=h.len;omega):p:=h
def S6{p:Prop}(h:p:=by rw[<-Z];rfl):p:=h
def Qr{p:Prop}(h:p:=by rw[<-u];rfl):p:=h
def R6{p:Prop}(h:p:=by show s.out.length<=_;omega):p:=h
def Mc{p:Prop}(h:p:=by unfold ch e5;(repeat(first|exact ak.nil|exact al.here|apply ak.cons|apply al.there))):p:=h
def Mr{p:Prop}(h:p:=by exact⟨cx _,λh=>by cases h⟩):p:=h
def L1{p:Prop}(h:p:=by simp[ih];omega):p:=h
def afb{p:Prop}(h:p:=by intro h;cases h):p:=h
def LP{p:Prop}(h:p:=by exact⟨h,jh.refl rfl⟩):p:=h
def R0{p:Prop}(h:p:=by rw[zd _ _ _ (by kernel_rfl)];exact aeL _ (by kernel_rfl) (by kernel_rfl)):p:=h
def EE{p:Prop}(h:p:=by cases args;simp_all):p:=h
def Qa{p:Prop}(h:p:=by intro p cn f;simp only[cQ,zc,gl]at cn;rcases cn with rfl;exact(F f).2):p:=h
def zi{p:Prop}(h:p:=by exact ak4 iQ Z h.1 e.symm):p:=h
def Q9{p:Prop}(h:p:=by unfold joinedFacts;rewrite[alE,aef,afg];kernel_rfl):p:=h
def Mf{p:Prop}(h:p:=by unfold Func.isWrapper;first|(rw[aJ (by decide+kernel)];kernel_rfl)|(rw[aG (by decide+kernel)];exact⟨rfl,rfl⟩)):p:=h
def HQ{p:Prop}(h:p:=by simpa using th f):p:=h
def OQ{p:Prop}(h:p:=by rw[c5]at dz;cases dz):p:=h
def R9{p:Prop}(h:p:=by exact⟨G,h,fT.rfl,rfl⟩):p:=h
def OI{p:Prop}(h:p:=by simpa using d):p:=h
def RV{p:Prop}(h:p:=by rw[h]at y;cases y):p:=h
def Uk{p:Prop}(h:p:=by simpa using b):p:=h
def Sz{p:Prop}(h:p:=by simp[MapKept.IsKey]):p:=h
def LN{p:Prop}(h:p:=by obtain⟨p,q,rfl,_⟩:=dI.split;simp):p:=h
def Td{p:Prop}(h:p:=by simpa using z):p:=h
def L6{p:Prop}(h:p:=by rintro r J⟨rfl,rfl⟩;exact⟨_,⟨rfl,rfl⟩,w.symm⟩):p:=h
def MC{p:Prop}(h:p:=by simpa using G):p:=h
def PR{p:Prop}(h:p:=by rintro r J⟨rfl,rfl⟩;exact⟨_,⟨rfl,rfl⟩,eG.bare.symm⟩):p:=h
def QT{p:Prop}(h:p:=by simp only[bQ];omega):p:=h
def UC{p:Prop}(h:p:=by have:=(cF.1 K).1;rwa[b4.Wk]at this):p:=h
def Ls{p:Prop}(h:p:=by rw[b4.Wk];omega):p:=h
def UJ{p:Prop}(h:p:=by show l.length-(i+1)<l.length-i;omega):p:=h
def Pp{p:Prop}(h:p:=by rw[aG e,aG (λh=>e h.2.2)]):p:=h
def Sj{p:Prop}(h:p:=by show k+1<=b;omega):p:=h
def Sd{p:Prop}(h:p:=by rw[m.length_eq,D]):p:=h
def Q1{p:Prop}(h:p:=by rw[C];(repeat(first|exact ak.nil|exact al.here|apply ak.cons|apply al.there))):p:=h
def NY{p:Prop}(h:p:=by rw[w.pre];omega):p:=h
def QR{p:Prop}(h:p:=by rw[aJ E]at h;refine aq 15 λX=>?_;refine aa 15 ?_;refine ai.o (O.V' ad aO.c [p.Call] rfl (bP.agg rfl bP.nil) rfl rfl (λYf=>?_));refine ai.x' rfl (dA _) ?_;refine aa 9 ?_;rotate_left;all_goals exact Out.C' Z (i+1) (by show i+1<=_;omega) (by show N.length-(i+1)<N.length-i;omega) (g:=by rw[h];(repeat(first|exact ak.nil|exact al.here|apply ak.cons|apply al.there)))):p:=h
def RO{p:Prop}(h:p:=by rw[aG E]at h;refine aq 15 λX=>?_;refine aa 18 ?_;rotate_left;all_goals exact Out.C' Z (i+1) (by show i+1<=_;omega) (by show N.length-(i+1)<N.length-i;omega) (g:=by rw[h];(repeat(first|exact ak.nil|exact al.here|apply ak.cons|apply al.there)))):p:=h
def My{p:Prop}(h:p:=by rw[a];simp):p:=h
def MD{p:Prop}(h:p:=by rw[mu]at h;cases h):p:=h
def MY{p:Prop}(h:p:=by exact⟨_,_,⟨_,X,rfl,rfl⟩,(by(repeat(first|exact ak.nil|exact al.here|apply ak.cons|apply al.there)))⟩):p:=h
def SU{p:Prop}(h:p:=by subst u;(repeat(first|exact ak.nil|exact al.here|apply ak.cons|apply al.there))):p:=h
def NW{p:Prop}(h:p:=by show s.n<=7;omega):p:=h
def PY{p:Prop}(h:p:=by show s.inbox.length<=_;omega):p:=h
def MM{p:Prop}(h:p:=by exact rP (k:=0) rfl (by decide)):p:=h
def MP{p:Prop}(h:p:=by first|exact⟨_,_,⟨true,(by intro h;cases h),rfl,rfl⟩,(by(repeat(first|exact ak.nil|exact al.here|apply ak.cons|apply al.there)))⟩|exact⟨_,_,⟨_,(by intro h;simp at h;exact⟨by omega,by omega,Z⟩),rfl,rfl⟩,(by(repeat(first|exact ak.nil|exact al.here|apply ak.cons|apply al.there)))⟩):p:=h
def P4{p:Prop}(h:p:=by simpa using E.symm):p:=h
def NL{p:Prop}(h:p:=by have h:=bounds_u8 (D x M).2.2.2.2.2;omega):p:=h
def Po{p:Prop}(h:p:=by show(1:Int)≠3;omega):p:=h
def QD{p:Prop}(h:p:=by show((i.toNat:Nat):Int)=i;omega):p:=h
def cS{p:Prop}(h:p:=by rw[W]at M;cases M):p:=h
def QI{p:Prop}(h:p:=by rw[u]at M;cases M):p:=h
def Oo{p:Prop}(h:p:=by rw[gn];show m∈Y.inbox;rw[N];exact er):p:=h
def TD{p:Prop}(h:p:=by rename_i T;exact⟨T,C,f⟩):p:=h
def MS{p:Prop}(h:p:=by exact .inl ⟨rfl,z,t⟩):p:=h
def O6{p:Prop}(h:p:=by simp only[m,dif_pos h];exact akg (ex a w h)):p:=h
def MJ{p:Prop}(h:p:=by simp[execOp,y.eval g,y.eval d,eqGuard,binOp,Op.intArith,IntWalk.i64_in _ o]):p:=h
def T4{p:Prop}(h:p:=by rw[<-v6 a v u o];exact y):p:=h
def af1{p:Prop}(h:p:=by rw[e]at this;simp at this):p:=h
def OF{p:Prop}(h:p:=by simp[br,iA,Value.ownBlock]):p:=h
def SK{p:Prop}(h:p:=by obtain⟨x,_,rfl⟩:=dQ.1 d;exact v x):p:=h
def TS{p:Prop}(h:p:=by have:=hS.Ww (bg:=[cm l rec .normal,aK (S b)]) (ao:=[]) h;simpa using this):p:=h
def Ql{p:Prop}(h:p:=by simpa using hV ..):p:=h
def T5{p:Prop}(h:p:=by exact(aP.append (ao:=[aK [cm l rec .normal,aK (S f)]]) aP.aK (aP.refl j)).symm):p:=h
def TO{p:Prop}(h:p:=by rw[h b (by simp)];exact bN):p:=h
def MR{p:Prop}(h:p:=by have:=c7 List.length u;simpa using this):p:=h
def Tx{p:Prop}(h:p:=by rw[jl,fM,iA];simp[br,Value.ownBlock]):p:=h
def LI{p:Prop}(h:p:=by rw[<-fK];exact kY _ (by omega)):p:=h
def T3{p:Prop}(h:p:=by simp only[hj,b];omega):p:=h
def Qb{p:Prop}(h:p:=by unfold rt;split<;>simp_all<;>omega):p:=h
def N8{p:Prop}(h:p:=by simp[aL.at,bt,G.1.1.1,G.1.1.2,G.1.2,G.2,T]):p:=h
def Vv{p:Prop}(h:p:=by rintro r J⟨ez,j0,rfl,rfl⟩;exact⟨_,⟨d.set k ez,s.set k j0,by simpa using dO,by simpa using hu,rfl,rfl⟩,eG.shut (by omega) (by omega) (by omega) (by omega)⟩):p:=h
def Rz{p:Prop}(h:p:=by rw[cr];exact wz (by omega) (by omega)):p:=h
def OW{p:Prop}(h:p:=by rintro r J⟨rfl,rfl⟩;exact⟨_,⟨d,s,dO,hu,rfl,rfl⟩,eG.bare.symm⟩):p:=h
def T1{p:Prop}(h:p:=by exact⟨_,_,⟨⟨m,U,C,D⟩,rfl,rfl⟩,(by(repeat(first|exact ak.nil|exact al.here|apply ak.cons|apply al.there)))⟩):p:=h
def Na{p:Prop}(h:p:=by have:=(cF.1 C).1;omega):p:=h
def Pk{p:Prop}(h:p:=by cases m.cZ<;>decide):p:=h
def SA{p:Prop}(h:p:=by cases i.cZ<;>decide):p:=h
def Nv{p:Prop}(h:p:=by exact⟨_,_,⟨_,_,_,rfl,rfl⟩,(by(repeat(first|exact ak.nil|exact al.here|apply ak.cons|apply al.there)))⟩):p:=h
def OT{p:Prop}(h:p:=by exact⟨none,0,0,0,rfl,Rd.nil⟩):p:=h
def L0{p:Prop}(h:p:=by simp only[bQ,df,gv];omega):p:=h
def RU{p:Prop}(h:p:=by show 5-(j+1)<5-j;omega):p:=h
def Sn{p:Prop}(h:p:=by show a+1<=k+1;omega):p:=h
def SQ{p:Prop}(h:p:=by refine aa 14 ?_;exact Out.C' i Y m trivial):p:=h
def Qz{p:Prop}(h:p:=by rw[show((k:Int)).toNat=k by omega,List.getD,t];rfl):p:=h
def Tr{p:Prop}(h:p:=by rw[nr,eL.len w];omega):p:=h
def Ub{p:Prop}(h:p:=by show Y-(k+1)<Y-k;omega):p:=h
def Vd{p:Prop}(h:p:=by(repeat(first|exact dy.nil|refine dy.cons rfl rfl ?_))):p:=h
def Pr{p:Prop}(h:p:=by exact⟨i,k.n,k.self,k.item,k.bm,k.phase⟩):p:=h
def Pa{p:Prop}(h:p:=by have:=w.eP;omega):p:=h
def Ol{p:Prop}(h:p:=by exact⟨_,_,⟨none,0,0,G,g,ir,rfl,rfl⟩,(by(repeat(first|exact ak.nil|exact al.here|apply ak.cons|apply al.there)))⟩):p:=h
def RN{p:Prop}(h:p:=by rename_i v;rw[aG v];exact al5 m i h):p:=h
def Un{p:Prop}(h:p:=by unfold ch;(repeat(first|exact ak.nil|exact al.here|apply ak.cons|apply al.there))):p:=h
def Qt{p:Prop}(h:p:=by rw[am];exact er ..):p:=h
def Vp{p:Prop}(h:p:=by show aZ (bA _ _ _) _=_;rw[gX,aJ rfl]):p:=h
def Sk{p:Prop}(h:p:=by rintro v J⟨Z,G,rfl,rfl⟩;exact⟨_,⟨(Z,G),rfl,rfl⟩,λ_ _ _ h=>h⟩):p:=h
def LG{p:Prop}(h:p:=by rw[nr,ec.len];omega):p:=h
def TL{p:Prop}(h:p:=by show _<(gb y.1 y.2).length;omega):p:=h
def M3{p:Prop}(h:p:=by exact⟨rfl,rfl,rfl,_,rfl,rfl,rfl,rfl⟩):p:=h
def SW{p:Prop}(h:p:=by unfold bE dN dX;(repeat(first|exact ak.nil|exact al.here|apply ak.cons|apply al.there))):p:=h
def UQ{p:Prop}(h:p:=by show c.aE.length-(i+1)<c.aE.length-i;omega):p:=h
def UM{p:Prop}(h:p:=by rintro r J⟨F,d,n,Y,Z,D⟩;exact⟨(F,d,n),⟨Y,Z⟩,D⟩):p:=h
def RB{p:Prop}(h:p:=by show cX ⟨0,x.a1⟩ n=true;simp[cX,C,p]):p:=h
def SH{p:Prop}(h:p:=by show¬((2:Int)=8);decide):p:=h
def Rt{p:Prop}(h:p:=by rw[W]at y;simpa using y):p:=h
def UE{p:Prop}(h:p:=by exact .inl ⟨by omega,by omega⟩):p:=h
def O5{p:Prop}(h:p:=by show(3:Int)≠1;omega):p:=h
def UA{p:Prop}(h:p:=by show(3:Int)≠2;omega):p:=h
def LD{p:Prop}(h:p:=by show(1:Int)<=3;omega):p:=h
def TK{p:Prop}(h:p:=by show(1:Int)≠2;omega):p:=h
def Ss{p:Prop}(h:p:=by rw[v.q6]at g;exact g):p:=h
def Uc{p:Prop}(h:p:=by show(0:Int)<=((i.toNat:Nat):Int);omega):p:=h
def UH{p:Prop}(h:p:=by show((i.toNat:Nat):Int)<n;omega):p:=h
def RL{p:Prop}(h:p:=by rw[E];exact c.gF):p:=h
def U2{p:Prop}(h:p:=by exact⟨r,by rw[mH (by omega)];exact g,E⟩):p:=h
def DQ{p:Prop}(h:p:=by exact⟨h.of rfl (λy C=>uA C) rfl rfl,q⟩):p:=h
def TF{p:Prop}(h:p:=by show Result.ok (Next.value (a.eval x)) w=_;rw[y.eval g]):p:=h
def RZ{p:Prop}(h:p:=by cases x<;>first|(cases h;done)|(cases y<;>first|rfl|(cases h;done))):p:=h
def Qw{p:Prop}(h:p:=by subst z;simp[execOp,b.eval g,b.eval d,eqGuard,binOp,Op.shift,show¬q<0 by omega]):p:=h
def Rx{p:Prop}(h:p:=by have:=c7 List.length R;simpa using this):p:=h
def MK{p:Prop}(h:p:=by unfold partAt;rw[aG (by omega)];simp[we]):p:=h
def Od{p:Prop}(h:p:=by simp only[aL.h,aL.new,hn,u0];split<;>rfl):p:=h
def dV{p:Prop}(h:p:=by refine aq 2 λM=>?_;refine aq 0 λz=>?_;refine aq 5 λn=>?_;refine aa 4 ?_;refine ah.p' ?_ aC.d'.d'.d'.d'.d'.d'.j.j;refine ae 7 0 ?_;refine af.n' 7 rfl (V.F' ad (z:=cA.r)) ?_;refine ae 12 8 ?_;refine af.n' 20 rfl (V.F' ad (z:=aR)) ?_;refine ae 4 21 ?_;refine bK 31 ?_;refine ae 6 25 ?_;refine af.n' 31 rfl (V.F' ad (z:=tK)) ?_;refine ae 4 32 ?_;refine af.n' 36 rfl (V.Wm ad rfl (by(repeat first|exact aH _|apply aI)) (λ_=>rfl) (by assumption)) ?_;refine ae 2 37 ?_;exact aQ 13):p:=h
def O2{p:Prop}(h:p:=by refine aq 2 λM=>?_;refine aq 0 λz=>?_;refine aq 5 λn=>?_;refine aa 4 ?_;refine ah.p' ?_ aC.d'.d'.d'.d'.d'.d'.j.j;refine ae 7 0 ?_;refine af.n' 7 rfl (V.F' ad (z:=cA.r)) ?_;refine ae 12 8 ?_;refine af.n' 20 rfl (V.F' ad (z:=aR)) ?_;refine ae 4 21 ?_;refine bK 31 ?_;refine ae 6 25 ?_;refine af.n' 31 rfl (V.F' ad (z:=tK)) ?_;refine ae 4 32 ?_;refine af.n' 36 rfl (V.Wm ad rfl (by(repeat first|exact aH _|apply aI)) (λ_=>rfl) (by assumption)) ?_;refine ae 2 37 ?_;refine aa 6 ?_;refine ah.p' ?_ aC.d'.d'.d'.d'.d'.d'.j.j;refine ae 6 0 ?_;refine af.n' 6 rfl (V.F' ad (z:=aR)) ?_;refine ae 4 7 ?_;refine af.n' 11 rfl (V.K' ad rfl (by(repeat first|exact aH _|apply aI)) (λ_=>rfl) (by assumption)) ?_;refine ae 2 12 ?_;exact aQ 4):p:=h
def Nn{p:Prop}(h:p:=by simp only[IntKind.wrap,IntKind.signed,IntKind.bits];simp):p:=h
def SN{p:Prop}(h:p:=by subst M;exact⟨_,_,⟨_,rfl,rfl⟩,ak.cons al.here (ak.cons al.here ak.nil)⟩):p:=h
def MF{p:Prop}(h:p:=by simp only[IntKind.wrap,IntKind.signed,IntKind.bits];simp;omega):p:=h
def Oe{p:Prop}(h:p:=by refine aF Tryz.func169 λW=>?_;refine aq 2 λx=>?_;exact aQ 29):p:=h
def Rk{p:Prop}(h:p:=by first|(simp_all;done)|(simp only[f,uV,tP,qB,wI];done)|(simp only[f,uV,tP,qB,wI];rfl)):p:=h
def Ta{p:Prop}(h:p:=by rintro r J⟨z,U,rfl⟩;exact⟨_,⟨z,U,rfl⟩,aP.aK.symm⟩):p:=h
def Pn{p:Prop}(h:p:=by refine aF Tryz.func221 λW=>?_;refine aq 2 λx=>?_;refine aa 14 ?_;refine ah.p' ?_ aC.d'.d'.d'.d';refine ae 5 0 ?_;refine af.bx 5 9 rfl rfl ?_ ?_;refine aw.V0 rfl (z) (by(repeat(first|exact ak.nil|exact al.here|apply ak.cons|apply al.there))) ?_;refine aa 2 ?_;refine ae 3 6 ?_;refine dr 9 λa=>?_;refine ae 2 10 ?_;exact aQ 10;refine O.Q' ad (λa=>?_);refine au ?_;refine af.x' 5 rfl rfl (z) ?_;refine aa 2 ?_;refine ae 3 6 ?_;refine ae 2 10 ?_;exact aQ 10):p:=h
def RY{p:Prop}(h:p:=by refine aF Tryz.func222 λW=>?_;refine aq 2 λx=>?_;refine aa 14 ?_;refine ah.p' ?_ aC.d'.d'.d'.d';refine ae 5 0 ?_;refine af.x' 5 rfl rfl (z) ?_;refine aa 2 ?_;refine ae 5 6 ?_;exact aQ 10):p:=h
def N1{p:Prop}(h:p:=by refine aF Tryz.func161 λW=>?_;refine aq 2 λx=>?_;refine aq 0 λq=>?_;refine aa 14 ?_;refine ah.p' ?_ aC.d'.d'.d'.d'.j;refine ae 5 0 ?_;refine af.x' 5 rfl rfl (z) ?_;refine aa 2 ?_;refine ae 4 6 ?_;exact aQ 4):p:=h
def Vu{p:Prop}(h:p:=by first|(exfalso;omega)|exact afj (λh=>ca ⟨h.gY,h.hf⟩)):p:=h
def P8{p:Prop}(h:p:=by simp[iu,oP,mw,lG,j,show m.Kind=2 from X,jL,iK,ck]):p:=h
def Vi{p:Prop}(h:p:=by rw[he,aG (by omega),bL,hY];simp only[ck]):p:=h
def Rq{p:Prop}(h:p:=by first|(exfalso;omega)|exact⟨_,_,⟨_,_,rfl,rfl⟩,(by(repeat(first|exact ak.nil|exact al.here|apply ak.cons|apply al.there)))⟩):p:=h
def Qc{p:Prop}(h:p:=by first|(simp only[hY]at*;simp_all;done)|exact c7 B (by rw[l5 (by omega)];rfl)):p:=h
def OA{p:Prop}(h:p:=by have:=p.2;obtain⟨a,b,e⟩:=List.append_of_mem d;rw[e,ke,jl,gr,gr]at this;simpa[br]using this.2.1.1):p:=h
def Nc{p:Prop}(h:p:=by(intro _ _;repeat first|exact aB.here _ _ _|apply aB.there)):p:=h
def SV{p:Prop}(h:p:=by exact⟨_,_,⟨d,_,G,rfl,rfl⟩,(by(repeat(first|exact ak.nil|exact al.here|apply ak.cons|apply al.there)))⟩):p:=h
def LS{p:Prop}(h:p:=by rw[m];(repeat(first|exact dy.nil|refine dy.cons rfl rfl ?_))):p:=h
def SF{p:Prop}(h:p:=by rw[m];(repeat(first|exact ak.nil|exact al.here|apply ak.cons|apply al.there))):p:=h
def MW{p:Prop}(h:p:=by intro e P;simp only[cQ,kq,gl]at P⊢;rcases P with rfl|rfl<;>simp):p:=h
def M8{p:Prop}(h:p:=by rw[s];(repeat(first|exact ak.nil|exact al.here|apply ak.cons|apply al.there))):p:=h
def Ua{p:Prop}(h:p:=by simp[Go.IntKind.wrap,Go.IntKind.signed,Go.IntKind.bits];omega):p:=h
def QU{p:Prop}(h:p:=by rw[show choose n x N=(2,yJ.Call) by unfold choose;rw[aG P,q];simp only[L,T,Y,ik]];refine aF Tryz.func266 λW=>?_;refine aq 2 λG=>?_;refine aq 1 λj=>?_;refine aq 24 λu=>?_;refine aq 20 λQ=>?_;refine aq 13 λs=>?_;refine aa 30 ?_;rintro _ _⟨R,U,rfl,rfl⟩;refine aa 21 ?_;refine ah.p' ?_ aC.j.j.j.j.j.d'.d';refine ae 1 0 ?_;refine af.n' 1 rfl (V.E' ad (k:=0) rfl rfl) ?_;refine ae 1 2 ?_;refine af.n' 3 rfl (V.WY ad (k:=0) (o:=11) rfl (by(repeat first|exact aH _|apply aI)) aD.len rfl) ?_;refine ae 2 4 ?_;exact aQ 5):p:=h
def TM{p:Prop}(h:p:=by rw[aJ Z];refine aa 5 ?_;refine ah.p' ?_ aC.j.d'.j.d'.d';refine ae 1 0 ?_;refine af.x' 1 rfl rfl (Ye) ?_;refine aa 2 ?_;refine ae 10 2 ?_;refine aa 4 ?_;refine ah.p' ?_ aC.j.j.j.d'.d';refine ae 3 0 ?_;refine ae 4 4 ?_;refine af.x' 3 rfl rfl (Yc) ?_;refine aa 2 ?_;refine ae 3 8 ?_;exact aQ 12):p:=h
def Sl{p:Prop}(h:p:=by exact⟨i.phase 3,k.n,k.self,k.item,k.bm,.inr (.inr (.inl rfl))⟩):p:=h
def Uf{p:Prop}(h:p:=by unfold ix;(repeat first|exact aH _|apply aI)):p:=h
def U9{p:Prop}(h:p:=by rw[R];(repeat(first|exact ak.nil|exact al.here|apply ak.cons|apply al.there))):p:=h
def Q5{p:Prop}(h:p:=by show(449-s.idx.length)*450+(a.map λf=>f.l.length+1).sum<_;omega):p:=h
def MH{p:Prop}(h:p:=by show(449-s.idx.length)*450+((a++[f.next x]).map λf=>f.l.length+1).sum<_;rw[h];omega):p:=h
def Vf{p:Prop}(h:p:=by show l.length-(j+1)<l.length-j;omega):p:=h
def Ox{p:Prop}(h:p:=by show l.length-(k+1)<l.length-k;omega):p:=h
def C8{p:Prop}(h:p:=by rintro v J⟨_,⟨rfl,rfl⟩,rfl⟩;exact⟨_,⟨rfl,rfl⟩,λ_ _ _ h=>h⟩):p:=h
def UU{p:Prop}(h:p:=by show s.dc.length-(k+1)<s.dc.length-k;omega):p:=h
def TH{p:Prop}(h:p:=by show G.length-(j+1)<G.length-j;omega):p:=h
def LY{p:Prop}(h:p:=by show(lb l).length-(i+1)<(lb l).length-i;omega):p:=h
def SR{p:Prop}(h:p:=by exact⟨_,_,.inl ⟨N,rfl,rfl⟩,(by(repeat(first|exact ak.nil|exact al.here|apply ak.cons|apply al.there)))⟩):p:=h
def PX{p:Prop}(h:p:=by have:r.ld=some o:=W;rw[u]at this;cases this):p:=h
def Nz{p:Prop}(h:p:=by have:=h.h0;show 0<=s.h0+1/\s.h0+1<=((n+1:Nat):Int);omega):p:=h
def Re{p:Prop}(h:p:=by exact⟨_,_,⟨_,_,_,G,g,ir,rfl,rfl⟩,(by(repeat(first|exact ak.nil|exact al.here|apply ak.cons|apply al.there)))⟩):p:=h
def QL{p:Prop}(h:p:=by intro fP Ye;refine ah.p' ?_ aC.j.j.j.j.d'.d'.j;refine ae 6 0 ?_;refine af.bx 6 7 rfl rfl ?_ ?_;refine aw.z' (aN.Wr (l:=G) (k:=d.c3) (aU:=sJ) jO.z Q vq vp wZ rfl rfl (by(repeat first|exact aH _|apply aI))) ?_;refine au ?_;refine dr 7 λn2=>?_;refine ae 1 8 ?_;refine au ?_;rotate_left;refine O.Q' ad (λn2=>?_);refine au ?_;refine af.y' 6 rfl (aw.z' (aN.Wr (l:=G) (k:=d.c3) (aU:=sJ) jO.z Q vq vp wZ rfl rfl (by(repeat first|exact aH _|apply aI))) ?_);refine au ?_;refine ae 1 8 ?_;refine au ?_;rotate_left;all_goals exact Out.C' Ye _ trivial trivial):p:=h
def Qo{p:Prop}(h:p:=by have:=c7 List.length C;rw[bQ,nX,nX]at this;exact ml (by omega)):p:=h
def Se{p:Prop}(h:p:=by exact⟨rfl,rfl,rfl,by dsimp only;omega,by dsimp only;omega⟩):p:=h
def Qe{p:Prop}(h:p:=by unfold sL ch;(repeat(first|exact ak.nil|exact al.here|apply ak.cons|apply al.there))):p:=h
def QV{p:Prop}(h:p:=by unfold sL;(repeat(first|exact ak.nil|exact al.here|apply ak.cons|apply al.there))):p:=h
def QC{p:Prop}(h:p:=by rintro v C⟨cK,G,rfl,rfl⟩;exact⟨_,⟨(cK,G),rfl,rfl⟩,λ_ _ _ h=>h⟩):p:=h
def Sg{p:Prop}(h:p:=by exact⟨h.n,h.self,h.now,h.run,h.M,⟨h.gg.w,h.gg.t,h.gg.aW,h.gg.td,h.gg.bY⟩⟩):p:=h
def LR{p:Prop}(h:p:=by refine⟨?_,λ_=>?_⟩<;>(unfold a6.VZ;dsimp only;omega)):p:=h
def No{p:Prop}(h:p:=by unfold aA.R' aA.send at K⊢;dsimp only at K⊢;rw[w7]at K⊢;omega):p:=h
def Qf{p:Prop}(h:p:=by rw[Array.size_setIfInBounds];exact h.aM):p:=h
def Sr{p:Prop}(h:p:=by intro j a u k;simp only[kQ,cQ,kq,gl]at a;rcases a with rfl|rfl|rfl|rfl|rfl|rfl|rfl|rfl|rfl|rfl<;>first|exact absurd rfl u|exact⟨rfl,rfl⟩):p:=h
def Pz{p:Prop}(h:p:=by exact⟨⟨⟨h.n,h.len⟩,h.cut,iB (yF ..) h.bi,by show 0<=c.lost+1/\c.lost+1<=_;omega,K.told,K.now⟩,K.up,K.dn,λx U=>h.gH x ((wx ..).subset U)⟩):p:=h
def Sm{p:Prop}(h:p:=by unfold bE dN dX;rw[g,o,Y];(repeat(first|exact ak.nil|exact al.here|apply ak.cons|apply al.there))):p:=h
def UL{p:Prop}(h:p:=by rename_i X;simp only[eh,fF]at v;exact M j (v.resolve_right X)):p:=h
def On{p:Prop}(h:p:=by exact f.Wi (eR:=c) X (iX.rfl u.1) rfl rfl D.nu u.2 (λ_ h=>.inl h) rfl rfl rfl l):p:=h
def NF{p:Prop}(h:p:=by rename_i J;exact⟨λh=>h.imp id λh=>⟨J,h⟩,λh=>h.imp id λh=>h.2⟩):p:=h
def N4{p:Prop}(h:p:=by rename_i J;exact⟨.inl,λh=>h.resolve_right λh=>J h.1⟩):p:=h
def L9{p:Prop}(h:p:=by rw[N]at J;exact nD (T.eM b v st c l J) X):p:=h
def Mw{p:Prop}(h:p:=by rw[vL _ _ w];exact(h.dm j).mono (λ_ _ h=>by rw[p];exact h) (λ_ _ h=>by rw[x];exact h) (λ_ h=>by rw[a]at h;exact h) (λJ=>((Q j).1 J).resolve_right λZ=>w Z.2) λb v st c l J=>by rw[N]at J;exact J):p:=h
def Q7{p:Prop}(h:p:=by have:=(W.ii r (f▸M)).hO;have:=p.r;have:=p.j6;omega):p:=h
def T9{p:Prop}(h:p:=by rw[gn];show(aZ s.leads x).map _=_;rw[j];rfl):p:=h
def Tg{p:Prop}(h:p:=by rw[W];show(aZ s.leads x).map _=_;rw[j];rfl):p:=h
def SO{p:Prop}(h:p:=by exact⟨_,_,⟨rfl,rfl⟩,E9 (l:=[_,_,_,_,_,_,_,_,_,_,_,_,_,_]) (by(repeat(first|exact ak.nil|exact al.here|apply ak.cons|apply al.there)))⟩):p:=h
def PC{p:Prop}(h:p:=by exact⟨some ⟨z,0,none⟩,Q,z,0,rfl,⟨o.length,o.small,o.addr,λM J=>o.reads M (((se _ _).1 J).1 _ d)⟩⟩):p:=h
def U1{p:Prop}(h:p:=by refine QJ λM z n=>?_;refine ah.p' ?_ aC.d'.d'.d'.d'.j.j;refine QY ?_;refine ae 31 8 ?_;exact aQ 13):p:=h
def Eo{p:Prop}(h:p:=by refine Q2 λfO n2=>?_;refine ah.p' ?_ aC.d'.d'.d'.d'.j;refine QY ?_;refine ae 3 8 ?_;exact aQ 11):p:=h
def Rp{p:Prop}(h:p:=by refine QJ λM z n=>?_;refine ah.p' ?_ aC.d'.d'.d'.d'.d'.d'.j.j;refine QY ?_;exact MX):p:=h
def O0{p:Prop}(h:p:=by simp only[execOp,resolve,invoke,builtin,tF,eE,lq,c0.eval b6,c0.eval fX,cW,eW,ed,c2]):p:=h
def Ma{p:Prop}(h:p:=by obtain⟨a,b⟩:=x;obtain⟨M,J⟩:=y;dsimp only at p Y;subst p Y;exact⟨rfl,v⟩):p:=h
def ME{p:Prop}(h:p:=by refine LK ?_;refine ae 5 27 ?_;refine bK 37 ?_;refine ae 9 32 ?_;exact aQ 12):p:=h
def Ug{p:Prop}(h:p:=by obtain⟨es,tz,bN,_⟩:=h;exact(Array.getElem?_eq_some_iff.1 bN).1):p:=h
def M0{p:Prop}(h:p:=by unfold bE dN dX at w⊢;refine aF Tryz.func12 λW=>?_;exact aQ 24):p:=h
def RX{p:Prop}(h:p:=by obtain⟨rfl,rfl⟩:=h;exact⟨_,⟨t,rfl,rfl⟩,aP.aK.symm⟩):p:=h
def UP{p:Prop}(h:p:=by refine ah.p' ?_ aC.j.j.j.j.j.d';refine ae 4 0 ?_;exact aQ 5):p:=h
def Oq{p:Prop}(h:p:=by simp[execOp,resolve,invoke,builtin,c0.eval o,c0.eval s,c2]):p:=h
def OP{p:Prop}(h:p:=by refine TZ λW j=>?_;refine ai.x' rfl (f _ _) ?_;exact Ry):p:=h
def UV{p:Prop}(h:p:=by refine aa 20 ?_;refine ai.v (V.F' ad (z:=K)) ?_;exact aQ 5):p:=h
def PH{p:Prop}(h:p:=by refine ai.v (V.F' ad (v:=B true) (z:=Qr)) ?_;exact aQ 14):p:=h
def TQ{p:Prop}(h:p:=by simp only[tS]at P;obtain⟨rfl,-,rfl⟩:=P;exact⟨b,o⟩):p:=h
def Ve{p:Prop}(h:p:=by refine aa 2 ?_;refine ai.o (O.Wz (λy=>?_));exact aQ 11):p:=h
def Uh{p:Prop}(h:p:=by simp only[c1]at this;exact⟨this.1,λcs b e=>af1⟩):p:=h
def Ri{p:Prop}(h:p:=by refine aa 9 ?_;refine ai.v (V.Yb ad) ?_;exact aQ 11):p:=h
def PJ{p:Prop}(h:p:=by simp only[ta,fj]at h;have y:=xG e;subst y h;simp):p:=h
def RM{p:Prop}(h:p:=by exact Out.C' C (i+1,_,o,m+1) ⟨VU,j⟩ VB):p:=h
def NB{p:Prop}(h:p:=by exact Y.perm (mW (tp _ (hV ..)) (hV ..))):p:=h
def L2{p:Prop}(h:p:=by simp only[fW,nY,db]at this;exact this):p:=h
def LU{p:Prop}(h:p:=by exact Out.C' Yc (m-1) ⟨ac,ac⟩ ac):p:=h
def Tq{p:Prop}(h:p:=by exact Out.C' Z (k+1) ⟨ac,ac⟩ ac):p:=h
def Mb{p:Prop}(h:p:=by rw[ke,gr]at this;exact this.1):p:=h
def QH{p:Prop}(h:p:=by unfold aA.R';dsimp only;omega):p:=h
def Vb{p:Prop}(h:p:=by exact gU.nil rfl rfl rfl rfl):p:=h
def UB{p:Prop}(h:p:=by exact⟨fJ.rfl,λ_=>id,id⟩):p:=h
namespace Go.az
open Go
variable{a:Act}{T:a8}{K:Act->a2->Prop}{aW:aT (Nat×Bool)}{be:Array Edge}{D:ab Nat}{J:Array cc}{d:Nat}{P:b1}{bd:String}{b:Bool}{k:IntKind}{N:ab cc}{M:Act->a2->Prop}{id:Nat}{W:a2}{args:ab aj}{ba:a8}{dst:Nat}{Y:Array Bool}{X:BinOp}{U:a2->Prop}{off:Nat}{q:Int}{gt:cc}{m:Nat}
structure ay where
 gJ:ab Nat
 holds:a2->Prop
 loc:∀(w jk:a2),(∀b,b∈gJ->jk.heap[b]?=w.heap[b]?)->holds w->holds jk
 lt:∀(w:a2),holds w->∀b,b∈gJ->b<w.heap.size
variable{ao:ab ay}{R:aj->ab ay->Prop}{a7 bg:ab ay}{e:ay}
@[irreducible] def cells(b:Nat)(T:TypeId)(c:List Value):ay where
 gJ:=[b]
 holds w:=w.heap[b]?=some (.cells c.toArray T (0,0))
 loc w jk h cE:=by rw[h b VK];exact cE
 lt w h x b6:=by
  have:x=b:=TU
  subst this;exact(Array.getElem?_eq_some_iff.1 h).1
@[irreducible] def row(v:Value)(T:TypeId)(aM n:Nat)(xs:List Value):ay where
 gJ:=v.ownBlock.toList
 holds w:=w.ownsRow 0 T aM v n xs
 loc w jk h cE:=by
  refine⟨cE.1,?_⟩;rcases cE.2 with cN|⟨g,cap,alP,rfl,bN,bG,N⟩
  .exact .inl cN
  .exact .inr ⟨g,cap,alP,rfl,bN,by rw[h g (by simp[Value.ownBlock])];exact bG,N⟩
 lt w h x b6:=by
  have ca:v.ownBlock=some x:=TU
  exact(h.lt x ca).2
@[irreducible] def b3(b:Nat)(o:Obj):ay where
 gJ:=[b]
 holds w:=w.heap[b]?=some o
 loc w jk h cE:=by rw[h b VK];exact cE
 lt w h x b6:=by
  have:x=b:=TU
  subst this;exact(Array.getElem?_eq_some_iff.1 h).1
def uC(b o):(b3 b o).gJ=[b]:=by unfold b3;rfl
def s9(b o w):(b3 b o).holds w↔w.heap[b]?=some o:=by unfold b3;rfl
def gK(b:Nat):ay:=b3 b (.deferred (some []))
def gp:ab Nat->ab ay
 |[]=>[]
 |b::l=>gK b::gp l
def xz(b T c):(cells b T c).gJ=[b]:=by unfold cells;rfl
def uD(b T c w):(cells b T c).holds w↔w.heap[b]?=some (.cells c.toArray T (0,0)):=by unfold cells;rfl
def iA(v T aM n g):(row v T aM n g).gJ=v.ownBlock.toList:=by unfold row;rfl
def i0(v T aM n g w):(row v T aM n g).holds w↔w.ownsRow 0 T aM v n g:=by unfold row;rfl
def br(ao:ab ay):ab Nat:=ao.flatMap (·.gJ)
def ke(ao bg:ab ay):br (ao++bg)=br ao++br bg:=by simp[br]
def jl(e:ay)(bg:ab ay):br (e::bg)=e.gJ++br bg:=by simp[br]
def xA{b:Nat}:b∈br ao↔∃e∈ao,b∈e.gJ:=by simp[br]
structure hS(ao:ab ay)(w:a2):Prop where
 gq:∀e,e∈ao->e.holds w
 nodup:(br ao).Nodup
structure H(W:a2)(D:ab Nat)(ao:ab ay)(w:a2):Prop where
 gq:∀e,e∈ao->e.holds w
 nodup:(br ao).Nodup
 own:∀b,b∈br ao->b∈D\/W.heap.size<=b
 cu:∀b,b<W.heap.size->b∉D->w.heap[b]?=W.heap[b]?
 size:W.heap.size<=w.heap.size
 os:w.os=W.os
 tape:w.tape=W.tape
 output:w.output=W.output
 pP:W.drawn<=w.drawn
def hS.start{w:a2}(h:hS ao w):H w (br ao) ao w:=
 ⟨h.gq,h.nodup,λ_ g=>.inl g,λ_ _ _=>rfl,cx _,rfl,rfl,rfl,cx _⟩
def H.eV{w:a2}(h:H W D ao w):hS ao w:=⟨h.gq,h.nodup⟩
def hS.lt{w:a2}(h:hS ao w){b:Nat}(g:b∈br ao):b<w.heap.size:=by obtain⟨e,j,v⟩:=xA.1 g;exact e.lt w (h.gq e j) b v
section
variable{w fi:a2}
def H.drew(h:H W D ao w):H W D ao w.drew:=⟨λe j=>e.loc w _ (λ_ _=>rfl) (h.gq e j),h.nodup,h.own,h.cu,h.size,h.os,h.tape,h.output,B7 h.pP⟩
def H.ZG(h:H W D ao w)(n:Nat):H W D ao {w with drawn:=w.drawn+n}:=⟨λe j=>e.loc w _ (λ_ _=>rfl) (h.gq e j),h.nodup,h.own,h.cu,h.size,h.os,h.tape,h.output,Nat.le_add_right_of_le h.pP⟩
def H.perm(h:H W D ao w)(z:ao.Perm a7):H W D a7 w:=
 ⟨λe j=>h.gq e (z.mem_iff.2 j),(z.flatMap_right _).nodup_iff.1 h.nodup,λb g=>h.own b ((z.flatMap_right _).mem_iff.2 g),h.cu,h.size,h.os,h.tape,h.output,h.pP⟩
def FB(h:ao.Sublist bg):(br ao).Sublist (br bg):=by
 induction h with
 |slnil=>exact vR _
 |cons a _ g=>rw[jl];exact g.trans (List.sublist_append_right _ _)
 |cons_cons a _ g=>rw[jl,jl];exact(vR _).append g
def H.sub(h:H W D ao w)(d:a7.Sublist ao):H W D a7 w:=
 ⟨λe j=>h.gq e (d.mem j),(FB d).nodup h.nodup,λb g=>h.own b ((FB d).mem g),h.cu,h.size,h.os,h.tape,h.output,h.pP⟩
def H.call{lZ mM v:ab ay}(h:H W D (lZ++mM) w)(g:H w (br lZ) v fi):H W D (v++mM) fi:=by
 have eV:=h.eV;have y:=h.nodup;rw[ke,gr]at y;have k:∀b,b∈br mM->b<w.heap.size:=λb o=>eV.lt (by rw[ke];simp[o]);have i:∀b,b∈br mM->b∉br lZ:=λb o d=>y.2.2 b d b o rfl;refine⟨?_,?_,?_,?_,iB h.size g.size,g.os.trans h.os,g.tape.trans h.tape,g.output.trans h.output,iB h.pP g.pP⟩
 .intro e j;rcases eh.1 j with j|j
  .exact g.gq e j
  .exact e.loc w fi (λb o=>g.cu b (k b (xA.2 ⟨e,j,o⟩)) (i b (xA.2 ⟨e,j,o⟩))) (h.gq e Vx)
 .rw[ke,gr];refine⟨g.nodup,y.2.1,λa t b o z=>?_⟩;subst z;rcases g.own a t with d|d
  .exact i a o d
  .have:=k a o;omega
 .intro b o;rw[ke,eh]at o;rcases o with o|o
  .rcases g.own b o with d|d
   .exact h.own b (by rw[ke];simp[d])
   .exact .inr (iB h.size d)
  .exact h.own b (by rw[ke];simp[o])
 .intro b o t;have i:b∉br lZ:=λk=>by
   rcases h.own b (by rw[ke];simp[k])with d|d
   .exact t d
   .omega
  exact(g.cu b (Nat.lt_of_lt_of_le o h.size) i).trans (h.cu b o t)
def H.new{zv:ab ay}(h:H W D ao w)(g:H w [] zv fi):H W D (zv++ao) fi:=by have o:H W D ([]++ao) w:=h;exact o.call (lZ:=[]) (by simpa[br]using g)
def H.alloc(h:H W D ao w)(T:a8)(c:ab aj):H W D (cells w.heap.size T c::ao) (w.alloc (.cells c.toArray T)):=by
 have:H w [] [cells w.heap.size T c] (w.alloc (.cells c.toArray T)):=by
  refine⟨λe j=>?_,by simp[br,xz],λb g=>?_,λb g _=>uE _ _ g,VK,rfl,rfl,rfl,cx _⟩
  .obtain rfl:e=_:=by simpa using j
   rw[uD];exact zw _ _
  .obtain rfl:b=w.heap.size:=by simpa[br,xz]using g
   exact .inr (cx _)
 exact h.new this
@[irreducible] def aB(ao:List ay)(e g:ay)(a7:List ay):Prop:=∃l r,ao=l++e::r/\a7=l++g::r
def aB.here(e g:ay)(ao:ab ay):aB (e::ao) e g (g::ao):=by unfold aB;exact⟨[],ao,rfl,rfl⟩
def aB.there(x e g:ay)(ao a7:ab ay)(h:aB ao e g a7):aB (x::ao) e g (x::a7):=by unfold aB at*;obtain⟨l,r,rfl,rfl⟩:=h;exact⟨x::l,r,rfl,rfl⟩
def aB.split{g:ay}(u:aB ao e g a7):∃l r,ao=l++e::r/\a7=l++g::r:=by unfold aB at u;exact u
def H.o8{d:ay}(h:H W D ao w)(u:aB ao e d a7)(g:H w e.gJ [d] fi):H W D a7 fi:=by
 obtain⟨l,r,rfl,rfl⟩:=u.split;have z:(l++e::r).Perm ([e]++(l++r)):=VK
 have o:([d]++(l++r)).Perm (l++d::r):=by simpa using(ow (a:=d) (l₁:=l) (l₂:=r)).symm
 exact((h.perm z).call (lZ:=[e]) (by simpa[br]using g)).perm o
def H.mem(h:H W D ao w)(j:e∈ao):e.holds w:=h.gq e j
end
def vS:TypeDesc->Bool
 |.struct _|.array _ _=>true
 |_=>false
def uF(P:b1)(T:a8)(k:Nat):Bool:=
 match P.underlying T with
 |some d=>vS d&&((P.info? T).map (·.size)==some k)
 |none=>false
def uG(P:b1)(T:a8):Bool:=
 match P.underlying T with
 |some d=>!vS d&&((P.info? T).map (·.size)==some 1)
 |none=>false
section
def vT{k:Nat}(h:uF P T k=true):∃d,P.underlying T=some d/\d.isRow=true/\(P.info? T).map (·.size)=some k:=by
 unfold uF at h;split at h
 .rename_i d b;simp only[c1,c9]at h;exact⟨d,b,by cases d<;>simp_all[vS],h.2⟩
 .cases h
def B8(h:uG P T=true):∃d,P.underlying T=some d/\vS d=false/\(P.info? T).map (·.size)=some 1:=by
 unfold uG at h;split at h
 .rename_i d b;simp only[c1,c9,kf]at h;exact⟨d,b,h.1,h.2⟩
 .cases h
def zx{w:a2}(h:uG P T=true){a:Addr}{v:aj}(g:w.cell? a=some v):(loadVar T a).run P w=.ok v w:=by
 obtain⟨d,o,b,_⟩:=B8 h;have t:(isAgg T).run P w=.ok false w:=by unfold isAgg;rw[cW,eD o w];cases d<;>simp_all[vS]
 simp[loadVar,cW,t,Go.load,Sem.run,g]
def B9{w:a2}{b:Nat}{c:ab aj}(h:(cells b T c).holds w)(i:Nat):w.cell? ⟨b,i,none⟩=c[i]?:=by rw[uD]at h;rw[cell_of_row w b i _ T (0,0) h];simp
def kg(o k:Nat)(c:ab aj):ab aj:=(c.drop o).take k
def LB{w:a2}{E:a8}{b o k:Nat}{c:ab aj}(h:uF P T k=true)(t:(cells b E c).holds w)(g:o+k<=c.length):(loadVar T ⟨b,o,none⟩).run P w=.ok (.agg (kg o k c).toArray) w:=by
 obtain⟨d,y,i,am⟩:=vT h;refine Ca w b o T (kg o k c) d (λj v z=>?_) y i (by rw[am];simp[kg];omega);rw[B9 t];simp only[kg,mN,l0]at z;split at z
 .exact z
 .cases z
def jD(P:b1)(T:a8)(o:Nat)(c:ab aj)(v:aj):Prop:=
 (uG P T=true/\c[o]?=some v)\/(∃k,uF P T k=true/\o+k<=c.length/\v=.agg (kg o k c).toArray)
def jD.one{o:Nat}{c:ab aj}{v:aj}(h:uG P T=true)(g:c[o]?=some v):jD P T o c v:=.inl ⟨h,g⟩
def jD.agg{o k:Nat}{c t:ab aj}(h:uF P T k=true)(g:Nat.ble (o+k) c.length=true)(d:kg o k c=t):jD P T o c (.agg t.toArray):=.inr ⟨k,h,pQ g,by rw[d]⟩
def jD.run{w:a2}{E:a8}{b o:Nat}{c:ab aj}{v:aj}(h:jD P T o c v)(t:(cells b E c).holds w):(loadVar T ⟨b,o,none⟩).run P w=.ok v w:=by
 rcases h with⟨g,d⟩|⟨k,g,d,rfl⟩
 .exact zx g (by rw[B9 t];exact d)
 .exact LB g t d
def ey(o:Nat)(n c:ab aj):ab aj:=c.take o++n++c.drop (o+n.length)
def ai5{w:a2}{E:a8}{b o:Nat}{c:ab aj}{v:aj}(h:(P.info? T).map (·.size)=some v.cells.size)(z:(cells b E c).holds w)(d:o+v.cells.size<=c.length)(g:v.cells.all (·.oneCell')=true):(storeVar T ⟨b,o,none⟩ v).run P w=.ok () (w.setRow b (ey o v.cells.toList c).toArray):=by
 rw[uD]at z;cases aV:P.info? T with
 |none=>simp[aV]at h
 |some i=>
  have t:v.cells.size=i.size:=by simp[aV]at h;omega
  have y:=uH P b o E v.cells.toList 0 c.toArray w z OI (λu j=>(zy.1 g) u (by simpa using j));simp only[hj]at y;have e:(c.toArray.toList.take o++v.cells.toList++c.toArray.toList.drop (o+v.cells.toList.length)).toArray=(ey o v.cells.toList c).toArray:=by simp[ey]
  rw[e]at y;simp[storeVar,sizeOf,typeInfo,aV,t,y]
variable{w fi:a2}{Q:dY->Act->a2->Prop}
def H.setRow(h:H W D ao w){b:Nat}{c t:ab aj}(u:aB ao (cells b T c) (cells b T t) a7):H W D a7 (w.setRow b t.toArray):=by
 have d:cells b T c∈ao:=by obtain⟨l,r,rfl,_⟩:=u.split;simp
 have dT:=h.mem d;rw[uD]at dT;refine h.o8 u ⟨λe j=>?_,by simp[br,xz],λx g=>?_,λk o y=>?_,VK,rfl,rfl,rfl,cx _⟩
 .obtain rfl:e=_:=by simpa using j
  rw[uD];exact r3 w b _ _ T _ dT
 .left;simpa[br,xz]using g
 .exact xB w b k _ (by simpa[xz]using y)
section
variable{dst:aT Tmp}
end
end
abbrev bJ:=ab (Nat×aj)
variable{C:bJ->ab ay->Prop}{an Z:bJ}
def eN:bJ->Nat->aT aj
 |[],_=>none
 |(k,v)::l,j=>bif Nat.beq k j then some v else eN l j
structure dF where
 n:Nat
 ds:ab Nat
variable{n:dF}
def mark(b:Nat):Deferred:={target:=.collected b,args:=#[]}
structure dx(n:dF)(an:bJ)(a:Act):Prop where
 size:a.tmps.size=n.n
 defers:a.defers=n.ds.map mark
 get:∀j v,eN an j=some v->j<n.n/\a.tmps.getD j undef=v
def aR(an:bJ):bj->aT aj
 |.tmp t=>eN an t
 |.const v=>some v
 |.global g=>some (.pointer (some ⟨g,0,none⟩))
 |.func f=>some (.func (.func f) #[] #[])
def dx.eval(h:dx n an a){x:bj}{v:aj}(d:aR an x=some v):a.eval x=v:=by
 cases x with
 |tmp t=>exact(h.get t v d).2
 |const u=>exact gs d
 |global g=>exact gs d
 |func f=>exact gs d
def dx.put(h:dx n an a)(b:Nat.blt d n.n=true)(v:aj):dx n ((d,v)::an) (a.put (some d) v):=by
 have i:d<n.n:=pQ b;refine⟨by simp[Act.put,h.size],by simp[Act.put,h.defers],λj u y=>?_⟩;simp only[eN]at y;by_cases e:d=j
 .subst e;rw[show Nat.beq d d=true from xC d]at y;simp only[ta,fj]at y;subst y;exact⟨i,by simp[Act.put,h.size,i]⟩
 .rw[show Nat.beq d j=false from by rw[<-mh,zz];exact e]at y;simp only[xD]at y;obtain⟨g,d⟩:=h.get j u y;refine⟨g,?_⟩;simp only[vU,Act.put]at d⊢;rw[Array.getElem?_setIfInBounds_ne e];exact d
def dx.W1(h:dx n an a)(v:aj):dx n an (a.put none v):=h
def dx.sub(h:dx n an a)(g:∀j v,eN Z j=some v->eN an j=some v):dx n Z a:=
 ⟨h.size,h.defers,λj v y=>h.get j v (g j v y)⟩
def dy(an:bJ):bJ->Prop
 |[]=>True
 |(k,v)::l=>eN an k=some v/\dy an l
def dy.get{an:bJ}:∀{l:bJ},dy an l->∀j v,eN l j=some v->eN an j=some v
 |[],_,j,v,h=>VL
 |(k,u)::l,g,j,v,h=>by
  simp only[eN]at h;by_cases e:k=j
  .subst e;rw[show Nat.beq k k=true from xC k]at h;simp only[ta,fj]at h;subst h;exact g.1
  .rw[show Nat.beq k j=false from by rw[<-mh,zz];exact e]at h;exact dy.get g.2 j v h
abbrev nj(r:aT Nat):Fence:={Fence.wide with round:=r}
abbrev da:=dY->Act->a2->Prop
variable{Q:da}
def nS(P:b1)(r:aT Nat)(o:cc)(a:Act)(w:a2)(K:Act->a2->Prop)(Q:da):Prop:=
 o.uponIn (nj r) 0 P a K Q ((o.semAt r a.eval).run P w)
def Cb{r:aT Nat}{o:cc}{w:a2}(h:nS P r o a w K Q):o.wpIn (nj r) 0 P a w K Q:=
 ⟨λ_ _=>trivial,h⟩
section
variable(P:b1)(r:aT Nat)(W:a2)(D:ab Nat)(n:dF)
def ah(Q:da)(c:Code)(an:bJ)(ao:ab ay):Prop:=∀a w,dx n an a->H W D ao w->c.wpIn (nj r) 0 P Q a w
def ai(J:Array cc)(Q:da)(l:ab cc)(an:bJ)(ao:ab ay):Prop:=∀a w,dx n an a->H W D ao w->wpListIn (nj r) 0 P J Q l a w
def Out(Q:da)(e:dY)(an:bJ)(ao:ab ay):Prop:=∀a w,dx n an a->H W D ao w->Q e a w
def aw(o:cc)(an:bJ)(ao:ab ay)(C:bJ->ab ay->Prop):Prop:=
 ∀(K:Act->a2->Prop) (Q:da),(∀Z a7,C Z a7->∀a w,dx n Z a->H W D a7 w->K a w)->∀a w,dx n an a->H W D ao w->nS P r o a w K Q
end
section
variable{r:aT Nat}
def hT(an:bJ)(J:Array cc)(g:aT (Nat×Bool)):aT Bool:=
 match g with
 |none=>some true
 |some (j,g)=>
  match J[j]? with
  |some o=>match o.dst with
   |some d=>match eN an d with
    |some (.bool b)=>some (b==g)
    |some (.tuple _)=>some false
    |_=>none
   |none=>none
  |none=>none
def dx.aaj(h:dx n an a){j:Nat}{v:aj}(t:eN an j=some v):a.tmps[j]?=some v:=by
 obtain⟨g,d⟩:=h.get j v t;have:j<a.tmps.size:=by rw[h.size];exact g
 simp[this]at d⊢;exact d
def r4(h:dx n an a){o:cc}(z:hT an J o.guard=some b):Region.wanted o (yielded J a.tmps)=b:=by
 unfold hT at z;unfold Region.wanted;split at z
 .rename_i e;rw[e];simpa using z
 .rename_i j x e;rw[e];simp only;split at z
  .rename_i s y;split at z
   .rename_i d i;split at z
    .rename_i v t;have g:yielded J a.tmps j=some v:=by simp[yielded,y,i,h.aaj t]
     rw[g];simp only[fj]at z;subst z;cases v<;>cases x<;>rfl
    .rename_i k t;have g:yielded J a.tmps j=none:=by simp[yielded,y,i,h.aaj t]
     rw[g];simp only[fj]at z;subst z;rfl
    .cases z
   .cases z
  .cases z
def ai.nil(h:Out W D n Q .normal an ao):ai P r W D n J Q [] an ao:=h
def ai.op{o:cc}(g:hT an J o.guard=some true)(h:aw P r W D n o an ao (ai P r W D n J Q N)):ai P r W D n J Q (o::N) an ao:=λa w y b=>by unfold wpListIn;rw[aJ (r4 y g)];exact Cb (h _ _ (λZ a7 g a w y b=>g a w y b) a w y b)
def ai.skip{X:Op}{g:aT (Nat×Bool)}(o:hT an J g=some false)(b:Nat.blt d n.n=true)(h:ai P r W D n J Q N ((d,undef)::an) ao):ai P r W D n J Q (⟨some d,X,ba,bd,be,g⟩::N) an ao:=λa w y i=>by unfold wpListIn;rw[aG (by rw[r4 y o];simp)];exact⟨λ_ _=>trivial,h _ w (y.put b undef) i⟩
def Cc(J:Array cc)(g:aT (Nat×Bool)):aT Nat:=
 match g with
 |none=>none
 |some (j,_)=>(J[j]?).bind (·.dst)
def dx.jT(h:dx n an a){v:aj}(t:eN an d=some v):dx n ((d,v)::an) a:=by
 refine⟨h.size,h.defers,λj u y=>?_⟩;simp only[eN]at y;by_cases e:d=j
 .subst e;rw[show Nat.beq d d=true from xC d]at y;simp only[ta,fj]at y;subst y;exact h.get d v t
 .rw[show Nat.beq d j=false from by rw[<-mh,zz];exact e]at y;exact h.get j u y
def ai.part{o:cc}(g:Cc J o.guard=some d)(z:eN an d=some (.bool b))(t:b=true->ai P r W D n J Q (o::N) ((d,.bool true)::an) ao)(k:b=false->ai P r W D n J Q (o::N) ((d,.bool false)::an) ao):ai P r W D n J Q (o::N) an ao:=λa w y i=>by
 have:=g;cases b with
 |true=>exact t rfl a w (y.jT z) i
 |false=>exact k rfl a w (y.jT z) i
def ah.region{l:ab cc}(h:ai P r W D n l.toArray Q l an ao):ah P r W D n Q (.region id l.toArray false) an ao:=λa w y b=>wpIn_region_lit (h a w y b)
def ah.seq{x y:Code}(h:ah P r W D n (Exit.then (y.wpIn (nj r) 0 P Q) Q) x an ao):ah P r W D n Q (.seq x y) an ao:=λa w y b=>wpIn_seq (h a w y b)
def ah.block{x:Code}(h:ah P r W D n (Exit.inBlock id Q) x an ao):ah P r W D n Q (.block id x) an ao:=λa w y b=>wpIn_block (h a w y b)
def ah.skip(h:Out W D n Q .normal an ao):ah P r W D n Q .skip an ao:=λa w y b=>wpIn_skip (h a w y b)
def ah.ret(h:Out W D n Q .ret an ao):ah P r W D n Q .ret an ao:=λa w y b=>wpIn_ret (h a w y b)
def ah.exit(h:Out W D n Q (.exit id) an ao):ah P r W D n Q (.exit id) an ao:=λa w y b=>wpIn_exit (h a w y b)
def ah.abD{c:bj}{x y:Code}(g:aR an c=some (.bool true))(h:ah P r W D n Q x an ao):ah P r W D n Q (.cond c x y) an ao:=λa w y b=>wpIn_cond_true (y.eval g) (h a w y b)
def ah.abE{c:bj}{x y:Code}(g:aR an c=some (.bool false))(h:ah P r W D n Q y an ao):ah P r W D n Q (.cond c x y) an ao:=λa w y b=>wpIn_cond_false (y.eval g) (h a w y b)
def ah.cond{c:bj}{x y:Code}(o:aR an c=some (.bool b))(g:b=true->ah P r W D n Q x an ao)(d:b=false->ah P r W D n Q y an ao):ah P r W D n Q (.cond c x y) an ao:=
 λa w y b=>wpIn_cond_split (y.eval o) (λe=>g e a w y b) (λe=>d e a w y b)
def Out.abF{y:Code}(h:ah P r W D n Q y an ao):Out W D n (Exit.then (y.wpIn (nj r) 0 P Q) Q) .normal an ao:=h
def Out.abG(h:Out W D n Q .ret an ao):Out W D n (Exit.then K Q) .ret an ao:=h
def Out.abH(h:Out W D n Q (.exit id) an ao):Out W D n (Exit.then K Q) (.exit id) an ao:=h
def Out.abI(h:Out W D n Q .normal an ao):Out W D n (Exit.inBlock id Q) .normal an ao:=h
def Out.abJ(h:Out W D n Q .ret an ao):Out W D n (Exit.inBlock id Q) .ret an ao:=h
def Out.abK(h:Out W D n Q .normal an ao):Out W D n (Exit.inBlock id Q) (.exit id) an ao:=λa w y b=>by simp only[Exit.inBlock,ik];exact h a w y b
def Out.abL{i:Nat}(g:Nat.beq i id=false)(h:Out W D n Q (.exit i) an ao):Out W D n (Exit.inBlock id Q) (.exit i) an ao:=λa w y b=>by
 have k:i≠id:=by intro e;rw[e]at g;rw[show Nat.beq id id=true from xC id]at g;cases g
 simp only[Exit.inBlock,aG k];exact h a w y b
def Cd(N:Nat->Prop):∀k,N k->∃m,N m/\∀j,j<m->¬N j:=by
 intro k;induction k using Nat.strongRecOn with
 |_ k d=>
  intro g;by_cases h:∃j,j<k/\N j
  .obtain⟨j,v,o⟩:=h;exact d j v o
  .exact⟨k,g,λj v o=>h ⟨j,v,o⟩⟩
def ah.loop{bB:Type}{c:Code}(E:bB->bJ)(S:bB->ab ay)(t:bB->Nat)(d:bB)(v:dy an (E d))(o:∀w,H W D ao w->H W D (S d) w)(h:∀x,ah P r W D n (Exit.then (λa w=>∃y,t y<t x/\dx n (E y) a/\H W D (S y) w) Q) c (E x) (S x)):ah P r W D n Q (.loop c) an ao:=λa w b i=>by
 classical
 let I:Act->a2->Prop:=λa w=>∃x,dx n (E x) a/\H W D (S x) w;let N:Act->a2->Nat->Prop:=λa w k=>∃x,t x=k/\dx n (E x) a/\H W D (S x) w;have ex:∀a w,I a w->∃k,N a w k/\∀j,j<k->¬N a w j:=λa w ⟨x,g⟩=>Cd _ (t x) ⟨x,rfl,g⟩;let m:Act->a2->Nat:=λa w=>if h:I a w then Classical.choose (ex a w h)else 0
 have mspec:∀a w (h:I a w),N a w (m a w)/\∀j,j<m a w->¬N a w j:=λa w h=>O6
 refine wpIn_loop I m ⟨d,b.sub v.get,o w i⟩ λa w s=>?_;obtain⟨⟨x,g,k,v⟩,_⟩:=mspec a w s;refine uI (h x a w k v) λe o d aV=>?_;cases e with
 |normal=>
  obtain⟨y,g,b,k⟩:=aV;refine⟨⟨y,b,k⟩,?_⟩;have g:I o d:=⟨y,b,k⟩
  have:=(mspec o d g).2 (t y);rcases o9 (t y) (m o d)with i|g
  .exact absurd ⟨y,rfl,b,k⟩ (this i)
  .omega
 |_=>exact aV
end
abbrev I(n:Int):aj:=.int .i64 n
abbrev S(l:ab aS):aj:=.string ⟨l.toArray⟩
abbrev B(b:Bool):aj:=.bool b
abbrev A(c:ab aj):aj:=.agg c.toArray
abbrev av(b o:Nat):aj:=.pointer (some ⟨b,o,none⟩)
def kW:Op->Bool
 |.defer _=>false
 |_=>true
section
variable{r:aT Nat}
def vV{r:aT Nat}{o:cc}(h:kW o.op=true)(v:bj->aj):o.semAt r v=execOp v o:=by refine Oper.semAt_eq r v o λc e=>?_;rw[e]at h;cases h
def kh{o:cc}{w t:a2}{v:aj}(k:kW o.op=true)(d:(execOp a.eval o).run P w=.ok (.value v) t)(g:K (a.put o.dst v) t):nS P r o a w K Q:=by unfold nS;rw[vV k,d];exact g
def uJ{o:cc}{w t:a2}(k:kW o.op=true)(d:(execOp a.eval o).run P w=.ok .skip t)(g:K (a.put o.dst undef) t):nS P r o a w K Q:=by unfold nS;rw[vV k,d];exact g
def zA{o:cc}{w b:a2}{f:fb}{args:Array aj}(k:kW o.op=true)(j:(execOp a.eval o).run P w=.ok (.enter f args) b)(z:Calls P f args b λe i=>∃v,e=.returned v/\K (a.put o.dst v) i):nS P r o a w K Q:=by unfold nS;rw[vV k,j];refine⟨λh=>VL,?_⟩;have g:CallsIn Fence.wide 0 P f args b λe i=>∃v,e=.returned v/\K (a.put o.dst v) i:=callsIn_wide.2 z;have d:CallsIn (nj r) 0 P f args b λe i=>∃v,e=.returned v/\K (a.put o.dst v) i:=g;exact d.mono λe i ⟨v,y,t⟩=>by subst y;exact t
def fU(K:ab ay)(w:a2):Prop:=∀e,e∈K->e.holds w
def H.hold{w:a2}(h:H W D ao w):fU ao w:=h.gq
def aN(P:b1)(n:dF)(an:bJ)(ao:ab ay)(o:cc)(v:aj):Prop:=
 ∀a w,dx n an a->fU ao w->(execOp a.eval o).run P w=.ok (.value v) w
def aw.aak{X:Op}{v:aj}(s:kW X=true)(b:Nat.blt dst n.n=true)(h:aN P n an ao ⟨some dst,X,ba,bd,be,aW⟩ v)(g:C ((dst,v)::an) ao):aw P r W D n ⟨some dst,X,ba,bd,be,aW⟩ an ao C:=λ_ _ k a w y i=>
 kh s (h a w y i.hold) (k _ _ g _ _ (y.put b v) i)
def ai.val{X:Op}{v:aj}(g:hT an J aW=some true)(k:kW X=true)(b:Nat.blt dst n.n=true)(h:aN P n an ao ⟨some dst,X,ba,bd,be,aW⟩ v)(d:ai P r W D n J Q N ((dst,v)::an) ao):ai P r W D n J Q (⟨some dst,X,ba,bd,be,aW⟩::N) an ao:=ai.op g (aw.aak k b h d)
def aN.move{x:bj}{v:aj}(g:aR an x=some v):aN P n an ao ⟨some dst,.move x,ba,bd,be,aW⟩ (v):=
 λa w y _=>TF
def aN.assign{x:bj}{v:aj}(g:aR an x=some v):aN P n an ao ⟨some dst,.assign x,ba,bd,be,aW⟩ (v):=
 λa w y _=>TF
def aN.pick{c x y:bj}{v:aj}(o:aR an c=some (.bool b))(g:b=true->aR an x=some v)(d:b=false->aR an y=some v):aN P n an ao ⟨some dst,.pick c x y,ba,bd,be,aW⟩ (v):=
 λa w y _=>by
  cases b with
  |true=>simp[execOp,y.eval o,asBool,y.eval (g rfl)]
  |false=>simp[execOp,y.eval o,asBool,y.eval (d rfl)]
def bb(X:BinOp)(p q:Int):aT Bool:=
 match X with
 |.eql=>some (decide (p=q))
 |.neq=>some (!decide (p=q))
 |.lss=>some (decide (p<q))
 |.leq=>some (decide (p<=q))
 |.gtr=>some (decide (q<p))
 |.geq=>some (decide (q<=p))
 |_=>none
def aN.cmp{t h:a8}{x y:bj}{p:Int}(g:aR an x=some (.int k p))(d:aR an y=some (.int k q))(o:bb X p q=some b):aN P n an ao ⟨some dst,.binOp X t x y h,ba,bd,be,aW⟩ (.bool b):=
 λa w i _=>by simp only[execOp,i.eval g,i.eval d];cases X<;>simp only[bb,fj,reduceCtorEq]at o<;>subst o<;>simp[eqGuard,binOp,Op.intCmp,bne,BEq.beq]
def aN.add{t h:a8}{x y:bj}{p:Int}(g:aR an x=some (I p))(d:aR an y=some (I q))(o:-9223372036854775808<=p+q/\p+q<=9223372036854775807):aN P n an ao ⟨some dst,.binOp .add t x y h,ba,bd,be,aW⟩ (I (p+q)):=
 λa w y _=>MJ
def aN.sub{t h:a8}{x y:bj}{p:Int}(g:aR an x=some (I p))(d:aR an y=some (I q))(o:-9223372036854775808<=p-q/\p-q<=9223372036854775807):aN P n an ao ⟨some dst,.binOp .sub t x y h,ba,bd,be,aW⟩ (I (p-q)):=
 λa w y _=>MJ
def aN.mul{t h:a8}{x y:bj}{p:Int}(g:aR an x=some (I p))(d:aR an y=some (I q))(o:-9223372036854775808<=p*q/\p*q<=9223372036854775807):aN P n an ao ⟨some dst,.binOp .mul t x y h,ba,bd,be,aW⟩ (I (p*q)):=
 λa w y _=>MJ
def aN.arith{t h:a8}{x y:bj}{p u:Int}(g:aR an x=some (.int k p))(d:aR an y=some (.int k q))(o:(match X with|.add=>some (k.wrap (p+q))|.sub=>some (k.wrap (p-q))|.mul=>some (k.wrap (p*q))|_=>none)=some u):aN P n an ao ⟨some dst,.binOp X t x y h,ba,bd,be,aW⟩ (.int k u):=
 λa w b _=>by simp only[execOp,b.eval g,b.eval d];cases X<;>simp only[fj,reduceCtorEq]at o<;>subst o<;>simp[eqGuard,binOp,Op.intArith]
def aN.quo{t h:a8}{x y:bj}{p:Int}(g:aR an x=some (I p))(d:aR an y=some (I q))(o:0<=p/\p<=9223372036854775807/\1<=q):aN P n an ao ⟨some dst,.binOp .quo t x y h,ba,bd,be,aW⟩ (I (p/q)):=
 λa w y _=>by
  have aV:q≠0:=ac
  simp[execOp,y.eval g,y.eval d,eqGuard,binOp,Op.intDiv,aV,IntWalk.i64_quo _ _ o]
def aN.rem{t h:a8}{x y:bj}{p:Int}(g:aR an x=some (.int k p))(d:aR an y=some (.int k q))(o:0<=p/\1<=q):aN P n an ao ⟨some dst,.binOp .rem t x y h,ba,bd,be,aW⟩ (.int k (p%q)):=
 λa w y _=>by
  have aV:q≠0:=ac
  simp[execOp,y.eval g,y.eval d,eqGuard,binOp,Op.intDiv,aV,Int.tmod_eq_emod_of_nonneg o.1]
def dk(P:b1)(d:Nat)(T:a8)(x y:aj)(b:Bool):Prop:=∀w,(Op.equalIn d T x y).run P w=.ok b w
def vW:aj->aj->Bool
 |.int ..,_|.float ..,_|.complex ..,_|.string _,_|.pointer _,.int ..|.nilIface,.nilIface=>false
 |_,_=>true
def agS{t:a8}{x y:aj}(h:vW x y=true)(w:a2):(binOp .eql t x y).run P w=((Op.equalIn 10000 t x y).run P w).andThen λb g=>.ok (.bool b) g:=by
 have e:binOp .eql t x y=(do pure (.bool (<-Op.equal t x y))):=RZ
 rw[e];show((do pure (Value.bool (<-Op.equal t x y)):Sem aj)).run P w=_
 rw[cW];rfl
def ako{t:a8}{x y:aj}(h:vW x y=true)(w:a2):(binOp .neq t x y).run P w=((Op.equalIn 10000 t x y).run P w).andThen λb g=>.ok (.bool (!b)) g:=by
 have e:binOp .neq t x y=(do pure (.bool (!(<-Op.equal t x y)))):=RZ
 rw[e];show((do pure (Value.bool (!(<-Op.equal t x y))):Sem aj)).run P w=_
 rw[cW];rfl
def vX(P:b1)(t:a8):aj->aj->Bool
 |.nilIface,.nilIface=>false
 |.agg _,.agg _=>!P.eqGuardType P.depth t
 |_,_=>true
def FD{t:a8}{x y:bj}{a b:aj}(h:vX P t a b=true)(w:a2):(eqGuard X t x y a b).run P w=.ok () w:=by
 unfold vX at h;unfold eqGuard;split at h
 .cases h
 .simp only[kf]at h;cases X<;>simp[h]
 .cases X<;>first|rfl|(simp only;split<;>first|rfl|simp_all)
def aN.eql{t h:a8}{x y:bj}{u v:aj}(g:aR an x=some u)(d:aR an y=some v)(z:vW u v=true)(o:vX P t u v=true)(j:dk P 10000 t u v b):aN P n an ao ⟨some dst,.binOp .eql t x y h,ba,bd,be,aW⟩ (.bool b):=
 λa w y _=>by simp only[execOp,y.eval g,y.eval d,cW,FD o,ed,agS z,j w,eW]
def aN.neq{t h:a8}{x y:bj}{u v:aj}(g:aR an x=some u)(d:aR an y=some v)(z:vW u v=true)(o:vX P t u v=true)(j:dk P 10000 t u v b):aN P n an ao ⟨some dst,.binOp .neq t x y h,ba,bd,be,aW⟩ (.bool (!b)):=
 λa w y _=>by simp only[execOp,y.eval g,y.eval d,cW,FD o,ed,ako z,j w,eW]
def dk.bool{t:a8}{p q:Bool}(o:P.underlying t=some .bool):dk P (d+1) t (.bool p) (.bool q) (p==q):=λw=>run_equalIn_bool w d t p q o
def aN.not{t:a8}{x:bj}{p:Bool}(g:aR an x=some (.bool p)):aN P n an ao ⟨some dst,.unOp .not t x,ba,bd,be,aW⟩ (.bool (!p)):=
 λa w y _=>by simp[execOp,y.eval g,Op.unary]
def aN.conv{t u:a8}{x:bj}{d:IntKind}{p:Int}(g:aR an x=some (.int k p))(o:P.underlying u=some (.int d))(z:(P.underlying t).isSome=true):aN P n an ao ⟨some dst,.convert t u x,ba,bd,be,aW⟩ (.int d (d.wrap p)):=
 λa w y _=>by obtain⟨d,j⟩:=uK.1 z;simp[execOp,y.eval g,convert,eD o,eD j,Conv.intToInt]
def aN.extract{x:bj}{pR:Nat}{d:ab aj}{v:aj}(g:aR an x=some (.tuple d.toArray))(t:d[pR]?=some v):aN P n an ao ⟨some dst,.extract x pR,ba,bd,be,aW⟩ (v):=
 λa w y _=>by simp[execOp,y.eval g,Instr.extract,t]
def aN.nilCheck{x:bj}{b o:Nat}(g:aR an x=some (av b o)):aN P n an ao ⟨some dst,.nilCheck x,ba,bd,be,aW⟩ (av b o):=
 λa w y _=>by simp[execOp,y.eval g]
def xE(P:b1)(s:a8)(f:Nat):aT Nat:=
 match P.underlying s with
 |some (.struct y)=>match y[f]? with
  |some g=>match P.info? g.type with
   |some i=>if i.size=0 then none else some g.offset
   |none=>none
  |none=>none
 |_=>none
def Addr.abM(b o j:Nat):(⟨b,o,none⟩:Addr).add j=⟨b,o+j,none⟩:=Addr.add_mid b o j
def agG{s:a8}{f b o:Nat}(h:xE P s f=some off)(w:a2):(Instr.fieldAt s (av b o) f).run P w=.ok (av b (o+off)) w:=by
 unfold xE at h;split at h
 .rename_i y g;split at h
  .rename_i d t;split at h
   .rename_i i am;split at h
    .cases h
    .rename_i v;simp only[fj]at h;subst h;simp[Instr.fieldAt,eD g,t,Instr.sureAddr,fieldPlace,sizeOf,typeInfo,am,v,Addr.abM]
   .cases h
  .cases h
 .cases h
def aN.fieldAddr{s:a8}{x:bj}{f b o:Nat}(g:aR an x=some (av b o))(k:xE P s f=some off)(i:o+off=d):aN P n an ao ⟨some dst,.fieldAddr s x f,ba,bd,be,aW⟩ (av b d):=
 λa w y _=>by subst i;simp[execOp,y.eval g,agG k]
def aN.load{E:a8}{x:bj}{b o:Nat}{c:ab aj}{v:aj}(g:aR an x=some (av b o))(d:cells b E c∈ao)(t:jD P T o c v):aN P n an ao ⟨some dst,.load T x,ba,bd,be,aW⟩ (v):=
 λa w y b=>by simp only[execOp,y.eval g,Instr.loadAt,Instr.sureAddr,cW,eW,ed,t.run (b _ d)]
def aw.store{E:a8}{x y:bj}{b o:Nat}{c s:ab aj}{v:aj}(d:aR an x=some (av b o))(t:aR an y=some v)(z:aB ao (cells b E c) (cells b E s) a7)(i:(P.info? T).map (·.size)=some v.cells.size)(j:Nat.ble (o+v.cells.size) c.length=true)(g:v.cells.all (·.oneCell')=true)(k:ey o v.cells.toList c=s)(dG:C an a7):aw P r W D n ⟨none,.store T x y,ba,bd,be,aW⟩ an ao C:=λK Q cJ a w h cr=>by
 subst k;have Yc:cells b E c∈ao:=by obtain⟨l,r,rfl,_⟩:=z.split;simp
 refine uJ rfl ?_ (cJ _ _ dG _ _ (h.W1 undef) (cr.setRow z));simp only[execOp,h.eval d,h.eval t,Instr.storeAt,Instr.sureAddr,cW,eW,ed,ai5 i (cr.mem Yc) (pQ j) g]
def aw.box{x:bj}{v:aj}{c:ab aj}(i:Nat.blt dst n.n=true)(d:aR an x=some v)(g:v.cells.toList=c)(t:∀b,C ((dst,av b 0)::an) (cells b T c::ao)):aw P r W D n ⟨some dst,.box T x,ba,bd,be,aW⟩ an ao C:=λK Q s a w y k=>by subst g;have g:=k.alloc T v.cells.toList;have o:(Instr.box T v).run P w=.ok (av w.heap.size 0) (w.alloc (.cells v.cells T)):=rfl;refine kh rfl ?_ (s _ _ (t w.heap.size) _ _ (y.put i _) Ra);simp only[execOp,y.eval d,cW,eW,ed,o]
def aw.alloc{z:aj}{c:ab aj}(k:Nat.blt dst n.n=true)(v:(P.info? T).bind (·.zero)=some z)(g:z.cells.toList=c)(o:∀b,C ((dst,av b 0)::an) (cells b T c::ao)):aw P r W D n ⟨some dst,.alloc T,ba,bd,be,aW⟩ an ao C:=λK Q s a w y i=>by
 subst g;have g:=i.alloc T z.cells.toList;obtain⟨i,am,b⟩:=Ce.1 v;have j:(zeroValue T).run P w=.ok z w:=by simp[zeroValue,typeInfo,am,b]
 have d:(newVar T z).run P w=.ok ⟨w.heap.size,0,none⟩ (w.alloc (.cells z.cells T)):=rfl;refine kh rfl ?_ (s _ _ (o w.heap.size) _ _ (y.put k _) Ra);simp only[execOp,Instr.alloc,cW,eW,ed,j,d]
def ar(P:b1)(f:fb)(args:ab aj)(ao:ab ay)(R:aj->ab ay->Prop):Prop:=
 ∀w,hS ao w->Calls P f args.toArray w λe g=>∃v a7,e=.returned v/\R v a7/\H w (br ao) a7 g
def ar.mono{f:fb}{y:aj->ab ay->Prop}(h:ar P f args ao R)(g:∀v a7,R v a7->y v a7):ar P f args ao y:=
 λw o=>(h w o).mono λ_ _ ⟨v,a7,j,t,b⟩=>⟨v,a7,j,g _ _ t,b⟩
def lp(P:b1)(f:fb):Bool:=match P.funcs[f]? with|some fn=>fn.body.isSome&&!(fn.name== "runtime.NumGoroutine")|none=>false
def xF{f:fb}(h:lp P f=true)(args:Array aj)(w:a2):(callFunc f args).run P w=.ok (.enter f args) w:=by
 unfold lp at h;split at h
 .rename_i fn k;simp only[c1,kf,dU]at h;obtain⟨g,d⟩:=h;have y:fn.body≠none:=by intro e;rw[e]at g;cases g
  simp[callFunc,k,d,y]
 .cases h
def il(an:bJ):ab bj->aT (ab aj)
 |[]=>some []
 |x::g=>match aR an x,il an g with
  |some v,some g=>some (v::g)
  |_,_=>none
def dx.il{a:Act}(h:dx n an a):∀{t:ab bj} {z:ab aj},az.il an t=some z->t.map a.eval=z
 |[],z,d=>by simp[az.il]at d;subst d;rfl
 |x::t,z,d=>by
  simp only[az.il]at d;split at d
  .rename_i v j g o;simp only[fj]at d;subst d;simp[h.eval g,dx.il h o]
  .cases d
def aw.call{f:fb}{d:ab bj}{Ye:Array a8}{lZ mM:ab ay}(b:Nat.blt dst n.n=true)(h:lp P f=true)(g:az.il an d=some args)(Yc:ao.Perm (lZ++mM))(s:ar P f args lZ R)(o:∀v a7,R v a7->C ((dst,v)::an) (a7++mM)):aw P r W D n ⟨some dst,.call ⟨.value (.func f),d.toArray,Ye⟩,ba,bd,be,aW⟩ an ao C:=λK Q k a w y i=>by
 have x:=i.perm Yc;have Yg:d.toArray.map a.eval=args.toArray:=by rw[<-y.il g];simp
 refine zA (f:=f) (args:=args.toArray) (b:=w) rfl ?_ ?_
 .simp only[execOp,resolve,cW,Yg];simp[Act.eval,Deferred.ofValue,invoke,xF h]
 .refine(s w ⟨λe j=>x.gq e Vx,?_⟩).mono ?_
  .have:=x.nodup;exact Mb
  .rintro e z⟨v,a7,rfl,t,Yf⟩;exact⟨v,rfl,k _ _ (o v a7 t) _ _ (y.put b v) (x.call Yf)⟩
end
section
variable{r:aT Nat}
def vY:Nat->ab aj->bJ
 |_,[]=>[]
 |k,v::g=>(k,v)::vY (k+1) g
def FE:∀(g:ab aj) (k j:Nat) (v:aj),eN (vY k g) j=some v->∃i,j=k+i/\g[i]?=some v
 |[],_,_,_,h=>VL
 |u::s,k,j,v,h=>by
  simp only[vY,eN]at h;by_cases e:k=j
  .subst e;rw[show Nat.beq k k=true from xC k]at h;simp only[ta,fj]at h;subst h;exact⟨0,rfl,rfl⟩
  .rw[show Nat.beq k j=false from by rw[<-mh,zz];exact e]at h;obtain⟨i,am,t⟩:=FE s (k+1) j v h;exact⟨i+1,ac,Ul⟩
def dx.enter(h:Nat.ble args.length m=true):dx ⟨m,[]⟩ (vY 0 args) {tmps:=args.toArray++Array.replicate (m-args.toArray.size) undef,defers:=[]}:=by have o:=pQ h;refine⟨VG,rfl,λj v y=>?_⟩;obtain⟨i,rfl,t⟩:=FE _ _ _ _ y;have am:i<args.length:=(cF.1 t).1;refine⟨by show _<m;omega,?_⟩;simp only[h4,vU];rw[Array.getElem?_append_left (by simpa using am)];simp[t]
def Ends(R:aj->ab ay->Prop)(W:a2)(D:ab Nat)(e:Ending)(w:a2):Prop:=∃v a7,e=.returned v/\R v a7/\H W D a7 w
def qr(P:b1)(fn:Func)(R:Ending->a2->Prop):da:=bodyPostM Fence.wide 0 P fn R
def tb(ao:ab ay)(w:a2):Prop:=∀b E c,cells b E c∈ao->(cells b E c).holds w
def H.dT{w:a2}(h:H W D ao w):tb ao w:=λ_ _ _ g=>h.mem g
def H.aal{w:a2}{b:Nat}(o:Obj)(j:e.gJ=[b])(h:H W D (e::ao) w):H W D ao (w.putObj b o):=by
 have t:H W D ([e]++ao) w:=h;have g:H w (br [e]) [] (w.putObj b o):=by refine⟨λ_ h=>VL,by simp[br],λ_ h=>(by simp[br]at h),λk _ y=>?_,VK,rfl,rfl,rfl,cx _⟩;exact vZ (by simpa[br,j]using y)
 simpa using t.call g
def FF{fn:Func}{i:Array aj}{R:Ending->a2->Prop}{bg:ab ay}:∀(j:ab Nat) (a7:ab ay) (w:a2),H W D (gp j++a7) w->tb bg w->(∀y,H W D a7 y->tb bg y->∃v,(results fn i).run P y=.ok v y/\R (.returned v) y)->LeavesInM Fence.wide 0 P fn i R (j.map mark) .returning w
 |[],_,w,h,z,t=>t w h z
 |b::j,a7,w,h,z,t=>by
  have o:w.heap[b]?=some (.deferred (some [])):=by have:=h.mem (e:=gK b) (by simp[gp]);rwa[gK,s9]at this
  refine⟨VK,.inl ⟨b,_,rfl,run_takeDeferred o,FF j a7 _ (H.aal (e:=gK b) _ (by rw[gK,uC]) h) ?_ t⟩⟩;intro c E cs d;have g:=z c E cs d;rw[uD]at g⊢;rw[vZ (λe=>by subst e;rw[o]at g;cases g)];exact g
def ar.enter{f:fb}{fn:Func}{c:Code}(k:P.funcs[f]?=some fn)(g:fn.body=some c)(y:Nat.ble args.length fn.ntmps=true)(h:∀W,ah P none W (br ao) ⟨fn.ntmps,[]⟩ (qr P fn (Ends R W (br ao))) c (vY 0 args) ao):ar P f args ao R:=λw o=>by refine(callsIn_wide (n:=0)).1 (callsIn_of_wp_marks k g trivial ?_ rfl);exact h w _ w (dx.enter y) o.start
def e7(P:b1)(an:bJ)(ao:ab ay):ResultVar->aj->Prop
 |.tmp t,v=>eN an t=some v
 |.cell p T,v=>∃b E c o,eN an p=some (av b o)/\cells b E c∈ao/\jD P T o c v
def zB(g:Array aj):ResultVar->Sem aj
 |.tmp t=>pure (g.getD t undef)
 |.cell p T=>do loadVar T (<-asAddr (g.getD p undef))
def Cf(fn:Func)(d:Array aj):results fn d=(do let g<-fn.results.mapM (zB d);pure (if h:g.size=1 then g[0]else .tuple g)):=by unfold results;congr 1
def e7.run{w:a2}(y:dx n an a)(i:tb ao w){g:ResultVar}{v:aj}(h:e7 P an ao g v):(zB a.tmps g).run P w=.ok v w:=by
 cases g with
 |tmp t=>simp only[zB,eW];rw[(y.get t v h).2]
 |cell p T=>
  obtain⟨b,E,c,o,z,g,d⟩:=h;simp only[zB,(y.get p _ z).2,asAddr,cW,eW,ed,d.run (i _ _ _ g)]
def LH{fn:Func}{d:ResultVar}{v:aj}{w:a2}(g:fn.results=#[d])(y:dx n an a)(i:tb ao w)(h:e7 P an ao d v):(results fn a.tmps).run P w=.ok v w:=by have b:=h.run y i;rw[Cf,g];simp[b]
def aga{fn:Func}{b s:ResultVar}{t z:aj}{w:a2}(o:fn.results=#[b,s])(y:dx n an a)(i:tb ao w)(g:e7 P an ao b t)(d:e7 P an ao s z):(results fn a.tmps).run P w=.ok (.tuple #[t,z]) w:=by have b:=g.run y i;have h:=d.run y i;rw[Cf,o];simp[cW,b,h]
def ajo{fn:Func}{b s k:ResultVar}{z j v:aj}{w:a2}(t:fn.results=#[b,s,k])(y:dx n an a)(i:tb ao w)(g:e7 P an ao b z)(d:e7 P an ao s j)(o:e7 P an ao k v):(results fn a.tmps).run P w=.ok (.tuple #[z,j,v]) w:=by have b:=g.run y i;have h:=d.run y i;have j:=o.run y i;rw[Cf,t];simp[cW,b,h,j]
variable{fn:Func}
end
def pa:ab (Nat×Nat×Nat)->Nat->Nat->aT Nat
 |[],_,_=>none
 |(a,b,v)::l,i,j=>bif Nat.beq a i&&Nat.beq b j then some v else pa l i j
def bT:ab (Nat×Nat)->Nat->aT Nat
 |[],_=>none
 |(a,v)::l,i=>bif Nat.beq a i then some v else bT l i
def jm:ab (Nat×ab aj)->Nat->aT (ab aj)
 |[],_=>none
 |(a,v)::l,i=>bif Nat.beq a i then some v else jm l i
def nk:ab (Nat×IntKind)->Nat->aT IntKind
 |[],_=>none
 |(a,v)::l,i=>bif Nat.beq a i then some v else nk l i
def Cg:∀{l:ab (Nat×Nat×Nat)} {i j v:Nat},pa l i j=some v->(i,j,v)∈l
 |(a,b,u)::l,i,j,v,h=>by
  simp only[pa]at h;cases e:(Nat.beq a i&&Nat.beq b j)with
  |true=>
   rw[e]at h;simp only[ta,fj]at h;simp only[c1]at e;have y:=xG e.1;have x:=xG e.2;subst y x h;simp
  |false=>rw[e]at h;simp only[xD]at h;exact e0 _ (Cg h)
def tc:∀{l:ab (Nat×Nat)} {i v:Nat},bT l i=some v->(i,v)∈l
 |(a,u)::l,i,v,h=>by
  simp only[bT]at h;cases e:Nat.beq a i with
  |true=>
   rw[e]at h;exact PJ
  |false=>rw[e]at h;simp only[xD]at h;exact e0 _ (tc h)
def FG:∀{l:ab (Nat×IntKind)} {i:Nat} {v:IntKind},nk l i=some v->(i,v)∈l
 |(a,u)::l,i,v,h=>by
  simp only[nk]at h;cases e:Nat.beq a i with
  |true=>
   rw[e]at h;exact PJ
  |false=>rw[e]at h;simp only[xD]at h;exact e0 _ (FG h)
def FH:∀{l:ab (Nat×ab aj)} {i:Nat} {v:ab aj},jm l i=some v->(i,v)∈l
 |(a,u)::l,i,v,h=>by
  simp only[jm]at h;cases e:Nat.beq a i with
  |true=>
   rw[e]at h;exact PJ
  |false=>rw[e]at h;simp only[xD]at h;exact e0 _ (FH h)
def v1(P:b1):ab (Nat×ab aj)->Prop
 |[]=>True
 |(T,c)::l=>((P.info? T).bind (·.zero)).map (·.cells.toList)=some c/\v1 P l
def v1.get{P:b1}:∀{l:ab (Nat×ab aj)},v1 P l->∀e,e∈l->((P.info? e.1).bind (·.zero)).map (·.cells.toList)=some e.2
 |(T,c)::l,h,e,j=>by
  rcases cQ.1 j with rfl|j
  .exact h.1
  .exact v1.get h.2 e j
def FI(P:b1)(t:a8)(k:IntKind):Bool:=match P.underlying t with|some (.int g)=>k==g|_=>false
def FJ(P:b1)(t:a8):Bool:=match P.underlying t with|some .string=>true|_=>false
def FK(P:b1)(t:a8):Bool:=match P.underlying t with|some .bool=>true|_=>false
def adL(P:b1)(t e aM k:Nat):Bool:=match P.underlying t,P.info? e with|some (.slice g),some i=>e==g&&i.size==aM&&i.bytes==k&&i.zero.isSome&&!(aM==0)&&(match i.zero with|some z=>z.cells.size==aM|none=>false)|_,_=>false
def zC(P:b1)(T f off k:Nat):Bool:=
 match P.underlying T with
 |some (.struct y)=>match y[f]? with
  |some g=>g.offset==off&&((P.info? g.type).map (·.size)==some k)
  |none=>false
 |_=>false
def r5(P:b1)(t e:Nat):Bool:=match P.underlying t with|some (.slice g)=>e==g|_=>false
def FL(P:b1)(g:ab (Nat×Nat×Nat))(e:Nat×Nat×Nat):Bool:=match pa g e.1 e.2.1 with|some off=>zC P e.1 e.2.1 off e.2.2|none=>false
def FM(P:b1)(T n E:Nat):Bool:=match P.underlying T with|some (.array d g)=>n==d&&E==g|_=>false
def te:ab (Nat×Nat×Nat)->Nat->aT (Nat×Nat)
 |[],_=>none
 |(a,v)::l,i=>bif Nat.beq a i then some v else te l i
def FN:∀{l:ab (Nat×Nat×Nat)} {i:Nat} {v:Nat×Nat},te l i=some v->(i,v)∈l
 |(a,u)::l,i,v,h=>by
  simp only[te]at h;cases e:Nat.beq a i with
  |true=>
   rw[e]at h;exact PJ
  |false=>rw[e]at h;simp only[xD]at h;exact e0 _ (FN h)
structure cj(P:b1) where
 r6:ab (Nat×Nat×Nat)
 xH:ab (Nat×Nat×Nat)
 fw:ab (Nat×Nat)
 ht:ab (Nat×Nat)
 agg:ab (Nat×Nat)
 one:ab (Nat×Nat)
 jE:ab (Nat×ab aj)
 ints:ab (Nat×IntKind)
 strs:ab (Nat×Nat)
 xI:ab (Nat×Nat)
 mO:ab (Nat×Nat)
 arr:ab (Nat×Nat×Nat)
 FO:(r6.all λe=>xE P e.1 e.2.1==some e.2.2)=true
 FP:(agg.all λe=>uF P e.1 e.2)=true
 FQ:(one.all λe=>uG P e.1&&e.2==1)=true
 FR:(ints.all λe=>FI P e.1 e.2)=true
 FT:(strs.all λe=>FJ P e.1)=true
 FU:(xH.all (FL P r6))=true
 FV:(fw.all λe=>r5 P e.1 e.2)=true
 FW:(ht.all λe=>(P.info? e.1).map (·.size)==some e.2)=true
 FX:(xI.all λe=>FK P e.1)=true
 FY:(mO.all λe=>(P.info? e.1).map (·.bytes)==some e.2)=true
 FZ:(arr.all λe=>FM P e.1 e.2.1 e.2.2)=true
 F0:v1 P jE
section
variable(ad:cj P)
def cj.abN{s f:Nat}(h:pa ad.r6 s f=some off):xE P s f=some off:=by have:=hk.1 ad.FO _ (Cg h);simpa using this
def cj.V8{T E:Nat}(h:bT ad.fw T=some E):r5 P T E=true:=hk.1 ad.FV _ (tc h)
def cj.ZH{T n E:Nat}(h:te ad.arr T=some (n,E)):P.underlying T=some (.array n E):=by
 have:=hk.1 ad.FZ _ (FN h);simp only[FM]at this;split at this
 .rename_i d g j;simp only[c1,c9]at this;rw[j,this.1,this.2]
 .cases this
def cj.WW{T k:Nat}(h:bT ad.ht T=some k):(P.info? T).map (·.size)=some k:=by have:=hk.1 ad.FW _ (tc h);simpa using this
def cj.abO{T k:Nat}(h:bT ad.mO T=some k):(P.info? T).map (·.bytes)=some k:=by have:=hk.1 ad.FY _ (tc h);simpa using this
def cj.aam{T f k:Nat}(h:pa ad.r6 T f=some off)(g:pa ad.xH T f=some k):zC P T f off k=true:=by have:=hk.1 ad.FU _ (Cg g);simp only[FL,h]at this;exact this
def cj.WC{T k:Nat}(h:bT ad.agg T=some k):uF P T k=true:=hk.1 ad.FP _ (tc h)
def cj.V2{T k:Nat}(h:bT ad.one T=some k):uG P T=true:=by have:=hk.1 ad.FQ _ (tc h);simp only[c1]at this;exact this.1
def cj.Wn{T:Nat}(h:nk ad.ints T=some k):P.underlying T=some (.int k):=by
 have:=hk.1 ad.FR _ (FG h);simp only[FI]at this;split at this
 .rename_i g e;rw[e];simp at this;rw[this]
 .cases this
def cj.W8{T k:Nat}(h:bT ad.strs T=some k):P.underlying T=some .string:=by
 have:=hk.1 ad.FT _ (tc h);simp only[FJ]at this;split at this
 .assumption
 .cases this
def cj.aan{T k:Nat}(h:bT ad.xI T=some k):P.underlying T=some .bool:=by
 have:=hk.1 ad.FX _ (tc h);simp only[FK]at this;split at this
 .assumption
 .cases this
def cj.zeroAt{T:Nat}{c:ab aj}(h:jm ad.jE T=some c):∃z,(P.info? T).bind (·.zero)=some z/\z.cells.toList=c:=by have:=ad.F0.get _ (FH h);obtain⟨z,v,g⟩:=qs.1 this;exact⟨z,v,g⟩
def cj.aao{T k:Nat}(h:bT ad.agg T=some k):(P.info? T).map (·.size)=some k:=(vT (ad.WC h)).choose_spec.2.2
def cj.X3{T k:Nat}(h:bT ad.one T=some k):(P.info? T).map (·.size)=some 1:=(B8 (ad.V2 h)).choose_spec.2.2
end
class fk(o k:Nat)(c:List Value)(bs:outParam (List Value)):Prop where
 eq:kg o k c=bs
class bH(o:Nat)(x c:List Value)(bs:outParam (List Value)):Prop where
 eq:ey o x c=bs
section
variable{r:aT Nat}
def aN.abP(ad:cj P){E:a8}{x:bj}{b o u:Nat}{c:ab aj}{v:aj}(g:bT ad.one T=some u)(d:aR an x=some (av b o))(t:cells b E c∈ao)(z:c[o]?=some v):aN P n an ao ⟨some dst,.load T x,ba,bd,be,aW⟩ (v):=
 aN.load d t (jD.one (ad.V2 g) z)
def aN.abQ(ad:cj P){E:a8}{x:bj}{b o k:Nat}{c v:ab aj}(g:bT ad.agg T=some k)(d:aR an x=some (av b o))(t:cells b E c∈ao)(z:Nat.ble (o+k) c.length=true)(j:fk o k c v):aN P n an ao ⟨some dst,.load T x,ba,bd,be,aW⟩ (A v):=
 aN.load d t (jD.agg (ad.WC g) z j.eq)
def aw.abR(ad:cj P){E:a8}{x y:bj}{b o u:Nat}{c k:ab aj}{v:aj}(g:bT ad.one T=some u)(d:aR an x=some (av b o))(t:aR an y=some v)(s:v.oneCell'=true)(z:aB ao (cells b E c) (cells b E k) a7)(j:Nat.blt o c.length=true)(i:bH o [v] c k)(h:C an a7):aw P r W D n ⟨none,.store T x y,ba,bd,be,aW⟩ an ao C:=by
 have Yc:v.cells=#[v]:=by cases v<;>first|rfl|(cases s;done)
 refine aw.store d t z (by rw[ad.X3 g,Yc];rfl) (by rw[Yc];exact j) (by rw[Yc];simp[s]) ?_ h;rw[Yc];exact i.eq
def aw.abS(ad:cj P){E:a8}{x y:bj}{b o k:Nat}{c s u:ab aj}(g:bT ad.agg T=some k)(d:aR an x=some (av b o))(t:aR an y=some (A u))(j:u.length=k)(h:u.all (·.oneCell')=true)(z:aB ao (cells b E c) (cells b E s) a7)(v:Nat.ble (o+k) c.length=true)(i:bH o u c s)(dG:C an a7):aw P r W D n ⟨none,.store T x y,ba,bd,be,aW⟩ an ao C:=by subst j;exact aw.store d t z (by rw[ad.aao g];simp[Value.cells]) (by simpa[Value.cells]using v) (by simpa[Value.cells]using h) i.eq dG
def aN.abT(ad:cj P){s:a8}{x:bj}{f b o:Nat}(g:aR an x=some (av b o))(k:pa ad.r6 s f=some off)(y:o+off=d):aN P n an ao ⟨some dst,.fieldAddr s x f,ba,bd,be,aW⟩ (av b d):=
 aN.fieldAddr g (ad.abN k) y
def aw.aap{x:bj}{c:ab aj}(i:Nat.blt dst n.n=true)(g:aR an x=some (A c))(d:∀b,C ((dst,av b 0)::an) (cells b T c::ao)):aw P r W D n ⟨some dst,.box T x,ba,bd,be,aW⟩ an ao C:=aw.box i g rfl d
def aw.abU{x:bj}{v:aj}(i:Nat.blt dst n.n=true)(g:aR an x=some v)(t:v.cells.toList=[v])(d:∀b,C ((dst,av b 0)::an) (cells b T [v]::ao)):aw P r W D n ⟨some dst,.box T x,ba,bd,be,aW⟩ an ao C:=aw.box i g t d
def aw.abV(ad:cj P){c:ab aj}(i:Nat.blt dst n.n=true)(v:jm ad.jE T=some c)(o:∀b,C ((dst,av b 0)::an) (cells b T c::ao)):aw P r W D n ⟨some dst,.alloc T,ba,bd,be,aW⟩ an ao C:=by obtain⟨z,g,d⟩:=ad.zeroAt v;exact aw.alloc i g d o
def aN.aaq(ad:cj P){t u:a8}{x:bj}{z j:IntKind}{p:Int}(g:aR an x=some (.int k p))(o:nk ad.ints u=some z)(d:nk ad.ints t=some j):aN P n an ao ⟨some dst,.convert t u x,ba,bd,be,aW⟩ (.int z (z.wrap p)):=
 aN.conv g (ad.Wn o) (by rw[ad.Wn d];rfl)
end
section
def jD.part{o:Nat}{c:ab aj}{v:aj}(h:jD P T o c v)(w:a2):(Go.part T c.toArray o).run P w=.ok v w:=by
 rcases h with⟨g,t⟩|⟨k,g,t,rfl⟩
 .obtain⟨d,z,b,_⟩:=B8 g;have j:(isAgg T).run P w=.ok false w:=by unfold isAgg;rw[cW,eD z w];cases d<;>simp_all[vS]
  simp[Go.part,cW,j,t]
 .obtain⟨d,z,b,am⟩:=vT g;have j:(isAgg T).run P w=.ok true w:=by unfold isAgg;rw[cW,eD z w];cases d<;>simp_all
  cases aV:P.info? T with
  |none=>simp[aV]at am
  |some i=>
   have g:i.size=k:=by simpa[aV]using am
   simp[Go.part,cW,j,sizeOf,typeInfo,aV,g,kg,List.take_drop]
def pb(P:b1)(d:Nat)(g t:ab aj):ab (Nat×Nat)->Bool->Prop
 |[],b=>b=true
 |f::y,b=>∃u v i o,jD P f.1 f.2 g u/\jD P f.1 f.2 t v/\dk P d f.1 u v i/\pb P d g t y o/\b=(i&&o)
def pb.run{d:Nat}{g s:ab aj}:∀{k:ab Field} {b:Bool},(k.all λf=>!(f.name== "_"))=true->pb P d g s (k.map λf=>(f.type,f.offset)) b->∀w,(Op.eqFields d g.toArray s.toArray k).run P w=.ok b w
 |[],b,_,h,w=>by simp only[lq,pb]at h;subst h;simp[Op.eqFields]
 |f::k,b,y,h,w=>by
  obtain⟨u,v,x,i,z,t,j,o,rfl⟩:=h;simp only[Ch,c1]at y;have d:f.name≠ "_" :=by have:=y.1;simpa using this
  have g:=pb.run y.2 o w;cases x with
  |true=>simp[Op.eqFields,d,cW,z.part w,t.part w,j w,g]
  |false=>simp[Op.eqFields,d,cW,z.part w,t.part w,j w]
def zD(P:b1)(T:a8)(l:ab (Nat×Nat)):Bool:=
 match P.underlying T with
 |some (.struct y)=>(y.toList.map λf=>(f.type,f.offset))==l&&y.toList.all (λf=>!(f.name== "_"))&&!P.stoodInHeld T
 |_=>false
def dk.struct{xs pS:ab aj}{l:ab (Nat×Nat)}(g:zD P T l=true)(h:pb P d xs pS l b):dk P (d+1) T (.agg xs.toArray) (.agg pS.toArray) b:=λw=>by
 unfold zD at g;split at g
 .rename_i i o;simp only[c1,c9,kf]at g;obtain⟨⟨rfl,y⟩,z⟩:=g;have k:P.fieldsOf T=i:=by simp[Program.fieldsOf,o]
  rw[run_equalIn_struct w d T _ _ (by rw[k,o]) z,k];exact pb.run y h w
 .cases g
def pb.aar{d:Nat}{g k:ab aj}{e c:Nat}:∀{x:ab Nat} {b:Bool},pb P d g k (x.map λi=>(e,i*c)) b->∀w,(Op.eqItems d e c g.toArray k.toArray x).run P w=.ok b w
 |[],b,h,w=>by simp only[lq,pb]at h;subst h;simp[Op.eqItems]
 |i::x,b,h,w=>by
  obtain⟨u,v,s,y,z,t,j,o,rfl⟩:=h;have g:=pb.aar o w;cases s with
  |true=>simp[Op.eqItems,cW,z.part w,t.part w,j w,g]
  |false=>simp[Op.eqItems,cW,z.part w,t.part w,j w]
def F1(P:b1)(T:a8)(l:ab (Nat×Nat)):Bool:=
 match P.underlying T with
 |some (.array n e)=>((List.range n).map λi=>(e,i*P.cellsOf e))==l&&(P.info? e).isSome
 |_=>false
def dk.array{g z:ab aj}{l:ab (Nat×Nat)}(o:F1 P T l=true)(h:pb P d g z l b):dk P (d+1) T (.agg g.toArray) (.agg z.toArray) b:=λw=>by
 unfold F1 at o;split at o
 .rename_i n e t;simp only[c1,c9]at o;obtain⟨rfl,am⟩:=o;obtain⟨i,am⟩:=uK.1 am;rw[run_equalIn_array w d _ _ t am];exact pb.aar h w
 .cases o
def dk.int{tf:IntKind}{p:Int}(h:P.underlying T=some (.int tf)):dk P (d+1) T (.int k p) (.int k q) (decide (p=q)):=λw=>by rw[run_equalIn_int w d T k tf p q h];rfl
def dk.str{p q:ab aS}(h:P.underlying T=some .string):dk P (d+1) T (S p) (S q) (decide (p=q)):=λw=>by rw[run_equalIn_string w d T _ _ h];congr 1;rw[r7];simp[ByteArray.toList_eq]
end
def aiJ(o:Nat)(x:aj)(l c:ab aj)(h:o<c.length):ey (o+1) l (c.set o x)=ey o (x::l) c:=by
 simp only[ey,df];rw[show o+(l.length+1)=o+1+l.length by omega];have y:(c.set o x).take (o+1)=c.take o++[x]:=by rw[F2 VR,List.take_set_of_le (cx _)];simp
 have h:(c.set o x).drop (o+1+l.length)=c.drop (o+1+l.length):=by rw[List.drop_set_of_lt ac]
 rw[y,h];simp
def Ci(off:Nat):∀(l:ab aj) (k:Nat) (c:Array aj),off+k+l.length<=c.size->(l.zipIdx k).foldl (λcs (p:aj×Nat)=>cs.setIfInBounds (off+p.2) p.1) c=(ey (off+k) l c.toList).toArray
 |[],k,c,_=>by simp[ey]
 |x::l,k,c,h=>by simp only[List.zipIdx_cons,pc];rw[Ci off l (k+1) _ (by simp at h⊢;omega)];rw[<-aiJ (off+k) x l c.toList (by simp at h⊢;omega)];simp[pd]
section
def mP(P:b1)(T:a8):ab (Nat×aj)->ab aj->ab aj->Prop
 |[],c,d=>d=c
 |(f,v)::l,c,d=>∃off y,zC P T f off v.cells.size=true/\Nat.ble (off+v.cells.size) c.length=true/\ey off v.cells.toList c=y/\mP P T l y d
def F3{T:a8}{b:Array Field}{s:Array (Nat×Nat)}(y:P.underlying T=some (.struct b))(g:∀(f:Nat) (uL:Field) (k:Nat),b[f]?=some uL->(P.info? uL.type).map (·.size)=some k->s[f]?=some (uL.offset,k)):∀{l:ab (Nat×aj)} {c t:ab aj},mP P T l c t->Instr.fill (s[·]?) c.toArray l=some t.toArray
 |[],c,t,h=>by simp only[mP]at h;subst h;rfl
 |(f,v)::l,c,t,h=>by
  obtain⟨off,i,z,Yc,d,o⟩:=h;unfold zC at z;rw[y]at z;simp only at z;split at z
  .rename_i uL Yf;simp only[c1,c9]at z;have Ye:=g f uL v.cells.size Yf z.2;have Yh:=pQ Yc;subst d;unfold Instr.fill;simp only[Ye,z.1];rw[aG VG];have Yg:=Ci off v.cells.toList 0 c.toArray (by simpa using Yh);simp only[hj]at Yg;have e:(v.cells.zipIdx.foldl (λcs (x:aj×Nat)=>match x with|(c,j)=>cs.setIfInBounds (off+j) c) c.toArray)=(ey off v.cells.toList c).toArray:=by rw[<-Array.foldl_toList];simpa using Yg
   rw[e];exact F3 y g o
  .cases z
def zE(f:Field):Sem (Nat×Nat):=do pure (f.offset,<-sizeOf f.type)
def ajw(w:a2){f:Field}(h:(P.info? f.type).isSome=true):(zE f).run P w=.ok (f.offset,P.cellsOf f.type) w:=by obtain⟨i,am⟩:=uK.1 h;simp[zE,sizeOf,typeInfo,am,Program.cellsOf]
def run_places(w:a2):∀(l:ab Field),(l.all λf=>(P.info? f.type).isSome)=true->(l.mapM zE).run P w=.ok (l.map λf=>(f.offset,P.cellsOf f.type)) w
 |[],_=>VK
 |f::l,h=>by simp only[Ch,c1]at h;rw[List.mapM_cons];simp only[cW,ajw w h.1,run_places w l h.2,ed,eW,eE]
def zF(P:b1)(T:a8):Bool:=
 match P.underlying T with
 |some (.struct y)=>y.toList.all λf=>(P.info? f.type).isSome
 |_=>false
def run_build{z:aj}{x:ab (Nat×aj)}{t:ab aj}(b:zF P T=true)(v:(P.info? T).bind (·.zero)=some z)(d:mP P T x z.cells.toList t)(w:a2):(Instr.build T x.toArray).run P w=.ok (A t) w:=by
 unfold zF at b;split at b
 .rename_i y j;obtain⟨i,am,h⟩:=Ce.1 v;have Yf:(zeroValue T).run P w=.ok z w:=by simp[zeroValue,typeInfo,am,h]
  have g:(y.mapM zE).run P w=.ok (y.map λf=>(f.offset,P.cellsOf f.type)) w:=by rw[Array.mapM_eq_mapM_toList];have:=run_places (P:=P) w y.toList b;simp only[Sem.run_map,this];simp[<-Array.toList_map]
  have s:=F3 (s:=y.map λf=>(f.offset,P.cellsOf f.type)) j (λf uL k Ye o=>by
   have:P.cellsOf uL.type=k:=by simp[Program.cellsOf,o]
   simp[Ye,this]) d
  simp only[F4]at s;have Yc:(y.mapM λf=>(do pure (f.offset,<-sizeOf f.type):Sem (Nat×Nat))).run P w=.ok (y.map λf=>(f.offset,P.cellsOf f.type)) w:=g;unfold Instr.build;simp only[cW,Yf,eD j,ed,Yc,s,eW]
 .cases b
end
section
variable{r:aT Nat}
def nT(an:bJ):ab (Nat×bj)->aT (ab (Nat×aj))
 |[]=>some []
 |(i,x)::g=>match aR an x,nT an g with
  |some v,some g=>some ((i,v)::g)
  |_,_=>none
def dx.nT{a:Act}(h:dx n an a):∀{t:ab (Nat×bj)} {z:ab (Nat×aj)},az.nT an t=some z->t.map (λp=>(p.1,a.eval p.2))=z
 |[],z,d=>by simp[az.nT]at d;subst d;rfl
 |(i,x)::t,z,d=>by
  simp only[az.nT]at d;split at d
  .rename_i v j g o;simp only[fj]at d;subst d;simp[h.eval g,dx.nT h o]
  .cases d
def aN.build(ad:cj P){i:ab (Nat×bj)}{j:ab (Nat×aj)}{c t:ab aj}(b:zF P T=true)(v:jm ad.jE T=some c)(d:az.nT an i=some j)(o:mP P T j c t):aN P n an ao ⟨some dst,.build T i.toArray,ba,bd,be,aW⟩ (A t):=λa w y _=>by
 obtain⟨z,g,rfl⟩:=ad.zeroAt v;have e:(i.toArray.map λ(p:Nat×bj)=>(p.1,a.eval p.2))=j.toArray:=by rw[<-y.nT d];simp
 have d:(i.toArray.map λ(x:Nat×bj)=>match x with|(i,x)=>(i,a.eval x))=j.toArray:=e;simp only[execOp,cW,d,run_build b g o w,ed,eW]
def mP.nil{c:ab aj}:mP P T [] c c:=rfl
def mP.abW(ad:cj P){f k:Nat}{v:aj}{l:ab (Nat×aj)}{c b j:ab aj}(s:pa ad.r6 T f=some off)(d:pa ad.xH T f=some k)(g:k=1)(y:v.cells=#[v])(o:Nat.blt off c.length=true)(t:bH off [v] c b)(z:mP P T l b j):mP P T ((f,v)::l) c j:=by subst g;exact⟨off,b,by rw[y];exact ad.aam s d,by rw[y];exact o,by rw[y];exact t.eq,z⟩
def mP.abX(ad:cj P){f k:Nat}{u:ab aj}{l:ab (Nat×aj)}{c y z:ab aj}(s:pa ad.r6 T f=some off)(g:pa ad.xH T f=some k)(j:u.length=k)(d:Nat.ble (off+k) c.length=true)(o:bH off u c y)(t:mP P T l y z):mP P T ((f,A u)::l) c z:=by subst j;exact⟨off,y,by simpa[Value.cells]using ad.aam s g,by simpa[Value.cells]using d,o.eq,t⟩
end
section
variable{r:aT Nat}
def aN.abY{c x y:bj}{v:aj}(d:aR an c=some (.bool true))(g:aR an x=some v):aN P n an ao ⟨some dst,.pick c x y,ba,bd,be,aW⟩ (v):=
 aN.pick d (λ_=>g) (λh=>VL)
def aN.abZ{c x y:bj}{v:aj}(d:aR an c=some (.bool false))(g:aR an y=some v):aN P n an ao ⟨some dst,.pick c x y,ba,bd,be,aW⟩ (v):=
 aN.pick d (λh=>VL) (λ_=>g)
def xJ(l:ab aS):(⟨l.toArray⟩:ByteArray).size=l.length:=rfl
def pe(X:BinOp)(p q:ab aS):aT Bool:=
 match X with
 |.eql=>some (decide (p=q))
 |.neq=>some (!decide (p=q))
 |.lss=>some (Op.bytesLess p q)
 |.leq=>some (Op.bytesLess p q||decide (p=q))
 |.gtr=>some (!(Op.bytesLess p q||decide (p=q)))
 |.geq=>some (!Op.bytesLess p q)
 |_=>none
def aN.pe{t h:a8}{x y:bj}{p q:ab aS}(g:aR an x=some (S p))(d:aR an y=some (S q))(o:az.pe X p q=some b):aN P n an ao ⟨some dst,.binOp X t x y h,ba,bd,be,aW⟩ (.bool b):=
 λa w i _=>by
  have e:(p==q)=decide (p=q):=by rw[r7];simp
  simp only[execOp,i.eval g,i.eval d];cases X<;>simp only[az.pe,fj,reduceCtorEq]at o<;>subst o<;>simp[eqGuard,binOp,Op.stringOp,e]
def aN.ZI(ad:cj P){t u:a8}{x:bj}{p:ab aS}(g:aR an x=some (S p))(o:bT ad.strs t=some u):aN P n an ao ⟨some dst,.call ⟨.builtin .len,#[x],#[t]⟩,ba,bd,be,aW⟩ (I (p.length:Int)):=
 λa w y _=>by simp[execOp,resolve,invoke,builtin,Builtin.len_,y.eval g,eD (ad.W8 o),goInt,xJ]
def gV{t e:Nat}(h:r5 P t e=true):P.underlying t=some (.slice e):=by
 unfold r5 at h;split at h
 .rename_i g j;rw[j];simp at h;rw[h]
 .cases h
def aN.X4{t e:a8}{x:bj}{a:aT Addr}{z:Nat}(g:aR an x=some (.slice a z d))(o:r5 P t e=true):aN P n an ao ⟨some dst,.call ⟨.builtin .len,#[x],#[t]⟩,ba,bd,be,aW⟩ (I (z:Int)):=
 λa w y _=>by simp[execOp,resolve,invoke,builtin,Builtin.len_,y.eval g,eD (gV o),goInt]
def aN.ab0(ad:cj P){t e:a8}{x:bj}{a:aT Addr}{z:Nat}(g:aR an x=some (.slice a z d))(o:bT ad.fw t=some e):aN P n an ao ⟨some dst,.call ⟨.builtin .len,#[x],#[t]⟩,ba,bd,be,aW⟩ (I (z:Int)):=
 aN.X4 g (ad.V8 o)
def aN.ab1{t e E:a8}{x:bj}{v:aj}{aM k:Nat}{o:ab aj}(d:aR an x=some v)(z:row v E aM k o∈ao)(y:r5 P t e=true):aN P n an ao ⟨some dst,.call ⟨.builtin .len,#[x],#[t]⟩,ba,bd,be,aW⟩ (I (k:Int)):=
 λa w b i=>by
  have h:=i _ z;rw[i0]at h;rcases h.2 with⟨rfl,rfl⟩|⟨g,j,s,rfl,_⟩<;>
  simp[execOp,resolve,invoke,builtin,Builtin.len_,b.eval d,eD (gV y),goInt]
def aN.max{o:Array a8}{x y:bj}{p:Int}(g:aR an x=some (I p))(d:aR an y=some (I q)):aN P n an ao ⟨some dst,.call ⟨.builtin .max,#[x,y],o⟩,ba,bd,be,aW⟩ (I (Max.max p q)):=
 λa w y _=>by
  have e:(if q>p then q else p)=Max.max p q:=ac
  simp[execOp,resolve,invoke,builtin,Builtin.max_,Builtin.max2,y.eval g,y.eval d,e]
def aN.min{o:Array a8}{x y:bj}{p:Int}(g:aR an x=some (I p))(d:aR an y=some (I q)):aN P n an ao ⟨some dst,.call ⟨.builtin .min,#[x,y],o⟩,ba,bd,be,aW⟩ (I (Min.min p q)):=
 λa w y _=>by
  have e:(if q<p then q else p)=Min.min p q:=ac
  simp[execOp,resolve,invoke,builtin,Builtin.min_,Builtin.min2,y.eval g,y.eval d,e]
def aN.aas(ad:cj P){t u:a8}{x y:bj}{p:ab aS}{i:Int}{b:aS}(g:aR an x=some (S p))(d:aR an y=some (.int k i))(j:bT ad.strs t=some u)(z:0<=i)(o:p[i.toNat]?=some b):aN P n an ao ⟨some dst,.index t x y,ba,bd,be,aW⟩ (.int .u8 (b.toNat:Int)):=
 λa w y _=>by
  have k:i.toNat<p.length:=(cF.1 o).1;have t:(⟨p.toArray⟩:ByteArray)[i.toNat]?=some b:=by
   rw[getElem?_pos _ _ (by simpa[xJ]using k)];have:p[i.toNat]=b:=by simpa[k]using o
   simp[ByteArray.getElem_eq_getElem_data,this]
  simp[execOp,Instr.index,y.eval g,y.eval d,asIntOf,eD (ad.W8 j),z,t]
def F5(p:ab aS)(l h:Nat):(⟨p.toArray⟩:ByteArray).extract l h=⟨((p.drop l).take (h-l)).toArray⟩:=by apply ByteArray.ext;simp[ByteArray.data_extract,List.take_drop]
def aN.ab2(ad:cj P){t u:a8}{x b:bj}{p:ab aS}{i:Int}(d:aR an x=some (S p))(o:aR an b=some (.int k i))(j:bT ad.strs t=some u)(z:0<=i)(g:i<=p.length):aN P n an ao ⟨some dst,.slice t x (some b) none none,ba,bd,be,aW⟩ (S (p.drop i.toNat)):=
 λa w y _=>by have e:(p.drop i.toNat).take (p.length-i.toNat)=p.drop i.toNat:=lr VK;simp[execOp,Instr.sliceAt,Instr.slice,Instr.sliceBounds,Instr.sliceBound,y.eval d,y.eval o,asIntOf,eD (ad.W8 j),z,g,xJ,F5,e]
def aN.ab3(ad:cj P){t u:a8}{x am:bj}{p:ab aS}{i:Int}(d:aR an x=some (S p))(o:aR an am=some (.int k i))(j:bT ad.strs t=some u)(z:0<=i)(g:i<=p.length):aN P n an ao ⟨some dst,.slice t x none (some am) none,ba,bd,be,aW⟩ (S (p.take i.toNat)):=
 λa w y _=>by simp[execOp,Instr.sliceAt,Instr.slice,Instr.sliceBounds,Instr.sliceBound,y.eval d,y.eval o,asIntOf,eD (ad.W8 j),z,g,xJ,F5]
end
section
variable{r:aT Nat}{q:Region.Mode}
def kX(P:b1)(r:aT Nat)(J:Array cc)(Q:da)(i:Nat)(K:Act->a2->Prop)(a:Act)(w:a2):Prop:=
 match J[i]? with
 |none=>K a w
 |some o=>if Region.wanted o (yielded J a.tmps)then nS P r o a w K Q else K (a.put o.dst undef) w
def Any(P:b1)(r:aT Nat)(q:Region.Mode)(J:Array cc)(Q:da)(S T:a2->Prop)(u:ab Nat):Nat->Array Bool->Act->a2->Prop
 |0,Y,a,w=>Region.ready q J Y=[]/\Q .normal a w
 |U+1,Y,a,w=>
  (Region.ready q J Y=[]->Q .normal a w)/\
  ∀i∈Region.ready q J Y,kX P r J Q i (λd g=>T g/\(S w->u.contains i=false->S g)/\Any P r q J Q S T u U (Y.setIfInBounds i true) d g) a w
def F6{o:cc}{w:a2}{y:Act->a2->Prop}(h:∀a w,K a w->y a w)(v:nS P r o a w K Q):nS P r o a w y Q:=
 (Oper.wpIn_mono (F:=nj r) (n:=0) h (Cb v)).2
def alq{i:Nat}{y:Act->a2->Prop}{w:a2}(h:∀a w,K a w->y a w)(v:kX P r J Q i K a w):wpOpIn (nj r) 0 P J Q i y a w:=by
 unfold kX at v;unfold wpOpIn;split
 .rename_i e;rw[e]at v;exact h _ _ v
 .rename_i o e;rw[e]at v;simp only at v;split
  .rename_i s;rw[aJ s]at v;exact Cb (F6 h v)
  .rename_i s;rw[aG s]at v;exact⟨λ_ _=>trivial,h _ _ v⟩
def F7{Q:da}{S T:a2->Prop}{u:ab Nat}:∀(U:Nat) (Y:Array Bool) (a:Act) (w:a2),Any P r q J Q S T u U Y a w->wpAnyIn (nj r) 0 P q J Q U Y a w
 |0,_,_,_,h=>h
 |U+1,_,_,_,h=>⟨h.1,λi am=>alq (λa w o=>F7 U _ a w o.2.2) (h.2 i am)⟩
def pf(P:b1)(J:Array cc)(U:a2->Prop)(o:cc)(v:aj)(a:Act):Prop:=
 (Region.wanted o (yielded J a.tmps)=true/\kW o.op=true/\∀w,U w->(execOp a.eval o).run P w=.ok (.value v) w)\/
 (Region.wanted o (yielded J a.tmps)=false/\v=undef)
def pf.kX{i:Nat}{o:cc}{v:aj}(am:J[i]?=some o)(g:pf P J U o v a){w:a2}(d:U w)(h:K (a.put o.dst v) w):kX P r J Q i K a w:=by
 unfold az.kX;rw[am];simp only;rcases g with⟨s,k,t⟩|⟨s,rfl⟩
 .rw[aJ s];exact kh k (t w d) h
 .rw[aG (by rw[s];simp)];exact h
def pf.of_same{o:cc}{v:aj}{d:Act}(g:pf P J U o v a)(j:execOp d.eval o=execOp a.eval o)(s:Region.wanted o (yielded J d.tmps)=Region.wanted o (yielded J a.tmps)):pf P J U o v d:=by unfold pf at*;rw[j,s];exact g
def v2(J:Array cc):Bool:=J.all λo=>kW o.op&&(match o.op with|.select ..=>false|_=>true)
def Cj{j:Nat}{eF:cc}{v:aj}(i:J[j]?=some eF)(Yg:gt.apart J eF=true)(Yh:∀cs b,gt.op≠.select cs b)(Yj:∀cs b,eF.op≠.select cs b)(Yi:kW eF.op=true){w:a2}(t:pf P J U gt v a)(h:kX P r J (λe a w=>match e with|.normal=>M a w|_=>False) j K (a.put gt.dst v) w):kX P r J (λe a w=>match e with|.normal=>M a w|_=>False) j (λhb k=>pf P J U gt v hb/\K (hb.put gt.dst v) k) a w:=by
 obtain⟨g,o,z⟩:=Oper.apart_spec Yg;have Yc:∀(a:Act),pf P J U gt v a->∀u,pf P J U gt v (a.put eF.dst u):=λa t u=>
  t.of_same (execOp_put gt Yh a eF.dst u z) (wanted_put gt a eF.dst u z)
 unfold kX at*;simp only[i]at*;rw[wanted_put eF a gt.dst v g]at h;split
 .rename_i s;simp only[s,ik]at h;unfold nS at*;rw[vV Yi,execOp_put eF Yj a gt.dst v g]at h;rw[vV Yi];generalize(execOp a.eval eF).run P w=x at*;cases x with
  |ok x k=>
   cases x<;>simp only[Oper.uponIn]at h⊢;case value u=>exact⟨Yc a t u,by rw[<-v6 a v u o];exact h⟩
   case skip=>exact⟨Yc a t _,by rw[<-v6 a v undef o];exact h⟩
   case defer d=>
    refine⟨?_,?_⟩
    .exact(t.of_same (d:={a with defers:=d::a.defers}) rfl rfl).of_same (execOp_put gt Yh _ eF.dst undef z) (wanted_put gt _ eF.dst undef z)
    .rw[<-v6 _ v undef o,<-Act.put_defers];exact h
   case enter f args=>
    refine⟨h.1,CallsIn.mono h.2 λe Yf y=>?_⟩;cases e with
    |returned u=>exact⟨Yc a t u,T4⟩
    |panicked c=>exact y
    |outgrown=>exact y
   case row row args=>exact⟨h.1,RowsIn.mono h.2 λu Yf y=>⟨Yc a t u,T4⟩⟩
   case round l f Ye assign body=>
    refine⟨h.1,RoundIn.mono h.2 λe Yf y=>?_⟩;cases e with
    |returned u=>exact⟨Yc a t u,T4⟩
    |panicked c=>exact y
    |outgrown=>exact y
  |halt x k=>
   cases x<;>simp only[Oper.uponIn]at h⊢
 .rename_i s;simp only[s]at h;exact⟨Yc a t _,by rw[<-v6 a v undef o];exact h⟩
def Ck{i:Nat}{y:Act->a2->Prop}{w:a2}(h:∀a w,K a w->y a w)(v:kX P r J Q i K a w):kX P r J Q i y a w:=by
 unfold kX at*;split
 .rename_i e;rw[e]at v;exact h _ _ v
 .rename_i o e;rw[e]at v;simp only at v;split
  .rename_i s;rw[aJ s]at v;exact F6 h v
  .rename_i s;rw[aG s]at v;exact h _ _ v
abbrev tg(M:Act->a2->Prop):da:=λe a w=>match e with|.normal=>M a w|_=>False
def F8(q:Region.Mode)(J:Array cc)(u:ab Nat)(i:Nat):Bool:=
 u.all λj=>match J[j]? with
  |some k=>k.after.any λe=>Region.binds q e&&(e.on==i||(match J[e.on]? with
    |some d=>d.after.any λg=>Region.binds q g&&g.on==i
    |none=>false))
  |none=>true
def Cl(q:Region.Mode)(J:Array cc)(Y:Array Bool):Bool:=
 (List.range J.size).all λm=>!Y.getD m false||(match J[m]? with
  |some d=>d.after.all λe=>!Region.binds q e||Y.getD e.on false
  |none=>true)
def qt(q:Region.Mode)(J:Array cc)(Y:Array Bool):Prop:=
 ∀(m:Nat) (d:cc),J[m]?=some d->Y.getD m false=true->∀e∈d.after,Region.binds q e=true->Y.getD e.on false=true
def qt.of(h:Cl q J Y=true):qt q J Y:=by intro m z d t e j o;have g:=hk.1 h m (mi.2 (pT.1 d).1);simp only[d,t,Cm,xK]at g;have d:=zy.1 g e j;simpa[o]using d
def qt.step{Y:Array Bool}{j:Nat}(h:qt q J Y)(y:j∈Region.ready q J Y):qt q J (Y.setIfInBounds j true):=by
 intro m z g o e v d;refine getD_set_true ?_;by_cases k:j=m
 .subst k;obtain⟨_,i,b,t⟩:=r8.1 y;rw[g]at b;obtain rfl:=gs b;exact t e v d
 .rw[getD_set_ne false k]at o;exact h m z g o e v d
def Any.first{S T:a2->Prop}{u:ab Nat}{i:Nat}{v:aj}(am:J[i]?=some gt)(Ye:v2 J=true)(cB:F8 q J u i=true):∀(U:Nat) (Y:Array Bool) (a:Act) (w:a2),(∀j eF,J[j]?=some eF->j≠i->Y.getD j true=false->(∀e∈eF.after,Region.binds q e=true->e.on≠i)->gt.apart J eF=true)->i∈Region.ready q J Y->qt q J Y->pf P J S gt v a->S w->T w->Any P r q J (tg M) S T u U (Y.setIfInBounds i true) (a.put gt.dst v) w->Any P r q J (tg M) S T u (U+1) Y a w:=by
 have Yn:∀(j:Nat) (eF:cc),J[j]?=some eF->kW eF.op=true/\∀cs b,eF.op≠.select cs b:=λj eF dK=>by have:=zy.1 Ye eF (th dK);exact Uh
 intro U;induction U with
 |zero=>
  intro Y a w _ c2 _ o gy eo H;refine⟨λh=>(by rw[h]at c2;cases c2),λj dK=>?_⟩;by_cases Yg:j=i
  .subst Yg;exact o.kX am gy ⟨eo,λ_ _=>gy,H⟩
  .have:=ti dK Yg;rw[H.1]at this;cases this
 |succ U mj=>
  intro Y a w Yq c2 Yi o gy eo H;have Yj:=(r8.1 c2).1;refine⟨λh=>(by rw[h]at c2;cases c2),λj dK=>?_⟩;by_cases Yg:j=i
  .subst Yg;exact o.kX am gy ⟨eo,λ_ _=>gy,H⟩
  .have g:=H.2 j (ti dK Yg);obtain⟨Yr,eF,Yk,Yh⟩:=r8.1 dK;have Yo:∀e∈eF.after,Region.binds q e=true->e.on≠i:=λe dg z Yp=>by
    have g:=Yh e dg z;rw[Yp]at g;rcases o9 i Y.size with hH|hH
    .simp[hH]at Yj g;rw[Yj]at g;cases g
    .simp[zG hH]at g
   have Yu:u.contains j=false:=by
    cases s:u.contains j with
    |false=>rfl
    |true=>
     have t:j∈u:=by simpa using s
     have:=hk.1 cB j t;rw[Yk]at this;obtain⟨e,dg,z⟩:=F9.1 this;simp only[c1,hc,c9]at z;rcases z.2 with d|d
     .exact absurd d (Yo e dg z.1)
     .split at d
      .rename_i gz Yv;obtain⟨lu,Yl,Yf⟩:=F9.1 d;simp only[c1,c9]at Yf;have x:=Yi e.on gz Yv (Yh e dg z.1) lu Yl Yf.1;rw[Yf.2]at x;rcases o9 i Y.size with hH|hH
       .simp[hH]at Yj x;rw[Yj]at x;cases x
       .simp[zG hH]at x
      .cases d
   have d:=Cj Yk (Yq j eF Yk Yg Yr Yo) (Yn i gt am).2 (Yn j eF Yk).2 (Yn j eF Yk).1 o g;have Ys:∀k ok,J[k]?=some ok->k≠i->(Y.setIfInBounds j true).getD k true=false->
     (∀e∈ok.after,Region.binds q e=true->e.on≠i)->gt.apart J ok=true:=λk ok y Yt Yj Yc=>by
    refine Yq k ok y Yt ?_ Yc
    by_cases Ym:j=k
    .subst Ym;exact Yr
    .rw[getD_set_ne true Ym]at Yj;exact Yj
   refine Ck (λo g x=>⟨x.2.1,x.2.2.1,mj (Y.setIfInBounds j true) o g Ys (ti c2 (ox Yg)) (Yi.step dK) x.1 (x.2.2.1 gy Yu) x.2.1 ?_⟩) d;rw[Ga _ _ Yg];exact x.2.2.2
def Any.ab4{S T:a2->Prop}{u:ab Nat}{i:Nat}{v:aj}(am:J[i]?=some gt)(Ye:v2 J=true):∀(U:Nat) (Y:Array Bool) (a:Act) (w:a2),(∀j eF,J[j]?=some eF->j≠i->Y.getD j true=false->(∀e∈eF.after,Region.binds q e=true->e.on≠i)->gt.apart J eF=true)->i∈Region.ready q J Y->pf P J T gt v a->T w->Any P r q J (tg M) S T u U (Y.setIfInBounds i true) (a.put gt.dst v) w->Any P r q J (tg M) S T u (U+1) Y a w:=by
 have Yk:∀(j:Nat) (eF:cc),J[j]?=some eF->kW eF.op=true/\∀cs b,eF.op≠.select cs b:=λj eF x=>by have:=zy.1 Ye eF (th x);exact Uh
 intro U;induction U with
 |zero=>
  intro Y a w _ y o eo H;refine⟨λh=>RV,λj x=>?_⟩;by_cases Yf:j=i
  .subst Yf;exact o.kX am eo ⟨eo,λh _=>h,H⟩
  .have:=ti x Yf;rw[H.1]at this;cases this
 |succ U mj=>
  intro Y a w Yn y o eo H;have Yh:=(r8.1 y).1;refine⟨λh=>RV,λj x=>?_⟩;by_cases Yf:j=i
  .subst Yf;exact o.kX am eo ⟨eo,λh _=>h,H⟩
  .have g:=H.2 j (ti x Yf);obtain⟨Yo,eF,Yi,Yg⟩:=r8.1 x;have Yl:∀e∈eF.after,Region.binds q e=true->e.on≠i:=λe s t Ym=>by
    have g:=Yg e s t;rw[Ym]at g;rcases o9 i Y.size with hH|hH
    .simp[hH]at Yh g;rw[Yh]at g;cases g
    .simp[zG hH]at g
   have d:=Cj Yi (Yn j eF Yi Yf Yo Yl) (Yk i gt am).2 (Yk j eF Yi).2 (Yk j eF Yi).1 o g;have Yp:∀k ok,J[k]?=some ok->k≠i->(Y.setIfInBounds j true).getD k true=false->
     (∀e∈ok.after,Region.binds q e=true->e.on≠i)->gt.apart J ok=true:=λk ok z Yq Yh Yc=>by
    refine Yn k ok z Yq ?_ Yc
    by_cases Yj:j=k
    .subst Yj;exact Yo
    .rw[getD_set_ne true Yj]at Yh;exact Yh
   refine Ck (λt o g=>⟨g.2.1,g.2.2.1,mj (Y.setIfInBounds j true) t o Yp (ti y (ox Yf)) g.1 g.2.1 ?_⟩) d;rw[Ga _ _ Yf];exact g.2.2.2
section
def af(P:b1)(r:aT Nat)(W:a2)(D:ab Nat)(n:dF)(J:Array cc)(M:Act->a2->Prop)(K F:ab ay)(u:ab Nat)(T:Bool)(U:Nat)(Y:Array Bool)(an:bJ)(ao:ab ay):Prop:=
 ∀a w,dx n an a->H W D ao w->fU F w->(T=true->fU K w)->Any P r .any J (tg M) (fU K) (fU F) u U Y a w
def ah.draw{l:ab cc}(K F:ab ay)(u:ab Nat)(g:P.follows .mixedOrders=true)(i:∀w,H W D ao w->fU K w)(j:∀w,H W D ao w->fU F w)(h:af P r W D n l.toArray (Q .normal) K F u true l.length (Array.replicate l.length false) an ao):ah P r W D n Q (.region id l.toArray true) an ao:=λa w y b=>by
 refine uI (Q:=tg (Q .normal)) (wpIn_region_any g ?_) ?_
 .have:=F7 _ _ _ _ (h a _ y (b.ZG 1) (j _ (b.ZG 1)) (λ_=>i _ (b.ZG 1)));simpa using this
 .intro e a w aV;cases e with
  |normal=>exact aV
  |_=>exact aV.elim
def tj(q:Region.Mode)(J:Array cc)(Y:Array Bool)(i:Nat):Bool:=Region.ready q J Y==[i]
def uM(J:Array cc)(u:ab Nat)(Y:Array Bool)(i:Nat):Bool:=
 v2 J&&F8 .any J u i&&Region.free .any J Y i&&(Region.ready .any J Y).contains i&&Cl .any J Y
section
variable{K F:ab ay}{u:ab Nat}{U:Nat}{T:Bool}
variable{X:Op}
def af.take{v:aj}(i:Nat)(am:J[i]?=some ⟨some dst,X,ba,bd,be,aW⟩)(t:uM J u Y i=true)(j:hT an J aW=some true)(Yc:kW X=true)(b:Nat.blt dst n.n=true)(o:aN P n an K ⟨some dst,X,ba,bd,be,aW⟩ v)(h:af P r W D n J M K F u true U (Y.setIfInBounds i true) ((dst,v)::an) ao):af P r W D n J M K F u true (U+1) Y an ao:=λa w y i eo x=>by simp only[uM,c1]at t;obtain⟨⟨⟨⟨g,d⟩,z⟩,k⟩,s⟩:=t;exact Any.first am g d U Y a w (Cn am z) (by simpa using k) (qt.of s) (.inl ⟨r4 y j,Yc,λt Ye=>o a t y Ye⟩) (x rfl) eo (h _ _ (y.put b v) i eo x)
def af.skip(i:Nat)(am:J[i]?=some ⟨some dst,X,ba,bd,be,aW⟩)(o:uM J u Y i=true)(z:hT an J aW=some false)(b:Nat.blt dst n.n=true)(h:af P r W D n J M K F u true U (Y.setIfInBounds i true) ((dst,undef)::an) ao):af P r W D n J M K F u true (U+1) Y an ao:=λa w y i v s=>by simp only[uM,c1]at o;obtain⟨⟨⟨⟨g,d⟩,t⟩,k⟩,j⟩:=o;exact Any.first am g d U Y a w (Cn am t) (by simpa using k) (qt.of j) (.inr ⟨r4 y z,rfl⟩) (s rfl) v (h _ _ (y.put b undef) i v s)
def zH(J:Array cc)(Y:Array Bool)(i:Nat):Bool:=
 v2 J&&Region.free .any J Y i&&(Region.ready .any J Y).contains i
def af.ab5{v:aj}(i:Nat)(am:J[i]?=some ⟨some dst,X,ba,bd,be,aW⟩)(o:zH J Y i=true)(z:hT an J aW=some true)(x:kW X=true)(b:Nat.blt dst n.n=true)(d:aN P n an F ⟨some dst,X,ba,bd,be,aW⟩ v)(h:af P r W D n J M K F u T U (Y.setIfInBounds i true) ((dst,v)::an) ao):af P r W D n J M K F u T (U+1) Y an ao:=λa w y i j s=>by simp only[zH,c1]at o;obtain⟨⟨g,t⟩,k⟩:=o;exact Any.ab4 am g U Y a w (Cn am t) (by simpa using k) (.inl ⟨r4 y z,x,λo Yc=>d a o y Yc⟩) j (h _ _ (y.put b v) i j s)
def af.only{o:cc}(i:Nat)(am:J[i]?=some o)(g:tj .any J Y i=true)(d:hT an J o.guard=some true)(h:aw P r W D n o an ao (λZ a7=>(∀w,H W D a7 w->fU K w)/\(∀w,H W D a7 w->fU F w)/\af P r W D n J M K F u true U (Y.setIfInBounds i true) Z a7)):af P r W D n J M K F u T (U+1) Y an ao:=λa w y b k _=>by
 have t:Region.ready .any J Y=[i]:=by simpa[tj]using g
 refine⟨λe=>(by rw[t]at e;cases e),λj v=>?_⟩;rw[t]at v;obtain rfl:j=i:=P1
 unfold kX;rw[am];simp only;rw[aJ (r4 y d)];exact h _ _ (λZ a7 g a w y b=>⟨g.2.1 w b,λ_ _=>g.1 w b,g.2.2 a w y b (g.2.1 w b) (λ_=>g.1 w b)⟩) a w y b
def af.last{o:cc}(i:Nat)(am:J[i]?=some o)(g:(tj .any J Y i&&u.contains i)=true)(d:hT an J o.guard=some true)(h:aw P r W D n o an ao (λZ a7=>(∀w,H W D a7 w->fU F w)/\af P r W D n J M K F u false U (Y.setIfInBounds i true) Z a7)):af P r W D n J M K F u T (U+1) Y an ao:=λa w y b s _=>by
 simp only[c1]at g;have t:Region.ready .any J Y=[i]:=by simpa[tj]using g.1
 refine⟨λe=>(by rw[t]at e;cases e),λj v=>?_⟩;rw[t]at v;obtain rfl:j=i:=P1
 unfold kX;rw[am];simp only;rw[aJ (r4 y d)];exact h _ _ (λZ a7 k a w y b=>⟨k.1 w b,λ_ z=>(by rw[g.2]at z;cases z),k.2 a w y b (k.1 w b) (λe=>by cases e)⟩) a w y b
def af.each(s:ab Nat)(g:(Region.ready .any J Y==s&&!s.isEmpty)=true)(h:∀i∈s,∃o,J[i]?=some o/\hT an J o.guard=some true/\aw P r W D n o an ao (λZ a7=>(∀w,H W D a7 w->fU K w)/\(∀w,H W D a7 w->fU F w)/\af P r W D n J M K F u true U (Y.setIfInBounds i true) Z a7)):af P r W D n J M K F u T (U+1) Y an ao:=λa w y k b _=>by simp only[c1,c9,kf]at g;obtain⟨d,t⟩:=g;refine⟨λe=>(by rw[d]at e;rw[e]at t;cases t),λj v=>?_⟩;rw[d]at v;obtain⟨o,b,d,g⟩:=h j v;unfold kX;rw[b];simp only;rw[aJ (r4 y d)];exact g _ _ (λZ a7 d a w y k=>⟨d.2.1 w k,λ_ _=>d.1 w k,d.2.2 a w y k (d.2.1 w k) (λ_=>d.1 w k)⟩) a w y k
def af.done(g:(Region.ready .any J Y).isEmpty=true)(h:∀a w,dx n an a->H W D ao w->M a w):∀{U:Nat},af P r W D n J M K F u T U Y an ao
 |0=>λa w y b _ _=>⟨Ra,h a w y b⟩
 |_+1=>λa w y b _ _=>⟨λ_=>h a w y b,by rw[show Region.ready .any J Y=[] by simpa using g];simp⟩
def af.out{e:dY}(g:(Region.ready .any J Y).isEmpty=true)(h:Out W D n Q e an ao){U:Nat}:af P r W D n J (Q e) K F u T U Y an ao:=af.done g h
def af.part(t:eN an d=some (.bool b))(o:b=true->af P r W D n J M K F u T U Y ((d,.bool true)::an) ao)(k:b=false->af P r W D n J M K F u T U Y ((d,.bool false)::an) ao):af P r W D n J M K F u T U Y an ao:=λa w y i j s=>by
 cases b with
 |true=>exact o rfl a w (y.jT t) i j s
 |false=>exact k rfl a w (y.jT t) i j s
def Gb:∀w,H W D ao w->fU [] w:=λ_ _ _ h=>VL
def Gc(h:e∈ao)(o:∀w,H W D ao w->fU bg w):∀w,H W D ao w->fU (e::bg) w:=λw b x g=>by
 rcases cQ.1 g with rfl|g
 .exact b.mem h
 .exact o w b x g
end
end
end
section
variable{r:aT Nat}
abbrev dH(P:b1)(f:fb)(args:ab aj)(x:aj):Prop:=ar P f args [] (λv a7=>v=x/\a7=[])
def aw.fun{f:fb}{t:ab bj}{y:Array a8}{x:aj}(b:Nat.blt dst n.n=true)(j:lp P f=true)(d:az.il an t=some args)(k:dH P f args x)(z:C ((dst,x)::an) ao):aw P r W D n ⟨some dst,.call ⟨.value (.func f),t.toArray,y⟩,ba,bd,be,aW⟩ an ao C:=
 aw.call (lZ:=[]) (mM:=ao) b j d (hI _) k (λv a7 ⟨g,o⟩=>by subst g o;exact z)
end
inductive oy where
 |b|i (k:IntKind)|s
def oy.ok:oy->aj->Prop
 |.b,v=>∃x,v=.bool x
 |.i k,v=>∃n,v=.int k n/\(Lit.int k n).wf=true
 |.s,v=>∃l:ab aS,v=S l/\l.length<=140737488351232
def gu:ab oy->ab aj->Prop
 |[],[]=>True
 |f::y,v::g=>f.ok v/\gu y g
 |_,_=>False
def gu.cons{f:oy}{y:ab oy}{g:ab aj}(h:gu (f::y) g):∃v d,g=v::d/\f.ok v/\gu y d:=by
 cases g with
 |nil=>exact h.elim
 |cons v g=>exact⟨v,g,rfl,h.1,h.2⟩
def gu.nil{g:ab aj}(h:gu [] g):g=[]:=by
 cases g with
 |nil=>rfl
 |cons v g=>exact h.elim
abbrev nl(k:IntKind)(n:Int):Prop:=(Lit.int k n).wf=true
def nl.ZJ{n:Int}(h:-9223372036854775808<=n/\n<=9223372036854775807):nl .i64 n:=WalkArith.wf_i64 h
def gu.append:∀{y d:ab oy} {g k:ab aj},gu y g->gu d k->gu (y++d) (g++k)
 |[],_,[],_,_,h=>h
 |[],_,_::_,_,h,_=>h.elim
 |_::_,_,[],_,h,_=>h.elim
 |_::_,_,_::_,_,h,k=>⟨h.1,gu.append h.2 k⟩
section
variable{l:Type}{L:a8×aj->l}{w:a2}{G:Nat}{p:Nat->Bool}{c:Bool}
def leaves(P:b1):Nat->a8->aT (ab oy)
 |0,_=>none
 |m+1,T=>
  match P.underlying T with
  |some .bool=>some [.b]
  |some (.int k)=>some [.i k]
  |some .string=>some [.s]
  |some (.struct q8)=>match fields m 0 q8.toList with
   |some ls=>if ls.length=P.cellsOf T then some ls else none
   |none=>none
  |some (.array n e)=>match leaves P m e with
   |some ls=>if ls.length=P.cellsOf e/\n*ls.length=P.cellsOf T then some (List.replicate n ls).flatten else none
   |none=>none
  |_=>none
 where
 fields:Nat->Nat->ab Field->aT (ab oy)
  |_,_,[]=>some []
  |0,_,_=>none
  |m+1,o,f::q8=>
   match leaves P m f.type,fields m (o+P.cellsOf f.type) q8 with
   |some ls,some N=>if f.offset=o/\ls.length=P.cellsOf f.type then some (ls++N)else none
   |_,_=>none
def Gd{k:ab oy}:∀(n:Nat) (cs:ab aj),cs.length=n*k.length->(∀i,i<n->gu k ((cs.drop (i*k.length)).take k.length))->gu (List.replicate n k).flatten cs
 |0,cs,g,_=>by have:cs=[]:=ml Ra;subst this;exact trivial
 |n+1,cs,g,h=>by
  have o:=h 0 ac;simp only[r9,Co]at o;have d:=Gd (k:=k) n (cs.drop k.length) (by simp[g,fK]) (λi am=>by have:=h (i+1) ac;rw[sa];rw[show k.length+i*k.length=(i+1)*k.length by rw[fK];omega];exact this)
  have:=o.append d;rw[nU]at this;simpa[Cp]using this
def Cq{e:a8}:∀{g:ab (DataW l)} {d:DataW l},d∈g->∀n∈d.weights P e,n∈DataW.weightsAll P e g
 |o::g,d,h,n,y=>by
  simp only[DataW.weightsAll,eh];rcases cQ.1 h with rfl|h
  .exact .inl y
  .exact .inr (Cq h n y)
def xL(P:b1)(T:a8)(d:DataW l):Prop:=∀k,k∈d.weights P T->k<=140737488351232
mutual
def zI:∀(m:Nat) (T:a8) (ls:ab oy) (U:Nat) (cs:ab aj) (x:DataW l×ab MemPlace),leaves P m T=some ls->DataW.trod L P w G p c U T cs=some x->xL P T x.1->gu ls cs
 |0,_,_,_,_,_,h,_,_=>by simp[leaves]at h
 |m+1,T,ls,U,cs,x,h,cB,Yc=>by
  unfold leaves at h;split at h
  .rename_i e;obtain⟨b,rfl,_⟩:=DataW.trod_bool e cB;simp only[fj]at h;subst h;exact⟨⟨b,rfl⟩,trivial⟩
  .rename_i k e;obtain⟨q,rfl,_,cE⟩:=DataW.trod_int e cB;simp only[fj]at h;subst h;exact⟨⟨q,rfl,cE⟩,trivial⟩
  .rename_i e;obtain⟨s,rfl,rfl,y⟩:=DataW.trod_string e cB;simp only[fj]at h;subst h;exact⟨⟨s.data.toList,VK,Yc _ (by simp[DataW.weights])⟩,trivial⟩
  .rename_i q8 e;split at h
   .rename_i Yj dq;split at h
    .rename_i Ye;simp only[fj]at h;subst h;obtain⟨o,q,rfl,rfl,v,Yh,g⟩:=DataW.trod_struct e cB;have:=Ge m 0 q8.toList Yj q cs ac dq (λi f am=>by
      have Yg:q8[i]?=some f:=by simpa using am
      have Yk:i<q8.size:=(pT.1 Yg).1;have Yi:o[i]?=some (o[i]' ac):=hl ac;refine⟨o[i]' ac,by rw[g i f Yg,Yi],λk z=>Yc k ?_⟩;have:=DataW.weights_mem_each (P:=P) (ts:=q8.toList.map (·.type)) (ds:=o.map (·.1)) (j:=i) (t:=f.type) (d:=(o[i]' ac).1) (by simp[Yg]) (by simp[Yi]) k z;simpa[DataW.weights,e]using this)
     simpa using this
    .cases h
   .cases h
  .rename_i k e Gf;split at h
   .rename_i Yj Yf;split at h
    .rename_i Ye;simp only[fj]at h;subst h;obtain⟨o,q,rfl,rfl,v,Yh,g⟩:=DataW.trod_array Gf cB;rw[<-Ye.1]at g;exact Gd k cs (by rw[v,Ye.2]) (λi am=>zI m e Yj q _ (o[i]' ac) Yf (by rw[g i am];simp[Yh,am]) (λn cN=>Yc n (by have:=Cq (P:=P) (e:=e) (g:=o.map (·.1)) (d:=(o[i]' ac).1) (dQ.2 ⟨_,Gg _,rfl⟩) n cN;simpa[DataW.weights,Gf]using this)))
    .cases h
   .cases h
  .cases h
def Ge:∀(m o:Nat) (s:ab Field) (ls:ab oy) (U:Nat) (cs:ab aj),cs.length=o+ls.length->leaves.fields P m o s=some ls->(∀(i:Nat) (f:Field),s[i]?=some f->∃y:DataW l×ab MemPlace,DataW.trod L P w G p c U f.type ((cs.drop f.offset).take (P.cellsOf f.type))=some y/\xL P f.type y.1)->gu ls (cs.drop o)
 |m,o,[],ls,U,cs,j,h,_=>by
  have:ls=[]:=by cases m<;>simpa[leaves.fields]using h.symm
  subst this;have:cs.drop o=[]:=List.drop_eq_nil_of_le (by simp at j;omega);rw[this];exact trivial
 |0,_,_::_,_,_,_,_,h,_=>by simp[leaves.fields]at h
 |m+1,o,f::s,ls,U,cs,j,h,k=>by
  simp only[leaves.fields]at h;split at h
  .rename_i x N d t;split at h
   .rename_i v;simp only[fj]at h;subst h;obtain⟨y,z,Yc⟩:=k 0 f rfl;rw[v.1]at z;have f1:=zI m f.type x U _ y d z Yc;have f2:=Ge m (o+P.cellsOf f.type) s N U cs (by simp at j;omega) t (λi g b=>k (i+1) g b);have:=f1.append f2;rw[<-sa,nU]at this;exact this
   .cases h
  .cases h
end
end
end Go.az
namespace Go.az
open Go Go.ChangeShapes Go.WideShapes Go.ChangeAt Go.RowKit
variable{Yc:ab MemPlace}{args:Array aj}{G:Nat}
section
variable{l:Type}{L:a8×aj->l}{P:b1}{w:a2}{p:Nat->Bool}{c:Bool}
def afq{j:Reach}{z m:Nat}{T:a8}{s:ab oy}{v:aj}{d:DataW l}{aX:ab MemPlace}(o:leaves P m T=some s)(g:∃y,P.underlying T=some (.struct y))(k:Value.okWide P w j z T v)(b:DataW.Trod L P w G p c T v d aX)(i:xL P T d):∃cs,v=A cs/\gu s cs:=by obtain⟨y,g⟩:=g;obtain⟨cs,rfl,_⟩:=okWide_struct g k;obtain⟨U,k⟩:=b;exact⟨cs.toList,VK,zI m T s U _ _ o (by simpa[Value.cells]using k) i⟩
def v7{z:ab a8}{g:ab (DataW l)}(h:(DataW.weightsEach P z g).all (·<=reachBytes)=true)(j:Nat){t:a8}{d:DataW l}(o:z[j]?=some t)(b:g[j]?=some d):xL P t d:=λk g=>by exact tk (hk.1 h _ (DataW.weights_mem_each o b k g))
def tl(w:a2)(b off aM:Nat)(g:ab (ab aj)):Prop:=
 ∀(i:Nat) (x:ab aj),g[i]?=some x->x.length=aM/\∀(j:Nat) (u:aj),x[j]?=some u->w.cell? ⟨b,off+i*aM+j,none⟩=some u
def Cr{cs:ab aj}{a:Addr}{k:Nat}(h:w.cells? G a k=some cs):cs.length=k/\∀j,j<k->w.cell? (a.add j)=cs[j]?:=by obtain⟨_,g,d⟩:=World.cells?_some h;exact⟨g,d⟩
def xM{T e m:Nat}{y:ab oy}{v:aj}{d:DataW l}{aX:ab MemPlace}{oz:Reach}{fx:Nat}(eo:P.underlying T=some (.slice e))(Yg:leaves P m e=some y)(Ye:y.length=P.cellsOf e)(Yh:0<y.length)(Yk:Value.okWide P w oz fx T v)(du:DataW.Trod L P w G p c T v d aX)(s:xL P T d):∃(cK:aT Addr) (b off o g:Nat) (xs:ab (ab aj)),v=.slice cK o g/\xs.length=o/\o<=g/\g<=maxLen/\(0<o->cK=some ⟨b,off,none⟩/\b<w.heap.size)/\tl w b off y.length xs/\(∀x,x∈xs->gu y x)/\o*P.bytesOf e<=140737488351232:=by
 obtain⟨U,dq⟩:=du;obtain⟨cK,o,g,rfl⟩:=okWide_slice eo Yk;have Yn:DataW.trod L P w G p c U T [.slice cK o g]=some (d,aX):=by simpa[Value.cells]using dq
 rcases Go.Deep.open_slice eo Yn with⟨t,_⟩|⟨a,Yo,Yf,q,n,l1,ad4,Yj,_,dz,dI,aV,Yr,am⟩
 .simp only[q9,sb,nm]at t;obtain⟨rfl,rfl,rfl⟩:=t;exact⟨none,0,0,0,0,[],rfl,rfl,cx _,cG _,λh=>absurd h ac,λi x h=>VT,λx h=>VL,VK⟩
 .simp only[q9,sb,nm]at Yj;obtain⟨rfl,rfl,rfl⟩:=Yj;have Yx:o<=q:=by rw[aV];split<;>omega
  rw[<-Ye]at am;refine⟨some a,a.block,a.off,o,g,(List.range o).map λi=>(w.cells? G (a.add (i*y.length)) y.length).getD [],rfl,VK,dz,dI,λYp=>?_,λi x b6=>?_,λx b6=>?_,?_⟩
  .obtain⟨Yq,dT,_⟩:=am 0 ac;obtain⟨Yi,Yt⟩:=Cr dT;have t:=Yt 0 Yh;have eJ:(a.add (0*y.length)).add 0=a:=by simp[Addr.add]
   rw[eJ]at t;have s:0<Yq.length:=ac
   rw[hl s]at t;have k:a.spot=none:=by
    unfold World.cell? at t;split at t
    .cases bV:a.spot with
     |none=>rfl
     |some z=>simp[bV]at t
    .cases t
   refine⟨?_,block_lt_of_cell t⟩;obtain⟨ei,Ys,tm⟩:=a;simp only at k;subst k;rfl
  .have Ym:i<o:=by have:=(cF.1 b6).1;simpa using this
   obtain⟨Yw,Yl,_⟩:=am 0 ac;obtain⟨Yq,dT,_⟩:=am i ac;obtain⟨Yi,Yt⟩:=Cr dT;have Yc:x=Yq:=by rw[h5,List.getElem?_range Ym]at b6;simpa[dT]using b6.symm
   subst Yc;refine⟨Yi,λj u hu=>?_⟩;have dK:j<y.length:=by have:=(cF.1 hu).1;omega
   have bG:=Yt j dK;rw[hu]at bG;obtain⟨Yy,Yv⟩:=Cr Yl;have t:=Yv 0 Yh;have eJ:(a.add (0*y.length)).add 0=a:=by simp[Addr.add]
   rw[eJ,hl (by omega:0<Yw.length)]at t;have k:a.spot=none:=by
    unfold World.cell? at t;split at t
    .cases bV:a.spot with
     |none=>rfl
     |some z=>simp[bV]at t
    .cases t
   obtain⟨ei,Ys,tm⟩:=a;simp only at k;subst k;simpa[Addr.add_mid]using bG
  .obtain⟨i,Yu,rfl⟩:=dQ.1 b6;have Ym:i<o:=mi.1 Yu;obtain⟨Yq,dT,t⟩:=am i ac;rw[dT];refine zI m e y n Yq _ Yg t λk g=>s k ?_;simp only[nV]at Yr;rw[Yr.1];have:=Cq (P:=P) (e:=e) (g:=(List.range o).map l1) (d:=l1 i) (dQ.2 ⟨i,Yu,rfl⟩) k g;simp only[DataW.weights,eo,cQ,eh];exact .inr (.inl this)
  .simp only[nV]at Yr;rw[Yr.1]at s;have:=s (((List.range o).map l1).length+((List.range (q-o)).map λj=>l1 (o+j)).length|>(·*P.bytesOf e)) (by simp[DataW.weights,eo]);have g:o*P.bytesOf e<=(((List.range o).map l1).length+((List.range (q-o)).map λj=>l1 (o+j)).length)*P.bytesOf e:=kY _ VK;exact iB g this
def Gh(z:laidOutB P=true){W s:a2}{Yf:Nat->Bool}:∀{x:ab a8} {i:ab aj} {k:ab (DataW l)} {aX:ab MemPlace},(x.all λt=>P.readableRec t&&decide (t<P.types.size))=true->DataW.TrodAll L P W G (λ_=>true) true x i k aX->(∀p∈aX,W.sameAt s p)->(∀p∈aX,Yf p.block=true)->DataW.TrodAll L P s G Yf true x i k aX
 |[],i,k,aX,_,h,_,_=>by obtain⟨rfl,rfl,rfl⟩:=trodAll_nil h;exact trodAll_mk0
 |t::x,i,k,aX,y,h,j,b=>by
  obtain⟨v,Ye,d,Yc,p,q,rfl,rfl,rfl,g,o⟩:=trodAll_cons h;simp only[Ch,c1,cO]at y;exact trodAll_cons_mk (WideElems.Trod_stays z y.1.1 y.1.2 g (λx d=>j x TP) (λx d=>b x TP))
   (Gh z y.2 o (λx d=>j x TP) (λx d=>b x TP))
structure v8(W eK:a2):Prop where
 block:∀b,b<W.heap.size->eK.heap[b]?=W.heap[b]?
 os:eK.os=W.os
 output:eK.output=W.output
def v8.same{W i:a2}(h:v8 W i){p:MemPlace}(z:p.block<W.heap.size):W.sameAt i p:=by
 cases p with
 |cell b o=>exact World.cell?_of_block (w:=W) (h.block b z)
 |map b=>exact h.block b z
def v8.frame{W k:a2}(h:v8 W k)(g:MemPlace->Prop):W.keptBut k g:=by refine⟨h.os,h.output,λi am=>?_⟩;rw[h.block i am];split<;>simp_all
def xN{f:Func}{s:ChangeSpec}{j i b k:Bool}{W h:a2}{y:ab (DataW l)}{Ye:a8}(x:DataW.Whole L P f.params.toList s.vars j W args.toList y [] Yc)(v:DataW.TrodAll L P W 0 (λ_=>true) true f.params.toList args.toList y Yc)(z:s.vars=[])(Yg:s.fn l (y++[])={results:=[.lit (.bool true)],args:=y})(d:v8 W h)(g:laidOutB P=true)(o:(f.params.toList.all λt=>P.readableRec t&&decide (t<P.types.size))=true)(Yi:f.resultTypes=#[Ye])(Yf:P.underlying Ye=some .bool):s.post L P f j i b k W args (.bool true) h:=by
 have k:=x.lt;have Yh:∀(b:Nat) (sp:Nat->Bool) (i:Bool),DataW.TrodAll L P h b sp i f.resultTypes.toList ((Value.bool true).resultList f.resultTypes.size) (s.fn l (y++[])).results []:=λ_ _ _=>by rw[Yg,Yi];exact trodAll_mk1 (shut_bool Yf _)
 have i:∀sp:Nat->Bool,(∀p∈Yc,sp p.block=true)->DataW.TrodAll L P h 0 sp true f.params.toList args.toList (s.fn l (y++[])).args Yc:=λsp t=>by rw[Yg];exact Gh g o v (λp j=>d.same (k p j)) t
 have o:∀sp:Nat->Bool,DataW.TrodVars L P h sp s.vars (s.fn l (y++[])).vars []:=λsp=>by rw[Yg,z];rfl
 have v:∀p∈Yc,(λb=>decide (b<W.heap.size)) p.block=true:=λp j=>by simpa using k p j
 refine⟨y,[],Yc,[],Yc,[],x,Yh _ _ _,i _ v,o _,World.keptBut_mono (λp j=>⟨j,qu (by simpa using j)⟩) (d.frame (·∈Yc)),λ_=>?_⟩;obtain⟨_,_,_,_,_,v,y⟩:=x;refine⟨ok_one Yi rfl (okWide_bool_mk Yf _),_,_,([]++Yc)++[],⟨[]++Yc,[],trodAll_append (i _ (λ_ _=>rfl)) (Yh _ _ _),o _,rfl,?_,?_⟩,?_⟩
 .intro b off j;have g:MemPlace.cell b off∈Yc:=by simpa using j
  rw[World.frozen?_of_block (w:=W) (d.block b (k _ g))];exact v b off g
 .intro g;have:=y g;simpa using this
 .intro p j _;simpa using j
@[irreducible] def snap(Gi:World)(Gj:List Nat):ay where
 gJ:=Gj
 holds w:=∀b,b∈Gj->w.heap[b]?=Gi.heap[b]?/\b<Gi.heap.size
 loc w jk h cE:=λb bN=>⟨(h b bN).trans (cE b bN).1,(cE b bN).2⟩
 lt w cE b bN:=by
  have:=(cE b bN).1;have bW:=(cE b bN).2;rcases Nat.lt_or_ge b w.heap.size with cd|cd
  .exact cd
  .rw[Array.getElem?_eq_none cd,Array.getElem?_eq_getElem bW]at this;cases this
def Gk(d g):(snap d g).gJ=g:=by unfold snap;rfl
def Cs(d g w):(snap d g).holds w↔∀b,b∈g->w.heap[b]?=d.heap[b]?/\b<d.heap.size:=by unfold snap;rfl
def tl.ab6{v w:a2}{b off aM:Nat}{g:ab (ab aj)}{d:ab Nat}(h:tl v b off aM g)(z:(snap v d).holds w)(t:0<g.length->b∈d):tl w b off aM g:=by
 rw[Cs]at z;intro i x d;have am:0<g.length:=by have:=(cF.1 d).1;omega
 obtain⟨g,o⟩:=h i x d;exact⟨g,λj u d=>(World.cell?_of_block (w:=v) (z b (t am)).1).trans (o j u d)⟩
end
end Go.az
namespace Go.az
open Go
variable{k:IntKind}{aM:Nat}{aW:aT (Nat×Bool)}{bB:Type}{C:bJ->ab ay->Prop}{R:aj->ab ay->Prop}{be:Array Edge}{args:ab aj}{e:dY}{D:ab Nat}{bd:String}{J:Array cc}{d:ab (ab aj)}{T:a8}{b:Bool}{dst:Nat}{X:BinOp}{an:bJ}{P:b1}{off:Nat}{ao:ab ay}{N:ab cc}{W:a2}{n:dF}{Q:da}{ba:a8}{bg:ab ay}{q:Int}{Yg:ab (Nat×bj)}{K M:Act->a2->Prop}{cap:Nat}{xs:ab (ab aj)}{U:Nat}{Y:Array Bool}
section
variable{r:aT Nat}
def hU(an:bJ)(ao:ab ay):ab Nat->ab ay->Prop
 |[],bg=>bg=[]
 |d::g,bg=>∃b o T c i,eN an d=some (av b o)/\cells b T c∈ao/\bg=cells b T c::i/\hU an ao g i
def aN.ab7(ad:cj P){t h:a8}{x y:bj}{p q:Bool}{u:Nat}(g:aR an x=some (.bool p))(d:aR an y=some (.bool q))(o:bT ad.xI t=some u):aN P n an ao ⟨some dst,.binOp .neq t x y h,ba,bd,be,aW⟩ (.bool (!(p==q))):=
 aN.neq g d rfl rfl (dk.bool (ad.aan o))
def ar.run{f:fb}(h:ar P f args ao R)(w:a2)(o:hS ao w):Calls P f args.toArray w λe g=>∃v a7,e=.returned v/\R v a7/\H w (br ao) a7 g:=h w o
end
section
variable{r:aT Nat}{Z:bJ}{a7:ab ay}
structure Rd(e:ay)(cK:aT Addr)(len b off aM:Nat)(xs:ab (ab aj)):Prop where
 length:xs.length=len
 small:len<=maxLen
 addr:0<len->cK=some ⟨b,off,none⟩
 reads:∀w,e.holds w->tl w b off aM xs
def Rd.snap{y:a2}{i:aT Addr}{len b:Nat}{g:ab (ab aj)}(t:g.length=len)(d:len<=maxLen)(j:0<len->i=some ⟨b,off,none⟩/\b<y.heap.size)(z:tl y b off aM g){v:ab Nat}(o:0<len->b∈v):Rd (snap y v) i len b off aM g:=
 ⟨t,d,λh=>(j h).1,λw s=>z.ab6 s (by rw[t];exact o)⟩
def tn(b o j:Nat):(⟨b,o,none⟩:Addr).add j=⟨b,o+j,none⟩:=Addr.add_mid b o j
def Gl{aM:Nat}:∀{g:ab (ab aj)} {i:Nat} {x:ab aj},(∀y,y∈g->y.length=aM)->g[i]?=some x->∀(j:Nat) (u:aj),x[j]?=some u->g.flatten[i*aM+j]?=some u
 |[],_,_,_,h,_,_,_=>VT
 |y::t,0,x,d,h,j,u,o=>by simp only[ra,fj]at h;subst h;have:=(cF.1 o).1;rw[Ct,pU ac];simpa using o
 |y::t,i+1,x,d,h,j,u,o=>by have g:y.length=aM:=d y VK;simp only[pV]at h;have t:=Gl (λz v=>d z (by simp[v])) h j u o;rw[Ct,iC (by rw[g,fK];omega),g];rw[show(i+1)*aM+j-aM=i*aM+j by rw[fK];omega];exact t
def Rd.row{g E k:Nat}(o:xs.length=k)(b:∀y,y∈xs->y.length=aM)(d:k<=maxLen):Rd (row (.slice (some ⟨g,0,none⟩) k cap) E aM k xs.flatten) (some ⟨g,0,none⟩) k g 0 aM xs:=
 ⟨o,d,λ_=>rfl,λw s i x g=>by
  rw[i0]at s;refine⟨b x (im g),λj u d=>?_⟩;have am:i<xs.length:=(cF.1 g).1;have v:j<aM:=by have:=(cF.1 d).1;rw[b x (im g)]at this;exact this
  have h:i*aM+j<k*aM:=by have:(i+1)*aM<=k*aM:=kY aM ac;rw[fK]at this;omega
  have:=s.cellAt (i*aM+j) h;rw[h4,this];exact Gl b g j u d⟩
def qv{T:Nat}(h:(P.info? T).map (·.size)=some aM)(w:a2):(sizeOf T).run P w=.ok aM w:=by obtain⟨i,am,rfl⟩:=qs.1 h;simp[sizeOf,typeInfo,am]
def aN.ab8{t E:a8}{x y:bj}{e:ay}{i:aT Addr}{s z b:Nat}(k:Nat)(g:aR an x=some (.slice i s z))(o:aR an y=some (I (k:Int)))(h:Rd e i s b off aM d)(v:r5 P t E=true)(j:(P.info? E).map (·.size)=some aM)(z:k<s):aN P n an ao ⟨some dst,.indexAddr t x y,ba,bd,be,aW⟩ (av b (off+k*aM)):=λa w y _=>by
 have z:=gV v;have v:P.elem t=E:=by simp[Program.elem,z]
 have d:=h.addr ac;simp only[execOp,y.eval g,y.eval o,d];rw[cW,run_indexAt_slice w t _ _ _ _ _ (by rw[v];exact z)];have o:(0:Int)<=(k:Int)/\(k:Int)<(s:Int):=⟨ac,ac⟩
 rw[aJ o,v,qv j];simp[tn]
def aN.ab9(ad:cj P){t E:a8}{x y:bj}{e:ay}{i:aT Addr}{s z b:Nat}{k:Nat}(g:aR an x=some (.slice i s z))(o:aR an y=some (I (k:Int)))(h:Rd e i s b off aM d)(v:bT ad.fw t=some E)(j:bT ad.ht E=some aM)(z:k<s):aN P n an ao ⟨some dst,.indexAddr t x y,ba,bd,be,aW⟩ (av b (off+k*aM)):=
 aN.ab8 k g o h (ad.V8 v) (ad.WW j) z
def aN.aca(ad:cj P){x:bj}{e:ay}{i:aT Addr}{j b k:Nat}{c:ab aj}(g:bT ad.agg T=some aM)(o:aR an x=some (av b (off+k*aM)))(v:Rd e i j b off aM d)(t:e∈ao)(z:d[k]?=some c):aN P n an ao ⟨some dst,.load T x,ba,bd,be,aW⟩ (A c):=λa w i h=>by obtain⟨d,x,s,am⟩:=vT (ad.WC g);obtain⟨g,y⟩:=v.reads w (h _ t) k c z;simp only[execOp,i.eval o,Instr.loadAt,Instr.sureAddr,cW,eW,ed];rw[Ca w b (off+k*aM) T c d (λj v t=>y j v t) x s (by rw[am,g])];rfl
def aN.acb(ad:cj P){u:a8}{x:bj}{e:ay}{i:aT Addr}{j b k:Nat}{o:ab (ab aj)}{v:aj}(g:bT ad.one T=some u)(d:aR an x=some (av b (off+k*1)))(s:Rd e i j b off 1 o)(t:e∈ao)(z:o[k]?=some [v]):aN P n an ao ⟨some dst,.load T x,ba,bd,be,aW⟩ v:=λa w y b=>by obtain⟨o,j⟩:=s.reads w (b _ t) k [v] z;simp only[execOp,y.eval d,Instr.loadAt,Instr.sureAddr,cW,eW,ed];have o:=j 0 v rfl;rw[hj]at o;rw[zx (ad.V2 g) o];rfl
def aw.acd{f:fb}{x:bj}{d:ab bj}{Yi:Array a8}{Yh Ye:ab ay}(b:Nat.blt dst n.n=true)(t:aR an x=some (.func (.func f) #[] #[]))(Yc:lp P f=true)(g:az.il an d=some args)(Yg:ao.Perm (Yh++Ye))(s:ar P f args Yh R)(o:∀v a7,R v a7->C ((dst,v)::an) (a7++Ye)):aw P r W D n ⟨some dst,.call ⟨.value x,d.toArray,Yi⟩,ba,bd,be,aW⟩ an ao C:=λK Q k a w y i=>by
 have Yf:=i.perm Yg;have Yk:d.toArray.map a.eval=args.toArray:=by rw[<-y.il g];simp
 refine zA (f:=f) (args:=args.toArray) (b:=w) rfl ?_ ?_
 .simp only[execOp,resolve,cW,Yk,y.eval t];simp[Deferred.ofValue,invoke,xF Yc]
 .refine(s w ⟨λe j=>Yf.gq e Vx,?_⟩).mono ?_
  .have:=Yf.nodup;exact Mb
  .rintro e h⟨v,a7,rfl,z,Yj⟩;exact⟨_,rfl,k _ _ (o v a7 z) _ _ (y.put b v) (Yf.call Yj)⟩
def aw.ace{f:fb}{x:bj}{t:ab bj}{i:Array a8}{v:aj}(b:Nat.blt dst n.n=true)(z:aR an x=some (.func (.func f) #[] #[]))(y:lp P f=true)(d:az.il an t=some args)(k:dH P f args v)(j:C ((dst,v)::an) ao):aw P r W D n ⟨some dst,.call ⟨.value x,t.toArray,i⟩,ba,bd,be,aW⟩ an ao C:=
 aw.acd (Yh:=[]) (Ye:=ao) b z y d (hI _) k (λv a7 ⟨g,o⟩=>by subst g o;exact j)
def aw.aat{o:cc}{d:bJ->ab ay->Prop}(h:aw P r W D n o an ao C)(g:∀Z a7,C Z a7->∃t,d Z t/\∀w,H W D a7 w->H W D t w):aw P r W D n o an ao d:=
 λK Q i=>h K Q (λZ a7 d a w y b=>by obtain⟨t,o,v⟩:=g Z a7 d;exact i Z t o a w y (v w b))
def bP(aM:Nat):Nat->ab (Nat×aj)->ab aj->Prop
 |_,[],cs=>cs=[]
 |k,(i,v)::l,cs=>i=k/\∃c y,v.cells=c.toArray/\c.length=aM/\cs=c++y/\bP aM (k+1) l y
def bP.nil{k:Nat}:bP aM k [] []:=rfl
def bP.agg{k:Nat}{c cs:ab aj}{l:ab (Nat×aj)}(g:c.length=aM)(h:bP aM (k+1) l cs):bP aM k ((k,A c)::l) (c++cs):=⟨rfl,c,cs,rfl,g,rfl,h⟩
def bP.one{k:Nat}{v:aj}{cs:ab aj}{l:ab (Nat×aj)}(t:v.cells=#[v])(h:bP 1 (k+1) l cs):bP 1 k ((k,v)::l) (v::cs):=⟨rfl,[v],cs,t,rfl,rfl,h⟩
def bP.length:∀{k:Nat} {l:ab (Nat×aj)} {cs:ab aj},bP aM k l cs->cs.length=l.length*aM
 |_,[],cs,h=>by obtain rfl:cs=[]:=h;simp
 |k,(i,v)::l,cs,h=>by obtain⟨_,c,y,_,g,rfl,o⟩:=h;simp[g,o.length,fK];omega
def bP.fill{aM:Nat}:∀{l:ab (Nat×aj)} {k:Nat} {cs:ab aj} (z:Array aj),bP aM k l cs->z.size=(k+l.length)*aM->Instr.fill (λi=>some (i*aM,aM)) z l=some (z.toList.take (k*aM)++cs).toArray
 |[],k,cs,z,h,y=>by obtain rfl:cs=[]:=h;simp only[Instr.fill,db];rw[lr (by simpa using Nat.le_of_eq y)]
 |(i,v)::l,k,cs,z,h,y=>by
  obtain⟨rfl,c,b,t,g,rfl,o⟩:=h;have k:i*aM+aM<=z.size:=by
   rw[y];simp only[df];have:(i+(l.length+1))*aM=i*aM+aM+l.length*aM:=by rw[fK,fK];omega
   omega
  simp only[Instr.fill,t,pW,g];rw[aG VG];have k:=Ci (i*aM) c 0 z ac;simp only[hj]at k;have e:((c.toArray.zipIdx.foldl (λcs (p:aj×Nat)=>cs.setIfInBounds (i*aM+p.2) p.1) z))=(ey (i*aM) c z.toList).toArray:=by rw[<-k];simp
  have d:(c.toArray.zipIdx.foldl (λcs x=>match x with|(c,j)=>cs.setIfInBounds (i*aM+j) c) z)=(ey (i*aM) c z.toList).toArray:=e;rw[d];rw[bP.fill _ o (by
   simp only[ey,pW,bQ,e8,jn,pg,g];rw[qw ac];have:(i+1+l.length)*aM=(i+(l.length+1))*aM:=by congr 1;omega
   rw[this,<-df (a:=(i,v)),<-y];omega)]
  congr 2;simp only[ey,ck];rw[<-ck,oA (by simp[g];rw[qw ac,fK];omega)];rw[lr (by simp[g];rw[qw ac,fK];omega)];simp
def aif{t E:a8}{k:Nat}{b:ab (Nat×aj)}{cs:ab aj}{z:aj}(j:r5 P t E=true)(o:(P.info? E).map (·.size)=some aM)(y:(P.info? E).bind (·.zero)=some z)(v:bP aM 0 b cs)(d:b.length=k)(g:k*aM<=1000)(w:a2):(Instr.buildSlice t k b.toArray).run P w=.ok (.slice (some ⟨w.heap.size,0,none⟩) k k) (w.alloc (.cells cs.toArray E)):=by
 have h:(zeroValue E).run P w=.ok z w:=by obtain⟨i,am,s⟩:=Ce.1 y;simp[zeroValue,typeInfo,am,s]
 have t:∀(y:Array aj),Instr.fill (λi=>some (i*aM,aM)) ((Array.range (k*aM)).map (y[·%y.size]!)) b=some cs.toArray:=λy=>by rw[v.fill _ TP];simp
 unfold Instr.buildSlice;simp only[cW,eD (gV j),ed,qv o];rw[aG ac];by_cases o:k*aM=0
 .simp only[eW,ed,cW,aJ o,t];rfl
 .simp only[eW,ed,cW,aG o,h,t];rfl
def aw.lit(ad:cj P){t E:a8}{Yc:Nat}{iD:ab (Nat×aj)}{jo cs:ab aj}(du:Nat.blt dst n.n=true)(k:r5 P t E=true)(y:(P.info? E).map (·.size)=some aM)(gL:jm ad.jE E=some jo)(d:az.nT an Yg=some iD)(s:bP aM 0 iD cs)(v:iD.length=Yc)(j:Nat.ble (Yc*aM) 1000=true)(Yh:Nat.ble 1 aM=true)(dG:∀b,C ((dst,.slice (some ⟨b,0,none⟩) Yc Yc)::an) (row (.slice (some ⟨b,0,none⟩) Yc Yc) E aM Yc cs::ao)):aw P r W D n ⟨some dst,.buildSlice t Yc Yg.toArray,ba,bd,be,aW⟩ an ao C:=λK Q cJ a w c0 cr=>by
 obtain⟨z,g,rfl⟩:=ad.zeroAt gL;have Yf:Yc*aM<=1000:=pQ j;have Ye:=s.length;have e:(Yg.toArray.map λ(p:Nat×bj)=>(p.1,a.eval p.2))=iD.toArray:=by rw[<-c0.nT d];simp
 have lu:(Yg.toArray.map λ(x:Nat×bj)=>match x with|(i,x)=>(i,a.eval x))=iD.toArray:=e;have Yi:H w [] [row (.slice (some ⟨w.heap.size,0,none⟩) Yc Yc) E aM Yc cs] (w.alloc (.cells cs.toArray E)):=by
  refine⟨λx d=>?_,OF,λb j=>?_,λb j _=>uE _ _ j,VK,rfl,rfl,rfl,cx _⟩
  .obtain rfl:x=_:=by simpa using d
   rw[i0];have o:Yc<=maxLen\/aM=0:=by
    rcases Nat.eq_zero_or_pos aM with h|h
    .exact .inr h
    .left;have:=Nat.le_mul_of_pos_right Yc h;simp only[maxLen];omega
   rcases o with o|o
   .have:=World.ownsRow_lit (base:=0) (e:=E) (size:=aM) w cs.toArray Yc (cG _) o (by simp[Ye,v]);simpa using this
   .exact absurd o (by have:=pQ Yh;omega)
  .obtain rfl:b=w.heap.size:=by simpa[br,iA,Value.ownBlock]using j
   exact .inr (cx _)
 refine kh rfl ?_ (cJ _ _ (dG w.heap.size) _ _ (c0.put du _) (cr.new Yi));simp only[execOp,cW,lu,aif k y g s v Yf w,ed,eW]
def aw.aau(ad:cj P){t E:a8}{s:Nat}{h:ab (Nat×bj)}{b:ab (Nat×aj)}{g cs:ab aj}(i:Nat.blt dst n.n=true)(j:bT ad.fw t=some E)(z:bT ad.ht E=some aM)(y:jm ad.jE E=some g)(g:az.nT an h=some b)(v:bP aM 0 b cs)(o:b.length=s)(d:Nat.ble (s*aM) 1000=true)(x:Nat.ble 1 aM=true)(k:∀b,C ((dst,.slice (some ⟨b,0,none⟩) s s)::an) (row (.slice (some ⟨b,0,none⟩) s s) E aM s cs::ao)):aw P r W D n ⟨some dst,.buildSlice t s h.toArray,ba,bd,be,aW⟩ an ao C:=aw.lit ad i (ad.V8 j) (ad.WW z) y g v o d x k
def ah.acf{c:Code}(J:bB->Prop)(E:bB->bJ)(S:bB->ab ay)(t:bB->Nat)(v:bB)(o:J v)(j:dy an (E v))(d:∀w,H W D ao w->H W D (S v) w)(h:∀x,J x->ah P r W D n (Exit.then (λa w=>∃y,J y/\t y<t x/\dx n (E y) a/\H W D (S y) w) Q) c (E x) (S x)):ah P r W D n Q (.loop c) an ao:=
 ah.loop (bB:={x:bB//J x}) (λx=>E x.1) (λx=>S x.1) (λx=>t x.1) ⟨v,o⟩ j d λ⟨x,g⟩ a w b i=>
  uI (h x g a w b i) λe o d aV=>by
   cases e with
   |normal=>
    obtain⟨y,o,g,d,t⟩:=aV;exact⟨⟨y,o⟩,g,d,t⟩
   |_=>exact aV
def wa{bB:Type}(f:bB->ab aj)(i:bB->Prop){s:ab oy}:∀{g:ab (ab aj)},(∀x,x∈g->gu s x)->(∀{x:ab aj},gu s x->∃y,x=f y/\i y)->∃o:ab bB,g=o.map f/\∀y,y∈o->i y
 |[],_,_=>⟨[],rfl,λ_ h=>VL⟩
 |x::g,h,k=>by
  obtain⟨y,rfl,d⟩:=k (h x VK);obtain⟨o,rfl,t⟩:=wa f i (g:=g) (λz v=>h z (by simp[v])) k;exact⟨y::o,rfl,λz v=>by
   rcases cQ.1 v with rfl|v
   .exact d
   .exact t z v⟩
def i1:ab (Nat×Nat)->ab Nat
 |[]=>[]
 |(o,b)::l=>if 0<o/\b∉i1 l then b::i1 l else i1 l
def uN:∀l,(i1 l).Nodup
 |[]=>by simp[i1]
 |(o,b)::l=>by
  unfold i1;split
  .rename_i h;exact ki.2 ⟨h.2,uN l⟩
  .exact uN l
def wb:∀{l:ab (Nat×Nat)} {o b:Nat},(o,b)∈l->0<o->b∈i1 l
 |(x,g)::l,o,b,h,z=>by
  unfold i1;rcases cQ.1 h with j|h
  .obtain⟨rfl,rfl⟩:=xO j;split
   .simp
   .rename_i y;by_cases g:b∈i1 l
    .exact g
    .exact absurd ⟨z,g⟩ y
  .have:=wb h z;split<;>simp[this]
def wc{N:Nat}:∀{l:ab (Nat×Nat)},(∀p,p∈l->0<p.1->p.2<N)->∀b,b∈i1 l->b<N
 |[],_,b,h=>by simp[i1]at h
 |(x,o)::l,h,b,g=>by
  have t:=wc (l:=l) (λp z=>h p (by simp[z]));unfold i1 at g;split at g
  .rename_i d;rcases cQ.1 g with rfl|g
   .exact h (x,b) VK d.1
   .exact t b g
  .exact t b g
end
inductive al:List ay->ay->List ay->Prop
 |here {e:ay} {ao:List ay}:al (e::ao) e ao
 |there {x e:ay} {ao a7:List ay}:al ao e a7->al (x::ao) e (x::a7)
inductive ak:List ay->List ay->List ay->Prop
 |nil {ao:List ay}:ak ao [] ao
 |cons {ao rb bg xP:List ay} {e:ay}:al ao e rb->ak rb bg xP->ak ao (e::bg) xP
def al.perm{e:ay}{a7:ab ay}(h:al ao e a7):ao.Perm (e::a7):=by
 induction h with
 |here=>exact hI _
 |there _ g=>exact(tp _ g).trans (hV _ _ _)
def ak.perm{v:ab ay}(h:ak ao bg v):ao.Perm (bg++v):=by
 induction h with
 |nil=>exact hI _
 |cons h _ g=>exact h.perm.trans (tp _ g)
inductive oB:List ay->List ay->List ay->Prop
 |nil {ao:List ay}:oB [] ao ao
 |cons {e:ay} {ao bg xP:List ay}:oB ao bg xP->oB (e::ao) bg (e::xP)
def oB.eq{v:ab ay}(h:oB ao bg v):ao++bg=v:=by
 induction h with
 |nil=>rfl
 |cons _ g=>simp[g]
inductive lv(an:bJ):List Nat->bJ->Prop
 |nil:lv an [] []
 |cons {k:Nat} {v:Value} {Gm:List Nat} {e:bJ}:eN an k=some v->lv an Gm e->lv an (k::Gm) ((k,v)::e)
def lv.sub{g:ab Nat}{e:bJ}(h:lv an g e):dy an e:=by
 induction h with
 |nil=>trivial
 |cons h _ g=>exact⟨h,g⟩
def dy.app{an:bJ}:∀{l m:bJ},dy an l->dy an m->dy an (l++m)
 |[],_,_,h=>h
 |(_,_)::_,_,h,g=>⟨h.1,dy.app h.2 g⟩
def dy.nil:dy an []:=trivial
def dy.cons{l:bJ}{k:Nat}{u v:aj}(h:eN an k=some u)(e:u=v)(g:dy an l):dy an ((k,v)::l):=⟨by rw[h,e],g⟩
section
variable{r:aT Nat}{Z:bJ}{a7:ab ay}
variable{X:Op}
def H.hv{w:a2}{v:ab ay}(g:ak ao bg v)(h:H W D ao w):H W D bg w:=(h.perm g.perm).sub (Cu _ _)
def H.Wy{w:a2}{v:ab ay}(g:ak ao bg v)(h:H W D ao w):H W D (bg++v) w:=h.perm g.perm
def ai.v{v:aj}(h:aN P n an ao ⟨some dst,X,ba,bd,be,aW⟩ v)(d:ai P r W D n J Q N ((dst,v)::an) ao)(g:hT an J aW=some true:=by exact rfl)(k:kW X=true:=by exact rfl)(b:Nat.blt dst n.n=true:=by exact rfl):ai P r W D n J Q (⟨some dst,X,ba,bd,be,aW⟩::N) an ao:=ai.val g k b h d
def ai.o{o:cc}(h:aw P r W D n o an ao (ai P r W D n J Q N))(g:hT an J o.guard=some true:=by exact rfl):ai P r W D n J Q (o::N) an ao:=ai.op g h
def ai.acg{d:Nat}(h:ai P r W D n J Q N ((d,undef)::an) ao)(g:hT an J aW=some false:=by exact rfl)(b:Nat.blt d n.n=true:=by exact rfl):ai P r W D n J Q (⟨some d,X,ba,bd,be,aW⟩::N) an ao:=ai.skip g b h
def ai.dS{o:cc}{d:Nat}(t:b=true->ai P r W D n J Q (o::N) ((d,.bool true)::an) ao)(k:b=false->ai P r W D n J Q (o::N) ((d,.bool false)::an) ao)(g:Cc J o.guard=some d:=by exact rfl)(z:eN an d=some (.bool b):=by exact rfl):ai P r W D n J Q (o::N) an ao:=ai.part g z t k
def ah.ach{c:bj}{x y:Code}(h:ah P r W D n Q x an ao)(g:aR an c=some (.bool true):=by exact rfl):ah P r W D n Q (.cond c x y) an ao:=ah.abD g h
def ah.aci{c:bj}{x y:Code}(h:ah P r W D n Q y an ao)(g:aR an c=some (.bool false):=by exact rfl):ah P r W D n Q (.cond c x y) an ao:=ah.abE g h
def ah.c{c:bj}{x y:Code}(g:b=true->ah P r W D n Q x an ao)(d:b=false->ah P r W D n Q y an ao)(o:aR an c=some (.bool b):=by exact rfl):ah P r W D n Q (.cond c x y) an ao:=ah.cond o g d
def Out.Xs{id y:Nat}(h:Out W D n Q (.exit y) an ao)(g:Nat.beq y id=false:=by exact rfl):Out W D n (Exit.inBlock id Q) (.exit y) an ao:=Out.abL g h
def aw.V0{f:fb}{d:ab bj}{t:Array a8}{s i:ab ay}(g:az.il an d=some args)(k:ar P f args s R)(y:ak ao s i)(o:∀v a7,R v a7->∃z,oB a7 i z/\C ((dst,v)::an) z)(b:Nat.blt dst n.n=true:=by exact rfl)(j:lp P f=true:=by kernel_rfl):aw P r W D n ⟨some dst,.call ⟨.value (.func f),d.toArray,t⟩,ba,bd,be,aW⟩ an ao C:=
 aw.call b j g y.perm k λv a7 t=>by obtain⟨z,g,h⟩:=o v a7 t;rw[g.eq];exact h
def aw.aav{f:fb}{x:bj}{d:ab bj}{Yk:Array a8}{Yg:ab aj}{Yj Ye:ab ay}(t:aR an x=some (.func (.func f) #[] Yg.toArray))(g:az.il an d=some args)(s:ar P f (args++Yg) Yj R)(Yi:ak ao Yj Ye)(o:∀v a7,R v a7->∃Yf,oB a7 Ye Yf/\C ((dst,v)::an) Yf)(b:Nat.blt dst n.n=true:=by exact rfl)(Yc:lp P f=true:=by kernel_rfl):aw P r W D n ⟨some dst,.call ⟨.value x,d.toArray,Yk⟩,ba,bd,be,aW⟩ an ao C:=λK Q k a w y i=>by
 have Yh:=i.perm Yi.perm;have Ym:d.toArray.map a.eval=args.toArray:=by rw[<-y.il g];simp
 refine zA (f:=f) (args:=(args++Yg).toArray) (b:=w) rfl ?_ ?_
 .simp only[execOp,resolve,cW,Ym,y.eval t];simp[Deferred.ofValue,invoke,xF Yc]
 .refine(s w ⟨λe j=>Yh.gq e Vx,?_⟩).mono ?_
  .have:=Yh.nodup;exact Mb
  .rintro e h⟨v,a7,rfl,z,Yl⟩;obtain⟨Yf,g,h⟩:=o v a7 z;refine⟨_,rfl,k _ _ h _ _ (y.put b v) ?_⟩;have:=Yh.call Yl;rwa[g.eq]at this
def aw.fn{f:fb}{d:ab bj}{t:Array a8}{x:aj}(g:az.il an d=some args)(k:dH P f args x)(o:C ((dst,x)::an) ao)(b:Nat.blt dst n.n=true:=by exact rfl)(j:lp P f=true:=by kernel_rfl):aw P r W D n ⟨some dst,.call ⟨.value (.func f),d.toArray,t⟩,ba,bd,be,aW⟩ an ao C:=aw.fun b j g k o
def aw.X5{f:fb}{x:bj}{d:ab bj}{z:Array a8}{v:aj}(t:aR an x=some (.func (.func f) #[] #[]))(g:az.il an d=some args)(k:dH P f args v)(o:C ((dst,v)::an) ao)(b:Nat.blt dst n.n=true:=by exact rfl)(j:lp P f=true:=by kernel_rfl):aw P r W D n ⟨some dst,.call ⟨.value x,d.toArray,z⟩,ba,bd,be,aW⟩ an ao C:=aw.ace b t j g k o
def ah.cq{c:Code}(z:ab Nat)(J:bB->Prop)(E:bB->bJ)(S:bB->ab ay)(i:bB->Nat)(v:bB){b:bJ}{d:ab ay}(o:J v)(h:∀x,J x->∀K:Act->a2->Prop,(∀y,J y->i y<i x->∀a w,dx n (E y++b) a->H W D (S y++d) w->K a w)->ah P r W D n (Exit.then K Q) c (E x++b) (S x++d))(g:lv an z b:=by(repeat(first|exact lv.nil|apply lv.cons rfl)))(j:dy an (E v):=by(repeat(first|exact dy.nil|refine dy.cons rfl rfl ?_)))(t:ak ao (S v) d:=by(repeat(first|exact ak.nil|exact al.here|apply ak.cons|apply al.there))):ah P r W D n Q (.loop c) an ao:=
 ah.acf J (λx=>E x++b) (λx=>S x++d) i v o (j.app g.sub) (λ_ s=>s.Wy t) λx d=>h x d _ λy g o _ _ z i=>⟨y,g,o,z,i⟩
def Out.C'{J G:bB->Prop}{E:bB->bJ}{S:bB->ab ay}{b:bJ}{d v:ab ay}(k:∀y,J y->G y->∀a w,dx n (E y++b) a->H W D (S y++d) w->K a w)(y:bB)(s:J y)(o:G y)(j:dy an (E y++b):=by(repeat(first|exact dy.nil|refine dy.cons rfl rfl ?_)))(g:ak ao (S y++d) v:=by(repeat(first|exact ak.nil|exact al.here|apply ak.cons|apply al.there))):Out W D n (Exit.then K Q) .normal an ao:=λ_ _ b i=>k y s o _ _ (b.sub j.get) (i.hv g)
def ah.mt{x y:Code}(j:ab Nat)(J:bB->Prop)(E:bB->bJ)(S:bB->ab ay){i:bJ}{v s:ab ay}(g:∀K:Act->a2->Prop,(∀z,J z->True->∀a w,dx n (E z++i) a->H W D (S z++v) w->K a w)->ah P r W D n (Exit.then K Q) x an ao)(o:∀z,J z->ah P r W D n Q y (E z++i) (S z++v))(d:lv an j i:=by(repeat(first|exact lv.nil|apply lv.cons rfl)))(t:ak ao s v:=by(repeat(first|exact ak.nil|exact al.here|apply ak.cons|apply al.there))):ah P r W D n Q (.seq x y) an ao:=
 ah.seq λa w y b=>uI (g (λa w=>∃z,J z/\dx n (E z++i) a/\H W D (S z++v) w) (λz g _ _ _ d j=>⟨z,g,d,j⟩) a w y b) λe h i aV=>by
  cases e with
  |normal=>
   obtain⟨z,g,k,v⟩:=aV;exact o z g h i k v
  |_=>exact aV
variable{fn:Func}
def Out.X6{v:aj}(j:e=.ret\/e=.normal)(z:∀a w,dx n an a->tb ao w->(results fn a.tmps).run P w=.ok v w)(h:∃a7 s,R v a7/\ak ao (gp n.ds++a7) s):Out W D n (qr P fn (Ends R W D)) e an ao:=λa w y b=>by
 obtain⟨a7,s,i,t⟩:=h;have o:LeavesInM Fence.wide 0 P fn a.tmps (Ends R W D) a.defers .returning w:=by rw[y.defers];exact FF n.ds a7 w (b.hv t) b.dT λk g d=>⟨v,z a k y d,v,a7,rfl,i,g⟩
 rcases j with rfl|rfl<;>exact o
def Out.fE(g:fn.results=#[])(h:∃a7 v,R (.tuple #[]) a7/\ak ao (gp n.ds++a7) v)(j:e=.ret\/e=.normal:=by first|exact .inl rfl|exact .inr rfl):Out W D n (qr P fn (Ends R W D)) e an ao:=
 Out.X6 j (λ_ _ _ _=>by simp[results,g]) h
def Out.c5{o:ResultVar}{v:aj}(d:fn.results=#[o])(g:e7 P an ao o v)(h:∃a7 y,R v a7/\ak ao (gp n.ds++a7) y)(j:e=.ret\/e=.normal:=by first|exact .inl rfl|exact .inr rfl):Out W D n (qr P fn (Ends R W D)) e an ao:=
 Out.X6 j (λ_ _ y b=>LH d y b g) h
def Out.bx{b s:ResultVar}{t z:aj}(o:fn.results=#[b,s])(g:e7 P an ao b t)(d:e7 P an ao s z)(h:∃a7 v,R (.tuple #[t,z]) a7/\ak ao (gp n.ds++a7) v)(j:e=.ret\/e=.normal:=by first|exact .inl rfl|exact .inr rfl):Out W D n (qr P fn (Ends R W D)) e an ao:=
 Out.X6 j (λ_ _ y b=>aga o y b g d) h
def Out.fL{b s k:ResultVar}{z y i:aj}(t:fn.results=#[b,s,k])(g:e7 P an ao b z)(d:e7 P an ao s y)(o:e7 P an ao k i)(h:∃a7 v,R (.tuple #[z,y,i]) a7/\ak ao (gp n.ds++a7) v)(j:e=.ret\/e=.normal:=by first|exact .inl rfl|exact .inr rfl):Out W D n (qr P fn (Ends R W D)) e an ao:=
 Out.X6 j (λ_ _ y b=>ajo t y b g d o) h
def Out.f0{v:ab ay}(d:fn.results=#[])(h:R (.tuple #[]) bg)(g:ak ao (gp n.ds++bg) v:=by(repeat(first|exact ak.nil|exact al.here|apply ak.cons|apply al.there)))(j:e=.ret\/e=.normal:=by first|exact .inl rfl|exact .inr rfl):Out W D n (qr P fn (Ends R W D)) e an ao:=Out.fE d ⟨bg,v,h,g⟩ j
def Out.f1{t:ResultVar}{v:aj}{y:ab ay}(o:fn.results=#[t])(g:e7 P an ao t v)(h:R v bg)(d:ak ao (gp n.ds++bg) y:=by(repeat(first|exact ak.nil|exact al.here|apply ak.cons|apply al.there)))(j:e=.ret\/e=.normal:=by first|exact .inl rfl|exact .inr rfl):Out W D n (qr P fn (Ends R W D)) e an ao:=Out.c5 o g ⟨bg,y,h,d⟩ j
def Out.f2{b:ResultVar}{z:aj}{s:ResultVar}{j:aj}{v:ab ay}(t:fn.results=#[b,s])(g:e7 P an ao b z)(d:e7 P an ao s j)(h:R (.tuple #[z,j]) bg)(o:ak ao (gp n.ds++bg) v:=by(repeat(first|exact ak.nil|exact al.here|apply ak.cons|apply al.there)))(j:e=.ret\/e=.normal:=by first|exact .inl rfl|exact .inr rfl):Out W D n (qr P fn (Ends R W D)) e an ao:=Out.bx t g d ⟨bg,v,h,o⟩ j
def Out.f3{b:ResultVar}{j:aj}{s:ResultVar}{y:aj}{k:ResultVar}{i:aj}{v:ab ay}(z:fn.results=#[b,s,k])(g:e7 P an ao b j)(d:e7 P an ao s y)(t:e7 P an ao k i)(h:R (.tuple #[j,y,i]) bg)(o:ak ao (gp n.ds++bg) v:=by(repeat(first|exact ak.nil|exact al.here|apply ak.cons|apply al.there)))(j:e=.ret\/e=.normal:=by first|exact .inl rfl|exact .inr rfl):Out W D n (qr P fn (Ends R W D)) e an ao:=Out.fL z g d t ⟨bg,v,h,o⟩ j
def e7.t{t:Tmp}{v:aj}(h:eN an t=some v:=by exact rfl):e7 P an ao (.tmp t) v:=h
def e7.Xj(ad:cj P){p:Tmp}{E:a8}{b o k:Nat}{c j:ab aj}(h:eN an p=some (av b o):=by exact rfl)(d:cells b E c∈ao:=by(repeat first|exact aH _|apply aI))(g:bT ad.agg T=some k:=by exact rfl)(t:Nat.ble (o+k) c.length=true:=by exact rfl)(z:fk o k c j:=by infer_instance):e7 P an ao (.cell p T) (A j):=⟨b,E,c,o,h,d,jD.agg (ad.WC g) t z.eq⟩
def e7.gj(ad:cj P){p:Tmp}{E:a8}{b o u:Nat}{c:ab aj}{v:aj}(h:eN an p=some (av b o):=by exact rfl)(d:cells b E c∈ao:=by(repeat first|exact aH _|apply aI))(g:bT ad.one T=some u:=by exact rfl)(t:c[o]?=some v:=by exact rfl):e7 P an ao (.cell p T) v:=⟨b,E,c,o,h,d,jD.one (ad.V2 g) t⟩
end
section
variable{r:aT Nat}{Z:bJ}{a7:ab ay}
def V.fV{x:bj}{v:aj}(g:aR an x=some v:=by exact rfl):aN P n an ao ⟨some dst,.move x,ba,bd,be,aW⟩ v:=aN.move g
def V.tm{x:bj}{v:aj}(g:aR an x=some v:=by exact rfl):aN P n an ao ⟨some dst,.assign x,ba,bd,be,aW⟩ v:=aN.assign g
def V.aaw{c x y:bj}{v:aj}(d:aR an c=some (.bool true):=by exact rfl)(g:aR an x=some v:=by exact rfl):aN P n an ao ⟨some dst,.pick c x y,ba,bd,be,aW⟩ v:=aN.abY d g
def V.aax{c x y:bj}{v:aj}(d:aR an c=some (.bool false):=by exact rfl)(g:aR an y=some v:=by exact rfl):aN P n an ao ⟨some dst,.pick c x y,ba,bd,be,aW⟩ v:=aN.abZ d g
def V.cmp{t h:a8}{x y:bj}{p:Int}(g:aR an x=some (.int k p):=by exact rfl)(d:aR an y=some (.int k q):=by exact rfl)(o:bb X p q=some b:=by exact rfl):aN P n an ao ⟨some dst,.binOp X t x y h,ba,bd,be,aW⟩ (.bool b):=aN.cmp g d o
def V.pe{t h:a8}{x y:bj}{p q:ab aS}(g:aR an x=some (S p):=by exact rfl)(d:aR an y=some (S q):=by exact rfl)(o:az.pe X p q=some b:=by exact rfl):aN P n an ao ⟨some dst,.binOp X t x y h,ba,bd,be,aW⟩ (.bool b):=aN.pe g d o
def V.X7(ad:cj P){t h:a8}{x y:bj}{p q:Bool}{u:Nat}(g:aR an x=some (.bool p):=by exact rfl)(d:aR an y=some (.bool q):=by exact rfl)(o:bT ad.xI t=some u:=by exact rfl):aN P n an ao ⟨some dst,.binOp .neq t x y h,ba,bd,be,aW⟩ (.bool (!(p==q))):=aN.ab7 ad g d o
def V.eq{t h:a8}{x y:bj}{u v:aj}(j:dk P 10000 t u v b)(g:aR an x=some u:=by exact rfl)(d:aR an y=some v:=by exact rfl)(z:vW u v=true:=by exact rfl)(o:vX P t u v=true:=by kernel_rfl):aN P n an ao ⟨some dst,.binOp .eql t x y h,ba,bd,be,aW⟩ (.bool b):=aN.eql g d z o j
def V.ne{t h:a8}{x y:bj}{u v:aj}(j:dk P 10000 t u v b)(g:aR an x=some u:=by exact rfl)(d:aR an y=some v:=by exact rfl)(z:vW u v=true:=by exact rfl)(o:vX P t u v=true:=by kernel_rfl):aN P n an ao ⟨some dst,.binOp .neq t x y h,ba,bd,be,aW⟩ (.bool (!b)):=aN.neq g d z o j
def V.add{t h:a8}{x y:bj}{p:Int}(g:aR an x=some (I p):=by exact rfl)(d:aR an y=some (I q):=by exact rfl)(o:-9223372036854775808<=p+q/\p+q<=9223372036854775807:=by first|omega|(dsimp only;omega)):aN P n an ao ⟨some dst,.binOp .add t x y h,ba,bd,be,aW⟩ (I (p+q)):=aN.add g d o
def V.sub{t h:a8}{x y:bj}{p:Int}(g:aR an x=some (I p):=by exact rfl)(d:aR an y=some (I q):=by exact rfl)(o:-9223372036854775808<=p-q/\p-q<=9223372036854775807:=by first|omega|(dsimp only;omega)):aN P n an ao ⟨some dst,.binOp .sub t x y h,ba,bd,be,aW⟩ (I (p-q)):=aN.sub g d o
def V.mul{t h:a8}{x y:bj}{p:Int}(g:aR an x=some (I p):=by exact rfl)(d:aR an y=some (I q):=by exact rfl)(o:-9223372036854775808<=p*q/\p*q<=9223372036854775807:=by first|omega|(dsimp only;omega)):aN P n an ao ⟨some dst,.binOp .mul t x y h,ba,bd,be,aW⟩ (I (p*q)):=aN.mul g d o
def zJ(X:BinOp)(k:IntKind)(p q:Int):aT Int:=match X with|.add=>some (k.wrap (p+q))|.sub=>some (k.wrap (p-q))|.mul=>some (k.wrap (p*q))|_=>none
def V.aay{t h:a8}{x y:bj}{p u:Int}(g:aR an x=some (.int k p):=by exact rfl)(d:aR an y=some (.int k q):=by exact rfl)(o:zJ X k p q=some u:=by exact rfl):aN P n an ao ⟨some dst,.binOp X t x y h,ba,bd,be,aW⟩ (.int k u):=aN.arith g d o
def V.quo{t h:a8}{x y:bj}{p:Int}(g:aR an x=some (I p):=by exact rfl)(d:aR an y=some (I q):=by exact rfl)(o:0<=p/\p<=9223372036854775807/\1<=q:=by first|omega|(dsimp only;omega)):aN P n an ao ⟨some dst,.binOp .quo t x y h,ba,bd,be,aW⟩ (I (p/q)):=aN.quo g d o
def V.rem{t h:a8}{x y:bj}{p:Int}(g:aR an x=some (.int k p):=by exact rfl)(d:aR an y=some (.int k q):=by exact rfl)(o:0<=p/\1<=q:=by first|omega|(dsimp only;omega)):aN P n an ao ⟨some dst,.binOp .rem t x y h,ba,bd,be,aW⟩ (.int k (p%q)):=aN.rem g d o
def V.aaz{t h:a8}{x y:bj}{p:Int}(g:aR an x=some (.int k p):=by exact rfl)(d:aR an y=some (.int k q):=by exact rfl)(o:q≠0:=by first|omega|(dsimp only;omega)):aN P n an ao ⟨some dst,.binOp .rem t x y h,ba,bd,be,aW⟩ (.int k (p.tmod q)):=
 λa w y _=>by simp[execOp,y.eval g,y.eval d,eqGuard,binOp,Op.intDiv,o]
def l2(X:BinOp)(k:IntKind)(x y:Int):aT Int:=
 match X with
 |.and=>some (k.wrap (BitVec.ofInt k.bits x&&&BitVec.ofInt k.bits y).toNat)
 |.or=>some (k.wrap (BitVec.ofInt k.bits x|||BitVec.ofInt k.bits y).toNat)
 |.xor=>some (k.wrap (BitVec.ofInt k.bits x^^^BitVec.ofInt k.bits y).toNat)
 |.andNot=>some (k.wrap (BitVec.ofInt k.bits x&&&~~~(BitVec.ofInt k.bits y)).toNat)
 |_=>none
def V.bit{t h:a8}{x y:bj}{p u v:Int}(z:u=v)(g:aR an x=some (.int k p):=by exact rfl)(d:aR an y=some (.int k q):=by exact rfl)(o:l2 X k p q=some u:=by exact rfl):aN P n an ao ⟨some dst,.binOp X t x y h,ba,bd,be,aW⟩ (.int k v):=
 λa w b _=>by subst z;simp only[execOp,b.eval g,b.eval d];cases X<;>simp only[l2,fj,reduceCtorEq]at o<;>subst o<;>simp[eqGuard,binOp,Op.intBits]
def V.shl{t h:a8}{x y:bj}{j:IntKind}{p u:Int}(g:aR an x=some (.int k p):=by exact rfl)(d:aR an y=some (.int j q):=by exact rfl)(o:0<=q:=by omega)(z:k.wrap (p*2^(Min.min q.toNat k.bits))=u:=by exact rfl):aN P n an ao ⟨some dst,.binOp .shl t x y h,ba,bd,be,aW⟩ (.int k u):=
 λa w b _=>Qw
def V.shr{t h:a8}{x y:bj}{j:IntKind}{p u:Int}(g:aR an x=some (.int k p):=by exact rfl)(d:aR an y=some (.int j q):=by exact rfl)(o:0<=q:=by omega)(z:p.fdiv (2^(Min.min q.toNat k.bits))=u:=by exact rfl):aN P n an ao ⟨some dst,.binOp .shr t x y h,ba,bd,be,aW⟩ (.int k u):=
 λa w b _=>Qw
def V.acj{t:a8}{x:bj}{p u v:Int}(z:u=v)(g:aR an x=some (.int k p):=by exact rfl)(d:l2 .xor k (if k.signed then-1 else k.max) p=some u:=by exact rfl):aN P n an ao ⟨some dst,.unOp .xor t x,ba,bd,be,aW⟩ (.int k v):=
 λa w y _=>by subst z;simp only[l2,fj]at d;subst d;simp[execOp,y.eval g,Op.unary,Op.intBits]
def V.not{t:a8}{x:bj}{p:Bool}(g:aR an x=some (.bool p):=by exact rfl):aN P n an ao ⟨some dst,.unOp .not t x,ba,bd,be,aW⟩ (.bool (!p)):=aN.not g
def V.XB(ad:cj P){t u:a8}{x:bj}{z j:IntKind}{p:Int}(g:aR an x=some (.int k p):=by exact rfl)(o:nk ad.ints u=some z:=by exact rfl)(d:nk ad.ints t=some j:=by exact rfl):aN P n an ao ⟨some dst,.convert t u x,ba,bd,be,aW⟩ (.int z (z.wrap p)):=aN.aaq ad g o d
def Cv{p:Int}(h:nl k p):k.wrap p=p:=by unfold nl Lit.wf at h;simp only[c1,cO]at h;obtain⟨g,d⟩:=h;cases k<;>simp_all[IntKind.wrap,IntKind.min,IntKind.max,IntKind.signed,IntKind.bits]<;>omega
def V.ex{x:bj}{pR:Nat}{d:ab aj}{v:aj}(g:aR an x=some (.tuple d.toArray):=by exact rfl)(t:d[pR]?=some v:=by exact rfl):aN P n an ao ⟨some dst,.extract x pR,ba,bd,be,aW⟩ v:=aN.extract g t
def V.XC{x:bj}{b o:Nat}(g:aR an x=some (av b o):=by exact rfl):aN P n an ao ⟨some dst,.nilCheck x,ba,bd,be,aW⟩ (av b o):=aN.nilCheck g
def V.kZ{fn:Fn}{i cs:ab bj}{g o:ab aj}(k:az.il an i=some g:=by exact rfl)(d:az.il an cs=some o:=by exact rfl):aN P n an ao ⟨some dst,.makeFunc fn i.toArray cs.toArray,ba,bd,be,aW⟩ (.func fn g.toArray o.toArray):=
 λa w y _=>by
  have b:i.toArray.map a.eval=g.toArray:=by rw[<-y.il k];simp
  have h:cs.toArray.map a.eval=o.toArray:=by rw[<-y.il d];simp
  simp only[execOp,Instr.makeFunc,b,h,cW,eW,ed]
def V.kj(ad:cj P){s:a8}{x:bj}{f b o d:Nat}(g:aR an x=some (av b o):=by exact rfl)(k:pa ad.r6 s f=some off:=by exact rfl)(y:o+off=d:=by(first|exact h4 _|exact hj _|(simp only[Nat.reduceAdd];done)|exact rfl)):aN P n an ao ⟨some dst,.fieldAddr s x f,ba,bd,be,aW⟩ (av b d):=aN.abT ad g k y
def V.F'(ad:cj P){E:a8}{x:bj}{b o u:Nat}{c:ab aj}{v:aj}(g:bT ad.one T=some u:=by exact rfl)(d:aR an x=some (av b o):=by exact rfl)(t:cells b E c∈ao:=by(repeat first|exact aH _|apply aI))(z:c[o]?=some v:=by exact rfl):aN P n an ao ⟨some dst,.load T x,ba,bd,be,aW⟩ v:=aN.abP ad g d t z
def V.WG(ad:cj P){E:a8}{x:bj}{b o k:Nat}{c v:ab aj}(g:bT ad.agg T=some k:=by exact rfl)(d:aR an x=some (av b o):=by exact rfl)(t:cells b E c∈ao:=by(repeat first|exact aH _|apply aI))(z:Nat.ble (o+k) c.length=true:=by exact rfl)(j:fk o k c v:=by infer_instance):aN P n an ao ⟨some dst,.load T x,ba,bd,be,aW⟩ (A v):=aN.abQ ad g d t z j
def V.WH(ad:cj P){z:ab (Nat×bj)}{t:ab (Nat×aj)}{c o:ab aj}(j:zF P T=true:=by kernel_rfl)(v:jm ad.jE T=some c:=by exact rfl)(g:az.nT an z=some t:=by exact rfl)(d:mP P T t c o:=by(repeat first|exact mP.nil|(apply mP.abW ad;exact rfl;exact rfl;exact rfl;exact rfl;exact rfl;infer_instance)|(apply mP.abX ad;exact rfl;exact rfl;exact rfl;exact rfl;infer_instance))):aN P n an ao ⟨some dst,.build T z.toArray,ba,bd,be,aW⟩ (A o):=aN.build ad j v g d
def V.ZI(ad:cj P){t u:a8}{x:bj}{p:ab aS}(g:aR an x=some (S p):=by exact rfl)(o:bT ad.strs t=some u:=by exact rfl):aN P n an ao ⟨some dst,.call ⟨.builtin .len,#[x],#[t]⟩,ba,bd,be,aW⟩ (I (p.length:Int)):=aN.ZI ad g o
def V.X4(ad:cj P){t e:a8}{x:bj}{a:aT Addr}{z d:Nat}(g:aR an x=some (.slice a z d):=by exact rfl)(o:bT ad.fw t=some e:=by exact rfl):aN P n an ao ⟨some dst,.call ⟨.builtin .len,#[x],#[t]⟩,ba,bd,be,aW⟩ (I (z:Int)):=aN.ab0 ad g o
def V.max{o:Array a8}{x y:bj}{p:Int}(g:aR an x=some (I p):=by exact rfl)(d:aR an y=some (I q):=by exact rfl):aN P n an ao ⟨some dst,.call ⟨.builtin .max,#[x,y],o⟩,ba,bd,be,aW⟩ (I (Max.max p q)):=aN.max g d
def V.min{o:Array a8}{x y:bj}{p:Int}(g:aR an x=some (I p):=by exact rfl)(d:aR an y=some (I q):=by exact rfl):aN P n an ao ⟨some dst,.call ⟨.builtin .min,#[x,y],o⟩,ba,bd,be,aW⟩ (I (Min.min p q)):=aN.min g d
def V.ZK(ad:cj P){t u:a8}{x y:bj}{p:ab aS}{i:Int}{b:aS}(g:aR an x=some (S p))(d:aR an y=some (.int k i))(z:0<=i)(o:p[i.toNat]?=some b)(j:bT ad.strs t=some u:=by exact rfl):aN P n an ao ⟨some dst,.index t x y,ba,bd,be,aW⟩ (.int .u8 (b.toNat:Int)):=aN.aas ad g d j z o
def V.ack(ad:cj P){t u:a8}{x y:bj}{p:ab aS}{i:Nat}{b:aS}(g:aR an x=some (S p))(d:aR an y=some (.int k (i:Int)))(o:p[i]?=some b)(z:bT ad.strs t=some u:=by exact rfl):aN P n an ao ⟨some dst,.index t x y,ba,bd,be,aW⟩ (.int .u8 (b.toNat:Int)):=aN.aas ad g d z ac (by simpa using o)
def V.aaA(ad:cj P){t u:a8}{x b:bj}{p:ab aS}{i:Int}(d:aR an x=some (S p):=by exact rfl)(o:aR an b=some (.int k i):=by exact rfl)(j:bT ad.strs t=some u:=by exact rfl)(z:0<=i:=by first|omega|(dsimp only;omega))(g:i<=p.length:=by first|omega|(dsimp only;omega)):aN P n an ao ⟨some dst,.slice t x (some b) none none,ba,bd,be,aW⟩ (S (p.drop i.toNat)):=aN.ab2 ad d o j z g
def V.X8(ad:cj P){t u:a8}{x am:bj}{p:ab aS}{i:Int}(d:aR an x=some (S p):=by exact rfl)(o:aR an am=some (.int k i):=by exact rfl)(j:bT ad.strs t=some u:=by exact rfl)(z:0<=i:=by first|omega|(dsimp only;omega))(g:i<=p.length:=by first|omega|(dsimp only;omega)):aN P n an ao ⟨some dst,.slice t x none (some am) none,ba,bd,be,aW⟩ (S (p.take i.toNat)):=aN.ab3 ad d o j z g
def V.W9(ad:cj P){t E:a8}{x y:bj}{e:ay}{i:aT Addr}{v j b:Nat}{k:Nat}(g:aR an x=some (.slice i v j))(o:aR an y=some (I (k:Int)))(s:Rd e i v b off aM d)(j:bT ad.fw t=some E:=by exact rfl)(d:bT ad.ht E=some aM:=by exact rfl)(z:k<v:=by omega):aN P n an ao ⟨some dst,.indexAddr t x y,ba,bd,be,aW⟩ (av b (off+k*aM)):=aN.ab9 ad g o s j d z
def V.Wb(ad:cj P){x:bj}{e:ay}{i:aT Addr}{z b k:Nat}{o:ab (ab aj)}{c:ab aj}(d:aR an x=some (av b (off+k*aM)))(j:Rd e i z b off aM o)(t:o[k]?=some c)(g:bT ad.agg T=some aM:=by exact rfl)(o:e∈ao:=by(repeat first|exact aH _|apply aI)):aN P n an ao ⟨some dst,.load T x,ba,bd,be,aW⟩ (A c):=aN.aca ad g d j o t
def V.Xk(ad:cj P){u:a8}{x:bj}{e:ay}{i:aT Addr}{z b k:Nat}{o:ab (ab aj)}{v:aj}(d:aR an x=some (av b (off+k*1)))(j:Rd e i z b off 1 o)(t:o[k]?=some [v])(g:bT ad.one T=some u:=by exact rfl)(o:e∈ao:=by(repeat first|exact aH _|apply aI)):aN P n an ao ⟨some dst,.load T x,ba,bd,be,aW⟩ v:=aN.acb ad g d j o t
def dk.aaB{d:Nat}{e:a8}{b o:Nat}(h:P.underlying T=some (.pointer e)):dk P (d+1) T (av b o) (.pointer none) false:=λw=>by simp[Op.equalIn,cW,eD h]
def dk.aaC{d:Nat}{e:a8}(h:P.underlying T=some (.pointer e)):dk P (d+1) T (.pointer none) (.pointer none) true:=λw=>by simp[Op.equalIn,cW,eD h]
def wd(P:b1)(t:a8):Bool:=match P.underlying t with|some (.pointer _)=>true|_=>false
def zK{t:a8}(h:wd P t=true):∃e,P.underlying t=some (.pointer e):=by
 unfold wd at h;split at h
 .exact⟨_,VV⟩
 .cases h
def V.aaD{t h:a8}{x y:bj}{b o:Nat}(g:aR an x=some (av b o):=by exact rfl)(o:aR an y=some (.pointer none):=by exact rfl)(z:wd P t=true:=by kernel_rfl):aN P n an ao ⟨some dst,.binOp .eql t x y h,ba,bd,be,aW⟩ (.bool false):=by obtain⟨e,j⟩:=zK z;exact aN.eql g o rfl rfl (dk.aaB (d:=9999) j)
def V.aaE{t h:a8}{x y:bj}{b o:Nat}(g:aR an x=some (av b o):=by exact rfl)(o:aR an y=some (.pointer none):=by exact rfl)(z:wd P t=true:=by kernel_rfl):aN P n an ao ⟨some dst,.binOp .neq t x y h,ba,bd,be,aW⟩ (.bool true):=by obtain⟨e,j⟩:=zK z;exact aN.neq g o rfl rfl (dk.aaB (d:=9999) j)
def V.aaF{t h:a8}{x y:bj}(g:aR an x=some (.pointer none):=by exact rfl)(o:aR an y=some (.pointer none):=by exact rfl)(z:wd P t=true:=by kernel_rfl):aN P n an ao ⟨some dst,.binOp .eql t x y h,ba,bd,be,aW⟩ (.bool true):=by obtain⟨e,j⟩:=zK z;exact aN.eql g o rfl rfl (dk.aaC (d:=9999) j)
def V.aaG{t h:a8}{x y:bj}(g:aR an x=some (.pointer none):=by exact rfl)(o:aR an y=some (.pointer none):=by exact rfl)(z:wd P t=true:=by kernel_rfl):aN P n an ao ⟨some dst,.binOp .neq t x y h,ba,bd,be,aW⟩ (.bool false):=by obtain⟨e,j⟩:=zK z;exact aN.neq g o rfl rfl (dk.aaC (d:=9999) j)
def afc{v:aj}(h:v.oneCell'=true):v.cells.toList=[v]:=by cases v<;>first|rfl|(cases h;done)
def O.O'(ad:cj P){E:a8}{x y:bj}{b o u:Nat}{c k:ab aj}{v:aj}(h:C an a7)(g:bT ad.one T=some u:=by exact rfl)(d:aR an x=some (av b o):=by exact rfl)(t:aR an y=some v:=by exact rfl)(s:v.oneCell'=true:=by first|exact rfl|with_reducible assumption)(z:aB ao (cells b E c) (cells b E k) a7:=by(repeat first|exact aB.here _ _ _|apply aB.there))(j:Nat.blt o c.length=true:=by exact rfl)(i:bH o [v] c k:=by infer_instance):aw P r W D n ⟨none,.store T x y,ba,bd,be,aW⟩ an ao C:=aw.abR ad g d t s z j i h
def O.XD(ad:cj P){E:a8}{x y:bj}{b o k:Nat}{c s u:ab aj}(dG:C an a7)(g:bT ad.agg T=some k:=by exact rfl)(d:aR an x=some (av b o):=by exact rfl)(t:aR an y=some (A u):=by exact rfl)(j:u.length=k:=by exact rfl)(h:u.all (·.oneCell')=true:=by exact rfl)(z:aB ao (cells b E c) (cells b E s) a7:=by(repeat first|exact aB.here _ _ _|apply aB.there))(v:Nat.ble (o+k) c.length=true:=by exact rfl)(i:bH o u c s:=by infer_instance):aw P r W D n ⟨none,.store T x y,ba,bd,be,aW⟩ an ao C:=aw.abS ad g d t j h z v i dG
def O.X9{x:bj}{c:ab aj}(d:∀b,C ((dst,av b 0)::an) (cells b T c::ao))(i:Nat.blt dst n.n=true:=by exact rfl)(g:aR an x=some (A c):=by exact rfl):aw P r W D n ⟨some dst,.box T x,ba,bd,be,aW⟩ an ao C:=aw.aap i g d
def O.Wz{x:bj}{v:aj}(d:∀b,C ((dst,av b 0)::an) (cells b T [v]::ao))(i:Nat.blt dst n.n=true:=by exact rfl)(g:aR an x=some v:=by exact rfl)(t:v.cells.toList=[v]:=by first|exact rfl|exact afc (by assumption)):aw P r W D n ⟨some dst,.box T x,ba,bd,be,aW⟩ an ao C:=aw.abU i g t d
def O.Q'(ad:cj P){c:ab aj}(g:∀b,C ((dst,av b 0)::an) (cells b T c::ao))(i:Nat.blt dst n.n=true:=by exact rfl)(v:jm ad.jE T=some c:=by exact rfl):aw P r W D n ⟨some dst,.alloc T,ba,bd,be,aW⟩ an ao C:=aw.abV ad i v g
def O.lit(ad:cj P){t E:a8}{k:Nat}{s:ab (Nat×bj)}{d:ab (Nat×aj)}{g cs:ab aj}(i:∀b,C ((dst,.slice (some ⟨b,0,none⟩) k k)::an) (row (.slice (some ⟨b,0,none⟩) k k) E aM k cs::ao))(b:Nat.blt dst n.n=true:=by exact rfl)(j:bT ad.fw t=some E:=by exact rfl)(z:bT ad.ht E=some aM:=by exact rfl)(y:jm ad.jE E=some g:=by exact rfl)(g:az.nT an s=some d:=by exact rfl)(v:bP aM 0 d cs:=by(repeat first|exact bP.nil|(exact bP.last rfl)|(apply bP.agg;exact rfl)|(apply bP.one;exact rfl)))(o:d.length=k:=by exact rfl)(d:Nat.ble (k*aM) 1000=true:=by exact rfl)(h:Nat.ble 1 aM=true:=by exact rfl):aw P r W D n ⟨some dst,.buildSlice t k s.toArray,ba,bd,be,aW⟩ an ao C:=aw.aau ad b j z y g v o d h i
def aw.z'{X:Op}{v:aj}(h:aN P n an ao ⟨some dst,X,ba,bd,be,aW⟩ v)(g:C ((dst,v)::an) ao)(k:kW X=true:=by exact rfl)(b:Nat.blt dst n.n=true:=by exact rfl):aw P r W D n ⟨some dst,X,ba,bd,be,aW⟩ an ao C:=aw.aak k b h g
variable{K F:ab ay}{u:ab Nat}{T:Bool}{X:Op}
def af.t{v:aj}(i:Nat)(am:J[i]?=some ⟨some dst,X,ba,bd,be,aW⟩)(g:aN P n an K ⟨some dst,X,ba,bd,be,aW⟩ v)(h:af P r W D n J M K F u true U (Y.setIfInBounds i true) ((dst,v)::an) ao)(d:uM J u Y i=true:=by kernel_rfl)(o:hT an J aW=some true:=by exact rfl)(k:kW X=true:=by exact rfl)(b:Nat.blt dst n.n=true:=by exact rfl):af P r W D n J M K F u true (U+1) Y an ao:=af.take i am d o k b g h
def af.n'{v:aj}(i:Nat)(am:J[i]?=some ⟨some dst,X,ba,bd,be,aW⟩)(g:aN P n an F ⟨some dst,X,ba,bd,be,aW⟩ v)(h:af P r W D n J M K F u T U (Y.setIfInBounds i true) ((dst,v)::an) ao)(d:zH J Y i=true:=by kernel_rfl)(o:hT an J aW=some true:=by exact rfl)(k:kW X=true:=by exact rfl)(b:Nat.blt dst n.n=true:=by exact rfl):af P r W D n J M K F u T (U+1) Y an ao:=af.ab5 i am d o k b g h
def af.s(i:Nat)(am:J[i]?=some ⟨some dst,X,ba,bd,be,aW⟩)(h:af P r W D n J M K F u true U (Y.setIfInBounds i true) ((dst,undef)::an) ao)(g:uM J u Y i=true:=by kernel_rfl)(d:hT an J aW=some false:=by exact rfl)(b:Nat.blt dst n.n=true:=by exact rfl):af P r W D n J M K F u true (U+1) Y an ao:=af.skip i am g d b h
def af.y'{o:cc}(i:Nat)(am:J[i]?=some o)(h:aw P r W D n o an ao (λZ a7=>(∀w,H W D a7 w->fU K w)/\(∀w,H W D a7 w->fU F w)/\af P r W D n J M K F u true U (Y.setIfInBounds i true) Z a7))(g:tj .any J Y i=true:=by kernel_rfl)(d:hT an J o.guard=some true:=by exact rfl):af P r W D n J M K F u T (U+1) Y an ao:=af.only i am g d h
def af.l{o:cc}(i:Nat)(am:J[i]?=some o)(h:aw P r W D n o an ao (λZ a7=>(∀w,H W D a7 w->fU F w)/\af P r W D n J M K F u false U (Y.setIfInBounds i true) Z a7))(g:(tj .any J Y i&&u.contains i)=true:=by kernel_rfl)(d:hT an J o.guard=some true:=by exact rfl):af P r W D n J M K F u T (U+1) Y an ao:=af.last i am g d h
def af.acl(h:Out W D n Q e an ao)(g:(Region.ready .any J Y).isEmpty=true:=by kernel_rfl):af P r W D n J (Q e) K F u T U Y an ao:=af.out g h
def af.dS(d:Nat)(o:b=true->af P r W D n J M K F u T U Y ((d,.bool true)::an) ao)(k:b=false->af P r W D n J M K F u T U Y ((d,.bool false)::an) ao)(t:eN an d=some (.bool b):=by exact rfl):af P r W D n J M K F u T U Y an ao:=af.part t o k
inductive tq(ao:List ay):List ay->Prop
 |nil:tq ao []
 |cons {e:ay} {bg:List ay} (h:e∈ao) (k:tq ao bg):tq ao (e::bg)
def tq.mem(h:tq ao bg):∀e,e∈bg->e∈ao:=by
 induction h with
 |nil=>intro e j;cases j
 |cons h _ g=>intro e j;rcases cQ.1 j with rfl|j<;>first|exact h|exact g _ j
def Cw(g:tq ao K:=by(repeat(first|exact tq.nil|refine tq.cons VF ?_))):∀w,H W D ao w->fU K w:=λ_ s e j=>s.gq e (g.mem e j)
end
section
variable{r:aT Nat}{Z:bJ}{a7:ab ay}
def ah.V9{id:Nat}{l:ab cc}{K F:ab ay}(u:ab Nat)(h:af P r W D n l.toArray (Q .normal) K F u true l.length (Array.replicate l.length false) an ao)(d:K.Sublist ao)(o:F.Sublist ao)(g:P.follows .mixedOrders=true:=by kernel_rfl):ah P r W D n Q (.region id l.toArray true) an ao:=
 ah.draw K F u g (λ_ s=>(s.sub d).hold) (λ_ s=>(s.sub o).hold) h
def Gn{C:ab ay->Prop}{v:ab ay}(h:C v)(g:oB ao bg v:=by(repeat(first|exact oB.nil|apply oB.cons))):∃d,oB ao bg d/\C d:=⟨_,g,h⟩
end
section
variable{w:a2}
def Cx(t cD ba e:a8)(i:TypeInfo)(z:aj)(Yj bytes:Nat)(cB:P.underlying t=some (.slice e))(am:P.info? e=some i)(gL:i.zero=some z)(Yw:i.size=Yj)(Yu:i.bytes=bytes)(Yq:z.cells.size=Yj)(Yg:0<Yj)(v:aj)(n:Nat)(o:ab aj)(Yh:w.ownsRow 0 e Yj v n o)(x:aj)(m:Nat)(Yf:ab aj)(s:Src P Yj cD x m Yf w)(Yo:n+m<=maxLen)(Yv:(n+m)*bytes<=140737488355328):∃ez jk,(Builtin.append_ #[t,cD] ba #[v,x]).run P w=.ok ez jk/\jk.ownsRow 0 e Yj ez (n+m) (o++Yf)/\w.grownBy jk v.ownBlock/\(ez=.slice none 0 0↔v=.slice none 0 0/\m=0)/\(ez.ownBlock=v.ownBlock\/ez.ownBlock=some w.heap.size)/\w.drawn<=jk.drawn:=by
 subst Yw;subst Yu;have b:=s.newsLen;have Yz:n+m<=9223372036854775807:=by simp only[maxLen]at Yo;omega
 have Ye:(o++Yf).length=(n+m)*i.size:=by rw[bQ,Yh.1,b,fK]
 have Yy:∀(Yt:Nat),Yt<n+m->∀(row:aT Nat),
   (w.drew.alloc (.cells ((o++Yf).toArray++Builtin.zeroCells z.cells (grownCap w (n+m) Yt e-(n+m))) e)).ownsRow 0 e i.size
    (.slice (some ⟨w.heap.size,0,none⟩) (n+m) (grownCap w (n+m) Yt e)) (n+m) (o++Yf)/\
   w.grownBy (w.drew.alloc (.cells ((o++Yf).toArray++Builtin.zeroCells z.cells (grownCap w (n+m) Yt e-(n+m))) e)) row:=by
  intro Yt ej row
  have Yn:=zL w (n+m) Yt e
  have Yi:grownCap w (n+m) Yt e<=maxLen:=zM w (n+m) Yt e Yo
  refine⟨⟨Ye,.inr ⟨w.heap.size,_,_,rfl,cG _,zw w.drew _,Yn,Yi,?_,?_⟩⟩,⟨rfl,rfl,rfl,VK,λk y _=>uE w.drew _ y⟩⟩
  .simp only[zN,pW,Cy,Yq,Ye,<-fK]
   congr 1
   omega
  .simp only[Cz]
   rw[<-Ye]
   exact pX
 rcases Yh.2 with⟨rfl,rfl⟩|⟨g,h,Yc,rfl,Yr,bG,Ym,Yi,Yk,Yl⟩
 .have d:o=[]:=ml (by simpa using Yh.1);subst d;by_cases j:m=0
  .subst j;have cN:Yf=[]:=ml Uk;subst cN;refine⟨.slice none 0 0,w,?_,Gp w 0 e i.size,⟨rfl,rfl,rfl,cx _,λ_ _ _=>rfl⟩,VK,.inl rfl,cx _⟩;have d:=s.cells;rcases s.kind with⟨v,y⟩|y<;>simp[Builtin.append_,eD cB,eD y,sizeOf,typeInfo,am,s.len,d]
  .have d:=CA (P:=P) w t cD ba e i z cB am gL none 0 0 [] (run_firstCells_none w.drew i.size 0 0 0) x m Yf s ac ac (zO ac (by simpa using Yv));have Yp:=Yy 0 ac (Value.ownBlock (.slice none 0 0));simp only[h4,g4]at Yp d⊢;exact⟨_,_,d,Yp.1,Yp.2,Vx,.inr rfl,xQ _⟩
 .by_cases Ys:n+m<=h
  .have Yx:n*i.size+Yf.length<=Yc.size:=by rw[b,Yk,<-fK];exact kY _ Ys
   have j:=uH P g (n*i.size) e Yf 0 Yc w bG (by simpa using Yx) s.one;simp only[hj]at j;have d:(Builtin.append_ #[t,cD] ba #[.slice (some ⟨g,0,none⟩) n h,x]).run P w=
     .ok (.slice (some ⟨g,0,none⟩) (n+m) h) (w.setRow g (Yc.toList.take (n*i.size)++Yf++Yc.toList.drop (n*i.size+Yf.length)).toArray):=by
    rcases s.kind with⟨v,y⟩|y<;>simp[Builtin.append_,eD cB,eD y,sizeOf,typeInfo,am,s.len,Ys,s.cells,we,j]
   refine⟨_,_,d,⟨Ye,.inr ⟨g,h,_,rfl,Yr,r3 w g Yc _ e _ bG,Ys,Yi,?_,?_⟩⟩,⟨rfl,rfl,rfl,VK,λk _ y=>xB w g k _ (λe=>y (by simp[Value.ownBlock,e]))⟩,VK,.inl rfl,cx _⟩
   .simp only[pW,bQ,e8,jn,pg];omega
   .rw[Yl,<-Ye];exact pX
  .have b:∀j u,o[j]?=some u->w.cell? ((⟨g,0,none⟩:Addr).add j)=some u:=Yh.cells (g:=g) rfl;have d:=CA (P:=P) w t cD ba e i z cB am gL (some ⟨g,0,none⟩) n h o (wg w.drew i.size n _ n h o Yh.1 Uk) x m Yf s ac ac (zO ac Yv);have Yp:=Yy h ac (Value.ownBlock (.slice (some ⟨g,0,none⟩) n h));exact⟨_,_,d,Yp.1,Yp.2,VK,.inr rfl,xQ _⟩
end
section
variable{r:aT Nat}{Z:bJ}{a7:ab ay}
variable{X:Op}
def ph(P:b1)(ao:ab ay)(aM:Nat)(cD:a8)(x:aj)(m:Nat)(g:ab aj):Prop:=∀w,fU ao w->Src P aM cD x m g w
def ph.row(ad:cj P){E cD v m:Nat}{x:aj}{y:ab aj}(t:row x E aM m y∈ao)(z:bT ad.fw cD=some v)(d:y.all (·.oneCell')=true):ph P ao aM cD x m y:=λw s=>by
 have h:=s _ t;rw[i0]at h;have b:∀u∈y,u.oneCell'=true:=hk.1 d;rcases h.2 with⟨rfl,rfl⟩|⟨g,cap,j,rfl,_⟩
 .have o:y=[]:=ml (by simpa using h.1);subst o;exact Src.ofNil w (gV (ad.V8 z)) 0
 .exact wh w (gV (ad.V8 z)) _ _ _ _ h.1 (h.cells (g:=g) rfl) b
def ph.str(ad:cj P){cD u:Nat}{l:ab aS}(o:bT ad.strs cD=some u):ph P ao 1 cD (S l) l.length (l.map λb=>.int .u8 (b.toNat:Int)):=λw _=>by have:=Src.ofString (P:=P) w (ad.W8 o) ⟨l.toArray⟩;simpa[byteCells,xJ]using this
def aiX{g:ab (ab aj)}(t:∀x,x∈g->x.length=aM){j:Nat}{u:aj}(h:g.flatten[j]?=some u):∃i x k,g[i]?=some x/\x[k]?=some u/\j=i*aM+k:=by
 induction g generalizing j with
 |nil=>simp at h
 |cons y g z=>
  rw[Ct]at h;rcases o9 j y.length with s|g
  .rw[pU s]at h;exact⟨0,y,j,rfl,h,VK⟩
  .rw[iC g]at h;obtain⟨i,x,k,g,o,d⟩:=z (λx d=>t x TP) h;have d:=t y VK;exact⟨i+1,x,k,Ra,o,by rw[fK];omega⟩
def ph.rd(ad:cj P){e:ay}{cD lu Yc b:Nat}{cK:aT Addr}{t:ab (ab aj)}(ep:Rd e cK Yc b off aM t)(z:e∈ao)(cB:bT ad.fw cD=some lu)(g:t.flatten.all (·.oneCell')=true)(Ye:∀x,x∈t->x.length=aM)(Yf:0<Yc):ph P ao aM cD (.slice cK Yc cap) Yc t.flatten:=λw cE=>by
 have eJ:=ep.addr Yf;have h:=ep.reads w (cE _ z);have v:t.flatten.length=Yc*aM:=by
  rw[<-ep.length];clear h g ep;induction t with
  |nil=>simp
  |cons y pS mj=>rw[Ct,bQ,Ye y VK,mj (λx d=>Ye x TP),df,fK];omega
 subst eJ;refine wh w (gV (ad.V8 cB)) _ _ _ _ v (λj u hu=>?_) (hk.1 g);obtain⟨i,x,k,o,s,rfl⟩:=aiX Ye hu;rw[tn];have:=(h i x o).2 k u s;rwa[pd]at this
def H.append{E m k:Nat}{v z:aj}{d pS:ab aj}{w fi:a2}(h:H W D ao w)(u:aB ao (row v E aM k d) (row z E aM m pS) a7)(y:fi.ownsRow 0 E aM z m pS)(t:w.grownBy fi v.ownBlock)(o:z.ownBlock=v.ownBlock\/z.ownBlock=some w.heap.size)(Ye:w.drawn<=fi.drawn):H W D a7 fi:=by
 refine h.o8 u ⟨λe j=>?_,?_,λx g=>?_,λb s i=>?_,t.size,t.os,t.tape,t.output,Ye⟩
 .obtain rfl:e=_:=by simpa using j
  rw[i0];exact y
 .have:br [row z E aM m pS]=z.ownBlock.toList:=by simp[br,iA]
  rw[this];cases z.ownBlock<;>simp
 .have Yc:z.ownBlock=some x:=by simpa[br,iA]using g
  rcases o with o|o
  .left;rw[iA,<-o,Yc];simp
  .right;rw[o]at Yc;injection Yc with Yc;omega
 .refine t.block b s λe=>i ?_;rw[iA,<-e];simp
def cj.info(ad:cj P){E t:Nat}{g:ab aj}(d:bT ad.ht E=some aM)(o:bT ad.mO E=some t)(v:jm ad.jE E=some g):∃i z,P.info? E=some i/\i.zero=some z/\i.size=aM/\i.bytes=t/\z.cells.toList=g:=by have g:=ad.WW d;have d:=ad.abO o;obtain⟨z,o,k⟩:=ad.zeroAt v;obtain⟨i,am,t⟩:=Ce.1 o;rw[am]at g d;exact⟨i,z,am,t,Ra,OI,k⟩
def O.acm(ad:cj P){t cD E hm k m:Nat}{x y:bj}{v u:aj}{b Yf jo:ab aj}{a7:aj->ab ay}(o:aR an x=some v)(s:aR an y=some u)(bV:ph P ao aM cD u m Yf)(dG:∀ez,ez.oneCell'=true->(ez=.slice none 0 0↔v=.slice none 0 0/\m=0)->C ((dst,ez)::an) (a7 ez))(h:∀ez,aB ao (row v E aM k b) (row ez E aM (k+m) (b++Yf)) (a7 ez):=by(intro _;repeat first|exact aB.here _ _ _|apply aB.there))(du:Nat.blt dst n.n=true:=by exact rfl)(cB:bT ad.fw t=some E:=by exact rfl)(Yg:bT ad.ht E=some aM:=by exact rfl)(Yl:bT ad.mO E=some hm:=by exact rfl)(gL:jm ad.jE E=some jo:=by exact rfl)(Yn:jo.length=aM:=by exact rfl)(Yj:Nat.blt 0 aM=true:=by exact rfl)(Yp:k+m<=9223372036854775807:=by omega)(Yo:(k+m)*hm<=140737488355328:=by omega):aw P r W D n ⟨some dst,.call ⟨.builtin .append,#[x,y],#[t,cD]⟩,ba,bd,be,aW⟩ an ao C:=λK Q cJ a w c0 cr=>by
 obtain⟨i,z,am,Yi,d,j,cd⟩:=ad.info Yg Yl gL;obtain⟨l,oz,dz,_⟩:=(h v).split;have Yh:=cr.mem (e:=row v E aM k b) (by rw[dz];simp);rw[i0]at Yh;have Yq:0<aM:=pQ Yj;have Ym:z.cells.size=aM:=by rw[<-pg,cd,Yn]
 obtain⟨ez,fi,c2,ej,bG,cN,bN,Yk⟩:=Cx (P:=P) (w:=w) t cD ba E i z aM hm (gV (ad.V8 cB)) am Yi d j Ym Yq v k b Yh u m Yf (bV w cr.hold) P7 Yo;have d:ez.oneCell'=true:=by rcases ej.2 with⟨rfl,_⟩|⟨g,Yc,Ye,rfl,_⟩<;>rfl
 refine kh rfl ?_ (cJ _ _ (dG ez d cN) _ _ (c0.put du _) (cr.append (h ez) ej bG bN Yk));exact Oq
def O.ap(ad:cj P){t cD E hm k m:Nat}{x y:bj}{v u:aj}{b Yf jo:ab aj}{a7:aj->ab ay}(o:aR an x=some v)(s:aR an y=some u)(bV:ph P ao aM cD u m Yf)(dG:∀g Yc,C ((dst,.slice (some ⟨g,0,none⟩) (k+m) Yc)::an) (a7 (.slice (some ⟨g,0,none⟩) (k+m) Yc)))(eV:0<k+m:=by omega)(h:∀ez,aB ao (row v E aM k b) (row ez E aM (k+m) (b++Yf)) (a7 ez):=by(intro _;repeat first|exact aB.here _ _ _|apply aB.there))(du:Nat.blt dst n.n=true:=by exact rfl)(cB:bT ad.fw t=some E:=by exact rfl)(Yg:bT ad.ht E=some aM:=by exact rfl)(Yl:bT ad.mO E=some hm:=by exact rfl)(gL:jm ad.jE E=some jo:=by exact rfl)(Yn:jo.length=aM:=by exact rfl)(Yj:Nat.blt 0 aM=true:=by exact rfl)(Yp:k+m<=9223372036854775807:=by omega)(Yo:(k+m)*hm<=140737488355328:=by omega):aw P r W D n ⟨some dst,.call ⟨.builtin .append,#[x,y],#[t,cD]⟩,ba,bd,be,aW⟩ an ao C:=λK Q cJ a w c0 cr=>by
 obtain⟨i,z,am,Yi,d,j,cd⟩:=ad.info Yg Yl gL;obtain⟨l,oz,dz,_⟩:=(h v).split;have Yh:=cr.mem (e:=row v E aM k b) (by rw[dz];simp);rw[i0]at Yh;have Yq:0<aM:=pQ Yj;have Ym:z.cells.size=aM:=by rw[<-pg,cd,Yn]
 obtain⟨ez,fi,c2,ej,bG,cN,bN,Yk⟩:=Cx (P:=P) (w:=w) t cD ba E i z aM hm (gV (ad.V8 cB)) am Yi d j Ym Yq v k b Yh u m Yf (bV w cr.hold) P7 Yo;rcases ej.2 with⟨_,dg⟩|⟨g,Yc,Ye,rfl,_⟩
 .omega
 .refine kh rfl ?_ (cJ _ _ (dG g Yc) _ _ (c0.put du _) (cr.append (h _) ej bG bN Yk));exact Oq
def ah.fact{c:Code}{p:Prop}(z:∀w,H W D ao w->p)(h:p->ah P r W D n Q c an ao):ah P r W D n Q c an ao:=λa w y b=>h (z w b) a w y b
def ai.fact{l:ab cc}{p:Prop}(z:∀w,H W D ao w->p)(h:p->ai P r W D n J Q l an ao):ai P r W D n J Q l an ao:=λa w y b=>h (z w b) a w y b
def Out.fact{p:Prop}(z:∀w,H W D ao w->p)(h:p->Out W D n Q e an ao):Out W D n Q e an ao:=λa w y b=>h (z w b) a w y b
def ahS{v:aj}{E k:Nat}{d:ab aj}(o:row v E aM k d∈ao):∀w,H W D ao w->(v=.slice none 0 0/\k=0/\d=[])\/∃g t,v=.slice (some ⟨g,0,none⟩) k t/\k<=t/\t<=maxLen:=λw s=>by
 have h:=s.mem o;rw[i0]at h;rcases h.2 with⟨d,o⟩|⟨g,t,j,d,_,_,o,z,_⟩
 .exact .inl ⟨d,o,ml (by rw[h.1,o];simp)⟩
 .exact .inr ⟨g,t,d,o,z⟩
def H.acn{w:a2}(E aM:Nat)(h:H W D ao w):H W D (row (.slice none 0 0) E aM 0 []::ao) w:=by
 have:H w [] [row (.slice none 0 0) E aM 0 []] w:=by
  refine⟨λe j=>?_,OF,λb g=>(by simp[br,iA,Value.ownBlock]at g),λb _ _=>rfl,cx _,rfl,rfl,rfl,cx _⟩;obtain rfl:e=_:=by simpa using j
  rw[i0];exact Gp w 0 E aM
 exact h.new this
def V.pR(ad:cj P){t E b o s d:Nat}{x y:bj}{i:Int}(g:aR an x=some (.slice (some ⟨b,o,none⟩) s d):=by exact rfl)(d:aR an y=some (.int k i):=by exact rfl)(v:bT ad.fw t=some E:=by exact rfl)(z:bT ad.ht E=some aM:=by exact rfl)(j:0<=i/\i<(s:Int):=by omega):aN P n an ao ⟨some dst,.indexAddr t x y,ba,bd,be,aW⟩ (av b (o+i.toNat*aM)):=λa w y _=>by
 have o:=gV (ad.V8 v);have v:P.elem t=E:=by simp[Program.elem,o]
 simp only[execOp,y.eval g,y.eval d];simp[Instr.indexAt,cW,asIntOf,eD o,j,qv (ad.WW z),tn]
def V.E'(ad:cj P){t E b o i z k:Nat}{x y:bj}(g:aR an x=some (.slice (some ⟨b,o,none⟩) i z))(d:aR an y=some (I (k:Int)))(v:bT ad.fw t=some E:=by exact rfl)(z:bT ad.ht E=some aM:=by exact rfl)(j:k<i:=by omega):aN P n an ao ⟨some dst,.indexAddr t x y,ba,bd,be,aW⟩ (av b (o+k*aM)):=by have:=V.pR (n:=n) (an:=an) (ao:=ao) (dst:=dst) (ba:=ba) (bd:=bd) (be:=be) (aW:=aW) ad (t:=t) g d v z ac;simpa using this
def run_bytesToString{w:a2}{E k:Nat}{v:aj}{l:ab aS}(h:w.ownsRow 0 E 1 v k (l.map λb=>.int .u8 (b.toNat:Int))):(Conv.bytesToString v).run P w=.ok (S l) w:=by
 have y:l.length=k:=by simpa using h.1
 rcases h.2 with⟨rfl,rfl⟩|⟨g,o,j,rfl,_⟩
 .have:l=[]:=ml y;subst this;rfl
 .have t:=h.cells (g:=g) rfl;have i:(loadCells ⟨g,0,none⟩ k).run P w=.ok (l.map λb=>Value.int .u8 (b.toNat:Int)).toArray w:=by have:=wg (P:=P) w 1 k ⟨g,0,none⟩ k o _ h.1 t;simpa[Builtin.firstCells]using this
  have z:∀(d:ab aS) (s:ByteArray),(d.map λb=>(b.toNat:Int)).foldl (λr n=>r.push (UInt8.ofNat n.toNat)) s=⟨s.data++d.toArray⟩:=by
   intro d;induction d with
   |nil=>intro s;simp
   |cons x d t=>
    intro s;simp only[eE,pc];rw[t];apply ByteArray.ext;simp[ByteArray.push]
  rw[Go.run_bytesToString w ⟨g,0,none⟩ k o (l.map λb=>(b.toNat:Int)) (by simpa[Function.comp_def]using i),z];simp
def V.aaH(ad:cj P){t u E e k a:Nat}{x:bj}{v:aj}{l:ab aS}(d:aR an x=some v:=by exact rfl)(o:row v E 1 k (l.map λb=>.int .u8 (b.toNat:Int))∈ao:=by(repeat first|exact aH _|apply aI))(y:bT ad.strs u=some a:=by exact rfl)(hu:bT ad.fw t=some e:=by exact rfl)(s:nk ad.ints e=some .u8:=by exact rfl):aN P n an ao ⟨some dst,.convert t u x,ba,bd,be,aW⟩ (S l):=λa w c0 cr=>by
 have h:=cr _ o;rw[i0]at h;have j:=run_bytesToString (P:=P) h;have i:∃cK Yc z,v=.slice cK Yc z:=by rcases h.2 with⟨rfl,_⟩|⟨g,z,Ye,rfl,_⟩<;>exact⟨_,_,_,rfl⟩
 obtain⟨cK,Yc,z,rfl⟩:=i;simp only[execOp,c0.eval d,convert,cW,eD (ad.W8 y),eD (gV (ad.V8 hu)),ed,eD (ad.Wn s),j,eW]
end
def Gq[Inhabited bB]{f:bB->aj}{g:ab bB}{k:Nat}(d:k<g.length):(g.map λx=>[f x])[k]?=some [f (g.getD k default)]:=TP
@[irreducible] def rows{bB:Type}(f:bB->List Value)(v:Value)(E aM:Nat)(l:List bB):ay:=row v E aM l.length (l.flatMap f)
def fM(f:bB->ab aj)(v:aj)(E aM:Nat)(l:ab bB):rows f v E aM l=row v E aM l.length (l.flatMap f):=by unfold rows;rfl
def dL(b:aS):ab aj:=[.int .u8 (b.toNat:Int)]
def uO(n:Int):ab aj:=[I n]
def fq(b:Bool):ab aj:=[B b]
def fy(l:ab aS):ab aj:=[S l]
abbrev jU{bB:Type}(f:bB->ab aj):Prop:=∀x,(f x).all (·.oneCell')=true
def Gr:jU dL:=λ_=>rfl
def pY:jU fq:=λ_=>rfl
def jU.flat{f:bB->ab aj}(h:jU f)(l:ab bB):(l.flatMap f).all (·.oneCell')=true:=by simp only[List.all_flatMap];exact hk.2 λx _=>h x
def zP(l:ab aS):l.flatMap dL=l.map λb=>.int .u8 (b.toNat:Int):=by
 induction l with
 |nil=>rfl
 |cons x l g=>rw[fW,g];rfl
def Rd.len{e:ay}{i:aT Addr}{len b:Nat}{g:ab (ab aj)}(h:Rd e i len b off aM g):len<=9223372036854775807:=by have:=h.small;simp only[maxLen]at this;omega
def bP.last{k:Nat}{c:ab aj}(g:c.length=aM):bP aM k [(k,A c)] c:=⟨rfl,c,[],rfl,g,VK,rfl⟩
def zQ(f:bB->ab aj)(l:ab bB):(l.map f).flatten=l.flatMap f:=by rw[xR]
def Rd.lits(f:bB->ab aj){g E k z:Nat}{cs:ab aj}(l:ab bB)(t:l.length=k)(j:l.flatMap f=cs)(v:∀x,(f x).length=aM)(o:k<=1000000:=by first|omega|decide):Rd (az.row (.slice (some ⟨g,0,none⟩) k z) E aM k cs) (some ⟨g,0,none⟩) k g 0 aM (l.map f):=by
 have:=Rd.row (g:=g) (E:=E) (aM:=aM) (k:=k) (cap:=z) (xs:=l.map f) Ul (λy d=>SK) P7
 rwa[zQ,j]at this
def Rd.rows{f:bB->ab aj}{g E:Nat}{l:ab bB}(v:∀x,(f x).length=aM)(o:l.length<=9223372036854775807):Rd (az.rows f (.slice (some ⟨g,0,none⟩) l.length cap) E aM l) (some ⟨g,0,none⟩) l.length g 0 aM (l.map f):=by
 rw[fM];have:=Rd.row (g:=g) (E:=E) (aM:=aM) (k:=l.length) (cap:=cap) (xs:=l.map f) VK (λy d=>SK) P7
 rwa[zQ]at this
section
variable{r:aT Nat}{Z:bJ}{a7:ab ay}
variable{X:Op}
variable{f:bB->ab aj}
def cz(P:b1)(ao:ab ay)(f:bB->ab aj)(aM:Nat)(cD:a8)(x:aj)(l:ab bB):Prop:=ph P ao aM cD x l.length (l.flatMap f)
def cz.one(ad:cj P){E cD t:Nat}{x:aj}{a:bB}(d:row x E aM 1 (f a)∈ao)(g:jU f)(o:bT ad.fw cD=some t:=by exact rfl):cz P ao f aM cD x [a]:=by have:=ph.row ad d o (g a);unfold cz;simpa using this
def cz.rows(ad:cj P){E cD t:Nat}{x:aj}{l:ab bB}(d:az.rows f x E aM l∈ao)(g:jU f)(o:bT ad.fw cD=some t:=by exact rfl):cz P ao f aM cD x l:=by rw[fM]at d;exact ph.row ad d o (g.flat l)
def cz.str(ad:cj P){cD u:Nat}{l:ab aS}(o:bT ad.strs cD=some u:=by exact rfl):cz P ao dL 1 cD (S l) l:=by unfold cz;rw[zP];exact ph.str ad o
def cz.rd(ad:cj P){e:ay}{cD j b:Nat}{i:aT Addr}{l:ab bB}(z:Rd e i l.length b off aM (l.map f))(o:e∈ao)(g:jU f)(v:∀x,(f x).length=aM)(k:0<l.length)(t:bT ad.fw cD=some j:=by exact rfl):cz P ao f aM cD (.slice i l.length cap) l:=by
 unfold cz;have:=ph.rd (cap:=cap) ad z o t (by rw[zQ];exact g.flat l) (λy d=>SK) k
 rwa[zQ]at this
def O.Z'(ad:cj P){t cD E k:Nat}{x y:bj}{v u:aj}{l m:ab bB}{b:ab aj}{a7:aj->ab ay}(d:aR an x=some v)(o:aR an y=some u)(z:∀ez,aB ao (rows f v E aM l) (rows f ez E aM (l++m)) (a7 ez))(j:cz P ao f aM cD u m)(dG:∀g v,C ((dst,.slice (some ⟨g,0,none⟩) (l++m).length v)::an) (a7 (.slice (some ⟨g,0,none⟩) (l++m).length v)))(h:Nat.blt dst n.n=true:=by exact rfl)(i:bT ad.fw t=some E:=by exact rfl)(Yc:bT ad.ht E=some aM:=by exact rfl)(Yf:bT ad.mO E=some k:=by exact rfl)(s:jm ad.jE E=some b:=by exact rfl)(Yg:b.length=aM:=by exact rfl)(Ye:Nat.blt 0 aM=true:=by exact rfl)(Yh:(l.length+m.length)*k<=140737488355328:=by(first|omega|(simp only[bQ,df,gv,dZ];omega)))(Yi:l.length+m.length<=9223372036854775807:=by(first|omega|(simp only[bQ,df,gv,dZ];omega)))(b:0<l.length+m.length:=by(first|omega|(simp only[bQ,df,gv,dZ];omega))):aw P r W D n ⟨some dst,.call ⟨.builtin .append,#[x,y],#[t,cD]⟩,ba,bd,be,aW⟩ an ao C:=
 O.ap (n:=n) (an:=an) (ao:=ao) (dst:=dst) (k:=l.length) (m:=m.length) (b:=l.flatMap f) (Yf:=m.flatMap f) (a7:=a7) ad d o j (λg v=>by have:=dG g v;rwa[bQ]at this) b
  (λez=>by have:=z ez;simp only[fM,bQ,l3]at this;exact this) h i Yc Yf s Yg Ye Yi Yh
def O.W2(ad:cj P){t cD E hm:Nat}{x y:bj}{v u:aj}{l m:ab bB}{k:ab aj}{a7:aj->ab ay}(g:aR an x=some v)(d:aR an y=some u)(o:∀s,aB ao (rows f v E aM l) (rows f s E aM (l++m)) (a7 s))(z:cz P ao f aM cD u m)(i:∀s,s.oneCell'=true->(s=.slice none 0 0↔v=.slice none 0 0/\m.length=0)->C ((dst,s)::an) (a7 s))(b:Nat.blt dst n.n=true:=by exact rfl)(j:bT ad.fw t=some E:=by exact rfl)(h:bT ad.ht E=some aM:=by exact rfl)(Ye:bT ad.mO E=some hm:=by exact rfl)(v:jm ad.jE E=some k:=by exact rfl)(Yf:k.length=aM:=by exact rfl)(Yc:Nat.blt 0 aM=true:=by exact rfl)(Yg:(l.length+m.length)*hm<=140737488355328:=by(first|omega|(simp only[bQ,df,gv,dZ];omega)))(Yh:l.length+m.length<=9223372036854775807:=by(first|omega|(simp only[bQ,df,gv,dZ];omega))):aw P r W D n ⟨some dst,.call ⟨.builtin .append,#[x,y],#[t,cD]⟩,ba,bd,be,aW⟩ an ao C:=
 O.acm (n:=n) (an:=an) (ao:=ao) (dst:=dst) (k:=l.length) (m:=m.length) (b:=l.flatMap f) (Yf:=m.flatMap f) (a7:=a7) ad g d z i
  (λs=>by have:=o s;simp only[fM,bQ,l3]at this;exact this) b j h Ye v Yf Yc Yh Yg
def V.Xf(ad:cj P){t e E:a8}{x:bj}{v:aj}{l:ab bB}(g:aR an x=some v:=by exact rfl)(d:rows f v E aM l∈ao:=by(repeat first|exact aH _|apply aI))(o:bT ad.fw t=some e:=by exact rfl):aN P n an ao ⟨some dst,.call ⟨.builtin .len,#[x],#[t]⟩,ba,bd,be,aW⟩ (I (l.length:Int)):=by rw[fM]at d;exact aN.ab1 g d (ad.V8 o)
def wi{aM:Nat}(v:∀x,(f x).length=aM):∀(l:ab bB) (k:Nat) (a:bB),l[k]?=some a->kg (k*aM) aM (l.flatMap f)=f a
 |[],_,_,h=>VT
 |x::l,0,a,h=>by
  simp only[ra,fj]at h;subst h;show((f x++l.flatMap f).drop (0*aM)).take aM=f x
  rw[r9,Co,oA (by rw[v];omega),lr (by rw[v];omega)]
 |x::l,k+1,a,h=>by
  have g:=wi v l k a VR;rw[<-g];have e:(k+1)*aM=(f x).length+k*aM:=by rw[v x,fK];omega
  simp only[kg,fW,e];rw[<-sa];simp
def V.K'(ad:cj P){T E b k:Nat}{Yc i:Nat}{x:bj}{l:ab bB}{a:bB}(t:aR an x=some (av b (0+k*aM)))(z:rows f (.slice (some ⟨b,0,none⟩) Yc i) E aM l∈ao)(h:∀x,(f x).length=aM)(y:l[k]?=some a)(o:bT ad.agg T=some aM:=by exact rfl):aN P n an ao ⟨some dst,.load T x,ba,bd,be,aW⟩ (A (f a)):=λhb w c0 cr=>by
 obtain⟨d,hu,du,am⟩:=vT (ad.WC o);have Ye:=cr _ z;rw[fM,i0]at Ye;simp only[execOp,c0.eval t,Instr.loadAt,Instr.sureAddr,cW,eW,ed];rw[Ca w b (0+k*aM) T (f a) d (λj v s=>?_) hu du (by rw[am,h])]
 .rfl
 .have:=Ye.cells (g:=b) rfl (k*aM+j) v (by
   rw[<-wi h l k a y]at s;simp only[kg,mN,l0]at s;split at s
   .exact s
   .cases s)
  rw[tn]at this;simpa[pd]using this
def V.Wm(ad:cj P){T u E b k:Nat}{j d:Nat}{x:bj}{v:aj}{l:ab bB}{a:bB}(g:aR an x=some (av b (0+k*1)))(o:rows f (.slice (some ⟨b,0,none⟩) j d) E 1 l∈ao)(y:∀x,(f x).length=1)(t:l[k]?=some a)(z:(f a)[0]?=some v:=by exact rfl)(d:bT ad.one T=some u:=by exact rfl):aN P n an ao ⟨some dst,.load T x,ba,bd,be,aW⟩ v:=λj w i s=>by
 have h:=s _ o;rw[fM,i0]at h;simp only[execOp,i.eval g,Instr.loadAt,Instr.sureAddr,cW,eW,ed];have o:=wi y l k a t;have:=h.cells (g:=b) rfl (k*1) v (by have g:=z;rw[<-o]at g;simpa[kg,mN,l0]using g)
 rw[tn]at this;rw[zx (ad.V2 d) (by simpa using this)];rfl
def V.aaI(ad:cj P){t u E e a:Nat}{x:bj}{v:aj}{l:ab aS}(g:aR an x=some v:=by exact rfl)(d:rows dL v E 1 l∈ao:=by(repeat first|exact aH _|apply aI))(o:bT ad.strs u=some a:=by exact rfl)(z:bT ad.fw t=some e:=by exact rfl)(j:nk ad.ints e=some .u8:=by exact rfl):aN P n an ao ⟨some dst,.convert t u x,ba,bd,be,aW⟩ (S l):=by rw[fM,zP]at d;exact V.aaH ad g d o z j
def h6{v:aj}{E:Nat}{l:ab bB}(o:rows f v E aM l∈ao):∀w,H W D ao w->(v=.slice none 0 0/\l=[])\/∃g d,v=.slice (some ⟨g,0,none⟩) l.length d/\l.length<=d/\d<=maxLen:=λw s=>by
 rw[fM]at o;rcases ahS o w s with⟨g,d,_⟩|h
 .exact .inl ⟨g,ml d⟩
 .exact .inr h
def H.XE{w:a2}(f:bB->ab aj)(E aM:Nat)(h:H W D ao w):H W D (rows f (.slice none 0 0) E aM []::ao) w:=by rw[fM];exact h.acn E aM
def ah.V5{c:Code}(f:bB->ab aj)(E aM:Nat)(h:ah P r W D n Q c an (rows f (.slice none 0 0) E aM []::ao)):ah P r W D n Q c an ao:=λa w y b=>h a w y (b.XE f E aM)
def ah.iE{c:Code}{a7:ab ay}(g:∀w,H W D ao w->H W D a7 w)(h:ah P r W D n Q c an a7):ah P r W D n Q c an ao:=λa w y b=>h a w y (g w b)
def Out.iE{e:dY}{a7:ab ay}(g:∀w,H W D ao w->H W D a7 w)(h:Out W D n Q e an a7):Out W D n Q e an ao:=λa w y b=>h a w y (g w b)
def V.WI(ad:cj P){t u:a8}{x:bj}{z j:IntKind}{p:Int}(g:aR an x=some (.int k p))(o:nk ad.ints u=some z)(aV:z.wrap p=q)(d:nk ad.ints t=some j:=by exact rfl):aN P n an ao ⟨some dst,.convert t u x,ba,bd,be,aW⟩ (.int z q):=by have:=aN.aaq (n:=n) (an:=an) (ao:=ao) (dst:=dst) (ba:=ba) (bd:=bd) (be:=be) (aW:=aW) ad g o d;rwa[aV]at this
def V.Xt{X:BinOp}{t h:a8}{x y:bj}{p v:Int}(g:aR an x=some (.int k p))(d:aR an y=some (.int k q))(o:l2 X k p q=some v):aN P n an ao ⟨some dst,.binOp X t x y h,ba,bd,be,aW⟩ (.int k v):=V.bit rfl g d o
def V.Xl{t h:a8}{x y:bj}{j:IntKind}{p u:Int}(g:aR an x=some (.int k p))(d:aR an y=some (.int j q))(z:p.fdiv (2^(Min.min q.toNat k.bits))=u)(o:0<=q:=by omega):aN P n an ao ⟨some dst,.binOp .shr t x y h,ba,bd,be,aW⟩ (.int k u):=V.shr g d o z
def V.aco{t h:a8}{x y:bj}{j:IntKind}{p u:Int}(g:aR an x=some (.int k p))(d:aR an y=some (.int j q))(z:k.wrap (p*2^(Min.min q.toNat k.bits))=u)(o:0<=q:=by omega):aN P n an ao ⟨some dst,.binOp .shl t x y h,ba,bd,be,aW⟩ (.int k u):=V.shl g d o z
def V.acp{X:BinOp}{t h:a8}{x y:bj}{p u:Int}(g:aR an x=some (.int k p))(d:aR an y=some (.int k q))(o:zJ X k p q=some u):aN P n an ao ⟨some dst,.binOp X t x y h,ba,bd,be,aW⟩ (.int k u):=V.aay g d o
end
end Go.az
namespace Go.az
def getD_some{bB:Type}[Inhabited bB]{l:ab bB}{k:Nat}(g:k<l.length):l[k]?=some (l.getD k default):=by simp[g]
end Go.az
namespace Go.az
open Go
variable{aM:Nat}{aW:aT (Nat×Bool)}{C:bJ->ab ay->Prop}{d:ab (Nat×aj)}{be:Array Edge}
section
variable{P:b1}{r:aT Nat}{W:a2}{D:ab Nat}{n:dF}{Q:da}{an Z:bJ}{ao a7:ab ay}{J:Array cc}{N:ab cc}
variable{dst:Nat}{X:Op}{ba:a8}{bd:String}
variable{bB:Type}{f:bB->ab aj}
def Rd.nil{e:ay}{i:aT Addr}{b off:Nat}:Rd e i 0 b off aM []:=⟨rfl,cG _,λh=>absurd h ac,λ_ _ i x g=>UZ⟩
def cz.aaJ(ad:cj P){e:ay}{cD y o b off:Nat}{i:aT Addr}{l:ab bB}(z:Rd e i l.length b off aM (l.map f))(d:e∈ao)(g:jU f)(v:∀x,(f x).length=aM)(t:bT ad.fw cD=some y:=by exact rfl):cz P ao f aM cD (.slice i l.length o) l:=by
 cases l with
 |cons x l=>exact cz.rd ad z d g v VK t
 |nil=>
  intro w _;cases i with
  |none=>exact Src.ofNil w (gV (ad.V8 t)) o
  |some a=>exact wh w (gV (ad.V8 t)) a 0 o [] VK (λj u h=>VT) (λu h=>VL)
def O.V'(ad:cj P){t E:a8}{s:Nat}{h:ab (Nat×bj)}{o cs:ab aj}(f:bB->ab aj)(l:ab bB)(g:az.nT an h=some d)(v:bP aM 0 d cs)(Yc:l.flatMap f=cs)(Ye:l.length=s)(k:∀b,C ((dst,.slice (some ⟨b,0,none⟩) s s)::an) (rows f (.slice (some ⟨b,0,none⟩) s s) E aM l::ao))(i:Nat.blt dst n.n=true:=by exact rfl)(j:bT ad.fw t=some E:=by exact rfl)(z:bT ad.ht E=some aM:=by exact rfl)(y:jm ad.jE E=some o:=by exact rfl)(o:d.length=s:=by exact rfl)(d:Nat.ble (s*aM) 1000=true:=by exact rfl)(x:Nat.ble 1 aM=true:=by exact rfl):aw P r W D n ⟨some dst,.buildSlice t s h.toArray,ba,bd,be,aW⟩ an ao C:=by refine aw.aau ad i j z y g v o d x λb=>?_;have:=k b;rw[fM,Yc,Ye]at this;exact this
def uP(o i:Nat)(c x:ab aj)(h:o<=c.length):(ey o x c)[i]?=if i<o then c[i]? else if i<o+x.length then x[i-o]? else c[i]?:=by
 simp only[ey,ck];have y:(c.take o).length=o:=Pq
 by_cases g:i<o
 .rw[aJ g,pU ac,mN,aJ g]
 .rw[aG g,iC ac,y];by_cases g:i<o+x.length
  .rw[aJ g,pU ac]
  .rw[aG g,iC ac,l0];congr 1;omega
def ahp(o m:Nat)(c x:ab aj)(h:o+x.length<=m)(g:m<=c.length):(ey o x c).take m=ey o x (c.take m):=by
 apply pi;intro i;rw[mN,uP o i c x ac,uP o i (c.take m) x Pq];simp only[mN];by_cases am:i<m
 .simp[am]
 .rw[aG am,aG ac,aG ac,aG am]
def CB(o:Nat)(c x:ab aj)(h:o+x.length<=c.length):(ey o x c).length=c.length:=by simp[ey];omega
def H.ZL{w:a2}{g i k E off:Nat}{t x:ab aj}(h:H W D ao w)(u:aB ao (row (.slice (some ⟨g,0,none⟩) k i) E aM k t) (row (.slice (some ⟨g,0,none⟩) k i) E aM k (ey off x t)) a7)(o:off+x.length<=t.length)(d:x.all (·.oneCell')=true):∃fi,(storeCells ⟨g,off,none⟩ x).run P w=.ok () fi/\H W D a7 fi:=by
 obtain⟨l,oz,v,_⟩:=u.split;have Yg:=h.mem (e:=row (.slice (some ⟨g,0,none⟩) k i) E aM k t) (by rw[v];simp);rw[i0]at Yg;rcases Yg.2 with⟨dg,_⟩|⟨wj,Yh,Ye,dg,j,s,Ym,Yi,Yk,Yl⟩
 .cases dg
 .simp only[sb,fj,xS]at dg;obtain⟨⟨rfl,_,_⟩,_,rfl⟩:=dg;have Yn:=Yg.1;have Yj:Ye.toList.length=i*aM:=by simpa using Yk
  have Yo:k*aM<=i*aM:=kY _ Ym;have Yf:=uH P g off E x 0 Ye w s (by simp only[hj];omega) (λu hu=>hk.1 d u hu);simp only[hj]at Yf;refine⟨_,Yf,h.o8 u ⟨λe dg=>?_,OF,λy z=>?_,λb Yc cN=>xB w g b _ (λe=>cN (by simp[iA,Value.ownBlock,e])),VK,rfl,rfl,rfl,cx _⟩⟩
  .obtain rfl:e=_:=by simpa using dg
   rw[i0];refine⟨by rw[CB _ _ _ o];exact Yn,.inr ⟨g,i,_,rfl,j,r3 w g Ye _ E _ s,Ym,Yi,?_,?_⟩⟩
   .have:=CB off Ye.toList x ac;simp only[ey]at this;simpa[Yk]using this
   .have:=ahp off (k*aM) Ye.toList x ac ac;rw[Yl]at this;simpa[ey]using this
  .left;have:y=g:=by simpa[br,iA,Value.ownBlock]using z
   subst this;simp[iA,Value.ownBlock]
def xT{aM:Nat}(v:∀x,(f x).length=aM):∀(l:ab bB) (k:Nat) (a:bB),k<l.length->ey (k*aM) (f a) (l.flatMap f)=(l.set k a).flatMap f
 |[],_,_,h=>VT
 |x::l,0,a,_=>by have y:=v x;have g:=v a;simp only[ey,r9,xU,g4,h4,fW,Gs,g];rw[wk,sc ac,y];simp
 |x::l,k+1,a,h=>by
  have g:=xT v l k a VR;have y:=v x;have e:(k+1)*aM=aM+k*aM:=by rw[fK];omega
  simp only[fW,List.set_cons_succ,<-g];simp only[ey,e];rw[sd,wk,y];have j:(f x).take (aM+k*aM)=f x:=lr ac;have g:(f x).drop (aM+k*aM+(f a).length)=[]:=sc ac;rw[j,g,show aM+k*aM-aM=k*aM by omega,show aM+k*aM+(f a).length-aM=k*aM+(f a).length by omega];simp
def lw(v:∀x,(f x).length=aM)(l:ab bB):(l.flatMap f).length=l.length*aM:=by
 induction l with
 |nil=>simp
 |cons x l g=>rw[fW,bQ,g,v,df,fK];omega
def O.N'(ad:cj P){T E g k Yc i:Nat}{x y:bj}{l:ab bB}{a:bB}(o:aR an x=some (av g (0+k*aM)))(z:aR an y=some (A (f a)))(j:aB ao (rows f (.slice (some ⟨g,0,none⟩) Yc i) E aM l) (rows f (.slice (some ⟨g,0,none⟩) Yc i) E aM (l.set k a)) a7)(b:l.length=Yc)(v:k<l.length)(s:∀x,(f x).length=aM)(d:jU f)(dG:C an a7)(t:bT ad.agg T=some aM:=by exact rfl):aw P r W D n ⟨none,.store T x y,ba,bd,be,aW⟩ an ao C:=λK Q cJ hb w h cr=>by
 subst b;have x:aB ao (row (.slice (some ⟨g,0,none⟩) l.length i) E aM l.length (l.flatMap f)) (row (.slice (some ⟨g,0,none⟩) l.length i) E aM l.length (ey (k*aM) (f a) (l.flatMap f))) a7:=by have:=j;simp only[fM,cy]at this;rwa[xT s l k a v]
 have j:(k+1)*aM<=l.length*aM:=kY aM v;rw[fK]at j;obtain⟨fi,j,v⟩:=H.ZL (P:=P) cr x (by rw[lw s,s];omega) (d a);refine uJ rfl ?_ (cJ _ _ dG _ _ (h.W1 undef) v);have d:(P.info? T).map (·.size)=some aM:=ad.aao t;obtain⟨i,am,t⟩:=qs.1 d;simp only[execOp,h.eval o,h.eval z,Instr.storeAt,Instr.sureAddr,cW,eW,ed];have d:(storeVar T ⟨g,0+k*aM,none⟩ (A (f a))).run P w=.ok () fi:=by rw[h4];simp[storeVar,sizeOf,typeInfo,am,Value.cells,s,t,j]
 rw[d];rfl
def O.Xu(ad:cj P){T u E g k Yc h:Nat}{x y:bj}{l:ab bB}{a:bB}{v:aj}(d:aR an x=some (av g (0+k*1)))(t:aR an y=some v)(dO:f a=[v])(Yf:v.oneCell'=true)(z:aB ao (rows f (.slice (some ⟨g,0,none⟩) Yc h) E 1 l) (rows f (.slice (some ⟨g,0,none⟩) Yc h) E 1 (l.set k a)) a7)(b:l.length=Yc)(j:k<l.length)(gL:∀x,(f x).length=1)(dG:C an a7)(o:bT ad.one T=some u:=by exact rfl):aw P r W D n ⟨none,.store T x y,ba,bd,be,aW⟩ an ao C:=λK Q cJ hb w c0 cr=>by
 subst b;have Ye:aB ao (row (.slice (some ⟨g,0,none⟩) l.length h) E 1 l.length (l.flatMap f)) (row (.slice (some ⟨g,0,none⟩) l.length h) E 1 l.length (ey (k*1) [v] (l.flatMap f))) a7:=by have:=z;simp only[fM,cy]at this;rwa[<-dO,xT gL l k a j]
 obtain⟨fi,c2,Yg⟩:=H.ZL (P:=P) cr Ye (by rw[lw gL];simp;omega) (by simp[Yf]);refine uJ rfl ?_ (cJ _ _ dG _ _ (c0.W1 undef) Yg);have s:(P.info? T).map (·.size)=some 1:=ad.X3 o;obtain⟨i,am,Yh⟩:=qs.1 s;have Yi:v.cells=#[v]:=by cases v<;>first|rfl|(cases Yf;done)
 simp only[execOp,c0.eval d,c0.eval t,Instr.storeAt,Instr.sureAddr,cW,eW,ed];have d:(storeVar T ⟨g,0+k*1,none⟩ v).run P w=.ok () fi:=by
  rw[h4];have o:(storeCells ⟨g,k*1,none⟩ v.cells.toList).run P w=.ok () fi:=by rw[Yi];exact c2
  simp[storeVar,sizeOf,typeInfo,am,Yh,Yi]at o⊢;exact o
 rw[d];rfl
end
end Go.az
namespace Go.az
variable{bB:Type}{k:Nat}
def kk{d:Type}{f:bB->d}{g:ab bB}{x:bB}(h:g[k]?=some x):(g.map f)[k]?=some (f x):=by simp[h]
def mm{g:ab bB}{x:bB}(h:g[k]?=some x):g.take (k+1)=g.take k++[x]:=by rw[oC,h];rfl
def cl{g:ab bB}(h:k<g.length):∃x,g[k]?=some x:=⟨_,hl h⟩
end Go.az
namespace Go.az
open Go
variable{args:ab aj}{R:aj->ab ay->Prop}{C:bJ->ab ay->Prop}{D:ab Nat}{J:Array cc}{aW:aT (Nat×Bool)}{Q:da}{e:dY}{bB:Type}{P:b1}{W:a2}{n:dF}{be:Array Edge}{ao:ab ay}{N:ab cc}{d:ab aj}{k:Nat}{an:bJ}{bd:String}{dst:Nat}{K M:Act->a2->Prop}{ba:a8}{a:Act}{Y:Array Bool}
@[irreducible] def aK(bg:List ay):ay where
 gJ:=br bg
 holds w:=(∀e,e∈bg->e.holds w)/\(br bg).Nodup
 loc w jk h cE:=⟨λe dg=>e.loc w jk (λb bN=>h b (xA.2 ⟨e,dg,bN⟩)) (cE.1 e dg),cE.2⟩
 lt w h x b6:=by obtain⟨e,dg,bN⟩:=xA.1 b6;exact e.lt w (h.1 e dg) x bN
def wl(bg):(aK bg).gJ=br bg:=by unfold aK;rfl
def se(bg w):(aK bg).holds w↔(∀e,e∈bg->e.holds w)/\(br bg).Nodup:=by unfold aK;rfl
section
variable{r:aT Nat}{Z:bJ}{a7 bg:ab ay}{w:a2}
variable{X:Op}
def H.Ww(h:H W D (aK bg::ao) w):H W D (bg++ao) w:=by
 have b:br (aK bg::ao)=br (bg++ao):=by rw[jl,ke,wl]
 refine⟨λe j=>?_,b▸h.nodup,b▸h.own,h.cu,h.size,h.os,h.tape,h.output,h.pP⟩;rcases eh.1 j with j|j
 .have:=h.mem (e:=aK bg) VK;rw[se]at this;exact this.1 e j
 .exact h.mem Vx
def H.toBag(h:H W D (bg++ao) w):H W D (az.aK bg::ao) w:=by
 have b:br (az.aK bg::ao)=br (bg++ao):=by rw[jl,ke,wl]
 refine⟨λe j=>?_,b▸h.nodup,b▸h.own,h.cu,h.size,h.os,h.tape,h.output,h.pP⟩;rcases cQ.1 j with rfl|j
 .rw[se];refine⟨λe j=>h.mem Vx,?_⟩;have:=h.nodup;exact Mb
 .exact h.mem Vx
def hS.Ww(h:hS (az.aK bg::ao) w):hS (bg++ao) w:=(h.start.Ww).eV
def hS.toBag(h:hS (bg++ao) w):hS (az.aK bg::ao) w:=(h.start.toBag).eV
def tr:br (az.aK bg::ao)=br (bg++ao):=by rw[jl,ke,wl]
def ah.Ww{c:Code}(h:ah P r W D n Q c an (bg++ao)):ah P r W D n Q c an (az.aK bg::ao):=λa w y b=>h a w y b.Ww
def lx(P:b1)(l:Nat)(args:ab aj)(ao:ab ay)(R:aj->ab ay->Prop):Prop:=
 ∀w,hS ao w->∃fn d assign body,(Instr.yield l args.toArray).run P w=.ok (.round l fn d assign body) w/\
  RoundIn Fence.wide 0 P l fn d assign body w λe g=>∃v a7,e=.returned v/\R v a7/\H w (br ao) a7 g
def amq{o:cc}{w y:a2}{l:Nat}{f:fb}{b:Array aj}{assign body:Code}(k:kW o.op=true)(z:(execOp a.eval o).run P w=.ok (.round l f b assign body) y)(t:RoundIn Fence.wide 0 P l f b assign body y λe i=>∃v,e=.returned v/\K (a.put o.dst v) i):nS P r o a w K Q:=by unfold nS;rw[vV k,z];refine⟨λh=>VL,?_⟩;have g:RoundIn (nj r) 0 P l f b assign body y λe i=>∃v,e=.returned v/\K (a.put o.dst v) i:=t;exact g.mono λe i ⟨v,j,d⟩=>by subst j;exact d
def aw.WX{l:Nat}{x:bj}{t:ab bj}{Yj:Array a8}{Yi Yc:ab ay}(j:aR an x=some (.func (.yield l) #[] #[]))(d:az.il an t=some args)(h:lx P l args Yi R)(Yh:ak ao Yi Yc)(dG:∀v a7,R v a7->∃Ye,oB a7 Yc Ye/\C ((dst,v)::an) Ye)(i:Nat.blt dst n.n=true:=by exact rfl):aw P r W D n ⟨some dst,.call ⟨.value x,t.toArray,Yj⟩,ba,bd,be,aW⟩ an ao C:=λK Q s a w b k=>by
 have Yf:=k.perm Yh.perm;have Yl:t.toArray.map a.eval=args.toArray:=by rw[<-b.il d];simp
 have z:hS Yi w:=⟨λe y=>Yf.gq e (by simp[y]),by have:=Yf.nodup;rw[ke,gr]at this;exact this.1⟩
 obtain⟨fn,Yg,assign,body,g,o⟩:=h w z;refine amq (y:=w) rfl ?_ (o.mono ?_)
 .simp only[execOp,resolve,cW,Yl,b.eval j];simp[Deferred.ofValue,invoke,g]
 .rintro e jk⟨v,a7,rfl,ep,Yk⟩;obtain⟨Ye,g,h⟩:=dG v a7 ep;refine⟨_,rfl,s _ _ h _ _ (b.put i v) ?_⟩;have:=Yf.call Yk;rwa[g.eq]at this
def oD:dY->aT Code
 |.ret=>some .ret
 |.exit id=>some (.exit id)
 |_=>none
def fu:dY->Bool
 |.normal=>true
 |_=>false
def gA:dY->Bool
 |.normal|.ret|.exit _=>true
 |_=>false
@[irreducible] def cm(l:Nat)(rec:LoopState->Option Code->Loop)(e:Exit):ay:=b3 l (.loop (rec (if fu e then .ready else .done) (oD e)))
@[irreducible] def kl(l:Nat)(rec:LoopState->Option Code->Loop):ay:=b3 l (.loop (rec .busy none))
def wm(l rec e):cm l rec e=b3 l (.loop (rec (if fu e then .ready else .done) (oD e))):=by unfold cm;rfl
def CC(l rec):kl l rec=b3 l (.loop (rec .busy none)):=by unfold kl;rfl
def sf(P:b1)(l:Nat)(body:Code)(Q:da)(a:Act)(w:a2):Prop:=
 ∃t,(Instr.beginRound l).run P w=.ok () t/\body.wpIn (nj (some l)) 0 P Q a t
def tt:da:=λ_ _ _=>False
def H.aaK{l:Nat}{o z:Obj}(h:H W D ao w)(u:aB ao (b3 l o) (b3 l z) a7):H W D a7 (w.putObj l z):=by
 have d:b3 l o∈ao:=by obtain⟨p,q,rfl,_⟩:=u.split;simp
 have dT:=h.mem d;rw[s9]at dT;refine h.o8 u ⟨λe j=>?_,by simp[br,uC],λx g=>?_,λk t y=>?_,VK,rfl,rfl,rfl,cx _⟩
 .obtain rfl:e=_:=by simpa using j
  rw[s9];exact tu (pT.1 dT).1
 .left;simpa[br,uC]using g
 .exact vZ (by simpa[uC]using y)
structure re(rec:LoopState->aT Code->Loop):Prop where
 state:∀s j,(rec s j).state=s
 pending:∀s j,(rec s j).pending=j
 Gt:∀s j cL,{rec s j with state:=cL}=rec cL j
 o8:∀s j cL CD,{rec s j with state:=cL,pending:=CD}=rec cL CD
def Out.acq{l:Nat}{rec:LoopState->aT Code->Loop}{body:Code}{i:da}(o:re rec)(h:ah P (some l) W D n Q body an a7)(u:aB ao (cm l rec .normal) (kl l rec) a7:=by(repeat first|exact aB.here _ _ _|apply aB.there)):Out W D n (Exit.then (sf P l body Q) i) .normal an ao:=λa w y b=>by
 rw[wm,CC]at u;have g:b3 l (.loop (rec .ready none))∈ao:=by obtain⟨p,q,rfl,_⟩:=u.split;simp[fu,oD]
 have d:=b.mem g;rw[s9]at d;refine⟨_,run_beginRound d (o.state _ _),h a _ y ?_⟩;rw[o.Gt];exact b.aaK u
def rf:ab Tmp->ab aj->bJ->bJ
 |p::aX,v::g,e=>rf aX g ((p,v)::e)
 |_,_,e=>e
def dx.zip{o:ab Nat}:∀(aX:ab Tmp) (d:ab aj) (an:bJ) (j:Array aj),(aX.all λp=>Nat.blt p n.n)=true->aX.length=d.length->dx ⟨n.n,o⟩ an {tmps:=j,defers:=o.map mark}->dx ⟨n.n,o⟩ (rf aX d an) {tmps:=(aX.zip d).foldl (λt (p,v)=>t.setIfInBounds p v) j,defers:=o.map mark}
 |[],[],an,j,_,_,h=>h
 |p::aX,v::d,an,j,z,g,h=>by simp only[Ch,c1]at z;exact dx.zip aX d _ _ z.2 Ra (h.put z.1 v)
 |[],_::_,_,_,_,g,_=>UZ
 |_::_,[],_,_,_,g,_=>UZ
def ae3(h:gA e=true):(oD e).isNone=fu e:=by cases e<;>first|rfl|cases h
def lx.acr{l fn:Nat}{rec:LoopState->aT Code->Loop}{Yf:Array aj}{aX:ab Tmp}{assign body:Code}{m:Nat}{s:ay}{R:dY->ay->Prop}(y:re rec)(dq:∀st j,(rec st j).fn=fn/\(rec st j).tmps=Yf/\(rec st j).params=aX.toArray/\(rec st j).assign=assign/\(rec st j).body=body)(c0:dx ⟨m,[]⟩ an {tmps:=Yf,defers:=[]})(cn:(aX.all λp=>Nat.blt p m)=true)(o:aX.length=args.length)(h:∀(eK:a2) (K:da),(∀e i,gA e=true->R e i->∀a w,H eK (br [cm l rec .normal,s]) [kl l rec,i] w->K e a w)->ah P (some l) eK (br [cm l rec .normal,s]) ⟨m,[]⟩ (Exit.then (sf P l body K) tt) assign (rf aX args an) [cm l rec .normal,s]):lx P l args [cm l rec .normal,s] (λv a7=>∃e i,v=.bool (fu e)/\gA e=true/\R e i/\a7=[cm l rec e,i]):=λw b=>by
 have z:=b.gq (cm l rec .normal) VK;rw[wm,s9]at z;obtain⟨c5,bx,fL,pj,k0⟩:=dq .ready none;have g:=run_yield (P:=P) (args:=args.toArray) z (by simp only[fu,oD,ik];rw[fL];simp[o]);simp only[fu,oD,ik]at g;rw[c5,bx,fL,pj,k0]at g;refine⟨_,_,_,_,g,?_⟩;have gL:=dx.zip (n:=⟨m,[]⟩) (o:=[]) aX args an Yf cn o c0;have Yc:=h w (λe a jk=>gA e=true/\∃i,R e i/\H w (br [cm l rec .normal,s]) [kl l rec,i] jk)
  (λe i cE ep a jk cr=>⟨cE,i,ep,cr⟩) _ w gL b.start
 refine roundIn_of_wpIn trivial ?_;have fE:((aX.toArray.zip args.toArray).foldl (λYf (x:Tmp×aj)=>match x with|(t,a)=>Yf.setIfInBounds t a) Yf)=(aX.zip args).foldl (λt (p,v)=>t.setIfInBounds p v) Yf:=by rw[<-Array.foldl_toList];simp
 rw[fE];refine uI Yc ?_;intro e gM fi aV;cases e with
 |normal=>
  obtain⟨oE,d,Yj⟩:=aV;refine⟨oE,d,uI Yj ?_⟩;intro e fc mn ⟨cE,i,ep,cr⟩;have Yg:=cr.mem (e:=kl l rec) VK;rw[CC,s9]at Yg;have Yi:∀j:aT Code,(Instr.endRound l j).run P mn=.ok (.bool j.isNone) (mn.putObj l (.loop (rec (if j.isNone then .ready else .done) j))):=λj=>by have:=run_endRound (P:=P) j Yg;rw[y.o8]at this;exact this
  have Ye:H w (br [cm l rec .normal,s]) [cm l rec e,i] (mn.putObj l (.loop (rec (if(oD e).isNone then .ready else .done) (oD e)))):=by rw[CC]at cr;rw[wm l rec e,<-ae3 cE];exact cr.aaK (aB.here _ _ _)
  have Yh:∀v,v=Value.bool (fu e)->∃ez a7,Ending.returned v=.returned ez/\(∃e i,ez=.bool (fu e)/\gA e=true/\R e i/\a7=[cm l rec e,i])/\H w (br [cm l rec .normal,s]) a7 (mn.putObj l (.loop (rec (if(oD e).isNone then .ready else .done) (oD e)))):=
   λv k=>⟨v,_,rfl,⟨e,i,k,cE,ep,rfl⟩,Ye⟩
  cases e with
  |normal=>exact⟨_,_,Yi none,Yh _ rfl⟩
  |ret=>exact⟨_,_,Yi (some .ret),Yh _ rfl⟩
  |exit id=>exact⟨_,_,Yi (some (.exit id)),Yh _ rfl⟩
  |_=>cases cE
 |_=>exact aV.elim
def H.aaL(h:H W D ao w)(o:Obj):H W D (b3 w.heap.size o::ao) (w.alloc o):=by
 have:H w [] [b3 w.heap.size o] (w.alloc o):=by
  refine⟨λe j=>?_,by simp[br,uC],λb g=>?_,λb g _=>uE _ _ g,VK,rfl,rfl,rfl,cx _⟩
  .obtain rfl:e=_:=by simpa using j
   rw[s9];exact Gu _ _
  .obtain rfl:b=w.heap.size:=by simpa[br,uC]using g
   exact .inr (cx _)
 exact h.new this
def Code.iF(s:gA e=true){w:a2}(h:Q e a w):match oD e with|none=>Q .normal a w|some c=>c.wpIn (nj r) 0 P Q a w:=by
 cases e with
 |normal=>exact h
 |ret=>exact wpIn_ret h
 |exit id=>exact wpIn_exit h
 |_=>cases s
variable{rec:LoopState->aT Code->Loop}{body:Code}
def ah.XF{g:bj}{aX:ab Tmp}{assign:Code}{y:fb}{o:ab aj}{mo:Type}{s k:ab ay}(A:mo->ab aj)(oF:ay)(S:mo->ay)(T:mo->dY->ay->Prop)(R:dY->ab ay->Prop)(bG:aR an g=some (.func (.func y) #[] o.toArray))(Yc:lp P y=true)(Yg:ak ao (oF::s) k)(dd:∀i,aX.length=(A i).length)(cn:(aX.all λp=>Nat.blt p n.n)=true)(round:∀(i:mo) (l:Nat) (rec:LoopState->aT Code->Loop),re rec->∀(eK:a2) (K:da),(∀e z,gA e=true->T i e z->∀a w,H eK (br [cm l rec .normal,S i]) [kl l rec,z] w->K e a w)->ah P (some l) eK (br [cm l rec .normal,S i]) ⟨n.n,[]⟩ (Exit.then (sf P l body K) tt) assign (rf aX (A i) an) [cm l rec .normal,S i])(Yi:∀(l:Nat) (rec:LoopState->aT Code->Loop),(∀i,lx P l (A i) [cm l rec .normal,S i] (λv a7=>∃e z,v=.bool (fu e)/\gA e=true/\T i e z/\a7=[cm l rec e,z]))->ar P y (.func (.yield l) #[] #[]::o) (cm l rec .normal::oF::s) (λ_ a7=>∃e d,gA e=true/\R e d/\a7=cm l rec e::d))(Yn:∀(b:Nat) (e:dY) (d:ab ay),gA e=true->R e d->Out W D ⟨n.n,b::n.ds⟩ Q e an (gK b::(d++k))):ah P none W D n Q (.rangeFunc g aX.toArray assign body) an ao:=λa w c0 cr=>by
 have Yh:=((cr.Wy Yg).aaL (.deferred (some [])))
 refine wpIn_rangeFunc λfn _=>?_;obtain⟨rec,t⟩:∃rec:LoopState->aT Code->Loop,rec=λst LW=>{state:=st,pending:=LW,fn,tmps:=a.tmps,params:=aX.toArray,assign,body,defers:=w.heap.size}:=⟨_,rfl⟩
 have c2:re rec:=by subst t;exact⟨λ_ _=>rfl,λ_ _=>rfl,λ_ _ _=>rfl,λ_ _ _ _=>rfl⟩
 have Yk:=Yh.aaL (.loop (rec .ready none));rw[World.size_alloc]at Yk;have Yj:a.eval g=.func (.func y) #[] o.toArray:=c0.eval bG;have Yl:∀(args:Array aj) (w:a2),(callFunc y args).run P w=.ok (.enter y args) w:=λargs w=>xF Yc args w;refine⟨w.heap.size+1,[mark w.heap.size],(w.alloc (.deferred (some []))).alloc (.loop (rec .ready none)),{target:=.fn (.func y) o.toArray,args:=#[.func (.yield (w.heap.size+1)) #[] #[]]},(w.alloc (.deferred (some []))).alloc (.loop (rec .ready none)),y,
  #[.func (.yield (w.heap.size+1)) #[] #[]]++o.toArray,(w.alloc (.deferred (some []))).alloc (.loop (rec .ready none)),?_,?_,?_,?_,λh=>VL,?_⟩
 .subst t;exact run_enterLoop_outer _ _ _ _ _
 .simp only[resolve,Yj];simp[Deferred.ofValue,Act.eval]
 .intro aiP _;trivial
 .simp[invoke,Yl]
 .have Yo:dx ⟨n.n,[]⟩ an {tmps:=a.tmps,defers:=[]}:=⟨c0.size,rfl,c0.get⟩
  have fX:∀i,lx P (w.heap.size+1) (A i) [cm (w.heap.size+1) rec .normal,S i] (λv a7=>∃e z,v=.bool (fu e)/\gA e=true/\T i e z/\a7=[cm (w.heap.size+1) rec e,z]):=λi=>
   lx.acr (fn:=fn) (Yf:=a.tmps) (aX:=aX) (assign:=assign) (body:=body) c2 (λst j=>by subst t;exact⟨rfl,rfl,rfl,rfl,rfl⟩) Yo cn (dd i) (λeK K cJ=>round i _ rec c2 eK K cJ)
  have x:=Yi (w.heap.size+1) rec fX;have c5:cm (w.heap.size+1) rec .normal=b3 (w.heap.size+1) (.loop (rec .ready none)):=by rw[wm];rfl
  have Ym:H W D ((cm (w.heap.size+1) rec .normal::oF::s)++(gK w.heap.size::k)) ((w.alloc (.deferred (some []))).alloc (.loop (rec .ready none))):=by rw[c5,gK];refine Yk.perm ?_;simp only[mQ];refine tp _ ?_;have:=(ow (a:=b3 w.heap.size (.deferred (some []))) (l₁:=oF::s) (l₂:=k)).symm;simpa using this
  have eV:hS (cm (w.heap.size+1) rec .normal::oF::s) ((w.alloc (.deferred (some []))).alloc (.loop (rec .ready none))):=by refine⟨λe dg=>Ym.gq e (by simp only[eh];exact .inl dg),?_⟩;have:=Ym.nodup;exact Mb
  have Yf:=x _ eV;have Ye:=(callsIn_wide (n:=0)).2 Yf;have bx:(#[Value.func (.yield (w.heap.size+1)) #[] #[]]++o.toArray)=(Value.func (.yield (w.heap.size+1)) #[] #[]::o).toArray:=VK
  rw[bx];refine CallsIn.mono (F:=nj none) (n:=0-1) Ye ?_;rintro e jk⟨v,a7,rfl,⟨e,d,cE,ep,rfl⟩,Yp⟩;have t:=Ym.call Yp;have g:=t.mem (e:=cm (w.heap.size+1) rec e) VK;rw[wm,s9]at g;have v:=run_endLoop (P:=P) g (by rw[c2.state];split<;>simp);rw[c2.Gt,c2.pending]at v;refine⟨oD e,_,v,?_⟩;have g:dx ⟨n.n,w.heap.size::n.ds⟩ an {a with defers:=[mark w.heap.size]++a.defers}:=⟨c0.size,by simp[c0.defers],c0.get⟩
  have o:H W D (gK w.heap.size::(d++k)) (jk.putObj (w.heap.size+1) (.loop (rec .exhausted (oD e)))):=by
   have b:H W D (cm (w.heap.size+1) rec e::(d++(gK w.heap.size::k))) jk:=Ul
   have y:=H.aal (e:=cm (w.heap.size+1) rec e) (.loop (rec .exhausted (oD e))) (by rw[wm,uC]) b;refine y.perm ?_;exact ow
  have:=Yn w.heap.size e d cE ep _ _ g o;exact Code.iF cE this
end
variable{rec:LoopState->aT Code->Loop}{body:Code}
section
variable{r:aT Nat}{Z:bJ}{a7 bg:ab ay}{w:a2}
def ar.conv{f:fb}{y:aj->ab ay->Prop}(h:ar P f args ao R)(t:∀w,hS bg w->hS ao w)(b:br bg=br ao)(o:∀v a7,R v a7->∃k,y v k/\∀W D w,H W D a7 w->H W D k w):ar P f args bg y:=λw s=>
 (h w (t w s)).mono λ_ _ ⟨v,a7,j,z,i⟩=>by obtain⟨k,g,d⟩:=o v a7 z;exact⟨v,k,j,g,by rw[b];exact d _ _ _ i⟩
def lx.conv{l:Nat}{y:aj->ab ay->Prop}(h:lx P l args ao R)(t:∀w,hS bg w->hS ao w)(b:br bg=br ao)(o:∀v a7,R v a7->∃k,y v k/\∀W D w,H W D a7 w->H W D k w):lx P l args bg y:=λw s=>by obtain⟨fn,y,assign,body,g,d⟩:=h w (t w s);refine⟨fn,y,assign,body,g,d.mono λe z ⟨v,a7,j,t,i⟩=>?_⟩;obtain⟨k,g,d⟩:=o v a7 t;exact⟨v,k,j,g,by rw[b];exact d _ _ _ i⟩
def sg(P:b1)(j:fb)(k:ab aj)(o:ab ay)(L:bB->ab aj)(g:ab bB)(i:ab ay):Prop:=
 ∀(l:Nat) (d:Type) (G X:ab bB->d->Prop) (S:d->ay) (z:d),G [] z->
  (∀pre x y b,g=pre++x::y->G pre b->lx P l (L x) [S b] (λv a7=>∃d t,v=.bool t/\(t=true->G (pre++[x]) d)/\(t=false->X (pre++[x]) d)/\a7=[S d]))->
  ar P j (.func (.yield l) #[] #[]::k) (S z::o) (λ_ a7=>∃d,(G g d\/∃pre,pre<+:g/\X pre d)/\a7=S d::i)
def Way{g:Type}(G:ab bB->g->Prop)(X:dY->ab bB->g->Prop)(pre:ab bB)(e:dY)(b:g):Prop:=
 match e with
 |.normal=>G pre b
 |e=>X e pre b
def Out.rd{g:Type}{l:Nat}{T:dY->g->Prop}{S:g->ab ay}{K:da}{v:ab ay}(k:∀e b,gA e=true->T e b->∀a w,H W D (kl l rec::S b) w->K e a w)(b:g)(j:T e b)(g:ak ao (kl l rec::S b) v:=by(repeat(first|exact ak.nil|exact al.here|apply ak.cons|apply al.there)))(s:gA e=true:=by exact rfl):Out W D n K e an ao:=λa w _ i=>k e b s j a w (i.hv g)
def ah.rg{km:Type}{g:bj}{aX:ab Tmp}{assign:Code}{kn:fb}{Yk:ab aj}{L:bB->ab aj}{z:ab bB}{Yi Yg Yh:ab ay}(iG:sg P kn Yk Yi L z Yg)(S:km->ab ay)(G:ab bB->km->Prop)(X:dY->ab bB->km->Prop)(fx:km)(eV:G [] fx)(round:∀pre x Yc b l rec,z=pre++x::Yc->G pre b->re rec->∀(eK:a2) (jV:ab Nat) (K:da),(∀e de,gA e=true->Way G X (pre++[x]) e de->∀a w,H eK jV (kl l rec::S de) w->K e a w)->ah P (some l) eK jV ⟨n.n,[]⟩ (Exit.then (sf P l body K) tt) assign (rf aX (L x) an) (cm l rec .normal::S b))(done:∀b c,G z b->Out W D ⟨n.n,c::n.ds⟩ Q .normal an (gK c::(S b++(Yg++Yh))))(left:∀b c e pre,gA e=true->fu e=false->pre<+:z->X e pre b->Out W D ⟨n.n,c::n.ds⟩ Q e an (gK c::(S b++(Yg++Yh))))(bG:aR an g=some (.func (.func kn) #[] Yk.toArray):=by exact rfl)(Yf:lp P kn=true:=by kernel_rfl)(Yl:ak ao (S fx++Yi) Yh:=by(repeat(first|exact ak.nil|exact al.here|apply ak.cons|apply al.there)))(dd:∀x,aX.length=(L x).length:=by intro _;rfl)(cn:(aX.all λp=>Nat.blt p n.n)=true:=by exact rfl):ah P none W D n Q (.rangeFunc g aX.toArray assign body) an ao:=by
 have Ye:ah P none W D n Q (.rangeFunc g aX.toArray assign body) an (aK (S fx)::(Yi++Yh)):=by
  have Yn:∀{e:dY} {pre:ab bB} {b:km},gA e=true->Way G X pre e b->(fu e=true/\G pre b)\/(fu e=false/\X e pre b):=by
   intro e pre b cE h;cases e with
   |normal=>exact .inl ⟨rfl,h⟩
   |ret=>exact .inr ⟨rfl,h⟩
   |exit id=>exact .inr ⟨rfl,h⟩
   |_=>cases cE
  refine ah.XF (mo:={p:ab bB×bB×ab bB×km//z=p.1++p.2.1::p.2.2.1/\G p.1 p.2.2.2}) (s:=Yi) (k:=Yh) (λi=>L i.1.2.1) (aK (S fx)) (λi=>aK (S i.1.2.2.2)) (λi e cL=>∃de,cL=aK (S de)/\Way G X (i.1.1++[i.1.2.1]) e de)
   (λe Yj=>∃de,Yj=aK (S de)::Yg/\((e=.normal/\G z de)\/(fu e=false/\∃pre,pre<+:z/\X e pre de))) bG Yf ?_ (λi=>dd _) cn ?_ ?_ ?_
  .have:∀(l:ab ay) (s:ay),ak (s::(l++Yh)) (s::l) Yh:=by
    intro l s;refine ak.cons al.here ?_;induction l with
    |nil=>exact ak.nil
    |cons x l mj=>exact ak.cons al.here mj
   exact this Yi _
  .rintro⟨⟨pre,x,Yc,b⟩,o,dA⟩ l rec c2 eK K cJ;have du:br [cm l rec .normal,aK (S b)]=br (cm l rec .normal::S b):=by simp only[jl,wl];simp[br]
   have:=round pre x Yc b l rec o dA c2 eK (br [cm l rec .normal,aK (S b)]) K (λe de cE eo a w cr=>cJ e (aK (S de)) cE ⟨de,rfl,eo⟩ a w (by have d:H eK (br [cm l rec .normal,aK (S b)]) (S de++[kl l rec]) w:=cr.perm (by simpa using(oG (l₁:=[kl l rec]) (l₂:=S de)));exact(d.toBag).perm (hV ..)))
   intro a w c0 cr;refine this a w c0 ?_;have d:=(cr.perm (hV ..)).Ww;exact d.perm VK
  .intro l rec j;have k:=iG l (dY×km) (λpre p=>p.1=.normal/\G pre p.2) (λpre p=>gA p.1=true/\fu p.1=false/\X p.1 pre p.2) (λp=>aK [cm l rec p.1,aK (S p.2)]) (.normal,fx) ⟨rfl,eV⟩ ?_
   .refine k.conv (λw h=>?_) ?_ ?_
    .exact hS.toBag (bg:=[cm l rec .normal,aK (S fx)]) h
    .exact(tr (bg:=[cm l rec .normal,aK (S fx)])).symm
    .rintro v a7⟨⟨e,de⟩,y,rfl⟩;refine⟨cm l rec e::aK (S de)::Yg,⟨e,_,?_,⟨de,rfl,?_⟩,rfl⟩,λW D w h=>h.Ww (bg:=[cm l rec e,aK (S de)])⟩
     .rcases y with⟨h,_⟩|⟨_,_,h,_⟩
      exact Qv
      .exact h
     .rcases y with⟨h,t⟩|⟨pre,cn,_,cd,gw⟩
      .exact .inl ⟨h,t⟩
      .exact .inr ⟨cd,pre,cn,gw⟩
   .rintro pre x Yc⟨e,b⟩ o⟨dg,dA⟩;simp only at dg dA;subst dg;refine(j ⟨(pre,x,Yc,b),o,dA⟩).conv (λw h=>?_) ?_ ?_
    exact TS
    .have:=(tr (bg:=[cm l rec .normal,aK (S b)]) (ao:=[]))
     simpa using this
    .rintro v a7⟨e,cL,rfl,cE,⟨de,rfl,eo⟩,rfl⟩;refine⟨[aK [cm l rec e,aK (S de)]],⟨(e,de),fu e,rfl,λh=>?_,λh=>?_,rfl⟩,λW D w h=>H.toBag (bg:=[cm l rec e,aK (S de)]) (ao:=[]) VR⟩
     .rcases Yn cE eo with⟨d,t⟩|⟨d,t⟩
      .refine⟨?_,t⟩;cases e<;>first|rfl|cases d
      .rw[d]at h;cases h
     .rcases Yn cE eo with⟨d,t⟩|⟨d,t⟩
      .rw[d]at h;cases h
      .exact⟨cE,d,t⟩
  .rintro c e Yj cE⟨de,rfl,y⟩;have conv:∀{e:dY},Out W D ⟨n.n,c::n.ds⟩ Q e an (gK c::(S de++(Yg++Yh)))->Out W D ⟨n.n,c::n.ds⟩ Q e an (gK c::(aK (S de)::Yg++Yh)):=λh a w c0 cr=>by refine h a w c0 ?_;have d:H W D (aK (S de)::(gK c::(Yg++Yh))) w:=cr.perm Ql;exact d.Ww.perm ow
   rcases y with⟨rfl,dA⟩|⟨Ym,pre,Yo,jp⟩
   .exact conv (done de c dA)
   .exact conv (left de c e pre cE Ym Yo jp)
 intro a w c0 cr;refine Ye a w c0 ?_;have d:=cr.Wy Yl;rw[ck]at d;exact d.toBag
end
section
variable{r:aT Nat}{Z:bJ}{a7 bg:ab ay}{w:a2}
variable{X:Op}
instance{x y:aj}:bH 0 [x] [y] [x]:=⟨rfl⟩
instance(priority:=100){o k:Nat}{c:ab aj}:fk o k c (kg o k c):=⟨rfl⟩
instance(priority:=100){o:Nat}{x c:ab aj}:bH o x c (ey o x c):=⟨rfl⟩
def V.aaM(ad:cj P){t E aM b o m:Nat}{g:IntKind}{x y:bj}(d:aR an x=some (av b o))(z:aR an y=some (.int g (k:Int)))(i:te ad.arr t=some (m,E):=by exact rfl)(j:bT ad.ht E=some aM:=by exact rfl)(v:k<m:=by omega):aN P n an ao ⟨some dst,.indexAddr t x y,ba,bd,be,aW⟩ (av b (o+k*aM)):=λa w y _=>by
 have o:=ad.ZH i;have g:(0:Int)<=(k:Int)/\(k:Int)<(m:Int):=⟨ac,ac⟩
 simp only[execOp,y.eval d,y.eval z];simp[Instr.indexAt,cW,asIntOf,eD o,Instr.sureAddr,g,qv (ad.WW j),tn];omega
def V.V6(ad:cj P){t E aM b o m:Nat}{s:IntKind}{i:Int}{x y:bj}(g:aR an x=some (av b o))(d:aR an y=some (.int s i))(am:i=(k:Int))(v:te ad.arr t=some (m,E):=by exact rfl)(z:bT ad.ht E=some aM:=by exact rfl)(j:k<m:=by omega):aN P n an ao ⟨some dst,.indexAddr t x y,ba,bd,be,aW⟩ (av b (o+k*aM)):=by subst am;exact V.aaM ad g d v z j
structure aP(ao bg:ab ay):Prop where
 br:(br ao).Perm (br bg)
 holds:∀w,(az.br ao).Nodup->((∀e,e∈ao->e.holds w)↔(∀e,e∈bg->e.holds w))
def aP.refl(ao:ab ay):aP ao ao:=⟨hI _,λ_ _=>Iff.rfl⟩
def aP.symm(h:aP ao bg):aP bg ao:=⟨h.br.symm,λw y=>(h.holds w (h.br.nodup_iff.2 y)).symm⟩
def aP.trans{v:ab ay}(h:aP ao bg)(k:aP bg v):aP ao v:=⟨h.br.trans k.br,λw y=>(h.holds w y).trans (k.holds w (h.br.nodup_iff.1 y))⟩
def aP.We(h:ao.Perm bg):aP ao bg:=⟨h.flatMap_right _,λ_ _=>⟨λk e j=>k e (h.mem_iff.2 j),λk e j=>k e (h.mem_iff.1 j)⟩⟩
def aP.append{a7 i:ab ay}(h:aP ao bg)(k:aP a7 i):aP (ao++a7) (bg++i):=by
 refine⟨by rw[ke,ke];exact h.br.append k.br,λw y=>?_⟩;rw[ke,gr]at y;have g:=h.holds w y.1;have d:=k.holds w y.2.1;constructor
 .intro q e j;rcases eh.1 j with j|j
  .exact g.1 (λe j=>q e Vx) e j
  .exact d.1 (λe j=>q e Vx) e j
 .intro q e j;rcases eh.1 j with j|j
  .exact g.2 (λe j=>q e Vx) e j
  .exact d.2 (λe j=>q e Vx) e j
def aP.cons(e:ay)(h:aP ao bg):aP (e::ao) (e::bg):=(aP.refl [e]).append h
def aP.aK:aP [az.aK bg] bg:=by
 refine⟨by rw[tr];simp,λw y=>?_⟩;rw[tr,db]at y;constructor
 .intro q e j;have:=q (az.aK bg) VK;rw[se]at this;exact this.1 e j
 .intro q e j;obtain rfl:e=az.aK bg:=by simpa using j
  rw[se];exact⟨q,y⟩
def H.eqv(h:aP ao bg)(k:H W D ao w):H W D bg w:=
 ⟨(h.holds w k.nodup).1 k.gq,h.br.nodup_iff.1 k.nodup,λb g=>k.own b (h.br.mem_iff.2 g),k.cu,k.size,k.os,k.tape,k.output,k.pP⟩
def H.aaN{s:ab Nat}(i:∀b,b∈D↔b∈s)(k:H W D ao w):H W s ao w:=
 ⟨k.gq,k.nodup,λb o=>(k.own b o).imp (i b).1 id,λb g d=>k.cu b g (λh=>d ((i b).1 h)),k.size,k.os,k.tape,k.output,k.pP⟩
def ah.eqv{c:Code}(h:aP ao bg)(k:ah P r W D n Q c an bg):ah P r W D n Q c an ao:=λa w y b=>k a w y (b.eqv h)
def Out.eqv(h:aP ao bg)(k:Out W D n Q e an bg):Out W D n Q e an ao:=λa w y b=>k a w y (b.eqv h)
def ar.eqv{f:fb}{y:aj->ab ay->Prop}(h:aP ao bg)(k:ar P f args bg R)(d:∀v a7,R v a7->∃s,y v s/\aP a7 s):ar P f args ao y:=λw o=>by have g:hS bg w:=(o.start.eqv h).eV;refine(k w g).mono λe t ⟨v,a7,j,o,i⟩=>?_;obtain⟨s,t,g⟩:=d v a7 o;exact⟨v,s,j,t,(i.eqv g).aaN (λb=>h.br.symm.mem_iff)⟩
def lx.eqv{l:Nat}{y:aj->ab ay->Prop}(h:aP ao bg)(k:lx P l args bg R)(o:∀v a7,R v a7->∃s,y v s/\aP a7 s):lx P l args ao y:=λw t=>by have g:hS bg w:=(t.start.eqv h).eV;obtain⟨fn,z,assign,body,d,t⟩:=k w g;refine⟨fn,z,assign,body,d,t.mono λe g ⟨v,a7,j,t,i⟩=>?_⟩;obtain⟨s,z,g⟩:=o v a7 t;exact⟨v,s,j,z,(i.eqv g).aaN (λb=>h.br.symm.mem_iff)⟩
section
def tv(f:bB->ab aj)(E aM:Nat):ab aj->ab (ab bB)->ab ay
 |v::g,l::k=>rows f v E aM l::tv f E aM g k
 |_,_=>[]
variable{f:bB->ab aj}{E aM:Nat}
def CE:∀{k:Nat} {d:ab aj} {s:ab (ab bB)} {v:aj} {l:ab bB},d[k]?=some v->s[k]?=some l->(tv f E aM d s).Perm (rows f v E aM l::tv f E aM (d.eraseIdx k) (s.eraseIdx k))
 |0,v::d,l::s,_,_,t,g=>by simp only[ra,fj]at t g;subst t g;exact hI _
 |k+1,u::d,m::s,v,l,t,g=>by simp only[pV]at t g;simp only[tv,CF];exact((CE t g).cons _).trans (hV ..)
 |0,[],_,_,_,t,_=>by simp at t
 |0,_::_,[],_,_,_,g=>UZ
 |k+1,[],_,_,_,t,_=>by simp at t
 |k+1,_::_,[],_,_,_,g=>UZ
def akE{s:ab (ab bB)}{z:aj}{o:ab bB}(t:k<d.length)(g:k<s.length):(tv f E aM (d.set k z) (s.set k o)).Perm (rows f z E aM o::tv f E aM (d.eraseIdx k) (s.eraseIdx k)):=by have:=CE (f:=f) (E:=E) (aM:=aM) (k:=k) (d:=d.set k z) (s:=s.set k o) (v:=z) (l:=o) (by simp[t]) (by simp[g]);simpa[List.eraseIdx_set_eq]using this
def hw(f:bB->ab aj)(E aM:Nat)(g:ab aj)(k:ab (ab bB)):ay:=az.aK (tv f E aM g k)
def hw.open{s:ab (ab bB)}{v:aj}{l:ab bB}(t:d[k]?=some v)(g:s[k]?=some l):aP [hw f E aM d s] [rows f v E aM l,hw f E aM (d.eraseIdx k) (s.eraseIdx k)]:=
 aP.aK.trans ((aP.We (CE t g)).trans (aP.cons _ aP.aK.symm))
def hw.shut{s:ab (ab bB)}{z:aj}{o:ab bB}(t:k<d.length)(g:k<s.length):aP [rows f z E aM o,hw f E aM (d.eraseIdx k) (s.eraseIdx k)] [hw f E aM (d.set k z) (s.set k o)]:=
 (aP.aK.trans ((aP.We (akE t g)).trans (aP.cons _ aP.aK.symm))).symm
end
def af.bx{K F:ab ay}{u:ab Nat}{U:Nat}{T:Bool}{h s:cc}(i j:Nat)(am:J[i]?=some h)(v:J[j]?=some s)(g:aw P r W D n h an ao (λZ a7=>(∀w,H W D a7 w->fU K w)/\(∀w,H W D a7 w->fU F w)/\af P r W D n J M K F u true U (Y.setIfInBounds i true) Z a7))(d:aw P r W D n s an ao (λZ a7=>(∀w,H W D a7 w->fU K w)/\(∀w,H W D a7 w->fU F w)/\af P r W D n J M K F u true U (Y.setIfInBounds j true) Z a7))(o:(Region.ready .any J Y==[i,j]&&![i,j].isEmpty)=true:=by kernel_rfl)(z:hT an J h.guard=some true:=by exact rfl)(y:hT an J s.guard=some true:=by exact rfl):af P r W D n J M K F u T (U+1) Y an ao:=
 af.each [i,j] o (by
  intro k t;rcases cQ.1 t with rfl|t
  .exact⟨h,am,z,g⟩
  .obtain rfl:k=j:=by simpa using t
   exact⟨s,v,y,d⟩)
end
section
variable{r:aT Nat}
def ah.form{f:bB->ab aj}{v:aj}{E aM:Nat}{l:ab bB}{c:Code}(t:rows f v E aM l∈ao)(y:v=.slice none 0 0->l=[]->ah P r W D n Q c an ao)(d:∀g z,v=.slice (some ⟨g,0,none⟩) l.length z->ah P r W D n Q c an ao):ah P r W D n Q c an ao:=λa w b i=>by
 rcases h6 t w i with⟨o,j⟩|⟨g,z,o,_⟩
 .exact y o j a w b i
 .exact d g z o a w b i
end
section
variable{r:aT Nat}
def ah.of{c:Code}(h:∀a w,dx n an a->H W D ao w->c.wpIn (nj r) 0 P Q a w):ah P r W D n Q c an ao:=h
def ah.get{c:Code}(h:ah P r W D n Q c an ao):∀a w,dx n an a->H W D ao w->c.wpIn (nj r) 0 P Q a w:=h
def Out.of(h:∀a w,dx n an a->H W D ao w->Q e a w):Out W D n Q e an ao:=h
def Out.get(h:Out W D n Q e an ao):∀a w,dx n an a->H W D ao w->Q e a w:=h
def aN.of{o:cc}{v:aj}(h:∀a w,dx n an a->fU ao w->(execOp a.eval o).run P w=.ok (.value v) w):aN P n an ao o v:=h
def aN.get{o:cc}{v:aj}(h:aN P n an ao o v):∀a w,dx n an a->fU ao w->(execOp a.eval o).run P w=.ok (.value v) w:=h
def fU.get{w:a2}(h:fU ao w):∀e,e∈ao->e.holds w:=h
def aw.of{o:cc}(h:∀(K:Act->a2->Prop) (Q:da),(∀Z a7,C Z a7->∀a w,dx n Z a->H W D a7 w->K a w)->∀a w,dx n an a->H W D ao w->nS P r o a w K Q):aw P r W D n o an ao C:=h
def ar.of{f:fb}(h:∀w,hS ao w->Calls P f args.toArray w λe g=>∃v a7,e=.returned v/\R v a7/\H w (br ao) a7 g):ar P f args ao R:=h
def ar.get{f:fb}(h:ar P f args ao R):∀w,hS ao w->Calls P f args.toArray w λe g=>∃v a7,e=.returned v/\R v a7/\H w (br ao) a7 g:=h
end
end Go.az
section
attribute[irreducible] Go.az.ah Go.az.ai Go.az.af Go.az.Out Go.az.aw Go.az.ar Go.az.aN Go.az.fU Go.az.dk
end
