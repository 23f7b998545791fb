/-
 Part of the proof.
-/
import Derived.CallsIn
import Derived.ChangeKeysEq
import Derived.Deep.AppendSrc
import Derived.Deep.MidRow
import Derived.Deep.Quiet
import Derived.Deep.Slices
import Derived.LaidMore
import Derived.Laws.BytesString
import Derived.Laws.Externs
import Derived.Laws.OwnMore
import Derived.Laws.StructEq
import Derived.Lay
import Derived.Lib.AppendZerosOnto
import Derived.Lib.Builder
import Derived.Lib.ConvBytes
import Derived.Lib.ItoaNum
import Derived.Lib.Overlaps
import Derived.Lib.UnsafeStr
import Derived.Maps.RangeRun
import Derived.OpenShut
import Derived.OrdersHeld
import Derived.OrdersIn
import Derived.OwnWalk
import Derived.ProofKit
import Derived.RangeFuncNested
import Derived.RangeFuncRecord
import Derived.SevenTiedAt
import Derived.Shelf.Slices.In.SortNone
import Derived.Shelf.Small.Bits
import Derived.Shelf.Sort.Plain
import Derived.SizedLaws
import Derived.Sort.OwnSorted
import Derived.Stop.Joined
import Derived.TacticsIn
import Derived.WalkKit
import Derived.WideKeyArgs
set_option linter.all false
set_option maxRecDepth 8000
set_option maxHeartbeats 8000000
def uY:=@Go.Act.put_comm
def u2:=@Go.Addr.add_lit
def wP:=@Go.Addr.mk.injEq
def yq:=@Array.all_eq_true_iff_forall_mem
def Es:=@Array.any_eq_true'
def uP:=@Array.getD_eq_getD_getElem?
def Bf:=@Array.getElem?_eq_getElem
def yy:=@Array.getElem?_eq_none
def o4:=@Array.getElem?_eq_some_iff
def og:=@Array.length_toList
def wJ:=@Array.mem_of_getElem?
def Et:=@Array.setIfInBounds_comm
def yG:=@Array.size_append
def Em:=@Array.toArray_toList
def AY:=@Array.toList_append
def yS:=@Array.toList_filter
def yN:=@Array.toList_push
def sI:=@BitVec.ofInt_natCast
def FI:=@BitVec.toNat_and
def ry:=@BitVec.toNat_ofNat
def KU:=@Bool.and_eq_false_iff
def c5:=@Bool.and_eq_true
def Ar:=@Bool.and_eq_true_iff
def vu:=@Bool.and_false
def q8:=@Bool.eq_iff_iff
def sM:=@Bool.false_and
def hM:=@Bool.false_eq_true
def wI:=@Bool.false_or
def tz:=@Bool.not_eq_false
def ty:=@Bool.not_eq_false'
def mq:=@Bool.not_eq_true
def ke:=@Bool.not_eq_true'
def AI:=@Bool.not_true
def Cv:=@Bool.or_eq_false_iff
def iL:=@Bool.or_eq_true
def rR:=@Bool.or_true
def qu:=@Bool.true_and
def TM:=@Go.ChangeSpec.witness_shaped
def TS:=@Go.Claim7.holds_tied_plain_at
def ajN:=@Classical.choose_spec
def nP:=@Eq.refl
def ih:=@Eq.symm
def iy:=@Eq.trans
def Bh:=@Go.ChangeMaps.map_eraseIdx
def sQ:=@Go.Value.slice.injEq
def rt:=@Int.eq_ofNat_of_zero_le
def Bw:=@Int.fdiv_eq_ediv_of_nonneg
def gg:=@Int.le_refl
def mM:=@Int.le_trans
def yd:=@Int.lt_of_lt_of_le
def Nt:=@Int.mul_le_mul_of_nonneg_left
def tO:=@Int.natCast_nonneg
def i3:=@Int.toNat_natCast
def FW:=@Int.toNat_of_nonneg
def aF:=@List.Mem.head
def aG:=@List.Mem.tail
def C4:=@List.Perm.append_left
def Ix:=@List.Perm.append_right
def sg:=@List.Perm.cons
def he:=@List.Perm.refl
def hK:=@List.Perm.swap
def l3:=@List.Perm.trans
def vI:=@List.Sublist.cons
def pJ:=@List.Sublist.cons_cons
def wy:=@List.Sublist.refl
def qx:=@List.Sublist.slnil
def AD:=@List.all_cons
def hq:=@List.all_eq_true
def cn:=@List.append_assoc
def dT:=@List.append_nil
def OP:=@List.concat_eq_append
def re:=@List.cons.injEq
def ly:=@List.cons_append
def Hk:=@List.count_le_length
def wS:=@List.drop_append
def w7:=@List.drop_append_of_le_length
def rb:=@List.drop_drop
def vr:=@List.drop_eq_getElem_cons
def Bn:=@List.drop_left
def si:=@List.drop_of_length_le
def Bd:=@List.drop_succ_cons
def AK:=@List.drop_zero
def Iv:=@List.eq_nil_iff_forall_not_mem
def lW:=@List.eq_nil_of_length_eq_zero
def Hp:=@List.eq_nil_or_concat
def Kp:=@List.eraseIdx_cons_succ
def GY:=@List.eraseIdx_eq_take_drop_succ
def w5:=@List.eraseIdx_sublist
def oi:=@List.ext_getElem?
def nH:=@List.filter_append
def vj:=@List.filter_cons
def Sz:=@List.filter_cons_of_pos
def w1:=@List.filter_eq_self
def Jf:=@List.filter_map
def Bg:=@List.filter_sublist
def xp:=@List.findIdx?_eq_none_iff
def vv:=@List.findIdx?_eq_some_iff_getElem
def m1:=@List.flatMap_append
def gn:=@List.flatMap_cons
def wO:=@List.flatMap_def
def ov:=@List.flatMap_nil
def AQ:=@List.flatten_cons
def vp:=@List.foldl_append
def qh:=@List.foldl_cons
def km:=@List.getD_eq_getElem?_getD
def rh:=@List.getElem?_append_left
def ji:=@List.getElem?_append_right
def sf:=@List.getElem?_cons_succ
def qk:=@List.getElem?_cons_zero
def mY:=@List.getElem?_drop
def hs:=@List.getElem?_eq_getElem
def vk:=@List.getElem?_eq_none
def cT:=@List.getElem?_eq_some_iff
def h9:=@List.getElem?_map
def ro:=@List.getElem?_modify
def sx:=@List.getElem?_of_mem
def yX:=@List.getElem?_replicate
def l0:=@List.getElem?_set
def De:=@List.getElem?_set_ne
def oT:=@List.getElem?_set_self
def lS:=@List.getElem?_take
def b2:=@List.length_append
def dD:=@List.length_cons
def k9:=@List.length_drop
def B4:=@List.length_eraseIdx
def xD:=@List.length_eraseIdx_le
def sP:=@List.length_filter_le
def eT:=@List.length_map
def gv:=@List.length_nil
def pH:=@List.length_pos_iff
def co:=@List.length_set
def ox:=@List.length_singleton
def fp:=@List.length_take
def jo:=@List.map_append
def C5:=@List.map_congr_left
def e7:=@List.map_cons
def Ff:=@List.map_eq_nil_iff
def uq:=@List.map_map
def lU:=@List.map_nil
def sA:=@List.map_toArray
def fd:=@List.mem_append
def sT:=@List.mem_append_left
def Ru:=@List.mem_append_right
def dk:=@List.mem_cons
def hI:=@List.mem_cons_of_mem
def gS:=@List.mem_cons_self
def oz:=@List.mem_filter
def w8:=@List.mem_flatMap
def eS:=@List.mem_map
def jX:=@List.mem_of_getElem?
def JW:=@List.mem_of_mem_eraseIdx
def pC:=@List.mem_range
def i2:=@List.mem_singleton
def gJ:=@List.nil_append
def hH:=@List.nodup_append
def la:=@List.nodup_cons
def pK:=@List.nodup_nil
def jH:=@List.not_mem_nil
def oq:=@List.perm_append_comm
def n8:=@List.perm_middle
def tP:=@List.range_succ
def AL:=@List.replicate_succ
def EN:=@List.set_cons_zero
def FU:=@List.set_eq_take_append_cons_drop
def IR:=@List.set_set
def vl:=@List.singleton_append
def o6:=@List.size_toArray
def EI:=@List.sublist_append_left
def KR:=@List.sublist_cons_self
def xV:=@List.sum_cons
def oj:=@List.take_add_one
def sj:=@List.take_append
def oe:=@List.take_append_drop
def o7:=@List.take_append_of_le_length
def ql:=@List.take_left
def BP:=@List.take_left'
def ir:=@List.take_length
def Fp:=@List.take_length_add_append
def k8:=@List.take_of_length_le
def vf:=@List.take_succ_cons
def Ek:=@List.take_succ_eq_append_getElem
def tG:=@List.take_take
def wR:=@List.take_zero
def JZ:=@Go.MakeChecks.laidMetH_plain
def tF:=@Go.MapKept.run_getObj_map
def qi:=@Nat.add_assoc
def fr:=@Nat.add_mul
def RH:=@Nat.add_sub_cancel_left
def ho:=@Nat.add_zero
def yr:=@Nat.beq_eq
def wA:=@Nat.beq_refl
def mC:=@Nat.blt_eq
def wE:=@Nat.eq_of_beq_eq_true
def jL:=@Nat.le_add_right
def o0:=@Nat.le_of_ble_eq_true
def cD:=@Nat.le_refl
def wN:=@Nat.le_succ
def As:=@Nat.le_succ_of_le
def jy:=@Nat.le_trans
def o1:=@Nat.lt_or_ge
def ri:=@Nat.min_eq_left
def sB:=@Nat.mod_eq_of_lt
def BC:=@Nat.mul_comm
def Bj:=@Nat.mul_le_mul
def kh:=@Nat.mul_le_mul_right
def pd:=@Nat.mul_one
def xn:=@Nat.not_lt_zero
def xd:=@Nat.pow_succ
def BQ:=@Nat.pow_zero
def Bc:=@Nat.sub_zero
def qC:=@Nat.xor_assoc
def BD:=@Nat.xor_comm
def FH:=@Nat.xor_lt_two_pow
def xv:=@Nat.xor_self
def h8:=@Nat.zero_add
def cO:=@Nat.zero_le
def ra:=@Nat.zero_mul
def o5:=@Ne.symm
def TR:=@Go.OpenClaim.holds_of_wide
def AA:=@Option.bind_eq_some_iff
def uT:=@Option.isSome_iff_exists
def E3:=@Option.map_eq_map
def qg:=@Option.map_eq_some_iff
def pc:=@Option.map_some
def hc:=@Option.some.inj
def eY:=@Option.some.injEq
def BX:=@Option.toList_none
def w4:=@Option.toList_some
def wg:=@Or.inl
def u0:=@Or.inr
def wL:=@Prod.mk.inj
def ny:=@Prod.mk.injEq
def AJ:=@Go.Region.free_spec
def dW:=@Go.Result.andThen_ok
def cK:=@Go.Sem.run_bind
def eP:=@Go.Sem.run_pure
def u4:=@Go.Src.ofSlice
def rf:=@Go.Value.slice.injEq
def EP:=@Go.World.alloc_heap_new
def EK:=@Go.World.ownsRow_nil
def uV:=@Go.World.putObj_heap_other
def sn:=@Go.World.putObj_heap_same
def pe:=@and_false
def mw:=@and_true
def dF:=@beq_eq_false_iff_ne
def cX:=@beq_iff_eq
def wB:=@cond_false
def r4:=@cond_true
def dp:=@congrArg
def dC:=@decide_eq_decide
def lg:=@decide_eq_false
def jZ:=@decide_eq_false_iff_not
def ic:=@decide_eq_true
def dl:=@decide_eq_true_eq
def tD:=@decide_false
def Cd:=@decide_true
def yE:=@Go.grownCap_ge
def yF:=@Go.grownCap_le_maxLen
def yH:=@Go.growslice_fits
def yo:=@Go.heap_alloc_new
def tm:=@Go.heap_alloc_old
def iq:=@if_false
def aM:=@if_neg
def aQ:=@if_pos
def h7:=@if_true
def q9:=@Go.mem_ready
def dg:=@ne_eq
def qo:=@not_false_eq_true
def qw:=@not_or
def tA:=@not_true_eq_false
def wK:=@of_decide_eq_true
def gx:=@or_false
def sa:=@Go.ready_mono
def TL:=@Go.returnsInHanded_of_change_and
def AZ:=@Go.run_append_grow_src
def u3:=@Go.run_firstCells_some
def Aw:=@Go.run_loadVar_mid
def pD:=@Go.run_sizeOf
def tq:=@Go.run_storeCells_at
def et:=@Go.run_underlying
def q4:=@Go.setRow_heap
def wz:=@Go.setRow_other
def AX:=@Go.size_zeroCells
def tr:=@Go.wpIn_mono
abbrev ab:=@List
abbrev aj:=Go.Value
abbrev aT:=@Option
abbrev aS:=UInt8
abbrev aZ:=Go.World
abbrev a7:=Go.TypeId
abbrev bf:=Go.Operand
abbrev bU:=Go.Program
abbrev b6:=Go.Oper
abbrev dI:=Go.Exit
abbrev eR:=Go.FuncId
def ac{p:Prop}(h:p:=by omega):p:=h
def T1{p:Prop}(h:p:=by(repeat first|exact aF _|apply aG)):p:=h
def Uc{p:Prop}(h:p:=by(repeat(first|exact ak.nil|exact al.here|apply ak.cons|apply al.there))):p:=h
def T7{p:Prop}(h:p:=by kernel_rfl):p:=h
def T3{p:Prop}(h:p:=by simp):p:=h
def T6{p:Prop}(h:p:=by decide):p:=h
def TX{p:Prop}(h:p:=by assumption):p:=h
def T2{p:Prop}(h:p:=by repeat first|exact az.here _ _ _|apply az.there):p:=h
def Uh{p:Prop}(h:p:=by grind):p:=h
def Ue{p:Prop}(h:p:=by refine cz ?_;rw[adS,D];clear ao X q L G;(simp_all<;>omega)):p:=h
def T8{p:Prop}(h:p:=by(intro _;repeat first|exact az.here _ _ _|apply az.there)):p:=h
def T9{p:Prop}(h:p:=by refine ajQ ?_;(try simp only[cX,dF,dg,dC]at*);(simp[cZ,u,L]<;>omega)):p:=h
def Ua{p:Prop}(h:p:=by cases h):p:=h
def Ui{p:Prop}(h:p:=by simp;omega):p:=h
def Uk{p:Prop}(h:p:=by show i+1<=_;omega):p:=h
def RN{p:Prop}(h:p:=by rw[co];omega):p:=h
def T4{p:Prop}(h:p:=by(repeat first|exact az.here _ _ _|apply az.there)):p:=h
def TY{p:Prop}(h:p:=by show Z.length-(i+1)<Z.length-i;omega):p:=h
def TZ{p:Prop}(h:p:=by simp[bd];omega):p:=h
def Uj{p:Prop}(h:p:=by simp at h):p:=h
def Ub{p:Prop}(h:p:=by simpa using h):p:=h
def Ti{p:Prop}(h:p:=by rw[co];exact C):p:=h
def Ot{p:Prop}(h:p:=by rw[co];exact J):p:=h
def R7{p:Prop}(h:p:=by exact⟨_,_,⟨_,_,rfl,rfl⟩,(by(repeat(first|exact ak.nil|exact al.here|apply ak.cons|apply al.there)))⟩):p:=h
def Lk{p:Prop}(h:p:=by dsimp only;omega):p:=h
def Qz{p:Prop}(h:p:=by rw[<-T];rfl):p:=h
def Of{p:Prop}(h:p:=by simp[z]):p:=h
def St{p:Prop}(h:p:=by simp only[hM,pe,gx];(try simp_all);first|done|(split<;>first|rfl|omega)|omega):p:=h
def QG{p:Prop}(h:p:=by simp only[mw];(try simp_all);first|done|(split<;>first|rfl|omega)|omega):p:=h
def Sw{p:Prop}(h:p:=by rintro _ _ _ _ _ _ _ h;exact h.elim):p:=h
def OR{p:Prop}(h:p:=by repeat first|exact aF _|apply aG):p:=h
def Pv{p:Prop}(h:p:=by split<;>rfl):p:=h
def K6{p:Prop}(h:p:=by cases F):p:=h
def Mt{p:Prop}(h:p:=by rw[fp];omega):p:=h
def SB{p:Prop}(h:p:=by show j+1<=_;omega):p:=h
def SN{p:Prop}(h:p:=by rw[N]):p:=h
def LU{p:Prop}(h:p:=by rw[u];rfl):p:=h
def Nc{p:Prop}(h:p:=by rw[b]):p:=h
def SZ{p:Prop}(h:p:=by simpa using b3):p:=h
def Rz{p:Prop}(h:p:=by simpa using dU):p:=h
def Ks{p:Prop}(h:p:=by apply_assumption;assumption):p:=h
def J7{p:Prop}(h:p:=by simp[bd,K.nL]):p:=h
def Kq{p:Prop}(h:p:=by rw[G];simp):p:=h
def OK{p:Prop}(h:p:=by simp[t]):p:=h
def Rn{p:Prop}(h:p:=by simp only[maxLen];omega):p:=h
def ML{p:Prop}(h:p:=by rw[P];(repeat(first|exact ak.nil|exact al.here|apply ak.cons|apply al.there))):p:=h
def QR{p:Prop}(h:p:=by show k+1<=_;omega):p:=h
def K0{p:Prop}(h:p:=by rw[aW]):p:=h
def SD{p:Prop}(h:p:=by simpa using t):p:=h
def LX{p:Prop}(h:p:=by simpa using z):p:=h
def Re{p:Prop}(h:p:=by simpa using L):p:=h
def Qk{p:Prop}(h:p:=by show 7-(k+1)<7-k;omega):p:=h
def NT{p:Prop}(h:p:=by unfold eW;clear X L q;simp only[dg]at*;(simp_all<;>omega)):p:=h
def Qq{p:Prop}(h:p:=by have:=h.size;omega):p:=h
def LY{p:Prop}(h:p:=by rw[d.length_eq,T]):p:=h
def N9{p:Prop}(h:p:=by intro j N E a;simp only[kb,dk,jH,gx]at N;rcases N with rfl|rfl|rfl|rfl|rfl|rfl|rfl|rfl|rfl|rfl<;>first|exact absurd rfl E|exact⟨rfl,rfl⟩|exact(F (by decide) a).elim|exact(F (by decide) (h.q0 a)).elim):p:=h
def Tr{p:Prop}(h:p:=by have:=p.r;have:=p.jr;omega):p:=h
def Tm{p:Prop}(h:p:=by simp at t):p:=h
def LL{p:Prop}(h:p:=by simp only at h;subst h;rfl):p:=h
def OA{p:Prop}(h:p:=by simpa using hu):p:=h
def Ou{p:Prop}(h:p:=by unfold ge;(repeat first|exact aF _|apply aG)):p:=h
def Pd{p:Prop}(h:p:=by rw[mC];simp[cm];omega):p:=h
def NC{p:Prop}(h:p:=by show k+1<=7;omega):p:=h
def Rl{p:Prop}(h:p:=by simp[p]):p:=h
def SR{p:Prop}(h:p:=by exact⟨_,_,.inr ⟨T,_,rfl,rfl⟩,(by(repeat(first|exact ak.nil|exact al.here|apply ak.cons|apply al.there)))⟩):p:=h
def Mg{p:Prop}(h:p:=by rw[<-u];rfl):p:=h
def Sl{p:Prop}(h:p:=by simp[bd]):p:=h
def NA{p:Prop}(h:p:=by rw[v.cut];exact h.cut):p:=h
def Mm{p:Prop}(h:p:=by rw[m];exact h):p:=h
def Rb{p:Prop}(h:p:=by rw[Z];exact h):p:=h
def PF{p:Prop}(h:p:=by cases Z):p:=h
def Oo{p:Prop}(h:p:=by simpa using G):p:=h
def KT{p:Prop}(h:p:=by push_cast;omega):p:=h
def Qw{p:Prop}(h:p:=by unfold cY;omega):p:=h
def Lw{p:Prop}(h:p:=by simp[U]):p:=h
def Rs{p:Prop}(h:p:=by rw[P];(repeat(first|exact de.nil|refine de.cons rfl rfl ?_))):p:=h
def TI{p:Prop}(h:p:=by rw[w.h];exact u):p:=h
def adi{p:Prop}(h:p:=by decide+kernel):p:=h
def J5{p:Prop}(h:p:=by have:=h.len;omega):p:=h
def Q1{p:Prop}(h:p:=by show s.out.length<=_;omega):p:=h
def O2{p:Prop}(h:p:=by unfold cb eN;(repeat(first|exact ak.nil|exact al.here|apply ak.cons|apply al.there))):p:=h
def TH{p:Prop}(h:p:=by simp[hR];omega):p:=h
def Lq{p:Prop}(h:p:=by intro h;cases h):p:=h
def My{p:Prop}(h:p:=by rw[h]at y;cases y):p:=h
def S1{p:Prop}(h:p:=by simp[MapKept.IsKey]):p:=h
def O8{p:Prop}(h:p:=by obtain⟨p,q,rfl,_⟩:=dO.split;simp):p:=h
def RC{p:Prop}(h:p:=by rintro r J⟨rfl,rfl⟩;exact⟨_,⟨rfl,rfl⟩,w.symm⟩):p:=h
def M1{p:Prop}(h:p:=by rintro r J⟨rfl,rfl⟩;exact⟨_,⟨rfl,rfl⟩,ep.bare.symm⟩):p:=h
def Q3{p:Prop}(h:p:=by simpa using u):p:=h
def Th{p:Prop}(h:p:=by have:=(cT.1 K).1;rwa[bX.UE]at this):p:=h
def TD{p:Prop}(h:p:=by rw[bX.UE];omega):p:=h
def FM{p:Prop}(h:p:=by show l.length-(i+1)<l.length-i;omega):p:=h
def Sh{p:Prop}(h:p:=by rw[aM e,aM (λh=>e h.2.2)]):p:=h
def OJ{p:Prop}(h:p:=by simp only[Go.maxLen]at N;omega):p:=h
def QK{p:Prop}(h:p:=by show k+1<=b;omega):p:=h
def Po{p:Prop}(h:p:=by rw[C];(repeat(first|exact ak.nil|exact al.here|apply ak.cons|apply al.there))):p:=h
def SW{p:Prop}(h:p:=by rw[w.pre];omega):p:=h
def LI{p:Prop}(h:p:=by grind [du.parts,List.append_assoc]):p:=h
def NV{p:Prop}(h:p:=by rw[aQ G]at D;refine aq 15 λM=>?_;refine aa 15 ?_;refine ai.o (O.Q' ad aN.c [p.Call] rfl (bI.agg rfl bI.nil) rfl rfl (λYf=>?_));refine ai.p' rfl (dv _) ?_;refine aa 9 ?_;rotate_left;all_goals(refine Out.z' U (i+1) ?_ (by show Z.length-(i+1)<Z.length-i;omega) (t:=by rw[D];(repeat(first|exact ak.nil|exact al.here|apply ak.cons|apply al.there)));exact (by show i+1<=_;omega))):p:=h
def Pk{p:Prop}(h:p:=by rw[aM G]at D;refine aq 15 λM=>?_;refine aa 18 ?_;rotate_left;all_goals(refine Out.z' U (i+1) ?_ (by show Z.length-(i+1)<Z.length-i;omega) (t:=by rw[D];(repeat(first|exact ak.nil|exact al.here|apply ak.cons|apply al.there)));exact (by show i+1<=_;omega))):p:=h
def RR{p:Prop}(h:p:=by rw[k];simp):p:=h
def Qb{p:Prop}(h:p:=by exact⟨_,_,⟨_,G,rfl,rfl⟩,(by(repeat(first|exact ak.nil|exact al.here|apply ak.cons|apply al.there)))⟩):p:=h
def Qn{p:Prop}(h:p:=by subst i;(repeat(first|exact ak.nil|exact al.here|apply ak.cons|apply al.there))):p:=h
def R4{p:Prop}(h:p:=by grind [aC.Uw]):p:=h
def QD{p:Prop}(h:p:=by show s.n<=7;omega):p:=h
def OZ{p:Prop}(h:p:=by show s.inbox.length<=_;omega):p:=h
def Sv{p:Prop}(h:p:=by exact qV (k:=0) rfl (by decide)):p:=h
def SQ{p:Prop}(h:p:=by first|exact⟨_,_,⟨true,(by intro h;cases h),rfl,rfl⟩,(by(repeat(first|exact ak.nil|exact al.here|apply ak.cons|apply al.there)))⟩|exact⟨_,_,⟨_,(by intro h;simp at h;exact⟨by omega,by omega,v⟩),rfl,rfl⟩,(by(repeat(first|exact ak.nil|exact al.here|apply ak.cons|apply al.there)))⟩):p:=h
def OH{p:Prop}(h:p:=by rw[P]at h;exact h):p:=h
def L5{p:Prop}(h:p:=by rw[z]at h;exact h):p:=h
def Tb{p:Prop}(h:p:=by rw[dx]at dz;cases dz):p:=h
def K8{p:Prop}(h:p:=by show((i.toNat:Nat):Int)=i;omega):p:=h
def cB{p:Prop}(h:p:=by rw[K]at M;cases M):p:=h
def QL{p:Prop}(h:p:=by rw[T]at M;cases M):p:=h
def K7{p:Prop}(h:p:=by rw[fP];show m∈U.inbox;rw[N];exact gS):p:=h
def TE{p:Prop}(h:p:=by rename_i F;exact⟨F,M,D⟩):p:=h
def NR{p:Prop}(h:p:=by simp only[m,dif_pos h];exact ajN (ex a w h)):p:=h
def PA{p:Prop}(h:p:=by simp[execOp,j.eval g,j.eval d,eqGuard,binOp,Op.intArith,IntWalk.i64_in _ o]):p:=h
def QN{p:Prop}(h:p:=by rw[<-uY a v u g];exact y):p:=h
def adZ{p:Prop}(h:p:=by rw[e]at this;simp at this):p:=h
def Oq{p:Prop}(h:p:=by simp[bn,h6,Value.ownBlock]):p:=h
def TU{p:Prop}(h:p:=by obtain⟨x,_,rfl⟩:=eS.1 d;exact v x):p:=h
def RT{p:Prop}(h:p:=by have:=hn.UO (be:=[ce l rec .normal,aL (S b)]) (an:=[]) h;simpa using this):p:=h
def Oa{p:Prop}(h:p:=by simpa using hK ..):p:=h
def Nl{p:Prop}(h:p:=by rw[h b (by simp)];exact bH):p:=h
def LH{p:Prop}(h:p:=by rw[iJ,fs,h6];simp[bn,Value.ownBlock]):p:=h
def Nq{p:Prop}(h:p:=by rw[<-fr];exact kh _ (by omega)):p:=h
def LZ{p:Prop}(h:p:=by rw[v];exact hq.1 (bg.flat _)):p:=h
def OQ{p:Prop}(h:p:=by unfold qA;split<;>simp_all<;>omega):p:=h
def Nv{p:Prop}(h:p:=by simp[aJ.at,bq,G.1.1.1,G.1.1.2,G.1.2,G.2,Q]):p:=h
def PE{p:Prop}(h:p:=by rintro r J⟨ei,lC,rfl,rfl⟩;exact⟨_,⟨q.set k ei,i.set k lC,by simpa using dU,by simpa using hu,rfl,rfl⟩,ep.shut (by omega) (by omega) (by omega) (by omega)⟩):p:=h
def PK{p:Prop}(h:p:=by rw[cy];exact vn (by omega) (by omega)):p:=h
def Qj{p:Prop}(h:p:=by rintro r J⟨rfl,rfl⟩;exact⟨_,⟨q,i,dU,hu,rfl,rfl⟩,ep.bare.symm⟩):p:=h
def Rq{p:Prop}(h:p:=by simp only[b2];omega):p:=h
def Nj{p:Prop}(h:p:=by exact⟨_,_,⟨⟨E,o,C,D⟩,rfl,rfl⟩,(by(repeat(first|exact ak.nil|exact al.here|apply ak.cons|apply al.there)))⟩):p:=h
def PJ{p:Prop}(h:p:=by cases m.cL<;>decide):p:=h
def Ki{p:Prop}(h:p:=by cases i.cL<;>decide):p:=h
def PV{p:Prop}(h:p:=by exact⟨_,_,⟨_,_,_,rfl,rfl⟩,(by(repeat(first|exact ak.nil|exact al.here|apply ak.cons|apply al.there)))⟩):p:=h
def Qi{p:Prop}(h:p:=by exact⟨none,0,0,0,rfl,Rd.nil⟩):p:=h
def Ri{p:Prop}(h:p:=by simp only[b2,dD,gv];omega):p:=h
def SP{p:Prop}(h:p:=by show w.length-(i+1)<w.length-i;omega):p:=h
def NE{p:Prop}(h:p:=by show 5-(j+1)<5-j;omega):p:=h
def P2{p:Prop}(h:p:=by show a+1<=k+1;omega):p:=h
def PI{p:Prop}(h:p:=by refine aa 14 ?_;exact Out.z' w i d trivial):p:=h
def Nu{p:Prop}(h:p:=by rw[mC,eu.len w];omega):p:=h
def NF{p:Prop}(h:p:=by show Z-(k+1)<Z-k;omega):p:=h
def L9{p:Prop}(h:p:=by(repeat(first|exact de.nil|refine de.cons rfl rfl ?_))):p:=h
def N2{p:Prop}(h:p:=by show F.length-(j+1)<F.length-j;omega):p:=h
def LP{p:Prop}(h:p:=by have:=w.ez;omega):p:=h
def S8{p:Prop}(h:p:=by exact⟨_,_,⟨none,0,0,h,g,ix,rfl,rfl⟩,(by(repeat(first|exact ak.nil|exact al.here|apply ak.cons|apply al.there)))⟩):p:=h
def PG{p:Prop}(h:p:=by rename_i j;rw[aM j];exact ai8 m i h):p:=h
def Tf{p:Prop}(h:p:=by unfold cb;(repeat(first|exact ak.nil|exact al.here|apply ak.cons|apply al.there))):p:=h
def Rj{p:Prop}(h:p:=by show a8 (bx _ _ _) _=_;rw[hw,aQ rfl]):p:=h
def No{p:Prop}(h:p:=by rintro v J⟨Y,R,rfl,rfl⟩;exact⟨_,⟨(Y,R),rfl,rfl⟩,λ_ _ _ h=>h⟩):p:=h
def Mq{p:Prop}(h:p:=by rw[mC,dK.len];omega):p:=h
def KE{p:Prop}(h:p:=by exact⟨rfl,rfl,rfl,_,rfl,rfl,rfl,rfl⟩):p:=h
def QV{p:Prop}(h:p:=by unfold b5 dw dL;(repeat(first|exact ak.nil|exact al.here|apply ak.cons|apply al.there))):p:=h
def MU{p:Prop}(h:p:=by show c.aH.length-(i+1)<c.aH.length-i;omega):p:=h
def Ob{p:Prop}(h:p:=by show Z.length-(k+1)<Z.length-k;omega):p:=h
def O3{p:Prop}(h:p:=by show cH ⟨0,x.a1⟩ n=true;simp[cH,M,L]):p:=h
def Mc{p:Prop}(h:p:=by show¬((2:Int)=8);decide):p:=h
def Pf{p:Prop}(h:p:=by show(3:Int)≠1;omega):p:=h
def L4{p:Prop}(h:p:=by show(3:Int)≠2;omega):p:=h
def Lx{p:Prop}(h:p:=by show(1:Int)<=3;omega):p:=h
def Kd{p:Prop}(h:p:=by show(1:Int)≠2;omega):p:=h
def RD{p:Prop}(h:p:=by show(1:Int)≠3;omega):p:=h
def KF{p:Prop}(h:p:=by rw[v.qe]at D;exact D):p:=h
def QI{p:Prop}(h:p:=by show(0:Int)<=((i.toNat:Nat):Int);omega):p:=h
def L8{p:Prop}(h:p:=by show((i.toNat:Nat):Int)<n;omega):p:=h
def Lp{p:Prop}(h:p:=by rw[T];exact c.gO):p:=h
def RO{p:Prop}(h:p:=by show Result.ok (Next.value (a.eval x)) w=_;rw[j.eval t]):p:=h
def Kh{p:Prop}(h:p:=by cases x<;>first|(cases h;done)|(cases y<;>first|rfl|(cases h;done))):p:=h
def Oe{p:Prop}(h:p:=by subst z;simp[execOp,j.eval g,j.eval d,eqGuard,binOp,Op.shift,show¬q<0 by omega]):p:=h
def Lu{p:Prop}(h:p:=by have:=aO.append (an:=[aL (S d)]) aO.aL (aO.refl (Z (ch d)++(L++j)));simpa using this):p:=h
def P8{p:Prop}(h:p:=by have:=dp List.length R;simpa using this):p:=h
def N8{p:Prop}(h:p:=by unfold partAt;rw[aM (by omega)];simp[u2]):p:=h
def LF{p:Prop}(h:p:=by have:=dp List.length T;simpa using this):p:=h
def RQ{p:Prop}(h:p:=by apply oi;intro j;rw[tx _ _ _ _ (by simp[cm];omega)];simp only[cm,pd,dD,gv];grind):p:=h
def QW{p:Prop}(h:p:=by simp only[aJ.h,aJ.new,km,yX];split<;>rfl):p:=h
def Mi{p:Prop}(h:p:=by refine aq 2 λs=>?_;refine aq 0 λN=>?_;refine aq 5 λP=>?_;refine aa 4 ?_;refine ah.n' ?_ aB.d'.d'.d'.d'.d'.d'.j.j;refine ae 7 0 ?_;refine af.i' 7 rfl (V.C' ad (z:=cm.r)) ?_;refine ae 12 8 ?_;refine af.i' 20 rfl (V.C' ad (z:=aR)) ?_;refine ae 4 21 ?_;refine bE 31 ?_;refine ae 6 25 ?_;refine af.i' 31 rfl (V.C' ad (z:=sH)) ?_;refine ae 4 32 ?_;refine af.i' 36 rfl (V.UH ad rfl (by(repeat first|exact aF _|apply aG)) (λ_=>rfl) (by assumption)) ?_;refine ae 2 37 ?_;exact aP 13):p:=h
def O9{p:Prop}(h:p:=by refine aq 2 λs=>?_;refine aq 0 λN=>?_;refine aq 5 λP=>?_;refine aa 4 ?_;refine ah.n' ?_ aB.d'.d'.d'.d'.d'.d'.j.j;refine ae 7 0 ?_;refine af.i' 7 rfl (V.C' ad (z:=cm.r)) ?_;refine ae 12 8 ?_;refine af.i' 20 rfl (V.C' ad (z:=aR)) ?_;refine ae 4 21 ?_;refine bE 31 ?_;refine ae 6 25 ?_;refine af.i' 31 rfl (V.C' ad (z:=sH)) ?_;refine ae 4 32 ?_;refine af.i' 36 rfl (V.UH ad rfl (by(repeat first|exact aF _|apply aG)) (λ_=>rfl) (by assumption)) ?_;refine ae 2 37 ?_;refine aa 6 ?_;refine ah.n' ?_ aB.d'.d'.d'.d'.d'.d'.j.j;refine ae 6 0 ?_;refine af.i' 6 rfl (V.C' ad (z:=aR)) ?_;refine ae 4 7 ?_;refine af.i' 11 rfl (V.H' ad rfl (by(repeat first|exact aF _|apply aG)) (λ_=>rfl) (by assumption)) ?_;refine ae 2 12 ?_;exact aP 4):p:=h
def N5{p:Prop}(h:p:=by simp only[IntKind.wrap,IntKind.signed,IntKind.bits];simp):p:=h
def PS{p:Prop}(h:p:=by subst E;exact⟨_,_,⟨_,rfl,rfl⟩,ak.cons al.here (ak.cons al.here ak.nil)⟩):p:=h
def QZ{p:Prop}(h:p:=by simp only[IntKind.wrap,IntKind.signed,IntKind.bits];simp;omega):p:=h
def KP{p:Prop}(h:p:=by refine aE Tryz.func169 λW=>?_;refine aq 2 λp=>?_;exact aP 29):p:=h
def SM{p:Prop}(h:p:=by first|(simp_all;done)|(simp only[o,tD,sM,qu,vu];done)|(simp only[o,tD,sM,qu,vu];rfl)):p:=h
def Qs{p:Prop}(h:p:=by rintro r J⟨z,U,rfl⟩;exact⟨_,⟨z,U,rfl⟩,aO.aL.symm⟩):p:=h
def Qg{p:Prop}(h:p:=by refine aE Tryz.func221 λW=>?_;refine aq 2 λm=>?_;refine aa 14 ?_;refine ah.n' ?_ aB.d'.d'.d'.d';refine ae 5 0 ?_;refine af.bv 5 9 rfl rfl ?_ ?_;refine av.Z' rfl (b) (by(repeat(first|exact ak.nil|exact al.here|apply ak.cons|apply al.there))) ?_;refine aa 2 ?_;refine ae 3 6 ?_;refine df 9 λg=>?_;refine ae 2 10 ?_;exact aP 10;refine O.N' ad (λg=>?_);refine au ?_;refine af.p' 5 rfl rfl (b) ?_;refine aa 2 ?_;refine ae 3 6 ?_;refine ae 2 10 ?_;exact aP 10):p:=h
def rC{p:Prop}(h:p:=by refine aE Tryz.func222 λW=>?_;refine aq 2 λm=>?_;refine aa 14 ?_;refine ah.n' ?_ aB.d'.d'.d'.d';refine ae 5 0 ?_;refine af.p' 5 rfl rfl (b) ?_;refine aa 2 ?_;refine ae 5 6 ?_;exact aP 10):p:=h
def Mh{p:Prop}(h:p:=by refine aE Tryz.func161 λW=>?_;refine aq 2 λm=>?_;refine aq 0 λZ=>?_;refine aa 14 ?_;refine ah.n' ?_ aB.d'.d'.d'.d'.j;refine ae 5 0 ?_;refine af.p' 5 rfl rfl (b) ?_;refine aa 2 ?_;refine ae 4 6 ?_;exact aP 4):p:=h
def J4{p:Prop}(h:p:=by first|(exfalso;omega)|exact ajG (λh=>cc ⟨h.gF,h.g2⟩)):p:=h
def R9{p:Prop}(h:p:=by rw[gL,aM (by omega),bG,i3];simp only[cn]):p:=h
def SK{p:Prop}(h:p:=by first|(exfalso;omega)|exact⟨_,_,⟨_,_,rfl,rfl⟩,(by(repeat(first|exact ak.nil|exact al.here|apply ak.cons|apply al.there)))⟩):p:=h
def LM{p:Prop}(h:p:=by first|(simp only[i3]at*;simp_all;done)|exact dp B (by rw[lg (by omega)];rfl)):p:=h
def Np{p:Prop}(h:p:=by have:=j.2;obtain⟨a,b,e⟩:=List.append_of_mem t;rw[e,jx,iJ,hH,hH]at this;simpa[bn]using this.2.1.1):p:=h
def PC{p:Prop}(h:p:=by(intro _ _;repeat first|exact az.here _ _ _|apply az.there)):p:=h
def KO{p:Prop}(h:p:=by exact⟨_,_,⟨t,_,q,rfl,rfl⟩,(by(repeat(first|exact ak.nil|exact al.here|apply ak.cons|apply al.there)))⟩):p:=h
def Ql{p:Prop}(h:p:=by rw[m];(repeat(first|exact de.nil|refine de.cons rfl rfl ?_))):p:=h
def Rk{p:Prop}(h:p:=by rw[m];(repeat(first|exact ak.nil|exact al.here|apply ak.cons|apply al.there))):p:=h
def Mr{p:Prop}(h:p:=by intro e L;simp only[dk,jH,gx]at L⊢;rcases L with rfl|rfl<;>simp):p:=h
def Le{p:Prop}(h:p:=by rw[s];(repeat(first|exact ak.nil|exact al.here|apply ak.cons|apply al.there))):p:=h
def Tk{p:Prop}(h:p:=by simp[Go.IntKind.wrap,Go.IntKind.signed,Go.IntKind.bits];omega):p:=h
def Md{p:Prop}(h:p:=by rw[show((k:Int)).toNat=k by omega,List.getD,W];rfl):p:=h
def Lc{p:Prop}(h:p:=by rw[show choose n x Z=(2,xG.Call) by unfold choose;rw[aM w,j];simp only[C,F,Y,h7]];refine aE Tryz.func266 λW=>?_;refine aq 2 λu=>?_;refine aq 1 λQ=>?_;refine aq 24 λR=>?_;refine aq 20 λh=>?_;refine aq 13 λy=>?_;refine aa 30 ?_;rintro _ _⟨f,X,rfl,rfl⟩;refine aa 21 ?_;refine ah.n' ?_ aB.j.j.j.j.j.d'.d';refine ae 1 0 ?_;refine af.i' 1 rfl (V.B' ad (k:=0) rfl rfl) ?_;refine ae 1 2 ?_;refine af.i' 3 rfl (V.Vn ad (k:=0) (o:=11) rfl (by(repeat first|exact aF _|apply aG)) aD.len rfl) ?_;refine ae 2 4 ?_;exact aP 5):p:=h
def Pb{p:Prop}(h:p:=by rw[aQ N];refine aa 5 ?_;refine ah.n' ?_ aB.j.d'.j.d'.d';refine ae 1 0 ?_;refine af.p' 1 rfl rfl (Ye) ?_;refine aa 2 ?_;refine ae 10 2 ?_;refine aa 4 ?_;refine ah.n' ?_ aB.j.j.j.d'.d';refine ae 3 0 ?_;refine ae 4 4 ?_;refine af.p' 3 rfl rfl (Yc) ?_;refine aa 2 ?_;refine ae 3 8 ?_;exact aP 12):p:=h
def KN{p:Prop}(h:p:=by unfold h2;(repeat first|exact aF _|apply aG)):p:=h
def Rc{p:Prop}(h:p:=by show(449-s.idx.length)*450+(P.map λf=>f.l.length+1).sum<_;omega):p:=h
def OI{p:Prop}(h:p:=by show(449-s.idx.length)*450+((P++[f.next i]).map λf=>f.l.length+1).sum<_;rw[Y];omega):p:=h
def OT{p:Prop}(h:p:=by show l.length-(j+1)<l.length-j;omega):p:=h
def Nb{p:Prop}(h:p:=by show l.length-(k+1)<l.length-k;omega):p:=h
def Mx{p:Prop}(h:p:=by rintro v J⟨_,⟨rfl,rfl⟩,rfl⟩;exact⟨_,⟨rfl,rfl⟩,λ_ _ _ h=>h⟩):p:=h
def Cf{p:Prop}(h:p:=by show s.ea.length-(k+1)<s.ea.length-k;omega):p:=h
def MS{p:Prop}(h:p:=by show(ku l).length-(i+1)<(ku l).length-i;omega):p:=h
def Qp{p:Prop}(h:p:=by exact⟨_,_,.inl ⟨D,rfl,rfl⟩,(by(repeat(first|exact ak.nil|exact al.here|apply ak.cons|apply al.there)))⟩):p:=h
def Mk{p:Prop}(h:p:=by have:r.k0=some u:=M;rw[T]at this;cases this):p:=h
def J6{p:Prop}(h:p:=by have:=h.hA;show 0<=s.hA+1/\s.hA+1<=((n+1:Nat):Int);omega):p:=h
def QX{p:Prop}(h:p:=by exact⟨_,_,⟨_,_,_,h,g,ix,rfl,rfl⟩,(by(repeat(first|exact ak.nil|exact al.here|apply ak.cons|apply al.there)))⟩):p:=h
def S5{p:Prop}(h:p:=by intro fM Ye;refine ah.n' ?_ aB.j.j.j.j.d'.d'.j;refine ae 6 0 ?_;refine af.bv 6 7 rfl rfl ?_ ?_;refine av.x' (aK.UN (l:=h) (k:=d.cP) (aU:=rN) jb.z E ug uf vN rfl rfl (by(repeat first|exact aF _|apply aG))) ?_;refine au ?_;refine df 7 λl5=>?_;refine ae 1 8 ?_;refine au ?_;rotate_left;refine O.N' ad (λl5=>?_);refine au ?_;refine af.q' 6 rfl (av.x' (aK.UN (l:=h) (k:=d.cP) (aU:=rN) jb.z E ug uf vN rfl rfl (by(repeat first|exact aF _|apply aG))) ?_);refine au ?_;refine ae 1 8 ?_;refine au ?_;rotate_left;all_goals exact Out.z' Ye _ trivial trivial):p:=h
def Og{p:Prop}(h:p:=by have:=dp List.length F;rw[b2,ox,ox]at this;exact lW (by omega)):p:=h
def Pg{p:Prop}(h:p:=by unfold rP cb;(repeat(first|exact ak.nil|exact al.here|apply ak.cons|apply al.there))):p:=h
def Ku{p:Prop}(h:p:=by unfold rP;(repeat(first|exact ak.nil|exact al.here|apply ak.cons|apply al.there))):p:=h
def NW{p:Prop}(h:p:=by rintro v Z⟨cV,E,rfl,rfl⟩;exact⟨_,⟨(cV,E),rfl,rfl⟩,λ_ _ _ h=>h⟩):p:=h
def Ty{p:Prop}(h:p:=by exact⟨h.n,h.self,h.now,h.run,h.M,⟨h.fX.w,h.fX.t,h.fX.aV,h.fX.td,h.fX.bS⟩⟩):p:=h
def SF{p:Prop}(h:p:=by rw[Array.size_setIfInBounds];exact h.aI):p:=h
def RZ{p:Prop}(h:p:=by intro j N E a;simp only[kb,dk,jH,gx]at N;rcases N with rfl|rfl|rfl|rfl|rfl|rfl|rfl|rfl|rfl|rfl<;>first|exact absurd rfl E|exact⟨rfl,rfl⟩):p:=h
def PO{p:Prop}(h:p:=by exact⟨⟨⟨h.n,h.len⟩,h.cut,jy (xD ..) h.bo,by show 0<=c.lost+1/\c.lost+1<=_;omega,K.told,K.now⟩,K.up,K.dn,λx U=>h.g9 x ((w5 ..).subset U)⟩):p:=h
def NM{p:Prop}(h:p:=by unfold b5 dw dL;rw[a,R,m];(repeat(first|exact ak.nil|exact al.here|apply ak.cons|apply al.there))):p:=h
def Q5{p:Prop}(h:p:=by rcases K with h|h|h|h<;>exact absurd (show(2:Int)=_ from h) (by decide)):p:=h
def PP{p:Prop}(h:p:=by rename_i J;exact⟨λh=>h.imp id λh=>⟨J,h⟩,λh=>h.imp id λh=>h.2⟩):p:=h
def Q2{p:Prop}(h:p:=by rename_i J;exact⟨.inl,λh=>h.resolve_right λh=>J h.1⟩):p:=h
def Mf{p:Prop}(h:p:=by have:=(W.hS r (v▸M)).hE;have:=p.r;have:=p.jr;omega):p:=h
def M0{p:Prop}(h:p:=by rw[fP];show(a8 s.leads x).map _=_;rw[M];rfl):p:=h
def KZ{p:Prop}(h:p:=by rw[d];show(a8 s.leads x).map _=_;rw[M];rfl):p:=h
def RW{p:Prop}(h:p:=by rw[JZ _ _ _ (by kernel_rfl)];exact laidMet_laidAll _ (by kernel_rfl) (by kernel_rfl)):p:=h
def MI{p:Prop}(h:p:=by intro p cu P;simp only[dk,List.mem_nil_iff,gx]at cu;rcases cu with rfl;exact(L P).2):p:=h
def Rf{p:Prop}(h:p:=by have h:=bounds_u8 (a x U).2.2.2.2.2;omega):p:=h
def Ox{p:Prop}(h:p:=by unfold joinedFacts;rewrite[aij,J3,ae8];kernel_rfl):p:=h
def Nz{p:Prop}(h:p:=by unfold Func.isWrapper;first|(rw[aQ (by decide+kernel)];kernel_rfl)|(rw[aM (by decide+kernel)];exact⟨rfl,rfl⟩)):p:=h
def R2{p:Prop}(h:p:=by exact⟨some ⟨x,0,none⟩,Q,x,0,rfl,⟨d.length,d.small,d.addr,λU r=>d.reads U (((rk _ _).1 r).1 _ t)⟩⟩):p:=h
def Pa{p:Prop}(h:p:=by refine OM λs N P=>?_;refine ah.n' ?_ aB.d'.d'.d'.d'.j.j;refine Mj ?_;refine ae 31 8 ?_;exact aP 13):p:=h
def ME{p:Prop}(h:p:=by refine MK λfT l5=>?_;refine ah.n' ?_ aB.d'.d'.d'.d'.j;refine Mj ?_;refine ae 3 8 ?_;exact aP 11):p:=h
def Ge{p:Prop}(h:p:=by refine OM λs N P=>?_;refine ah.n' ?_ aB.d'.d'.d'.d'.d'.d'.j.j;refine Mj ?_;exact Oi):p:=h
def On{p:Prop}(h:p:=by simp only[execOp,resolve,invoke,builtin,sA,e7,lU,c2.eval b3,c2.eval fy,cK,eP,dW,c1]):p:=h
def NO{p:Prop}(h:p:=by obtain⟨es,sv,bH,_⟩:=h;exact(Array.getElem?_eq_some_iff.1 bH).1):p:=h
def LK{p:Prop}(h:p:=by unfold b5 dw dL at p⊢;refine aE Tryz.func12 λW=>?_;exact aP 24):p:=h
def Lb{p:Prop}(h:p:=by obtain⟨rfl,rfl⟩:=h;exact⟨_,⟨t,rfl,rfl⟩,aO.aL.symm⟩):p:=h
def To{p:Prop}(h:p:=by refine ah.n' ?_ aB.j.j.j.j.j.d';refine ae 4 0 ?_;exact aP 5):p:=h
def MJ{p:Prop}(h:p:=by simp[execOp,resolve,invoke,builtin,c2.eval o,c2.eval h,c1]):p:=h
def DV{p:Prop}(h:p:=by refine Pj λW p=>?_;refine ai.p' rfl (f _ _) ?_;exact Kg):p:=h
def Pu{p:Prop}(h:p:=by refine aa 20 ?_;refine ai.v (V.C' ad (z:=J)) ?_;exact aP 5):p:=h
def Tx{p:Prop}(h:p:=by refine ai.v (V.C' ad (v:=B true) (z:=Qz)) ?_;exact aP 14):p:=h
def dG{p:Prop}(h:p:=by exact⟨v,j,z,i,(y.eqv x).XK (λb=>h.bn.symm.mem_iff)⟩):p:=h
def R6{p:Prop}(h:p:=by refine aa 2 ?_;refine ai.o (O.UQ (λl=>?_));exact aP 11):p:=h
def Tn{p:Prop}(h:p:=by simp only[c5]at this;exact⟨this.1,λcs b e=>adZ⟩):p:=h
def KM{p:Prop}(h:p:=by simp only[r4,eY]at h;have b:=wE e;subst b h;simp):p:=h
def MH{p:Prop}(h:p:=by exact Out.z' k (i+1,_,G,m+1) ⟨Uk,z⟩ TY):p:=h
def Ow{p:Prop}(h:p:=by exact Y.perm (l3 (sg _ (hK ..)) (hK ..))):p:=h
def Rr{p:Prop}(h:p:=by simp only[gn,ov,dT]at this;exact this):p:=h
def TG{p:Prop}(h:p:=by exact Out.z' Yc (m-1) ⟨ac,ac⟩ ac):p:=h
def Tj{p:Prop}(h:p:=by exact Out.z' N (k+1) ⟨ac,ac⟩ ac):p:=h
def LD{p:Prop}(h:p:=by rw[jx,hH]at this;exact this.1):p:=h
namespace Go.ay
open Go
variable{D:ab Nat}{b:Nat}
structure ax where
 gk:ab Nat
 holds:aZ->Prop
 loc:∀(w iI:aZ),(∀b,b∈gk->iI.heap[b]?=w.heap[b]?)->holds w->holds iI
 lt:∀(w:aZ),holds w->∀b,b∈gk->b<w.heap.size
variable{an:ab ax}
@[irreducible] def cells(b:Nat)(T:TypeId)(c:List Value):ax where
 gk:=[b]
 holds w:=w.heap[b]?=some (.cells c.toArray T (0,0))
 loc w iI h cG:=by rw[h b T3];exact cG
 lt w h x b3:=by
  have:x=b:=SZ
  subst this;exact(Array.getElem?_eq_some_iff.1 h).1
@[irreducible] def row(v:Value)(T:TypeId)(aI n:Nat)(xs:List Value):ax where
 gk:=v.ownBlock.toList
 holds w:=w.ownsRow 0 T aI v n xs
 loc w iI h cG:=by
  refine⟨cG.1,?_⟩;rcases cG.2 with cM|⟨g,cap,adj,rfl,bH,bF,N⟩
  .exact .inl cM
  .exact .inr ⟨g,cap,adj,rfl,bH,by rw[h g (by simp[Value.ownBlock])];exact bF,N⟩
 lt w h x b3:=by
  have cc:v.ownBlock=some x:=SZ
  exact(h.lt x cc).2
@[irreducible] def bW(b:Nat)(o:Obj):ax where
 gk:=[b]
 holds w:=w.heap[b]?=some o
 loc w iI h cG:=by rw[h b T3];exact cG
 lt w h x b3:=by
  have:x=b:=SZ
  subst this;exact(Array.getElem?_eq_some_iff.1 h).1
def tk(b o):(bW b o).gk=[b]:=by unfold bW;rfl
def r3(b o w):(bW b o).holds w↔w.heap[b]?=some o:=by unfold bW;rfl
def gl(b:Nat):ax:=bW b (.deferred (some []))
def fY:ab Nat->ab ax
 |[]=>[]
 |b::l=>gl b::fY l
def ww(b T c):(cells b T c).gk=[b]:=by unfold cells;rfl
def tl(b T c w):(cells b T c).holds w↔w.heap[b]?=some (.cells c.toArray T (0,0)):=by unfold cells;rfl
def h6(v T aI n t):(row v T aI n t).gk=v.ownBlock.toList:=by unfold row;rfl
def io(v T aI n t w):(row v T aI n t).holds w↔w.ownsRow 0 T aI v n t:=by unfold row;rfl
def bn(an:ab ax):ab Nat:=an.flatMap (·.gk)
def jx(an be:ab ax):bn (an++be)=bn an++bn be:=by simp[bn]
def iJ(e:ax)(be:ab ax):bn (e::be)=e.gk++bn be:=by simp[bn]
def wx:b∈bn an↔∃e∈an,b∈e.gk:=by simp[bn]
structure hn(an:ab ax)(w:aZ):Prop where
 fQ:∀e,e∈an->e.holds w
 nodup:(bn an).Nodup
structure H(W:aZ)(D:ab Nat)(an:ab ax)(w:aZ):Prop where
 fQ:∀e,e∈an->e.holds w
 nodup:(bn an).Nodup
 own:∀b,b∈bn an->b∈D\/W.heap.size<=b
 cQ:∀b,b<W.heap.size->b∉D->w.heap[b]?=W.heap[b]?
 size:W.heap.size<=w.heap.size
 os:w.os=W.os
 tape:w.tape=W.tape
 output:w.output=W.output
 oZ:W.drawn<=w.drawn
def hn.start{w:aZ}(h:hn an w):H w (bn an) an w:=
 ⟨h.fQ,h.nodup,λ_ t=>.inl t,λ_ _ _=>rfl,cD _,rfl,rfl,rfl,cD _⟩
def H.eE{W:aZ}{w:aZ}(h:H W D an w):hn an w:=⟨h.fQ,h.nodup⟩
def hn.lt{w:aZ}(h:hn an w)(t:b∈bn an):b<w.heap.size:=by obtain⟨e,z,x⟩:=wx.1 t;exact e.lt w (h.fQ e z) b x
section
variable{W:aZ}{a2:ab ax}{w eX:aZ}
def H.drew(h:H W D an w):H W D an w.drew:=⟨λe z=>e.loc w _ (λ_ _=>rfl) (h.fQ e z),h.nodup,h.own,h.cQ,h.size,h.os,h.tape,h.output,As h.oZ⟩
def H.WE(h:H W D an w)(n:Nat):H W D an {w with drawn:=w.drawn+n}:=⟨λe z=>e.loc w _ (λ_ _=>rfl) (h.fQ e z),h.nodup,h.own,h.cQ,h.size,h.os,h.tape,h.output,Nat.le_add_right_of_le h.oZ⟩
def H.perm(h:H W D an w)(j:an.Perm a2):H W D a2 w:=
 ⟨λe z=>h.fQ e (j.mem_iff.2 z),(j.flatMap_right _).nodup_iff.1 h.nodup,λb t=>h.own b ((j.flatMap_right _).mem_iff.2 t),h.cQ,h.size,h.os,h.tape,h.output,h.oZ⟩
def DU{be:ab ax}(h:an.Sublist be):(bn an).Sublist (bn be):=by
 induction h with
 |slnil=>exact wy _
 |cons a _ d=>rw[iJ];exact d.trans (List.sublist_append_right _ _)
 |cons_cons a _ d=>rw[iJ,iJ];exact(wy _).append d
def H.sub(h:H W D an w)(g:a2.Sublist an):H W D a2 w:=
 ⟨λe z=>h.fQ e (g.mem z),(DU g).nodup h.nodup,λb t=>h.own b ((DU g).mem t),h.cQ,h.size,h.os,h.tape,h.output,h.oZ⟩
def H.call{k7 lR v:ab ax}(h:H W D (k7++lR) w)(t:H w (bn k7) v eX):H W D (v++lR) eX:=by
 have eE:=h.eE;have x:=h.nodup;rw[jx,hH]at x;have i:∀b,b∈bn lR->b<w.heap.size:=λb d=>eE.lt (by rw[jx];simp[d]);have y:∀b,b∈bn lR->b∉bn k7:=λb d g=>x.2.2 b g b d rfl;refine⟨?_,?_,?_,?_,jy h.size t.size,t.os.trans h.os,t.tape.trans h.tape,t.output.trans h.output,jy h.oZ t.oZ⟩
 .intro e z;rcases fd.1 z with z|z
  .exact t.fQ e z
  .exact e.loc w eX (λb d=>t.cQ b (i b (wx.2 ⟨e,z,d⟩)) (y b (wx.2 ⟨e,z,d⟩))) (h.fQ e Of)
 .rw[jx,hH];refine⟨t.nodup,x.2.1,λa o b d j=>?_⟩;subst j;rcases t.own a o with g|g
  .exact y a d g
  .have:=i a d;omega
 .intro b d;rw[jx,fd]at d;rcases d with d|d
  .rcases t.own b d with g|g
   .exact h.own b (by rw[jx];simp[g])
   .exact .inr (jy h.size g)
  .exact h.own b (by rw[jx];simp[d])
 .intro b d o;have s:b∉bn k7:=λk=>by
   rcases h.own b (by rw[jx];simp[k])with g|g
   .exact o g
   .omega
  exact(t.cQ b (Nat.lt_of_lt_of_le d h.size) s).trans (h.cQ b d o)
def H.new{yn:ab ax}(h:H W D an w)(t:H w [] yn eX):H W D (yn++an) eX:=by have z:H W D ([]++an) w:=h;exact z.call (k7:=[]) (by simpa[bn]using t)
def H.alloc(h:H W D an w)(T:a7)(c:ab aj):H W D (cells w.heap.size T c::an) (w.alloc (.cells c.toArray T)):=by
 have:H w [] [cells w.heap.size T c] (w.alloc (.cells c.toArray T)):=by
  refine⟨λe z=>?_,by simp[bn,ww],λb t=>?_,λb t _=>tm _ _ t,T3,rfl,rfl,rfl,cD _⟩
  .obtain rfl:e=_:=by simpa using z
   rw[tl];exact yo _ _
  .obtain rfl:b=w.heap.size:=by simpa[bn,ww]using t
   exact .inr (cD _)
 exact h.new this
@[irreducible] def az(an:List ax)(e i:ax)(a2:List ax):Prop:=∃l r,an=l++e::r/\a2=l++i::r
def az.here(e i:ax)(an:ab ax):az (e::an) e i (i::an):=by unfold az;exact⟨[],an,rfl,rfl⟩
def az.there(x e i:ax)(an a2:ab ax)(h:az an e i a2):az (x::an) e i (x::a2):=by unfold az at*;obtain⟨l,r,rfl,rfl⟩:=h;exact⟨x::l,r,rfl,rfl⟩
def az.split{e i:ax}(u:az an e i a2):∃l r,an=l++e::r/\a2=l++i::r:=by unfold az at u;exact u
def H.n7{e i:ax}(h:H W D an w)(u:az an e i a2)(t:H w e.gk [i] eX):H W D a2 eX:=by
 obtain⟨l,r,rfl,rfl⟩:=u.split;have z:(l++e::r).Perm ([e]++(l++r)):=T3
 have g:([i]++(l++r)).Perm (l++i::r):=by simpa using(n8 (a:=i) (l₁:=l) (l₂:=r)).symm
 exact((h.perm z).call (k7:=[e]) (by simpa[bn]using t)).perm g
def H.mem{e:ax}(h:H W D an w)(z:e∈an):e.holds w:=h.fQ e z
end
end Go.ay
namespace Go.ay
open Go
variable{T:a7}{Q:dI->Act->aZ->Prop}{b:Nat}{aV:aT (Nat×Bool)}{bc:Array Edge}
def uN:TypeDesc->Bool
 |.struct _|.array _ _=>true
 |_=>false
def tn(P:bU)(T:a7)(k:Nat):Bool:=
 match P.underlying T with
 |some d=>uN d&&((P.info? T).map (·.size)==some k)
 |none=>false
def tp(P:bU)(T:a7):Bool:=
 match P.underlying T with
 |some d=>!uN d&&((P.info? T).map (·.size)==some 1)
 |none=>false
section
variable{P:bU}
def uO{k:Nat}(h:tn P T k=true):∃d,P.underlying T=some d/\d.isRow=true/\(P.info? T).map (·.size)=some k:=by
 unfold tn at h;split at h
 .rename_i d y;simp only[c5,cX]at h;exact⟨d,y,by cases d<;>simp_all[uN],h.2⟩
 .cases h
def Au(h:tp P T=true):∃d,P.underlying T=some d/\uN d=false/\(P.info? T).map (·.size)=some 1:=by
 unfold tp at h;split at h
 .rename_i d y;simp only[c5,cX,ke]at h;exact⟨d,y,h.1,h.2⟩
 .cases h
def yp{w:aZ}(h:tp P T=true){a:Addr}{v:aj}(t:w.cell? a=some v):(loadVar T a).run P w=.ok v w:=by
 obtain⟨d,g,y,_⟩:=Au h;have o:(isAgg T).run P w=.ok false w:=by unfold isAgg;rw[cK,et g w];cases d<;>simp_all[uN]
 simp[loadVar,cK,o,Go.load,Sem.run,t]
def Av{w:aZ}{c:ab aj}(h:(cells b T c).holds w)(i:Nat):w.cell? ⟨b,i,none⟩=c[i]?:=by rw[tl]at h;rw[cell_of_row w b i _ T (0,0) h];simp
def jz(o k:Nat)(c:ab aj):ab aj:=(c.drop o).take k
def afx{w:aZ}{E:a7}{o k:Nat}{c:ab aj}(h:tn P T k=true)(g:(cells b E c).holds w)(t:o+k<=c.length):(loadVar T ⟨b,o,none⟩).run P w=.ok (.agg (jz o k c).toArray) w:=by
 obtain⟨d,i,y,ao⟩:=uO h;refine Aw w b o T (jz o k c) d (λj v z=>?_) i y (by rw[ao];simp[jz];omega);rw[Av g];simp only[jz,lS,mY]at z;split at z
 .exact z
 .cases z
def jW(P:bU)(T:a7)(o:Nat)(c:ab aj)(v:aj):Prop:=
 (tp P T=true/\c[o]?=some v)\/(∃k,tn P T k=true/\o+k<=c.length/\v=.agg (jz o k c).toArray)
def jW.one{o:Nat}{c:ab aj}{v:aj}(h:tp P T=true)(t:c[o]?=some v):jW P T o c v:=.inl ⟨h,t⟩
def jW.agg{o k:Nat}{c d:ab aj}(h:tn P T k=true)(t:Nat.ble (o+k) c.length=true)(g:jz o k c=d):jW P T o c (.agg d.toArray):=.inr ⟨k,h,o0 t,by rw[g]⟩
def jW.run{w:aZ}{E:a7}{o:Nat}{c:ab aj}{v:aj}(h:jW P T o c v)(d:(cells b E c).holds w):(loadVar T ⟨b,o,none⟩).run P w=.ok v w:=by
 rcases h with⟨t,g⟩|⟨k,t,g,rfl⟩
 .exact yp t (by rw[Av d];exact g)
 .exact afx t d g
def eg(o:Nat)(n c:ab aj):ab aj:=c.take o++n++c.drop (o+n.length)
def acG{w:aZ}{E:a7}{o:Nat}{c:ab aj}{v:aj}(h:(P.info? T).map (·.size)=some v.cells.size)(z:(cells b E c).holds w)(g:o+v.cells.size<=c.length)(t:v.cells.all (·.oneCell')=true):(storeVar T ⟨b,o,none⟩ v).run P w=.ok () (w.setRow b (eg o v.cells.toList c).toArray):=by
 rw[tl]at z;cases aW:P.info? T with
 |none=>simp[aW]at h
 |some i=>
  have d:v.cells.size=i.size:=by simp[aW]at h;omega
  have y:=tq P b o E v.cells.toList 0 c.toArray w z (by simpa using g) (λu j=>(yq.1 t) u (by simpa using j));simp only[ho]at y;have e:(c.toArray.toList.take o++v.cells.toList++c.toArray.toList.drop (o+v.cells.toList.length)).toArray=(eg o v.cells.toList c).toArray:=by simp[eg]
  rw[e]at y;simp[storeVar,sizeOf,typeInfo,aW,d,y]
variable{W:aZ}{D:ab Nat}{an a2:ab ax}{w eX:aZ}{J:Array b6}{N:ab b6}{a:Act}
def H.setRow(h:H W D an w){c o:ab aj}(u:az an (cells b T c) (cells b T o) a2):H W D a2 (w.setRow b o.toArray):=by
 have g:cells b T c∈an:=by obtain⟨l,r,rfl,_⟩:=u.split;simp
 have dE:=h.mem g;rw[tl]at dE;refine h.n7 u ⟨λe z=>?_,by simp[bn,ww],λx t=>?_,λk d y=>?_,T3,rfl,rfl,rfl,cD _⟩
 .obtain rfl:e=_:=by simpa using z
  rw[tl];exact q4 w b _ _ T _ dE
 .left;simpa[bn,ww]using t
 .exact wz w b k _ (by simpa[ww]using y)
section
variable{dst:aT Tmp}{ba:a7}{bb:String}
end
end
end Go.ay
namespace Go.ay
open Go
variable{id:Nat}{a:Act}{K:Act->aZ->Prop}{d:Nat}{b:Bool}{bc:Array Edge}
abbrev bC:=ab (Nat×aj)
variable{am:bC}
def ev:bC->Nat->aT aj
 |[],_=>none
 |(k,v)::l,j=>bif Nat.beq k j then some v else ev l j
structure dq where
 n:Nat
 ds:ab Nat
variable{n:dq}
def mark(b:Nat):Deferred:={target:=.collected b,args:=#[]}
structure dd(n:dq)(am:bC)(a:Act):Prop where
 size:a.tmps.size=n.n
 defers:a.defers=n.ds.map mark
 get:∀j v,ev am j=some v->j<n.n/\a.tmps.getD j undef=v
def aR(am:bC):bf->aT aj
 |.tmp t=>ev am t
 |.const v=>some v
 |.global g=>some (.pointer (some ⟨g,0,none⟩))
 |.func f=>some (.func (.func f) #[] #[])
def dd.eval(h:dd n am a){x:bf}{v:aj}(d:aR am x=some v):a.eval x=v:=by
 cases x with
 |tmp t=>exact(h.get t v d).2
 |const u=>exact hc d
 |global g=>exact hc d
 |func f=>exact hc d
def dd.put(h:dd n am a)(y:Nat.blt d n.n=true)(v:aj):dd n ((d,v)::am) (a.put (some d) v):=by
 have o:d<n.n:=o0 y;refine⟨by simp[Act.put,h.size],by simp[Act.put,h.defers],λj u b=>?_⟩;simp only[ev]at b;by_cases e:d=j
 .subst e;rw[show Nat.beq d d=true from wA d]at b;simp only[r4,eY]at b;subst b;exact⟨o,by simp[Act.put,h.size,o]⟩
 .rw[show Nat.beq d j=false from by rw[<-mq,yr];exact e]at b;simp only[wB]at b;obtain⟨t,g⟩:=h.get j u b;refine⟨t,?_⟩;simp only[uP,Act.put]at g⊢;rw[Array.getElem?_setIfInBounds_ne e];exact g
def dd.Vi(h:dd n am a)(v:aj):dd n am (a.put none v):=h
def dd.sub{Z:bC}(h:dd n am a)(t:∀j v,ev Z j=some v->ev am j=some v):dd n Z a:=
 ⟨h.size,h.defers,λj v y=>h.get j v (t j v y)⟩
def de(am:bC):bC->Prop
 |[]=>True
 |(k,v)::l=>ev am k=some v/\de am l
def de.get{am:bC}:∀{l:bC},de am l->∀j v,ev l j=some v->ev am j=some v
 |[],_,j,v,h=>Ua
 |(k,u)::l,t,j,v,h=>by
  simp only[ev]at h;by_cases e:k=j
  .subst e;rw[show Nat.beq k k=true from wA k]at h;simp only[r4,eY]at h;subst h;exact t.1
  .rw[show Nat.beq k j=false from by rw[<-mq,yr];exact e]at h;exact de.get t.2 j v h
abbrev mr(r:aT Nat):Fence:={Fence.wide with round:=r}
abbrev cU:=dI->Act->aZ->Prop
def mZ(P:bU)(r:aT Nat)(o:b6)(a:Act)(w:aZ)(K:Act->aZ->Prop)(Q:cU):Prop:=
 o.uponIn (mr r) 0 P a K Q ((o.semAt r a.eval).run P w)
def Ax{P:bU}{r:aT Nat}{o:b6}{w:aZ}{Q:cU}(h:mZ P r o a w K Q):o.wpIn (mr r) 0 P a w K Q:=
 ⟨λ_ _=>trivial,h⟩
section
variable(P:bU)(r:aT Nat)(W:aZ)(D:ab Nat)(n:dq)
def ah(Q:cU)(c:Code)(am:bC)(an:ab ax):Prop:=∀a w,dd n am a->H W D an w->c.wpIn (mr r) 0 P Q a w
def ai(J:Array b6)(Q:cU)(l:ab b6)(am:bC)(an:ab ax):Prop:=∀a w,dd n am a->H W D an w->wpListIn (mr r) 0 P J Q l a w
def Out(Q:cU)(e:dI)(am:bC)(an:ab ax):Prop:=∀a w,dd n am a->H W D an w->Q e a w
def av(o:b6)(am:bC)(an:ab ax)(C:bC->ab ax->Prop):Prop:=
 ∀(K:Act->aZ->Prop) (Q:cU),(∀Z a2,C Z a2->∀a w,dd n Z a->H W D a2 w->K a w)->∀a w,dd n am a->H W D an w->mZ P r o a w K Q
end
section
variable{P:bU}{r:aT Nat}{W:aZ}{D:ab Nat}{Q:cU}{Z:bC}{an a2:ab ax}{J:Array b6}{N:ab b6}
def hp(am:bC)(J:Array b6)(g:aT (Nat×Bool)):aT Bool:=
 match g with
 |none=>some true
 |some (j,t)=>
  match J[j]? with
  |some o=>match o.dst with
   |some d=>match ev am d with
    |some (.bool b)=>some (b==t)
    |some (.tuple _)=>some false
    |_=>none
   |none=>none
  |none=>none
def dd.Xg(h:dd n am a){j:Nat}{v:aj}(z:ev am j=some v):a.tmps[j]?=some v:=by
 obtain⟨t,g⟩:=h.get j v z;have:j<a.tmps.size:=by rw[h.size];exact t
 simp[this]at g⊢;exact g
def q5(h:dd n am a){o:b6}(z:hp am J o.guard=some b):Region.wanted o (yielded J a.tmps)=b:=by
 unfold hp at z;unfold Region.wanted;split at z
 .rename_i e;rw[e];simpa using z
 .rename_i j x e;rw[e];simp only;split at z
  .rename_i k i;split at z
   .rename_i d y;split at z
    .rename_i s g;have t:yielded J a.tmps j=some s:=by simp[yielded,i,y,h.Xg g]
     rw[t];simp only[eY]at z;subst z;cases s<;>cases x<;>rfl
    .rename_i v g;have t:yielded J a.tmps j=none:=by simp[yielded,i,y,h.Xg g]
     rw[t];simp only[eY]at z;subst z;rfl
    .cases z
   .cases z
  .cases z
def ai.nil(h:Out W D n Q .normal am an):ai P r W D n J Q [] am an:=h
def ai.op{o:b6}(t:hp am J o.guard=some true)(h:av P r W D n o am an (ai P r W D n J Q N)):ai P r W D n J Q (o::N) am an:=λa w j v=>by unfold wpListIn;rw[aQ (q5 j t)];exact Ax (h _ _ (λZ a2 t a w j v=>t a w j v) a w j v)
def ai.skip{X:Op}{ba:a7}{bb:String}{g:aT (Nat×Bool)}(t:hp am J g=some false)(y:Nat.blt d n.n=true)(h:ai P r W D n J Q N ((d,undef)::am) an):ai P r W D n J Q (⟨some d,X,ba,bb,bc,g⟩::N) am an:=λa w j v=>by unfold wpListIn;rw[aM (by rw[q5 j t];simp)];exact⟨λ_ _=>trivial,h _ w (j.put y undef) v⟩
def Ay(J:Array b6)(g:aT (Nat×Bool)):aT Nat:=
 match g with
 |none=>none
 |some (j,_)=>(J[j]?).bind (·.dst)
def dd.jh(h:dd n am a){v:aj}(z:ev am d=some v):dd n ((d,v)::am) a:=by
 refine⟨h.size,h.defers,λj u y=>?_⟩;simp only[ev]at y;by_cases e:d=j
 .subst e;rw[show Nat.beq d d=true from wA d]at y;simp only[r4,eY]at y;subst y;exact h.get d v z
 .rw[show Nat.beq d j=false from by rw[<-mq,yr];exact e]at y;exact h.get j u y
def ai.part{o:b6}(t:Ay J o.guard=some d)(z:ev am d=some (.bool b))(v:b=true->ai P r W D n J Q (o::N) ((d,.bool true)::am) an)(k:b=false->ai P r W D n J Q (o::N) ((d,.bool false)::am) an):ai P r W D n J Q (o::N) am an:=λa w j y=>by
 have:=t;cases b with
 |true=>exact v rfl a w (j.jh z) y
 |false=>exact k rfl a w (j.jh z) y
def ah.region{l:ab b6}(h:ai P r W D n l.toArray Q l am an):ah P r W D n Q (.region id l.toArray false) am an:=λa w j v=>wpIn_region_lit (h a w j v)
def ah.seq{x y:Code}(h:ah P r W D n (Exit.then (y.wpIn (mr r) 0 P Q) Q) x am an):ah P r W D n Q (.seq x y) am an:=λa w j v=>wpIn_seq (h a w j v)
def ah.block{x:Code}(h:ah P r W D n (Exit.inBlock id Q) x am an):ah P r W D n Q (.block id x) am an:=λa w j v=>wpIn_block (h a w j v)
def ah.skip(h:Out W D n Q .normal am an):ah P r W D n Q .skip am an:=λa w j v=>wpIn_skip (h a w j v)
def ah.ret(h:Out W D n Q .ret am an):ah P r W D n Q .ret am an:=λa w j v=>wpIn_ret (h a w j v)
def ah.exit(h:Out W D n Q (.exit id) am an):ah P r W D n Q (.exit id) am an:=λa w j v=>wpIn_exit (h a w j v)
def ah.ZV{c:bf}{x y:Code}(t:aR am c=some (.bool true))(h:ah P r W D n Q x am an):ah P r W D n Q (.cond c x y) am an:=λa w j v=>wpIn_cond_true (j.eval t) (h a w j v)
def ah.ZW{c:bf}{x y:Code}(t:aR am c=some (.bool false))(h:ah P r W D n Q y am an):ah P r W D n Q (.cond c x y) am an:=λa w j v=>wpIn_cond_false (j.eval t) (h a w j v)
def ah.cond{c:bf}{x y:Code}(d:aR am c=some (.bool b))(t:b=true->ah P r W D n Q x am an)(g:b=false->ah P r W D n Q y am an):ah P r W D n Q (.cond c x y) am an:=
 λa w j v=>wpIn_cond_split (j.eval d) (λe=>t e a w j v) (λe=>g e a w j v)
def Out.ZX{y:Code}(h:ah P r W D n Q y am an):Out W D n (Exit.then (y.wpIn (mr r) 0 P Q) Q) .normal am an:=h
def Out.ZY(h:Out W D n Q .ret am an):Out W D n (Exit.then K Q) .ret am an:=h
def Out.ZZ(h:Out W D n Q (.exit id) am an):Out W D n (Exit.then K Q) (.exit id) am an:=h
def Out.Z0(h:Out W D n Q .normal am an):Out W D n (Exit.inBlock id Q) .normal am an:=h
def Out.Z1(h:Out W D n Q .ret am an):Out W D n (Exit.inBlock id Q) .ret am an:=h
def Out.Z2(h:Out W D n Q .normal am an):Out W D n (Exit.inBlock id Q) (.exit id) am an:=λa w j v=>by simp only[Exit.inBlock,h7];exact h a w j v
def Out.Z3{g:Nat}(t:Nat.beq g id=false)(h:Out W D n Q (.exit g) am an):Out W D n (Exit.inBlock id Q) (.exit g) am an:=λa w j v=>by
 have k:g≠id:=by intro e;rw[e]at t;rw[show Nat.beq id id=true from wA id]at t;cases t
 simp only[Exit.inBlock,aM k];exact h a w j v
def Az(N:Nat->Prop):∀k,N k->∃m,N m/\∀j,j<m->¬N j:=by
 intro k;induction k using Nat.strongRecOn with
 |_ k d=>
  intro t;by_cases h:∃j,j<k/\N j
  .obtain⟨j,y,g⟩:=h;exact d j y g
  .exact⟨k,t,λj y g=>h ⟨j,y,g⟩⟩
def ah.loop{bu:Type}{c:Code}(E:bu->bC)(S:bu->ab ax)(d:bu->Nat)(s:bu)(z:de am (E s))(g:∀w,H W D an w->H W D (S s) w)(h:∀x,ah P r W D n (Exit.then (λa w=>∃y,d y<d x/\dd n (E y) a/\H W D (S y) w) Q) c (E x) (S x)):ah P r W D n Q (.loop c) am an:=λa w v b=>by
 classical
 let I:Act->aZ->Prop:=λa w=>∃x,dd n (E x) a/\H W D (S x) w;let N:Act->aZ->Nat->Prop:=λa w k=>∃x,d x=k/\dd n (E x) a/\H W D (S x) w;have ex:∀a w,I a w->∃k,N a w k/\∀j,j<k->¬N a w j:=λa w ⟨x,t⟩=>Az _ (d x) ⟨x,rfl,t⟩;let m:Act->aZ->Nat:=λa w=>if h:I a w then Classical.choose (ex a w h)else 0
 have mspec:∀a w (h:I a w),N a w (m a w)/\∀j,j<m a w->¬N a w j:=λa w h=>NR
 refine wpIn_loop I m ⟨s,v.sub z.get,g w b⟩ λa w i=>?_;obtain⟨⟨x,t,k,j⟩,_⟩:=mspec a w i;refine tr (h x a w k j) λe i g aW=>?_;cases e with
 |normal=>
  obtain⟨y,t,o,z⟩:=aW;refine⟨⟨y,o,z⟩,?_⟩;have t:I i g:=⟨y,o,z⟩
  have:=(mspec i g t).2 (d y);rcases o1 (d y) (m i g)with b|h
  .exact absurd ⟨y,rfl,o,z⟩ (this b)
  .omega
 |_=>exact aW
end
end Go.ay
namespace Go.ay
open Go
variable{K:Act->aZ->Prop}{b:Bool}{a:Act}{X:BinOp}{Q:cU}{k:IntKind}{args:ab aj}{R:aj->ab ax->Prop}{aV:aT (Nat×Bool)}{C:bC->ab ax->Prop}{T:a7}{bc:Array Edge}
abbrev I(n:Int):aj:=.int .i64 n
abbrev S(l:ab aS):aj:=.string ⟨l.toArray⟩
abbrev B(b:Bool):aj:=.bool b
abbrev A(c:ab aj):aj:=.agg c.toArray
abbrev aw(b o:Nat):aj:=.pointer (some ⟨b,o,none⟩)
def kf:Op->Bool
 |.defer _=>false
 |_=>true
section
variable{P:bU}{r:aT Nat}{W:aZ}{D:ab Nat}{n:dq}{am Z:bC}{an a2:ab ax}{J:Array b6}{N:ab b6}
variable{dst:Nat}{ba:a7}{bb:String}
def uQ{r:aT Nat}{o:b6}(h:kf o.op=true)(t:bf->aj):o.semAt r t=execOp t o:=by refine Oper.semAt_eq r t o λc e=>?_;rw[e]at h;cases h
def jA{o:b6}{w d:aZ}{v:aj}(h:kf o.op=true)(g:(execOp a.eval o).run P w=.ok (.value v) d)(t:K (a.put o.dst v) d):mZ P r o a w K Q:=by unfold mZ;rw[uQ h,g];exact t
def tt{o:b6}{w d:aZ}(h:kf o.op=true)(g:(execOp a.eval o).run P w=.ok .skip d)(t:K (a.put o.dst undef) d):mZ P r o a w K Q:=by unfold mZ;rw[uQ h,g];exact t
def ys{o:b6}{w b:aZ}{f:eR}{args:Array aj}(x:kf o.op=true)(j:(execOp a.eval o).run P w=.ok (.enter f args) b)(z:Calls P f args b λe i=>∃v,e=.returned v/\K (a.put o.dst v) i):mZ P r o a w K Q:=by unfold mZ;rw[uQ x,j];refine⟨λh=>Ua,?_⟩;have t:CallsIn Fence.wide 0 P f args b λe i=>∃v,e=.returned v/\K (a.put o.dst v) i:=callsIn_wide.2 z;have g:CallsIn (mr r) 0 P f args b λe i=>∃v,e=.returned v/\K (a.put o.dst v) i:=t;exact g.mono λe i ⟨v,y,d⟩=>by subst y;exact d
def fw(K:ab ax)(w:aZ):Prop:=∀e,e∈K->e.holds w
def H.hold{w:aZ}(h:H W D an w):fw an w:=h.fQ
def aK(P:bU)(n:dq)(am:bC)(an:ab ax)(o:b6)(v:aj):Prop:=
 ∀a w,dd n am a->fw an w->(execOp a.eval o).run P w=.ok (.value v) w
def av.Xh{X:Op}{v:aj}(x:kf X=true)(b:Nat.blt dst n.n=true)(h:aK P n am an ⟨some dst,X,ba,bb,bc,aV⟩ v)(t:C ((dst,v)::am) an):av P r W D n ⟨some dst,X,ba,bb,bc,aV⟩ am an C:=λ_ _ i a w j y=>
 jA x (h a w j y.hold) (i _ _ t _ _ (j.put b v) y)
def ai.val{X:Op}{v:aj}(t:hp am J aV=some true)(x:kf X=true)(y:Nat.blt dst n.n=true)(h:aK P n am an ⟨some dst,X,ba,bb,bc,aV⟩ v)(g:ai P r W D n J Q N ((dst,v)::am) an):ai P r W D n J Q (⟨some dst,X,ba,bb,bc,aV⟩::N) am an:=ai.op t (av.Xh x y h g)
def aK.move{x:bf}{v:aj}(t:aR am x=some v):aK P n am an ⟨some dst,.move x,ba,bb,bc,aV⟩ (v):=
 λa w j _=>RO
def aK.assign{x:bf}{v:aj}(t:aR am x=some v):aK P n am an ⟨some dst,.assign x,ba,bb,bc,aV⟩ (v):=
 λa w j _=>RO
def aK.pick{c x y:bf}{v:aj}(d:aR am c=some (.bool b))(t:b=true->aR am x=some v)(g:b=false->aR am y=some v):aK P n am an ⟨some dst,.pick c x y,ba,bb,bc,aV⟩ (v):=
 λa w j _=>by
  cases b with
  |true=>simp[execOp,j.eval d,asBool,j.eval (t rfl)]
  |false=>simp[execOp,j.eval d,asBool,j.eval (g rfl)]
def bd(X:BinOp)(p q:Int):aT Bool:=
 match X with
 |.eql=>some (decide (p=q))
 |.neq=>some (!decide (p=q))
 |.lss=>some (decide (p<q))
 |.leq=>some (decide (p<=q))
 |.gtr=>some (decide (q<p))
 |.geq=>some (decide (q<=p))
 |_=>none
def aK.cmp{t i:a7}{x y:bf}{p q:Int}(g:aR am x=some (.int k p))(d:aR am y=some (.int k q))(o:bd X p q=some b):aK P n am an ⟨some dst,.binOp X t x y i,ba,bb,bc,aV⟩ (.bool b):=
 λa w j _=>by simp only[execOp,j.eval g,j.eval d];cases X<;>simp only[bd,eY,reduceCtorEq]at o<;>subst o<;>simp[eqGuard,binOp,Op.intCmp,bne,BEq.beq]
def aK.add{t i:a7}{x y:bf}{p q:Int}(g:aR am x=some (I p))(d:aR am y=some (I q))(o:-9223372036854775808<=p+q/\p+q<=9223372036854775807):aK P n am an ⟨some dst,.binOp .add t x y i,ba,bb,bc,aV⟩ (I (p+q)):=
 λa w j _=>PA
def aK.sub{t i:a7}{x y:bf}{p q:Int}(g:aR am x=some (I p))(d:aR am y=some (I q))(o:-9223372036854775808<=p-q/\p-q<=9223372036854775807):aK P n am an ⟨some dst,.binOp .sub t x y i,ba,bb,bc,aV⟩ (I (p-q)):=
 λa w j _=>PA
def aK.mul{t i:a7}{x y:bf}{p q:Int}(g:aR am x=some (I p))(d:aR am y=some (I q))(o:-9223372036854775808<=p*q/\p*q<=9223372036854775807):aK P n am an ⟨some dst,.binOp .mul t x y i,ba,bb,bc,aV⟩ (I (p*q)):=
 λa w j _=>PA
def aK.arith{t i:a7}{x y:bf}{p q u:Int}(g:aR am x=some (.int k p))(d:aR am y=some (.int k q))(o:(match X with|.add=>some (k.wrap (p+q))|.sub=>some (k.wrap (p-q))|.mul=>some (k.wrap (p*q))|_=>none)=some u):aK P n am an ⟨some dst,.binOp X t x y i,ba,bb,bc,aV⟩ (.int k u):=
 λa w j _=>by simp only[execOp,j.eval g,j.eval d];cases X<;>simp only[eY,reduceCtorEq]at o<;>subst o<;>simp[eqGuard,binOp,Op.intArith]
def aK.quo{t i:a7}{x y:bf}{p q:Int}(g:aR am x=some (I p))(d:aR am y=some (I q))(o:0<=p/\p<=9223372036854775807/\1<=q):aK P n am an ⟨some dst,.binOp .quo t x y i,ba,bb,bc,aV⟩ (I (p/q)):=
 λa w j _=>by
  have aW:q≠0:=ac
  simp[execOp,j.eval g,j.eval d,eqGuard,binOp,Op.intDiv,aW,IntWalk.i64_quo _ _ o]
def c6(P:bU)(d:Nat)(T:a7)(x y:aj)(b:Bool):Prop:=∀w,(Op.equalIn d T x y).run P w=.ok b w
def uR:aj->aj->Bool
 |.int ..,_|.float ..,_|.complex ..,_|.string _,_|.pointer _,.int ..|.nilIface,.nilIface=>false
 |_,_=>true
def afV{t:a7}{x y:aj}(h:uR x y=true)(w:aZ):(binOp .eql t x y).run P w=((Op.equalIn 10000 t x y).run P w).andThen λb g=>.ok (.bool b) g:=by
 have e:binOp .eql t x y=(do pure (.bool (<-Op.equal t x y))):=Kh
 rw[e];show((do pure (Value.bool (<-Op.equal t x y)):Sem aj)).run P w=_
 rw[cK];rfl
def ajl{t:a7}{x y:aj}(h:uR x y=true)(w:aZ):(binOp .neq t x y).run P w=((Op.equalIn 10000 t x y).run P w).andThen λb g=>.ok (.bool (!b)) g:=by
 have e:binOp .neq t x y=(do pure (.bool (!(<-Op.equal t x y)))):=Kh
 rw[e];show((do pure (Value.bool (!(<-Op.equal t x y))):Sem aj)).run P w=_
 rw[cK];rfl
def uS(P:bU)(t:a7):aj->aj->Bool
 |.nilIface,.nilIface=>false
 |.agg _,.agg _=>!P.eqGuardType P.depth t
 |_,_=>true
def DW{t:a7}{x y:bf}{a b:aj}(h:uS P t a b=true)(w:aZ):(eqGuard X t x y a b).run P w=.ok () w:=by
 unfold uS at h;unfold eqGuard;split at h
 .cases h
 .simp only[ke]at h;cases X<;>simp[h]
 .cases X<;>first|rfl|(simp only;split<;>first|rfl|simp_all)
def aK.eql{t i:a7}{x y:bf}{u v:aj}(g:aR am x=some u)(d:aR am y=some v)(z:uR u v=true)(o:uS P t u v=true)(h:c6 P 10000 t u v b):aK P n am an ⟨some dst,.binOp .eql t x y i,ba,bb,bc,aV⟩ (.bool b):=
 λa w j _=>by simp only[execOp,j.eval g,j.eval d,cK,DW o,dW,afV z,h w,eP]
def aK.neq{t i:a7}{x y:bf}{u v:aj}(g:aR am x=some u)(d:aR am y=some v)(z:uR u v=true)(o:uS P t u v=true)(h:c6 P 10000 t u v b):aK P n am an ⟨some dst,.binOp .neq t x y i,ba,bb,bc,aV⟩ (.bool (!b)):=
 λa w j _=>by simp only[execOp,j.eval g,j.eval d,cK,DW o,dW,ajl z,h w,eP]
def c6.bool{d:Nat}{t:a7}{p q:Bool}(j:P.underlying t=some .bool):c6 P (d+1) t (.bool p) (.bool q) (p==q):=λw=>run_equalIn_bool w d t p q j
def aK.not{t:a7}{x:bf}{p:Bool}(g:aR am x=some (.bool p)):aK P n am an ⟨some dst,.unOp .not t x,ba,bb,bc,aV⟩ (.bool (!p)):=
 λa w j _=>by simp[execOp,j.eval g,Op.unary]
def aK.conv{t u:a7}{x:bf}{d:IntKind}{p:Int}(g:aR am x=some (.int k p))(v:P.underlying u=some (.int d))(o:(P.underlying t).isSome=true):aK P n am an ⟨some dst,.convert t u x,ba,bb,bc,aV⟩ (.int d (d.wrap p)):=
 λa w j _=>by obtain⟨d,z⟩:=uT.1 o;simp[execOp,j.eval g,convert,et v,et z,Conv.intToInt]
def aK.extract{x:bf}{o2:Nat}{g:ab aj}{v:aj}(t:aR am x=some (.tuple g.toArray))(z:g[o2]?=some v):aK P n am an ⟨some dst,.extract x o2,ba,bb,bc,aV⟩ (v):=
 λa w j _=>by simp[execOp,j.eval t,Instr.extract,z]
def aK.nilCheck{x:bf}{b o:Nat}(t:aR am x=some (aw b o)):aK P n am an ⟨some dst,.nilCheck x,ba,bb,bc,aV⟩ (aw b o):=
 λa w j _=>by simp[execOp,j.eval t]
def wC(P:bU)(s:a7)(f:Nat):aT Nat:=
 match P.underlying s with
 |some (.struct j)=>match j[f]? with
  |some h=>match P.info? h.type with
   |some i=>if i.size=0 then none else some h.offset
   |none=>none
  |none=>none
 |_=>none
def Addr.Z4(b o j:Nat):(⟨b,o,none⟩:Addr).add j=⟨b,o+j,none⟩:=Addr.add_mid b o j
def Ka{s:a7}{f off b o:Nat}(h:wC P s f=some off)(w:aZ):(Instr.fieldAt s (aw b o) f).run P w=.ok (aw b (o+off)) w:=by
 unfold wC at h;split at h
 .rename_i j t;split at h
  .rename_i x g;split at h
   .rename_i i ao;split at h
    .cases h
    .rename_i v;simp only[eY]at h;subst h;simp[Instr.fieldAt,et t,g,Instr.sureAddr,fieldPlace,sizeOf,typeInfo,ao,v,Addr.Z4]
   .cases h
  .cases h
 .cases h
def aK.fieldAddr{s:a7}{x:bf}{f b o off g:Nat}(t:aR am x=some (aw b o))(k:wC P s f=some off)(y:o+off=g):aK P n am an ⟨some dst,.fieldAddr s x f,ba,bb,bc,aV⟩ (aw b g):=
 λa w j _=>by subst y;simp[execOp,j.eval t,Ka k]
def aK.load{E:a7}{x:bf}{b o:Nat}{c:ab aj}{v:aj}(t:aR am x=some (aw b o))(g:cells b E c∈an)(d:jW P T o c v):aK P n am an ⟨some dst,.load T x,ba,bb,bc,aV⟩ (v):=
 λa w j v=>by simp only[execOp,j.eval t,Instr.loadAt,Instr.sureAddr,cK,eP,dW,d.run (v _ g)]
def av.store{E:a7}{x y:bf}{b o:Nat}{c k:ab aj}{v:aj}(g:aR am x=some (aw b o))(z:aR am y=some v)(d:az an (cells b E c) (cells b E k) a2)(i:(P.info? T).map (·.size)=some v.cells.size)(j:Nat.ble (o+v.cells.size) c.length=true)(t:v.cells.all (·.oneCell')=true)(s:eg o v.cells.toList c=k)(dQ:C am a2):av P r W D n ⟨none,.store T x y,ba,bb,bc,aV⟩ am an C:=λK Q cA a w h cy=>by
 subst s;have Yc:cells b E c∈an:=by obtain⟨l,r,rfl,_⟩:=d.split;simp
 refine tt rfl ?_ (cA _ _ dQ _ _ (h.Vi undef) (cy.setRow d));simp only[execOp,h.eval g,h.eval z,Instr.storeAt,Instr.sureAddr,cK,eP,dW,acG i (cy.mem Yc) (o0 j) t]
def av.box{x:bf}{v:aj}{c:ab aj}(i:Nat.blt dst n.n=true)(g:aR am x=some v)(t:v.cells.toList=c)(o:∀b,C ((dst,aw b 0)::am) (cells b T c::an)):av P r W D n ⟨some dst,.box T x,ba,bb,bc,aV⟩ am an C:=λK Q s a w j y=>by subst t;have t:=y.alloc T v.cells.toList;have d:(Instr.box T v).run P w=.ok (aw w.heap.size 0) (w.alloc (.cells v.cells T)):=rfl;refine jA rfl ?_ (s _ _ (o w.heap.size) _ _ (j.put i _) SD);simp only[execOp,j.eval g,cK,eP,dW,d]
def av.alloc{z:aj}{c:ab aj}(s:Nat.blt dst n.n=true)(y:(P.info? T).bind (·.zero)=some z)(t:z.cells.toList=c)(d:∀b,C ((dst,aw b 0)::am) (cells b T c::an)):av P r W D n ⟨some dst,.alloc T,ba,bb,bc,aV⟩ am an C:=λK Q k a w j v=>by
 subst t;have t:=v.alloc T z.cells.toList;obtain⟨i,ao,v⟩:=AA.1 y;have o:(zeroValue T).run P w=.ok z w:=by simp[zeroValue,typeInfo,ao,v]
 have g:(newVar T z).run P w=.ok ⟨w.heap.size,0,none⟩ (w.alloc (.cells z.cells T)):=rfl;refine jA rfl ?_ (k _ _ (d w.heap.size) _ _ (j.put s _) SD);simp only[execOp,Instr.alloc,cK,eP,dW,o,g]
def ar(P:bU)(f:eR)(args:ab aj)(an:ab ax)(R:aj->ab ax->Prop):Prop:=
 ∀w,hn an w->Calls P f args.toArray w λe t=>∃v a2,e=.returned v/\R v a2/\H w (bn an) a2 t
def ar.mono{f:eR}{g:aj->ab ax->Prop}(h:ar P f args an R)(t:∀v a2,R v a2->g v a2):ar P f args an g:=
 λw o=>(h w o).mono λ_ _ ⟨v,a2,z,g,y⟩=>⟨v,a2,z,t _ _ g,y⟩
def kF(P:bU)(f:eR):Bool:=match P.funcs[f]? with|some fn=>fn.body.isSome&&!(fn.name== "runtime.NumGoroutine")|none=>false
def wD{f:eR}(h:kF P f=true)(args:Array aj)(w:aZ):(callFunc f args).run P w=.ok (.enter f args) w:=by
 unfold kF at h;split at h
 .rename_i fn k;simp only[c5,ke,dF]at h;obtain⟨t,g⟩:=h;have d:fn.body≠none:=by intro e;rw[e]at t;cases t
  simp[callFunc,k,g,d]
 .cases h
def hU(am:bC):ab bf->aT (ab aj)
 |[]=>some []
 |x::t=>match aR am x,hU am t with
  |some v,some t=>some (v::t)
  |_,_=>none
def dd.hU{a:Act}(h:dd n am a):∀{d:ab bf} {z:ab aj},ay.hU am d=some z->d.map a.eval=z
 |[],z,g=>by simp[ay.hU]at g;subst g;rfl
 |x::d,z,g=>by
  simp only[ay.hU]at g;split at g
  .rename_i v j t o;simp only[eY]at g;subst g;simp[h.eval t,dd.hU h o]
  .cases g
def av.call{f:eR}{g:ab bf}{Ye:Array a7}{k7 lR:ab ax}(b:Nat.blt dst n.n=true)(h:kF P f=true)(t:ay.hU am g=some args)(Yc:an.Perm (k7++lR))(k:ar P f args k7 R)(d:∀v a2,R v a2->C ((dst,v)::am) (a2++lR)):av P r W D n ⟨some dst,.call ⟨.value (.func f),g.toArray,Ye⟩,ba,bb,bc,aV⟩ am an C:=λK Q i a w j y=>by
 have x:=y.perm Yc;have Yg:g.toArray.map a.eval=args.toArray:=by rw[<-j.hU t];simp
 refine ys (f:=f) (args:=args.toArray) (b:=w) rfl ?_ ?_
 .simp only[execOp,resolve,cK,Yg];simp[Act.eval,Deferred.ofValue,invoke,wD h]
 .refine(k w ⟨λe z=>x.fQ e Of,?_⟩).mono ?_
  .have:=x.nodup;exact LD
  .rintro e s⟨v,a2,rfl,o,Yf⟩;exact⟨v,rfl,i _ _ (d v a2 o) _ _ (j.put b v) (x.call Yf)⟩
end
end Go.ay
namespace Go.ay
open Go
variable{R:aj->ab ax->Prop}{a:Act}{b:ResultVar}{args:ab aj}{m:Nat}
section
variable{P:bU}{r:aT Nat}{W:aZ}{D:ab Nat}{n:dq}{Q:cU}{am Z:bC}{an a2:ab ax}{J:Array b6}{N:ab b6}
def uU:Nat->ab aj->bC
 |_,[]=>[]
 |k,v::t=>(k,v)::uU (k+1) t
def DX:∀(t:ab aj) (k j:Nat) (v:aj),ev (uU k t) j=some v->∃i,j=k+i/\t[i]?=some v
 |[],_,_,_,h=>Ua
 |u::b,k,j,v,h=>by
  simp only[uU,ev]at h;by_cases e:k=j
  .subst e;rw[show Nat.beq k k=true from wA k]at h;simp only[r4,eY]at h;subst h;exact⟨0,rfl,rfl⟩
  .rw[show Nat.beq k j=false from by rw[<-mq,yr];exact e]at h;obtain⟨i,ao,z⟩:=DX b (k+1) j v h;exact⟨i+1,ac,LX⟩
def dd.enter(h:Nat.ble args.length m=true):dd ⟨m,[]⟩ (uU 0 args) {tmps:=args.toArray++Array.replicate (m-args.toArray.size) undef,defers:=[]}:=by have b:=o0 h;refine⟨Ui,rfl,λj v y=>?_⟩;obtain⟨i,rfl,z⟩:=DX _ _ _ _ y;have ao:i<args.length:=(cT.1 z).1;refine⟨by show _<m;omega,?_⟩;simp only[h8,uP];rw[Array.getElem?_append_left (by simpa using ao)];simp[z]
def Ends(R:aj->ab ax->Prop)(W:aZ)(D:ab Nat)(e:Ending)(w:aZ):Prop:=∃v a2,e=.returned v/\R v a2/\H W D a2 w
def pA(P:bU)(fn:Func)(R:Ending->aZ->Prop):cU:=bodyPostM Fence.wide 0 P fn R
def r5(an:ab ax)(w:aZ):Prop:=∀b E c,cells b E c∈an->(cells b E c).holds w
def H.dE{w:aZ}(h:H W D an w):r5 an w:=λ_ _ _ t=>h.mem t
def H.Xi{w:aZ}{e:ax}{b:Nat}(o:Obj)(z:e.gk=[b])(h:H W D (e::an) w):H W D an (w.putObj b o):=by
 have j:H W D ([e]++an) w:=h;have t:H w (bn [e]) [] (w.putObj b o):=by refine⟨λ_ h=>Ua,by simp[bn],λ_ h=>(by simp[bn]at h),λk _ y=>?_,T3,rfl,rfl,rfl,cD _⟩;exact uV (by simpa[bn,z]using y)
 simpa using j.call t
def DY{fn:Func}{s:Array aj}{R:Ending->aZ->Prop}{be:ab ax}:∀(y:ab Nat) (a2:ab ax) (w:aZ),H W D (fY y++a2) w->r5 be w->(∀j,H W D a2 j->r5 be j->∃v,(results fn s).run P j=.ok v j/\R (.returned v) j)->LeavesInM Fence.wide 0 P fn s R (y.map mark) .returning w
 |[],_,w,h,z,o=>o w h z
 |b::y,a2,w,h,z,o=>by
  have d:w.heap[b]?=some (.deferred (some [])):=by have:=h.mem (e:=gl b) (by simp[fY]);rwa[gl,r3]at this
  refine⟨T3,.inl ⟨b,_,rfl,run_takeDeferred d,DY y a2 _ (H.Xi (e:=gl b) _ (by rw[gl,tk]) h) ?_ o⟩⟩;intro c E cs g;have t:=z c E cs g;rw[tl]at t⊢;rw[uV (λe=>by subst e;rw[d]at t;cases t)];exact t
def ar.enter{f:eR}{fn:Func}{c:Code}(k:P.funcs[f]?=some fn)(t:fn.body=some c)(y:Nat.ble args.length fn.ntmps=true)(h:∀W,ah P none W (bn an) ⟨fn.ntmps,[]⟩ (pA P fn (Ends R W (bn an))) c (uU 0 args) an):ar P f args an R:=λw o=>by refine(callsIn_wide (n:=0)).1 (callsIn_of_wp_marks k t trivial ?_ rfl);exact h w _ w (dd.enter y) o.start
def e1(P:bU)(am:bC)(an:ab ax):ResultVar->aj->Prop
 |.tmp t,v=>ev am t=some v
 |.cell p T,v=>∃b E c o,ev am p=some (aw b o)/\cells b E c∈an/\jW P T o c v
def yt(s:Array aj):ResultVar->Sem aj
 |.tmp t=>pure (s.getD t undef)
 |.cell p T=>do loadVar T (<-asAddr (s.getD p undef))
def AB(fn:Func)(s:Array aj):results fn s=(do let t<-fn.results.mapM (yt s);pure (if h:t.size=1 then t[0]else .tuple t)):=by unfold results;congr 1
def e1.run{w:aZ}(j:dd n am a)(y:r5 an w){v:aj}(h:e1 P am an b v):(yt a.tmps b).run P w=.ok v w:=by
 cases b with
 |tmp t=>simp only[yt,eP];rw[(j.get t v h).2]
 |cell p T=>
  obtain⟨b,E,c,o,z,t,g⟩:=h;simp only[yt,(j.get p _ z).2,asAddr,cK,eP,dW,g.run (y _ _ _ t)]
def Kb{fn:Func}{v:aj}{w:aZ}(t:fn.results=#[b])(j:dd n am a)(y:r5 an w)(h:e1 P am an b v):(results fn a.tmps).run P w=.ok v w:=by have b:=h.run j y;rw[AB,t];simp[b]
def Kc{fn:Func}{x y:ResultVar}{z o:aj}{w:aZ}(d:fn.results=#[x,y])(j:dd n am a)(v:r5 an w)(t:e1 P am an x z)(g:e1 P am an y o):(results fn a.tmps).run P w=.ok (.tuple #[z,o]) w:=by have b:=t.run j v;have t:=g.run j v;rw[AB,d];simp[cK,b,t]
def aeI{fn:Func}{x i s:ResultVar}{y z b:aj}{w:aZ}(o:fn.results=#[x,i,s])(j:dd n am a)(v:r5 an w)(t:e1 P am an x y)(g:e1 P am an i z)(d:e1 P am an s b):(results fn a.tmps).run P w=.ok (.tuple #[y,z,b]) w:=by have b:=t.run j v;have t:=g.run j v;have z:=d.run j v;rw[AB,o];simp[cK,b,t,z]
variable{fn:Func}
end
end Go.ay
namespace Go.ay
open Go
variable{T k:Nat}{aV:aT (Nat×Bool)}{C:bC->ab ax->Prop}{P:bU}{bc:Array Edge}
def n9:ab (Nat×Nat×Nat)->Nat->Nat->aT Nat
 |[],_,_=>none
 |(a,b,v)::l,i,j=>bif Nat.beq a i&&Nat.beq b j then some v else n9 l i j
def bM:ab (Nat×Nat)->Nat->aT Nat
 |[],_=>none
 |(a,v)::l,i=>bif Nat.beq a i then some v else bM l i
def iK:ab (Nat×ab aj)->Nat->aT (ab aj)
 |[],_=>none
 |(a,v)::l,i=>bif Nat.beq a i then some v else iK l i
def mu:ab (Nat×IntKind)->Nat->aT IntKind
 |[],_=>none
 |(a,v)::l,i=>bif Nat.beq a i then some v else mu l i
def AC:∀{l:ab (Nat×Nat×Nat)} {i j v:Nat},n9 l i j=some v->(i,j,v)∈l
 |(a,b,u)::l,i,j,v,h=>by
  simp only[n9]at h;cases e:(Nat.beq a i&&Nat.beq b j)with
  |true=>
   rw[e]at h;simp only[r4,eY]at h;simp only[c5]at e;have s:=wE e.1;have t:=wE e.2;subst s t h;simp
  |false=>rw[e]at h;simp only[wB]at h;exact hI _ (AC h)
def r6:∀{l:ab (Nat×Nat)} {i v:Nat},bM l i=some v->(i,v)∈l
 |(a,u)::l,i,v,h=>by
  simp only[bM]at h;cases e:Nat.beq a i with
  |true=>
   rw[e]at h;exact KM
  |false=>rw[e]at h;simp only[wB]at h;exact hI _ (r6 h)
def DZ:∀{l:ab (Nat×IntKind)} {i:Nat} {v:IntKind},mu l i=some v->(i,v)∈l
 |(a,u)::l,i,v,h=>by
  simp only[mu]at h;cases e:Nat.beq a i with
  |true=>
   rw[e]at h;exact KM
  |false=>rw[e]at h;simp only[wB]at h;exact hI _ (DZ h)
def D0:∀{l:ab (Nat×ab aj)} {i:Nat} {v:ab aj},iK l i=some v->(i,v)∈l
 |(a,u)::l,i,v,h=>by
  simp only[iK]at h;cases e:Nat.beq a i with
  |true=>
   rw[e]at h;exact KM
  |false=>rw[e]at h;simp only[wB]at h;exact hI _ (D0 h)
def uW(P:bU):ab (Nat×ab aj)->Prop
 |[]=>True
 |(T,c)::l=>((P.info? T).bind (·.zero)).map (·.cells.toList)=some c/\uW P l
def uW.get{P:bU}:∀{l:ab (Nat×ab aj)},uW P l->∀e,e∈l->((P.info? e.1).bind (·.zero)).map (·.cells.toList)=some e.2
 |(T,c)::l,h,e,z=>by
  rcases dk.1 z with rfl|z
  .exact h.1
  .exact uW.get h.2 e z
def D1(P:bU)(t:a7)(k:IntKind):Bool:=match P.underlying t with|some (.int g)=>k==g|_=>false
def D2(P:bU)(t:a7):Bool:=match P.underlying t with|some .string=>true|_=>false
def D3(P:bU)(t:a7):Bool:=match P.underlying t with|some .bool=>true|_=>false
def ab5(P:bU)(t e aI h:Nat):Bool:=match P.underlying t,P.info? e with|some (.slice s),some i=>e==s&&i.size==aI&&i.bytes==h&&i.zero.isSome&&!(aI==0)&&(match i.zero with|some z=>z.cells.size==aI|none=>false)|_,_=>false
def yu(P:bU)(T f off k:Nat):Bool:=
 match P.underlying T with
 |some (.struct j)=>match j[f]? with
  |some h=>h.offset==off&&((P.info? h.type).map (·.size)==some k)
  |none=>false
 |_=>false
def q6(P:bU)(t e:Nat):Bool:=match P.underlying t with|some (.slice i)=>e==i|_=>false
def D4(P:bU)(t:ab (Nat×Nat×Nat))(e:Nat×Nat×Nat):Bool:=match n9 t e.1 e.2.1 with|some off=>yu P e.1 e.2.1 off e.2.2|none=>false
def D5(P:bU)(T n E:Nat):Bool:=match P.underlying T with|some (.array t i)=>n==t&&E==i|_=>false
def r7:ab (Nat×Nat×Nat)->Nat->aT (Nat×Nat)
 |[],_=>none
 |(a,v)::l,i=>bif Nat.beq a i then some v else r7 l i
def D6:∀{l:ab (Nat×Nat×Nat)} {i:Nat} {v:Nat×Nat},r7 l i=some v->(i,v)∈l
 |(a,u)::l,i,v,h=>by
  simp only[r7]at h;cases e:Nat.beq a i with
  |true=>
   rw[e]at h;exact KM
  |false=>rw[e]at h;simp only[wB]at h;exact hI _ (D6 h)
structure ca(P:bU) where
 q7:ab (Nat×Nat×Nat)
 wF:ab (Nat×Nat×Nat)
 fe:ab (Nat×Nat)
 gV:ab (Nat×Nat)
 agg:ab (Nat×Nat)
 one:ab (Nat×Nat)
 iZ:ab (Nat×ab aj)
 ints:ab (Nat×IntKind)
 strs:ab (Nat×Nat)
 wG:ab (Nat×Nat)
 lT:ab (Nat×Nat)
 arr:ab (Nat×Nat×Nat)
 D7:(q7.all λe=>wC P e.1 e.2.1==some e.2.2)=true
 D8:(agg.all λe=>tn P e.1 e.2)=true
 D9:(one.all λe=>tp P e.1&&e.2==1)=true
 Ea:(ints.all λe=>D1 P e.1 e.2)=true
 Eb:(strs.all λe=>D2 P e.1)=true
 Ec:(wF.all (D4 P q7))=true
 Ed:(fe.all λe=>q6 P e.1 e.2)=true
 Ee:(gV.all λe=>(P.info? e.1).map (·.size)==some e.2)=true
 Ef:(wG.all λe=>D3 P e.1)=true
 Eg:(lT.all λe=>(P.info? e.1).map (·.bytes)==some e.2)=true
 Eh:(arr.all λe=>D5 P e.1 e.2.1 e.2.2)=true
 Ei:uW P iZ
section
variable(ad:ca P)
def ca.Z5{s f off:Nat}(h:n9 ad.q7 s f=some off):wC P s f=some off:=by have:=hq.1 ad.D7 _ (AC h);simpa using this
def ca.Uu{E:Nat}(h:bM ad.fe T=some E):q6 P T E=true:=hq.1 ad.Ed _ (r6 h)
def ca.WF{n E:Nat}(h:r7 ad.arr T=some (n,E)):P.underlying T=some (.array n E):=by
 have:=hq.1 ad.Eh _ (D6 h);simp only[D5]at this;split at this
 .rename_i t i z;simp only[c5,cX]at this;rw[z,this.1,this.2]
 .cases this
def ca.Vc(h:bM ad.gV T=some k):(P.info? T).map (·.size)=some k:=by have:=hq.1 ad.Ee _ (r6 h);simpa using this
def ca.Z6(h:bM ad.lT T=some k):(P.info? T).map (·.bytes)=some k:=by have:=hq.1 ad.Eg _ (r6 h);simpa using this
def ca.Xj{f off:Nat}(h:n9 ad.q7 T f=some off)(t:n9 ad.wF T f=some k):yu P T f off k=true:=by have:=hq.1 ad.Ec _ (AC t);simp only[D4,h]at this;exact this
def ca.UT(h:bM ad.agg T=some k):tn P T k=true:=hq.1 ad.D8 _ (r6 h)
def ca.Un(h:bM ad.one T=some k):tp P T=true:=by have:=hq.1 ad.D9 _ (r6 h);simp only[c5]at this;exact this.1
def ca.UJ{k:IntKind}(h:mu ad.ints T=some k):P.underlying T=some (.int k):=by
 have:=hq.1 ad.Ea _ (DZ h);simp only[D1]at this;split at this
 .rename_i t e;rw[e];simp at this;rw[this]
 .cases this
def ca.Vl(h:bM ad.strs T=some k):P.underlying T=some .string:=by
 have:=hq.1 ad.Eb _ (r6 h);simp only[D2]at this;split at this
 .assumption
 .cases this
def ca.Xk(h:bM ad.wG T=some k):P.underlying T=some .bool:=by
 have:=hq.1 ad.Ef _ (r6 h);simp only[D3]at this;split at this
 .assumption
 .cases this
def ca.zeroAt{c:ab aj}(h:iK ad.iZ T=some c):∃z,(P.info? T).bind (·.zero)=some z/\z.cells.toList=c:=by have:=ad.Ei.get _ (D0 h);obtain⟨z,v,t⟩:=qg.1 this;exact⟨z,v,t⟩
def ca.Xl(h:bM ad.agg T=some k):(P.info? T).map (·.size)=some k:=(uO (ad.UT h)).choose_spec.2.2
def ca.Wi(h:bM ad.one T=some k):(P.info? T).map (·.size)=some 1:=(Au (ad.Un h)).choose_spec.2.2
end
class eZ(o k:Nat)(c:List Value)(cx:outParam (List Value)):Prop where
 eq:jz o k c=cx
class bA(o:Nat)(x c:List Value)(cx:outParam (List Value)):Prop where
 eq:eg o x c=cx
section
variable{r:aT Nat}{W:aZ}{D:ab Nat}{n:dq}{Q:cU}{am Z:bC}{an a2:ab ax}{J:Array b6}{N:ab b6}
variable{dst:Nat}{ba:a7}{bb:String}
def aK.Z7(ad:ca P){T E:a7}{x:bf}{b o u:Nat}{c:ab aj}{v:aj}(t:bM ad.one T=some u)(g:aR am x=some (aw b o))(d:cells b E c∈an)(z:c[o]?=some v):aK P n am an ⟨some dst,.load T x,ba,bb,bc,aV⟩ (v):=
 aK.load g d (jW.one (ad.Un t) z)
def aK.Z8(ad:ca P){T E:a7}{x:bf}{b o:Nat}{c v:ab aj}(t:bM ad.agg T=some k)(g:aR am x=some (aw b o))(d:cells b E c∈an)(z:Nat.ble (o+k) c.length=true)(j:eZ o k c v):aK P n am an ⟨some dst,.load T x,ba,bb,bc,aV⟩ (A v):=
 aK.load g d (jW.agg (ad.UT t) z j.eq)
def av.Z9(ad:ca P){T E:a7}{x y:bf}{b o u:Nat}{c s:ab aj}{v:aj}(t:bM ad.one T=some u)(g:aR am x=some (aw b o))(z:aR am y=some v)(k:v.oneCell'=true)(d:az an (cells b E c) (cells b E s) a2)(j:Nat.blt o c.length=true)(i:bA o [v] c s)(h:C am a2):av P r W D n ⟨none,.store T x y,ba,bb,bc,aV⟩ am an C:=by
 have Yc:v.cells=#[v]:=by cases v<;>first|rfl|(cases k;done)
 refine av.store g z d (by rw[ad.Wi t,Yc];rfl) (by rw[Yc];exact j) (by rw[Yc];simp[k]) ?_ h;rw[Yc];exact i.eq
def av.aaa(ad:ca P){T E:a7}{x y:bf}{b o:Nat}{c s u:ab aj}(t:bM ad.agg T=some k)(g:aR am x=some (aw b o))(z:aR am y=some (A u))(v:u.length=k)(h:u.all (·.oneCell')=true)(d:az an (cells b E c) (cells b E s) a2)(j:Nat.ble (o+k) c.length=true)(i:bA o u c s)(dQ:C am a2):av P r W D n ⟨none,.store T x y,ba,bb,bc,aV⟩ am an C:=by subst v;exact av.store g z d (by rw[ad.Xl t];simp[Value.cells]) (by simpa[Value.cells]using j) (by simpa[Value.cells]using h) i.eq dQ
def aK.aab(ad:ca P){s:a7}{x:bf}{f b o off g:Nat}(t:aR am x=some (aw b o))(k:n9 ad.q7 s f=some off)(y:o+off=g):aK P n am an ⟨some dst,.fieldAddr s x f,ba,bb,bc,aV⟩ (aw b g):=
 aK.fieldAddr t (ad.Z5 k) y
def av.Xm{T:a7}{x:bf}{c:ab aj}(y:Nat.blt dst n.n=true)(t:aR am x=some (A c))(g:∀b,C ((dst,aw b 0)::am) (cells b T c::an)):av P r W D n ⟨some dst,.box T x,ba,bb,bc,aV⟩ am an C:=av.box y t rfl g
def av.aac{T:a7}{x:bf}{v:aj}(y:Nat.blt dst n.n=true)(t:aR am x=some v)(z:v.cells.toList=[v])(g:∀b,C ((dst,aw b 0)::am) (cells b T [v]::an)):av P r W D n ⟨some dst,.box T x,ba,bb,bc,aV⟩ am an C:=av.box y t z g
def av.aad(ad:ca P){T:a7}{c:ab aj}(y:Nat.blt dst n.n=true)(v:iK ad.iZ T=some c)(d:∀b,C ((dst,aw b 0)::am) (cells b T c::an)):av P r W D n ⟨some dst,.alloc T,ba,bb,bc,aV⟩ am an C:=by obtain⟨z,t,g⟩:=ad.zeroAt v;exact av.alloc y t g d
def aK.Xn(ad:ca P){t u:a7}{x:bf}{k o z:IntKind}{p:Int}(g:aR am x=some (.int k p))(j:mu ad.ints u=some o)(d:mu ad.ints t=some z):aK P n am an ⟨some dst,.convert t u x,ba,bb,bc,aV⟩ (.int o (o.wrap p)):=
 aK.conv g (ad.UJ j) (by rw[ad.UJ d];rfl)
end
end Go.ay
namespace Go.ay
open Go
variable{T:a7}{d:Nat}{aV:aT (Nat×Bool)}{C:bC->ab ax->Prop}{P:bU}{b:Bool}{bc:Array Edge}
section
def jW.part{o:Nat}{c:ab aj}{v:aj}(h:jW P T o c v)(w:aZ):(Go.part T c.toArray o).run P w=.ok v w:=by
 rcases h with⟨t,g⟩|⟨k,t,g,rfl⟩
 .obtain⟨d,z,y,_⟩:=Au t;have j:(isAgg T).run P w=.ok false w:=by unfold isAgg;rw[cK,et z w];cases d<;>simp_all[uN]
  simp[Go.part,cK,j,g]
 .obtain⟨d,z,y,ao⟩:=uO t;have j:(isAgg T).run P w=.ok true w:=by unfold isAgg;rw[cK,et z w];cases d<;>simp_all
  cases aW:P.info? T with
  |none=>simp[aW]at ao
  |some i=>
   have t:i.size=k:=by simpa[aW]using ao
   simp[Go.part,cK,j,sizeOf,typeInfo,aW,t,jz,List.take_drop]
def oa(P:bU)(d:Nat)(t g:ab aj):ab (Nat×Nat)->Bool->Prop
 |[],b=>b=true
 |f::j,b=>∃u v o s,jW P f.1 f.2 t u/\jW P f.1 f.2 g v/\c6 P d f.1 u v o/\oa P d t g j s/\b=(o&&s)
def oa.run{d:Nat}{t k:ab aj}:∀{i:ab Field} {b:Bool},(i.all λf=>!(f.name== "_"))=true->oa P d t k (i.map λf=>(f.type,f.offset)) b->∀w,(Op.eqFields d t.toArray k.toArray i).run P w=.ok b w
 |[],b,_,h,w=>by simp only[lU,oa]at h;subst h;simp[Op.eqFields]
 |f::i,b,y,h,w=>by
  obtain⟨u,v,x,s,o,z,j,g,rfl⟩:=h;simp only[AD,c5]at y;have t:f.name≠ "_" :=by have:=y.1;simpa using this
  have d:=oa.run y.2 g w;cases x with
  |true=>simp[Op.eqFields,t,cK,o.part w,z.part w,j w,d]
  |false=>simp[Op.eqFields,t,cK,o.part w,z.part w,j w]
def yv(P:bU)(T:a7)(l:ab (Nat×Nat)):Bool:=
 match P.underlying T with
 |some (.struct j)=>(j.toList.map λf=>(f.type,f.offset))==l&&j.toList.all (λf=>!(f.name== "_"))&&!P.stoodInHeld T
 |_=>false
def c6.struct{xs o3:ab aj}{l:ab (Nat×Nat)}(t:yv P T l=true)(h:oa P d xs o3 l b):c6 P (d+1) T (.agg xs.toArray) (.agg o3.toArray) b:=λw=>by
 unfold yv at t;split at t
 .rename_i j g;simp only[c5,cX,ke]at t;obtain⟨⟨rfl,y⟩,z⟩:=t;have k:P.fieldsOf T=j:=by simp[Program.fieldsOf,g]
  rw[run_equalIn_struct w d T _ _ (by rw[k,g]) z,k];exact oa.run y h w
 .cases t
def oa.Xo{d:Nat}{t y:ab aj}{e c:Nat}:∀{x:ab Nat} {b:Bool},oa P d t y (x.map λi=>(e,i*c)) b->∀w,(Op.eqItems d e c t.toArray y.toArray x).run P w=.ok b w
 |[],b,h,w=>by simp only[lU,oa]at h;subst h;simp[Op.eqItems]
 |i::x,b,h,w=>by
  obtain⟨u,v,k,s,o,z,j,g,rfl⟩:=h;have d:=oa.Xo g w;cases k with
  |true=>simp[Op.eqItems,cK,o.part w,z.part w,j w,d]
  |false=>simp[Op.eqItems,cK,o.part w,z.part w,j w]
def Ej(P:bU)(T:a7)(l:ab (Nat×Nat)):Bool:=
 match P.underlying T with
 |some (.array n e)=>((List.range n).map λi=>(e,i*P.cellsOf e))==l&&(P.info? e).isSome
 |_=>false
def c6.array{t z:ab aj}{l:ab (Nat×Nat)}(g:Ej P T l=true)(h:oa P d t z l b):c6 P (d+1) T (.agg t.toArray) (.agg z.toArray) b:=λw=>by
 unfold Ej at g;split at g
 .rename_i n e o;simp only[c5,cX]at g;obtain⟨rfl,ao⟩:=g;obtain⟨i,ao⟩:=uT.1 ao;rw[run_equalIn_array w d _ _ o ao];exact oa.Xo h w
 .cases g
def c6.int{k r8:IntKind}{p q:Int}(h:P.underlying T=some (.int r8)):c6 P (d+1) T (.int k p) (.int k q) (decide (p=q)):=λw=>by rw[run_equalIn_int w d T k r8 p q h];rfl
def c6.str{p q:ab aS}(h:P.underlying T=some .string):c6 P (d+1) T (S p) (S q) (decide (p=q)):=λw=>by rw[run_equalIn_string w d T _ _ h];congr 1;rw[q8];simp[ByteArray.toList_eq]
end
def aii(o:Nat)(x:aj)(l c:ab aj)(h:o<c.length):eg (o+1) l (c.set o x)=eg o (x::l) c:=by
 simp only[eg,dD];rw[show o+(l.length+1)=o+1+l.length by omega];have b:(c.set o x).take (o+1)=c.take o++[x]:=by rw[Ek Ub,List.take_set_of_le (cD _)];simp
 have t:(c.set o x).drop (o+1+l.length)=c.drop (o+1+l.length):=by rw[List.drop_set_of_lt ac]
 rw[b,t];simp
def AE(off:Nat):∀(l:ab aj) (k:Nat) (c:Array aj),off+k+l.length<=c.size->(l.zipIdx k).foldl (λcs (p:aj×Nat)=>cs.setIfInBounds (off+p.2) p.1) c=(eg (off+k) l c.toList).toArray
 |[],k,c,_=>by simp[eg]
 |x::l,k,c,h=>by simp only[List.zipIdx_cons,qh];rw[AE off l (k+1) _ (by simp at h⊢;omega)];rw[<-aii (off+k) x l c.toList (by simp at h⊢;omega)];simp[qi]
section
def lV(P:bU)(T:a7):ab (Nat×aj)->ab aj->ab aj->Prop
 |[],c,g=>g=c
 |(f,v)::l,c,g=>∃off t,yu P T f off v.cells.size=true/\Nat.ble (off+v.cells.size) c.length=true/\eg off v.cells.toList c=t/\lV P T l t g
def El{T:a7}{b:Array Field}{s:Array (Nat×Nat)}(y:P.underlying T=some (.struct b))(t:∀(f:Nat) (tu:Field) (k:Nat),b[f]?=some tu->(P.info? tu.type).map (·.size)=some k->s[f]?=some (tu.offset,k)):∀{l:ab (Nat×aj)} {c o:ab aj},lV P T l c o->Instr.fill (s[·]?) c.toArray l=some o.toArray
 |[],c,o,h=>by simp only[lV]at h;subst h;rfl
 |(f,v)::l,c,o,h=>by
  obtain⟨off,i,z,Yc,g,d⟩:=h;unfold yu at z;rw[y]at z;simp only at z;split at z
  .rename_i tu Yf;simp only[c5,cX]at z;have Ye:=t f tu v.cells.size Yf z.2;have Yh:=o0 Yc;subst g;unfold Instr.fill;simp only[Ye,z.1];rw[aM Ui];have Yg:=AE off v.cells.toList 0 c.toArray (by simpa using Yh);simp only[ho]at Yg;have e:(v.cells.zipIdx.foldl (λcs (x:aj×Nat)=>match x with|(c,j)=>cs.setIfInBounds (off+j) c) c.toArray)=(eg off v.cells.toList c).toArray:=by rw[<-Array.foldl_toList];simpa using Yg
   rw[e];exact El y t d
  .cases z
def yw(f:Field):Sem (Nat×Nat):=do pure (f.offset,<-sizeOf f.type)
def Kf(w:aZ){f:Field}(h:(P.info? f.type).isSome=true):(yw f).run P w=.ok (f.offset,P.cellsOf f.type) w:=by obtain⟨i,ao⟩:=uT.1 h;simp[yw,sizeOf,typeInfo,ao,Program.cellsOf]
def run_places(w:aZ):∀(l:ab Field),(l.all λf=>(P.info? f.type).isSome)=true->(l.mapM yw).run P w=.ok (l.map λf=>(f.offset,P.cellsOf f.type)) w
 |[],_=>T3
 |f::l,h=>by simp only[AD,c5]at h;rw[List.mapM_cons];simp only[cK,Kf w h.1,run_places w l h.2,dW,eP,e7]
def yx(P:bU)(T:a7):Bool:=
 match P.underlying T with
 |some (.struct j)=>j.toList.all λf=>(P.info? f.type).isSome
 |_=>false
def run_build{z:aj}{s:ab (Nat×aj)}{o:ab aj}(b:yx P T=true)(v:(P.info? T).bind (·.zero)=some z)(g:lV P T s z.cells.toList o)(w:aZ):(Instr.build T s.toArray).run P w=.ok (A o) w:=by
 unfold yx at b;split at b
 .rename_i y j;obtain⟨i,ao,Yc⟩:=AA.1 v;have Yf:(zeroValue T).run P w=.ok z w:=by simp[zeroValue,typeInfo,ao,Yc]
  have t:(y.mapM yw).run P w=.ok (y.map λf=>(f.offset,P.cellsOf f.type)) w:=by rw[Array.mapM_eq_mapM_toList];have:=run_places (P:=P) w y.toList b;simp only[Sem.run_map,this];simp[<-Array.toList_map]
  have h:=El (s:=y.map λf=>(f.offset,P.cellsOf f.type)) j (λf tu k Ye d=>by
   have:P.cellsOf tu.type=k:=by simp[Program.cellsOf,d]
   simp[Ye,this]) g
  simp only[Em]at h;have x:(y.mapM λf=>(do pure (f.offset,<-sizeOf f.type):Sem (Nat×Nat))).run P w=.ok (y.map λf=>(f.offset,P.cellsOf f.type)) w:=t;unfold Instr.build;simp only[cK,Yf,et j,dW,x,h,eP]
 .cases b
end
section
variable{r:aT Nat}{W:aZ}{D:ab Nat}{n:dq}{Q:cU}{am Z:bC}{an a2:ab ax}{J:Array b6}{N:ab b6}
variable{dst:Nat}{ba:a7}{bb:String}
def m0(am:bC):ab (Nat×bf)->aT (ab (Nat×aj))
 |[]=>some []
 |(i,x)::t=>match aR am x,m0 am t with
  |some v,some t=>some ((i,v)::t)
  |_,_=>none
def dd.m0{a:Act}(h:dd n am a):∀{d:ab (Nat×bf)} {z:ab (Nat×aj)},ay.m0 am d=some z->d.map (λp=>(p.1,a.eval p.2))=z
 |[],z,g=>by simp[ay.m0]at g;subst g;rfl
 |(i,x)::d,z,g=>by
  simp only[ay.m0]at g;split at g
  .rename_i v j t o;simp only[eY]at g;subst g;simp[h.eval t,dd.m0 h o]
  .cases g
def aK.build(ad:ca P){i:ab (Nat×bf)}{y:ab (Nat×aj)}{c o:ab aj}(b:yx P T=true)(v:iK ad.iZ T=some c)(g:ay.m0 am i=some y)(d:lV P T y c o):aK P n am an ⟨some dst,.build T i.toArray,ba,bb,bc,aV⟩ (A o):=λa w j _=>by
 obtain⟨z,t,rfl⟩:=ad.zeroAt v;have e:(i.toArray.map λ(p:Nat×bf)=>(p.1,a.eval p.2))=y.toArray:=by rw[<-j.m0 g];simp
 have s:(i.toArray.map λ(x:Nat×bf)=>match x with|(i,x)=>(i,a.eval x))=y.toArray:=e;simp only[execOp,cK,s,run_build b t d w,dW,eP]
def lV.nil{c:ab aj}:lV P T [] c c:=rfl
def lV.aae(ad:ca P){f off k:Nat}{v:aj}{l:ab (Nat×aj)}{c b j:ab aj}(h:n9 ad.q7 T f=some off)(d:n9 ad.wF T f=some k)(t:k=1)(y:v.cells=#[v])(g:Nat.blt off c.length=true)(o:bA off [v] c b)(z:lV P T l b j):lV P T ((f,v)::l) c j:=by subst t;exact⟨off,b,by rw[y];exact ad.Xj h d,by rw[y];exact g,by rw[y];exact o.eq,z⟩
def lV.aaf(ad:ca P){f off k:Nat}{u:ab aj}{l:ab (Nat×aj)}{c v z:ab aj}(h:n9 ad.q7 T f=some off)(g:n9 ad.wF T f=some k)(j:u.length=k)(t:Nat.ble (off+k) c.length=true)(d:bA off u c v)(o:lV P T l v z):lV P T ((f,A u)::l) c z:=by subst j;exact⟨off,v,by simpa[Value.cells]using ad.Xj h g,by simpa[Value.cells]using t,d.eq,o⟩
end
end Go.ay
namespace Go.ay
open Go
variable{k:IntKind}{a:aT Addr}{aV:aT (Nat×Bool)}{C:bC->ab ax->Prop}{bc:Array Edge}
section
variable{P:bU}{r:aT Nat}{W:aZ}{D:ab Nat}{n:dq}{Q:cU}{am Z:bC}{an a2:ab ax}{J:Array b6}{N:ab b6}
variable{dst:Nat}{ba:a7}{bb:String}
def aK.aag{c x y:bf}{v:aj}(g:aR am c=some (.bool true))(t:aR am x=some v):aK P n am an ⟨some dst,.pick c x y,ba,bb,bc,aV⟩ (v):=
 aK.pick g (λ_=>t) (λh=>Ua)
def aK.aah{c x y:bf}{v:aj}(g:aR am c=some (.bool false))(t:aR am y=some v):aK P n am an ⟨some dst,.pick c x y,ba,bb,bc,aV⟩ (v):=
 aK.pick g (λh=>Ua) (λ_=>t)
def wH(l:ab aS):(⟨l.toArray⟩:ByteArray).size=l.length:=rfl
def ob(X:BinOp)(p q:ab aS):aT Bool:=
 match X with
 |.eql=>some (decide (p=q))
 |.neq=>some (!decide (p=q))
 |.lss=>some (Op.bytesLess p q)
 |.leq=>some (Op.bytesLess p q||decide (p=q))
 |.gtr=>some (!(Op.bytesLess p q||decide (p=q)))
 |.geq=>some (!Op.bytesLess p q)
 |_=>none
def aK.ob{X:BinOp}{t i:a7}{x y:bf}{p q:ab aS}{b:Bool}(g:aR am x=some (S p))(d:aR am y=some (S q))(o:ay.ob X p q=some b):aK P n am an ⟨some dst,.binOp X t x y i,ba,bb,bc,aV⟩ (.bool b):=
 λa w j _=>by
  have e:(p==q)=decide (p=q):=by rw[q8];simp
  simp only[execOp,j.eval g,j.eval d];cases X<;>simp only[ay.ob,eY,reduceCtorEq]at o<;>subst o<;>simp[eqGuard,binOp,Op.stringOp,e]
def aK.WG(ad:ca P){t u:a7}{x:bf}{p:ab aS}(g:aR am x=some (S p))(v:bM ad.strs t=some u):aK P n am an ⟨some dst,.call ⟨.builtin .len,#[x],#[t]⟩,ba,bb,bc,aV⟩ (I (p.length:Int)):=
 λa w j _=>by simp[execOp,resolve,invoke,builtin,Builtin.len_,j.eval g,et (ad.Vl v),goInt,wH]
def gt{t e:Nat}(h:q6 P t e=true):P.underlying t=some (.slice e):=by
 unfold q6 at h;split at h
 .rename_i i z;rw[z];simp at h;rw[h]
 .cases h
def aK.Wj{t e:a7}{x:bf}{o d:Nat}(g:aR am x=some (.slice a o d))(v:q6 P t e=true):aK P n am an ⟨some dst,.call ⟨.builtin .len,#[x],#[t]⟩,ba,bb,bc,aV⟩ (I (o:Int)):=
 λa w j _=>by simp[execOp,resolve,invoke,builtin,Builtin.len_,j.eval g,et (gt v),goInt]
def aK.aai(ad:ca P){t e:a7}{x:bf}{o d:Nat}(g:aR am x=some (.slice a o d))(j:bM ad.fe t=some e):aK P n am an ⟨some dst,.call ⟨.builtin .len,#[x],#[t]⟩,ba,bb,bc,aV⟩ (I (o:Int)):=
 aK.Wj g (ad.Uu j)
def aK.aaj{t e E:a7}{x:bf}{v:aj}{aI k:Nat}{o:ab aj}(d:aR am x=some v)(z:row v E aI k o∈an)(b:q6 P t e=true):aK P n am an ⟨some dst,.call ⟨.builtin .len,#[x],#[t]⟩,ba,bb,bc,aV⟩ (I (k:Int)):=
 λa w y i=>by
  have h:=i _ z;rw[io]at h;rcases h.2 with⟨rfl,rfl⟩|⟨g,j,s,rfl,_⟩<;>
  simp[execOp,resolve,invoke,builtin,Builtin.len_,y.eval d,et (gt b),goInt]
def aK.max{i:Array a7}{x y:bf}{p q:Int}(t:aR am x=some (I p))(g:aR am y=some (I q)):aK P n am an ⟨some dst,.call ⟨.builtin .max,#[x,y],i⟩,ba,bb,bc,aV⟩ (I (Max.max p q)):=
 λa w j _=>by
  have e:(if q>p then q else p)=Max.max p q:=ac
  simp[execOp,resolve,invoke,builtin,Builtin.max_,Builtin.max2,j.eval t,j.eval g,e]
def aK.min{i:Array a7}{x y:bf}{p q:Int}(t:aR am x=some (I p))(g:aR am y=some (I q)):aK P n am an ⟨some dst,.call ⟨.builtin .min,#[x,y],i⟩,ba,bb,bc,aV⟩ (I (Min.min p q)):=
 λa w j _=>by
  have e:(if q<p then q else p)=Min.min p q:=ac
  simp[execOp,resolve,invoke,builtin,Builtin.min_,Builtin.min2,j.eval t,j.eval g,e]
def aK.Xp(ad:ca P){t u:a7}{x y:bf}{p:ab aS}{i:Int}{b:aS}(g:aR am x=some (S p))(d:aR am y=some (.int k i))(v:bM ad.strs t=some u)(z:0<=i)(o:p[i.toNat]?=some b):aK P n am an ⟨some dst,.index t x y,ba,bb,bc,aV⟩ (.int .u8 (b.toNat:Int)):=
 λa w j _=>by
  have y:i.toNat<p.length:=(cT.1 o).1;have t:(⟨p.toArray⟩:ByteArray)[i.toNat]?=some b:=by
   rw[getElem?_pos _ _ (by simpa[wH]using y)];have:p[i.toNat]=b:=by simpa[y]using o
   simp[ByteArray.getElem_eq_getElem_data,this]
  simp[execOp,Instr.index,j.eval g,j.eval d,asIntOf,et (ad.Vl v),z,t]
def En(p:ab aS)(l h:Nat):(⟨p.toArray⟩:ByteArray).extract l h=⟨((p.drop l).take (h-l)).toArray⟩:=by apply ByteArray.ext;simp[ByteArray.data_extract,List.take_drop]
def aK.aak(ad:ca P){t u:a7}{x j:bf}{p:ab aS}{i:Int}(d:aR am x=some (S p))(o:aR am j=some (.int k i))(v:bM ad.strs t=some u)(z:0<=i)(g:i<=p.length):aK P n am an ⟨some dst,.slice t x (some j) none none,ba,bb,bc,aV⟩ (S (p.drop i.toNat)):=
 λa w j _=>by have e:(p.drop i.toNat).take (p.length-i.toNat)=p.drop i.toNat:=k8 T3;simp[execOp,Instr.sliceAt,Instr.slice,Instr.sliceBounds,Instr.sliceBound,j.eval d,j.eval o,asIntOf,et (ad.Vl v),z,g,wH,En,e]
def aK.aal(ad:ca P){t u:a7}{x ao:bf}{p:ab aS}{i:Int}(d:aR am x=some (S p))(o:aR am ao=some (.int k i))(v:bM ad.strs t=some u)(z:0<=i)(g:i<=p.length):aK P n am an ⟨some dst,.slice t x none (some ao) none,ba,bb,bc,aV⟩ (S (p.take i.toNat)):=
 λa w j _=>by simp[execOp,Instr.sliceAt,Instr.slice,Instr.sliceBounds,Instr.sliceBound,j.eval d,j.eval o,asIntOf,et (ad.Vl v),z,g,wH,En]
end
end Go.ay
namespace Go.ay
open Go
variable{M:Act->aZ->Prop}{Y:Array Bool}{K:Act->aZ->Prop}{a:Act}{Q:cU}{U:aZ->Prop}{aV:aT (Nat×Bool)}{fR:b6}{q:Region.Mode}{bc:Array Edge}
section
variable{P:bU}{r:aT Nat}{J:Array b6}
def kg(P:bU)(r:aT Nat)(J:Array b6)(Q:cU)(i:Nat)(K:Act->aZ->Prop)(a:Act)(w:aZ):Prop:=
 match J[i]? with
 |none=>K a w
 |some o=>if Region.wanted o (yielded J a.tmps)then mZ P r o a w K Q else K (a.put o.dst undef) w
def Any(P:bU)(r:aT Nat)(q:Region.Mode)(J:Array b6)(Q:cU)(S T:aZ->Prop)(u:ab Nat):Nat->Array Bool->Act->aZ->Prop
 |0,Y,a,w=>Region.ready q J Y=[]/\Q .normal a w
 |U+1,Y,a,w=>
  (Region.ready q J Y=[]->Q .normal a w)/\
  ∀i∈Region.ready q J Y,kg P r J Q i (λb t=>T t/\(S w->u.contains i=false->S t)/\Any P r q J Q S T u U (Y.setIfInBounds i true) b t) a w
def Eo{o:b6}{w:aZ}{t:Act->aZ->Prop}(h:∀a w,K a w->t a w)(j:mZ P r o a w K Q):mZ P r o a w t Q:=
 (Oper.wpIn_mono (F:=mr r) (n:=0) h (Ax j)).2
def aie{i:Nat}{t:Act->aZ->Prop}{w:aZ}(h:∀a w,K a w->t a w)(j:kg P r J Q i K a w):wpOpIn (mr r) 0 P J Q i t a w:=by
 unfold kg at j;unfold wpOpIn;split
 .rename_i e;rw[e]at j;exact h _ _ j
 .rename_i o e;rw[e]at j;simp only at j;split
  .rename_i s;rw[aQ s]at j;exact Ax (Eo h j)
  .rename_i s;rw[aM s]at j;exact⟨λ_ _=>trivial,h _ _ j⟩
def Ep{Q:cU}{S T:aZ->Prop}{u:ab Nat}:∀(U:Nat) (Y:Array Bool) (a:Act) (w:aZ),Any P r q J Q S T u U Y a w->wpAnyIn (mr r) 0 P q J Q U Y a w
 |0,_,_,_,h=>h
 |U+1,_,_,_,h=>⟨h.1,λi ao=>aie (λa w z=>Ep U _ a w z.2.2) (h.2 i ao)⟩
def oc(P:bU)(J:Array b6)(U:aZ->Prop)(o:b6)(v:aj)(a:Act):Prop:=
 (Region.wanted o (yielded J a.tmps)=true/\kf o.op=true/\∀w,U w->(execOp a.eval o).run P w=.ok (.value v) w)\/
 (Region.wanted o (yielded J a.tmps)=false/\v=undef)
def oc.kg{i:Nat}{o:b6}{v:aj}(ao:J[i]?=some o)(t:oc P J U o v a){w:aZ}(g:U w)(h:K (a.put o.dst v) w):kg P r J Q i K a w:=by
 unfold ay.kg;rw[ao];simp only;rcases t with⟨s,x,z⟩|⟨s,rfl⟩
 .rw[aQ s];exact jA x (z w g) h
 .rw[aM (by rw[s];simp)];exact h
def oc.of_same{o:b6}{v:aj}{b:Act}(t:oc P J U o v a)(z:execOp b.eval o=execOp a.eval o)(i:Region.wanted o (yielded J b.tmps)=Region.wanted o (yielded J a.tmps)):oc P J U o v b:=by unfold oc at*;rw[z,i];exact t
def uX(J:Array b6):Bool:=J.all λo=>kf o.op&&(match o.op with|.select ..=>false|_=>true)
def AF{j:Nat}{eo:b6}{v:aj}(i:J[j]?=some eo)(Yg:fR.apart J eo=true)(Yh:∀cs b,fR.op≠.select cs b)(Yj:∀cs b,eo.op≠.select cs b)(Yi:kf eo.op=true){w:aZ}(o:oc P J U fR v a)(h:kg P r J (λe a w=>match e with|.normal=>M a w|_=>False) j K (a.put fR.dst v) w):kg P r J (λe a w=>match e with|.normal=>M a w|_=>False) j (λgR k=>oc P J U fR v gR/\K (gR.put fR.dst v) k) a w:=by
 obtain⟨t,g,z⟩:=Oper.apart_spec Yg;have Yc:∀(a:Act),oc P J U fR v a->∀u,oc P J U fR v (a.put eo.dst u):=λa o u=>
  o.of_same (execOp_put fR Yh a eo.dst u z) (wanted_put fR a eo.dst u z)
 unfold kg at*;simp only[i]at*;rw[wanted_put eo a fR.dst v t]at h;split
 .rename_i s;simp only[s,h7]at h;unfold mZ at*;rw[uQ Yi,execOp_put eo Yj a fR.dst v t]at h;rw[uQ Yi];generalize(execOp a.eval eo).run P w=x at*;cases x with
  |ok x k=>
   cases x<;>simp only[Oper.uponIn]at h⊢;case value u=>exact⟨Yc a o u,by rw[<-uY a v u g];exact h⟩
   case skip=>exact⟨Yc a o _,by rw[<-uY a v undef g];exact h⟩
   case defer d=>
    refine⟨?_,?_⟩
    .exact(o.of_same (b:={a with defers:=d::a.defers}) rfl rfl).of_same (execOp_put fR Yh _ eo.dst undef z) (wanted_put fR _ eo.dst undef z)
    .rw[<-uY _ v undef g,<-Act.put_defers];exact h
   case enter f args=>
    refine⟨h.1,CallsIn.mono h.2 λe Yf y=>?_⟩;cases e with
    |returned u=>exact⟨Yc a o u,QN⟩
    |panicked c=>exact y
    |outgrown=>exact y
   case row row args=>exact⟨h.1,RowsIn.mono h.2 λu Yf y=>⟨Yc a o u,QN⟩⟩
   case round l f Ye assign body=>
    refine⟨h.1,RoundIn.mono h.2 λe Yf y=>?_⟩;cases e with
    |returned u=>exact⟨Yc a o u,QN⟩
    |panicked c=>exact y
    |outgrown=>exact y
  |halt x k=>
   cases x<;>simp only[Oper.uponIn]at h⊢
 .rename_i s;simp only[s]at h;exact⟨Yc a o _,by rw[<-uY a v undef g];exact h⟩
def AG{i:Nat}{t:Act->aZ->Prop}{w:aZ}(h:∀a w,K a w->t a w)(j:kg P r J Q i K a w):kg P r J Q i t a w:=by
 unfold kg at*;split
 .rename_i e;rw[e]at j;exact h _ _ j
 .rename_i o e;rw[e]at j;simp only at j;split
  .rename_i s;rw[aQ s]at j;exact Eo h j
  .rename_i s;rw[aM s]at j;exact h _ _ j
abbrev r9(M:Act->aZ->Prop):cU:=λe a w=>match e with|.normal=>M a w|_=>False
def Er(q:Region.Mode)(J:Array b6)(u:ab Nat)(i:Nat):Bool:=
 u.all λj=>match J[j]? with
  |some z=>z.after.any λe=>Region.binds q e&&(e.on==i||(match J[e.on]? with
    |some d=>d.after.any λs=>Region.binds q s&&s.on==i
    |none=>false))
  |none=>true
def AH(q:Region.Mode)(J:Array b6)(Y:Array Bool):Bool:=
 (List.range J.size).all λm=>!Y.getD m false||(match J[m]? with
  |some d=>d.after.all λe=>!Region.binds q e||Y.getD e.on false
  |none=>true)
def pB(q:Region.Mode)(J:Array b6)(Y:Array Bool):Prop:=
 ∀(m:Nat) (d:b6),J[m]?=some d->Y.getD m false=true->∀e∈d.after,Region.binds q e=true->Y.getD e.on false=true
def pB.of(h:AH q J Y=true):pB q J Y:=by intro m j g o e z d;have t:=hq.1 h m (pC.2 (o4.1 g).1);simp only[g,o,AI,wI]at t;have g:=yq.1 t e z;simpa[d]using g
def pB.step{Y:Array Bool}{j:Nat}(h:pB q J Y)(y:j∈Region.ready q J Y):pB q J (Y.setIfInBounds j true):=by
 intro m o t d e z g;refine getD_set_true ?_;by_cases s:j=m
 .subst s;obtain⟨_,v,i,b⟩:=q9.1 y;rw[t]at i;obtain rfl:=hc i;exact b e z g
 .rw[getD_set_ne false s]at d;exact h m o t d e z g
def Any.first{S T:aZ->Prop}{u:ab Nat}{i:Nat}{v:aj}(ao:J[i]?=some fR)(Yf:uX J=true)(cN:Er q J u i=true):∀(U:Nat) (Y:Array Bool) (a:Act) (w:aZ),(∀j eo,J[j]?=some eo->j≠i->Y.getD j true=false->(∀e∈eo.after,Region.binds q e=true->e.on≠i)->fR.apart J eo=true)->i∈Region.ready q J Y->pB q J Y->oc P J S fR v a->S w->T w->Any P r q J (r9 M) S T u U (Y.setIfInBounds i true) (a.put fR.dst v) w->Any P r q J (r9 M) S T u (U+1) Y a w:=by
 have Yn:∀(j:Nat) (eo:b6),J[j]?=some eo->kf eo.op=true/\∀cs b,eo.op≠.select cs b:=λj eo dR=>by have:=yq.1 Yf eo (wJ dR);exact Tn
 intro U;induction U with
 |zero=>
  intro Y a w _ c1 _ o hJ eF H;refine⟨λh=>(by rw[h]at c1;cases c1),λj dR=>?_⟩;by_cases Yg:j=i
  .subst Yg;exact o.kg ao hJ ⟨eF,λ_ _=>hJ,H⟩
  .have:=sa dR Yg;rw[H.1]at this;cases this
 |succ U lu=>
  intro Y a w Yp c1 Yh o hJ eF H;have Yk:=(q9.1 c1).1;refine⟨λh=>(by rw[h]at c1;cases c1),λj dR=>?_⟩;by_cases Yg:j=i
  .subst Yg;exact o.kg ao hJ ⟨eF,λ_ _=>hJ,H⟩
  .have t:=H.2 j (sa dR Yg);obtain⟨Yq,eo,Yj,Yi⟩:=q9.1 dR;have Yr:∀e∈eo.after,Region.binds q e=true->e.on≠i:=λe c9 z Yo=>by
    have t:=Yi e c9 z;rw[Yo]at t;rcases o1 i Y.size with hd|hd
    .simp[hd]at Yk t;rw[Yk]at t;cases t
    .simp[yy hd]at t
   have Yu:u.contains j=false:=by
    cases s:u.contains j with
    |false=>rfl
    |true=>
     have d:j∈u:=by simpa using s
     have:=hq.1 cN j d;rw[Yj]at this;obtain⟨e,c9,z⟩:=Es.1 this;simp only[c5,iL,cX]at z;rcases z.2 with g|g
     .exact absurd g (Yr e c9 z.1)
     .split at g
      .rename_i fZ Yv;obtain⟨kG,Yl,Ye⟩:=Es.1 g;simp only[c5,cX]at Ye;have x:=Yh e.on fZ Yv (Yi e c9 z.1) kG Yl Ye.1;rw[Ye.2]at x;rcases o1 i Y.size with hd|hd
       .simp[hd]at Yk x;rw[Yk]at x;cases x
       .simp[yy hd]at x
      .cases g
   have g:=AF Yj (Yp j eo Yj Yg Yq Yr) (Yn i fR ao).2 (Yn j eo Yj).2 (Yn j eo Yj).1 o t;have Ys:∀k ok,J[k]?=some ok->k≠i->(Y.setIfInBounds j true).getD k true=false->
     (∀e∈ok.after,Region.binds q e=true->e.on≠i)->fR.apart J ok=true:=λk ok y Yt Yk Yc=>by
    refine Yp k ok y Yt ?_ Yc
    by_cases Ym:j=k
    .subst Ym;exact Yq
    .rw[getD_set_ne true Ym]at Yk;exact Yk
   refine AG (λb t x=>⟨x.2.1,x.2.2.1,lu (Y.setIfInBounds j true) b t Ys (sa c1 (o5 Yg)) (Yh.step dR) x.1 (x.2.2.1 hJ Yu) x.2.1 ?_⟩) g;rw[Et _ _ Yg];exact x.2.2.2
def Any.aam{S T:aZ->Prop}{u:ab Nat}{i:Nat}{v:aj}(ao:J[i]?=some fR)(Ye:uX J=true):∀(U:Nat) (Y:Array Bool) (a:Act) (w:aZ),(∀j eo,J[j]?=some eo->j≠i->Y.getD j true=false->(∀e∈eo.after,Region.binds q e=true->e.on≠i)->fR.apart J eo=true)->i∈Region.ready q J Y->oc P J T fR v a->T w->Any P r q J (r9 M) S T u U (Y.setIfInBounds i true) (a.put fR.dst v) w->Any P r q J (r9 M) S T u (U+1) Y a w:=by
 have Yk:∀(j:Nat) (eo:b6),J[j]?=some eo->kf eo.op=true/\∀cs b,eo.op≠.select cs b:=λj eo x=>by have:=yq.1 Ye eo (wJ x);exact Tn
 intro U;induction U with
 |zero=>
  intro Y a w _ y d eF H;refine⟨λh=>My,λj x=>?_⟩;by_cases Yf:j=i
  .subst Yf;exact d.kg ao eF ⟨eF,λh _=>h,H⟩
  .have:=sa x Yf;rw[H.1]at this;cases this
 |succ U lu=>
  intro Y a w Ym y d eF H;have Yi:=(q9.1 y).1;refine⟨λh=>My,λj x=>?_⟩;by_cases Yf:j=i
  .subst Yf;exact d.kg ao eF ⟨eF,λh _=>h,H⟩
  .have t:=H.2 j (sa x Yf);obtain⟨Yn,eo,Yh,Yg⟩:=q9.1 x;have Yo:∀e∈eo.after,Region.binds q e=true->e.on≠i:=λe s o Yl=>by
    have t:=Yg e s o;rw[Yl]at t;rcases o1 i Y.size with hd|hd
    .simp[hd]at Yi t;rw[Yi]at t;cases t
    .simp[yy hd]at t
   have g:=AF Yh (Ym j eo Yh Yf Yn Yo) (Yk i fR ao).2 (Yk j eo Yh).2 (Yk j eo Yh).1 d t;have Yp:∀k ok,J[k]?=some ok->k≠i->(Y.setIfInBounds j true).getD k true=false->
     (∀e∈ok.after,Region.binds q e=true->e.on≠i)->fR.apart J ok=true:=λk ok z Yq Yi Yc=>by
    refine Ym k ok z Yq ?_ Yc
    by_cases Yj:j=k
    .subst Yj;exact Yn
    .rw[getD_set_ne true Yj]at Yi;exact Yi
   refine AG (λb d t=>⟨t.2.1,t.2.2.1,lu (Y.setIfInBounds j true) b d Yp (sa y (o5 Yf)) t.1 t.2.1 ?_⟩) g;rw[Et _ _ Yf];exact t.2.2.2
section
variable{W:aZ}{D:ab Nat}{n:dq}{am Z:bC}{an a2:ab ax}
def af(P:bU)(r:aT Nat)(W:aZ)(D:ab Nat)(n:dq)(J:Array b6)(M:Act->aZ->Prop)(K F:ab ax)(u:ab Nat)(T:Bool)(U:Nat)(Y:Array Bool)(am:bC)(an:ab ax):Prop:=
 ∀a w,dd n am a->H W D an w->fw F w->(T=true->fw K w)->Any P r .any J (r9 M) (fw K) (fw F) u U Y a w
def ah.draw{id:Nat}{l:ab b6}(K F:ab ax)(u:ab Nat)(t:P.follows .mixedOrders=true)(y:∀w,H W D an w->fw K w)(g:∀w,H W D an w->fw F w)(h:af P r W D n l.toArray (Q .normal) K F u true l.length (Array.replicate l.length false) am an):ah P r W D n Q (.region id l.toArray true) am an:=λa w j v=>by
 refine tr (Q:=r9 (Q .normal)) (wpIn_region_any t ?_) ?_
 .have:=Ep _ _ _ _ (h a _ j (v.WE 1) (g _ (v.WE 1)) (λ_=>y _ (v.WE 1)));simpa using this
 .intro e a w aW;cases e with
  |normal=>exact aW
  |_=>exact aW.elim
def sb(q:Region.Mode)(J:Array b6)(Y:Array Bool)(i:Nat):Bool:=Region.ready q J Y==[i]
def tv(J:Array b6)(u:ab Nat)(Y:Array Bool)(i:Nat):Bool:=
 uX J&&Er .any J u i&&Region.free .any J Y i&&(Region.ready .any J Y).contains i&&AH .any J Y
section
variable{K F:ab ax}{u:ab Nat}{U:Nat}{T:Bool}
variable{dst:Nat}{X:Op}{ba:a7}{bb:String}
def af.take{v:aj}(i:Nat)(ao:J[i]?=some ⟨some dst,X,ba,bb,bc,aV⟩)(o:tv J u Y i=true)(z:hp am J aV=some true)(Yc:kf X=true)(s:Nat.blt dst n.n=true)(d:aK P n am K ⟨some dst,X,ba,bb,bc,aV⟩ v)(h:af P r W D n J M K F u true U (Y.setIfInBounds i true) ((dst,v)::am) an):af P r W D n J M K F u true (U+1) Y am an:=λa w y b eF k=>by simp only[tv,c5]at o;obtain⟨⟨⟨⟨t,g⟩,j⟩,i⟩,x⟩:=o;exact Any.first ao t g U Y a w (AJ ao j) (by simpa using i) (pB.of x) (.inl ⟨q5 y z,Yc,λo Ye=>d a o y Ye⟩) (k rfl) eF (h _ _ (y.put s v) b eF k)
def af.skip(i:Nat)(ao:J[i]?=some ⟨some dst,X,ba,bb,bc,aV⟩)(d:tv J u Y i=true)(o:hp am J aV=some false)(y:Nat.blt dst n.n=true)(h:af P r W D n J M K F u true U (Y.setIfInBounds i true) ((dst,undef)::am) an):af P r W D n J M K F u true (U+1) Y am an:=λa w j v k i=>by simp only[tv,c5]at d;obtain⟨⟨⟨⟨t,g⟩,z⟩,b⟩,s⟩:=d;exact Any.first ao t g U Y a w (AJ ao z) (by simpa using b) (pB.of s) (.inr ⟨q5 j o,rfl⟩) (i rfl) k (h _ _ (j.put y undef) v k i)
def yz(J:Array b6)(Y:Array Bool)(i:Nat):Bool:=
 uX J&&Region.free .any J Y i&&(Region.ready .any J Y).contains i
def af.aan{v:aj}(i:Nat)(ao:J[i]?=some ⟨some dst,X,ba,bb,bc,aV⟩)(d:yz J Y i=true)(o:hp am J aV=some true)(x:kf X=true)(b:Nat.blt dst n.n=true)(g:aK P n am F ⟨some dst,X,ba,bb,bc,aV⟩ v)(h:af P r W D n J M K F u T U (Y.setIfInBounds i true) ((dst,v)::am) an):af P r W D n J M K F u T (U+1) Y am an:=λa w j y k s=>by simp only[yz,c5]at d;obtain⟨⟨t,z⟩,i⟩:=d;exact Any.aam ao t U Y a w (AJ ao z) (by simpa using i) (.inl ⟨q5 j o,x,λd Yc=>g a d j Yc⟩) k (h _ _ (j.put b v) y k s)
def af.only{o:b6}(i:Nat)(ao:J[i]?=some o)(t:sb .any J Y i=true)(g:hp am J o.guard=some true)(h:av P r W D n o am an (λZ a2=>(∀w,H W D a2 w->fw K w)/\(∀w,H W D a2 w->fw F w)/\af P r W D n J M K F u true U (Y.setIfInBounds i true) Z a2)):af P r W D n J M K F u T (U+1) Y am an:=λa w v y z _=>by
 have d:Region.ready .any J Y=[i]:=by simpa[sb]using t
 refine⟨λe=>(by rw[d]at e;cases e),λj b=>?_⟩;rw[d]at b;obtain rfl:j=i:=by simpa using b
 unfold kg;rw[ao];simp only;rw[aQ (q5 v g)];exact h _ _ (λZ a2 t a w v y=>⟨t.2.1 w y,λ_ _=>t.1 w y,t.2.2 a w v y (t.2.1 w y) (λ_=>t.1 w y)⟩) a w v y
def af.last{o:b6}(i:Nat)(ao:J[i]?=some o)(t:(sb .any J Y i&&u.contains i)=true)(g:hp am J o.guard=some true)(h:av P r W D n o am an (λZ a2=>(∀w,H W D a2 w->fw F w)/\af P r W D n J M K F u false U (Y.setIfInBounds i true) Z a2)):af P r W D n J M K F u T (U+1) Y am an:=λa w v b k _=>by
 simp only[c5]at t;have d:Region.ready .any J Y=[i]:=by simpa[sb]using t.1
 refine⟨λe=>(by rw[d]at e;cases e),λj s=>?_⟩;rw[d]at s;obtain rfl:j=i:=by simpa using s
 unfold kg;rw[ao];simp only;rw[aQ (q5 v g)];exact h _ _ (λZ a2 z a w v b=>⟨z.1 w b,λ_ y=>(by rw[t.2]at y;cases y),z.2 a w v b (z.1 w b) (λe=>by cases e)⟩) a w v b
def af.each(b:ab Nat)(t:(Region.ready .any J Y==b&&!b.isEmpty)=true)(h:∀i∈b,∃o,J[i]?=some o/\hp am J o.guard=some true/\av P r W D n o am an (λZ a2=>(∀w,H W D a2 w->fw K w)/\(∀w,H W D a2 w->fw F w)/\af P r W D n J M K F u true U (Y.setIfInBounds i true) Z a2)):af P r W D n J M K F u T (U+1) Y am an:=λa w v y d _=>by simp only[c5,cX,ke]at t;obtain⟨g,z⟩:=t;refine⟨λe=>(by rw[g]at e;rw[e]at z;cases z),λj s=>?_⟩;rw[g]at s;obtain⟨o,b,g,t⟩:=h j s;unfold kg;rw[b];simp only;rw[aQ (q5 v g)];exact t _ _ (λZ a2 g a w v y=>⟨g.2.1 w y,λ_ _=>g.1 w y,g.2.2 a w v y (g.2.1 w y) (λ_=>g.1 w y)⟩) a w v y
def af.done(t:(Region.ready .any J Y).isEmpty=true)(h:∀a w,dd n am a->H W D an w->M a w):∀{U:Nat},af P r W D n J M K F u T U Y am an
 |0=>λa w j v _ _=>⟨SD,h a w j v⟩
 |_+1=>λa w j v _ _=>⟨λ_=>h a w j v,by rw[show Region.ready .any J Y=[] by simpa using t];simp⟩
def af.out{e:dI}(t:(Region.ready .any J Y).isEmpty=true)(h:Out W D n Q e am an){U:Nat}:af P r W D n J (Q e) K F u T U Y am an:=af.done t h
def af.part{d:Nat}{b:Bool}(z:ev am d=some (.bool b))(v:b=true->af P r W D n J M K F u T U Y ((d,.bool true)::am) an)(k:b=false->af P r W D n J M K F u T U Y ((d,.bool false)::am) an):af P r W D n J M K F u T U Y am an:=λa w j y t i=>by
 cases b with
 |true=>exact v rfl a w (j.jh z) y t i
 |false=>exact k rfl a w (j.jh z) y t i
def Eu:∀w,H W D an w->fw [] w:=λ_ _ _ h=>Ua
def Ev{e:ax}{be:ab ax}(h:e∈an)(j:∀w,H W D an w->fw be w):∀w,H W D an w->fw (e::be) w:=λw v x t=>by
 rcases dk.1 t with rfl|t
 .exact v.mem h
 .exact j w v x t
end
end
end
end Go.ay
namespace Go.ay
open Go
section
variable{P:bU}{r:aT Nat}{W:aZ}{D:ab Nat}{n:dq}{Q:cU}{am Z:bC}{an a2:ab ax}{J:Array b6}{N:ab b6}
variable{dst:Nat}{ba:a7}{bb:String}{bc:Array Edge}{aV:aT (Nat×Bool)}{C:bC->ab ax->Prop}
abbrev dr(P:bU)(f:eR)(args:ab aj)(x:aj):Prop:=ar P f args [] (λv a2=>v=x/\a2=[])
def av.fun{f:eR}{d:ab bf}{i:Array a7}{args:ab aj}{x:aj}(y:Nat.blt dst n.n=true)(b:kF P f=true) (g:ay.hU am d=some args) (k:dr P f args x) (z:C ((dst,x)::am) an):av P r W D n ⟨some dst,.call ⟨.value (.func f),d.toArray,i⟩,ba,bb,bc,aV⟩ am an C:=
 av.call (k7:=[]) (lR:=an) y b g (he _) k (λv a2 ⟨t,o⟩=>by subst t o;exact z)
end
end Go.ay
namespace Go.ay
open Go
inductive od where
 |b|i (k:IntKind)|s
def od.ok:od->aj->Prop
 |.b,v=>∃x,v=.bool x
 |.i k,v=>∃n,v=.int k n/\(Lit.int k n).wf=true
 |.s,v=>∃l:ab aS,v=S l/\l.length<=140737488351232
def hr:ab od->ab aj->Prop
 |[],[]=>True
 |f::j,v::t=>f.ok v/\hr j t
 |_,_=>False
def hr.cons{f:od}{j:ab od}{t:ab aj}(h:hr (f::j) t):∃v g,t=v::g/\f.ok v/\hr j g:=by
 cases t with
 |nil=>exact h.elim
 |cons v t=>exact⟨v,t,rfl,h.1,h.2⟩
def hr.nil{t:ab aj}(h:hr [] t):t=[]:=by
 cases t with
 |nil=>rfl
 |cons v t=>exact h.elim
abbrev mv(k:IntKind)(n:Int):Prop:=(Lit.int k n).wf=true
def mv.WH{n:Int}(h:-9223372036854775808<=n/\n<=9223372036854775807):mv .i64 n:=WalkArith.wf_i64 h
def hr.append:∀{j z:ab od} {t b:ab aj},hr j t->hr z b->hr (j++z) (t++b)
 |[],_,[],_,_,h=>h
 |[],_,_::_,_,h,_=>h.elim
 |_::_,_,[],_,h,_=>h.elim
 |_::_,_,_::_,_,h,k=>⟨h.1,hr.append h.2 k⟩
section
variable{l:Type}{L:a7×aj->l}{P:bU}{w:aZ}{G:Nat}{p:Nat->Bool}{c:Bool}
def leaves(P:bU):Nat->a7->aT (ab od)
 |0,_=>none
 |m+1,T=>
  match P.underlying T with
  |some .bool=>some [.b]
  |some (.int k)=>some [.i k]
  |some .string=>some [.s]
  |some (.struct qj)=>match fields m 0 qj.toList with
   |some ls=>if ls.length=P.cellsOf T then some ls else none
   |none=>none
  |some (.array n e)=>match leaves P m e with
   |some ls=>if ls.length=P.cellsOf e/\n*ls.length=P.cellsOf T then some (List.replicate n ls).flatten else none
   |none=>none
  |_=>none
 where
 fields:Nat->Nat->ab Field->aT (ab od)
  |_,_,[]=>some []
  |0,_,_=>none
  |m+1,o,f::qj=>
   match leaves P m f.type,fields m (o+P.cellsOf f.type) qj with
   |some ls,some N=>if f.offset=o/\ls.length=P.cellsOf f.type then some (ls++N)else none
   |_,_=>none
def Ew{b:ab od}:∀(n:Nat) (cs:ab aj),cs.length=n*b.length->(∀i,i<n->hr b ((cs.drop (i*b.length)).take b.length))->hr (List.replicate n b).flatten cs
 |0,cs,t,_=>by have:cs=[]:=lW SD;subst this;exact trivial
 |n+1,cs,t,h=>by
  have o:=h 0 ac;simp only[ra,AK]at o;have g:=Ew (b:=b) n (cs.drop b.length) (by simp[t,fr]) (λi ao=>by have:=h (i+1) ac;rw[rb];rw[show b.length+i*b.length=(i+1)*b.length by rw[fr];omega];exact this)
  have:=o.append g;rw[oe]at this;simpa[AL]using this
def AM{e:a7}:∀{z:ab (DataW l)} {d:DataW l},d∈z->∀n∈d.weights P e,n∈DataW.weightsAll P e z
 |t::z,d,h,n,y=>by
  simp only[DataW.weightsAll,fd];rcases dk.1 h with rfl|h
  .exact .inl y
  .exact .inr (AM h n y)
def yA(P:bU)(T:a7)(d:DataW l):Prop:=∀k,k∈d.weights P T->k<=140737488351232
mutual
def AN:∀(m:Nat) (T:a7) (ls:ab od) (U:Nat) (cs:ab aj) (x:DataW l×ab MemPlace),leaves P m T=some ls->DataW.trod L P w G p c U T cs=some x->yA P T x.1->hr ls cs
 |0,_,_,_,_,_,h,_,_=>by simp[leaves]at h
 |m+1,T,ls,U,cs,x,h,cN,Yc=>by
  unfold leaves at h;split at h
  .rename_i e;obtain⟨b,rfl,_⟩:=DataW.trod_bool e cN;simp only[eY]at h;subst h;exact⟨⟨b,rfl⟩,trivial⟩
  .rename_i k e;obtain⟨q,rfl,_,cG⟩:=DataW.trod_int e cN;simp only[eY]at h;subst h;exact⟨⟨q,rfl,cG⟩,trivial⟩
  .rename_i e;obtain⟨s,rfl,rfl,y⟩:=DataW.trod_string e cN;simp only[eY]at h;subst h;exact⟨⟨s.data.toList,T3,Yc _ (by simp[DataW.weights])⟩,trivial⟩
  .rename_i qj e;split at h
   .rename_i Yj eh;split at h
    .rename_i Ye;simp only[eY]at h;subst h;obtain⟨o,q,rfl,rfl,z,Yh,g⟩:=DataW.trod_struct e cN;have:=Ex m 0 qj.toList Yj q cs ac eh (λi f ao=>by
      have Yg:qj[i]?=some f:=by simpa using ao
      have Yk:i<qj.size:=(o4.1 Yg).1;have Yi:o[i]?=some (o[i]' ac):=hs ac;refine⟨o[i]' ac,by rw[g i f Yg,Yi],λk v=>Yc k ?_⟩;have:=DataW.weights_mem_each (P:=P) (ts:=qj.toList.map (·.type)) (ds:=o.map (·.1)) (j:=i) (t:=f.type) (d:=(o[i]' ac).1) (by simp[Yg]) (by simp[Yi]) k v;simpa[DataW.weights,e]using this)
     simpa using this
    .cases h
   .cases h
  .rename_i k e Ey;split at h
   .rename_i Yj Yf;split at h
    .rename_i Ye;simp only[eY]at h;subst h;obtain⟨o,q,rfl,rfl,z,Yh,g⟩:=DataW.trod_array Ey cN;rw[<-Ye.1]at g;exact Ew k cs (by rw[z,Ye.2]) (λi ao=>AN m e Yj q _ (o[i]' ac) Yf (by rw[g i ao];simp[Yh,ao]) (λn cM=>Yc n (by have:=AM (P:=P) (e:=e) (z:=o.map (·.1)) (d:=(o[i]' ac).1) (eS.2 ⟨_,List.getElem_mem _,rfl⟩) n cM;simpa[DataW.weights,Ey]using this)))
    .cases h
   .cases h
  .cases h
def Ex:∀(m o:Nat) (s:ab Field) (ls:ab od) (U:Nat) (cs:ab aj),cs.length=o+ls.length->leaves.fields P m o s=some ls->(∀(i:Nat) (f:Field),s[i]?=some f->∃y:DataW l×ab MemPlace,DataW.trod L P w G p c U f.type ((cs.drop f.offset).take (P.cellsOf f.type))=some y/\yA P f.type y.1)->hr ls (cs.drop o)
 |m,o,[],ls,U,cs,j,h,_=>by
  have:ls=[]:=by cases m<;>simpa[leaves.fields]using h.symm
  subst this;have:cs.drop o=[]:=List.drop_eq_nil_of_le (by simp at j;omega);rw[this];exact trivial
 |0,_,_::_,_,_,_,_,h,_=>by simp[leaves.fields]at h
 |m+1,o,f::s,ls,U,cs,j,h,k=>by
  simp only[leaves.fields]at h;split at h
  .rename_i x N t d;split at h
   .rename_i v;simp only[eY]at h;subst h;obtain⟨y,z,Yc⟩:=k 0 f rfl;rw[v.1]at z;have f1:=AN m f.type x U _ y t z Yc;have f2:=Ex m (o+P.cellsOf f.type) s N U cs (by simp at j;omega) d (λi g b=>k (i+1) g b);have:=f1.append f2;rw[<-rb,oe]at this;exact this
   .cases h
  .cases h
end
end
end Go.ay
namespace Go.ay
open Go Go.ChangeShapes Go.WideShapes Go.ChangeAt Go.RowKit
section
variable{l:Type}{L:a7×aj->l}{P:bU}{w:aZ}{G:Nat}{p:Nat->Bool}{c:Bool}
def Ez{b:ab a7}{z:ab (DataW l)}(h:(DataW.weightsEach P b z).all (·<=reachBytes)=true)(j:Nat){t:a7}{d:DataW l}(v:b[j]?=some t)(y:z[j]?=some d):yA P t d:=λk t=>by exact wK (hq.1 h _ (DataW.weights_mem_each v y k t))
def sc(w:aZ)(b off aI:Nat)(t:ab (ab aj)):Prop:=
 ∀(i:Nat) (x:ab aj),t[i]?=some x->x.length=aI/\∀(j:Nat) (u:aj),x[j]?=some u->w.cell? ⟨b,off+i*aI+j,none⟩=some u
def AO{cs:ab aj}{a:Addr}{k:Nat}{G:Nat}(h:w.cells? G a k=some cs):cs.length=k/\∀j,j<k->w.cell? (a.add j)=cs[j]?:=by obtain⟨_,t,g⟩:=World.cells?_some h;exact⟨t,g⟩
def EA{T e m:Nat}{s:ab od}{v:aj}{d:DataW l}{aY:ab MemPlace}{nx:Reach}{ff:Nat}(eF:P.underlying T=some (.slice e))(Yg:leaves P m e=some s)(Yc:s.length=P.cellsOf e)(Yh:0<s.length) (Yr:Value.okWide P w nx ff T v) (dM:DataW.Trod L P w G p c T v d aY) (y:yA P T d):∃(cV:aT Addr) (b off t g:Nat) (xs:ab (ab aj)),v=.slice cV t g/\xs.length=t/\t<=g/\g<=maxLen/\(0<t->cV=some ⟨b,off,none⟩/\b<w.heap.size)/\sc w b off s.length xs/\(∀x,x∈xs->hr s x)/\t*P.bytesOf e<=140737488351232:=by
 obtain⟨U,eh⟩:=dM;obtain⟨cV,t,g,rfl⟩:=okWide_slice eF Yr;have Ym:DataW.trod L P w G p c U T [.slice cV t g]=some (d,aY):=by simpa[Value.cells]using eh
 rcases Go.Deep.open_slice eF Ym with⟨o,_⟩|⟨a,Yn,Yf,q,n,lX,ach,Yj,_,dz,dO,aW,Yq,ao⟩
 .simp only[re,rf,mw]at o;obtain⟨rfl,rfl,rfl⟩:=o;exact⟨none,0,0,0,0,[],rfl,rfl,cD _,cO _,λh=>absurd h ac,λi x h=>Uj,λx h=>Ua,T3⟩
 .simp only[re,rf,mw]at Yj;obtain⟨rfl,rfl,rfl⟩:=Yj;have Yx:t<=q:=by rw[aW];split<;>omega
  rw[<-Yc]at ao;refine⟨some a,a.block,a.off,t,g,(List.range t).map λi=>(w.cells? G (a.add (i*s.length)) s.length).getD [],rfl,T3,dz,dO,λYo=>?_,λi x b3=>?_,λx b3=>?_,?_⟩
  .obtain⟨Yp,dE,_⟩:=ao 0 ac;obtain⟨Yi,Yt⟩:=AO dE;have o:=Yt 0 Yh;have fI:(a.add (0*s.length)).add 0=a:=by simp[Addr.add]
   rw[fI]at o;have y:0<Yp.length:=ac
   rw[hs y]at o;have k:a.spot=none:=by
    unfold World.cell? at o;split at o
    .cases b7:a.spot with
     |none=>rfl
     |some z=>simp[b7]at o
    .cases o
   refine⟨?_,block_lt_of_cell o⟩;obtain⟨dS,Ys,sd⟩:=a;simp only at k;subst k;rfl
  .have Yl:i<t:=by have:=(cT.1 b3).1;simpa using this
   obtain⟨Yw,Yk,_⟩:=ao 0 ac;obtain⟨Yp,dE,_⟩:=ao i ac;obtain⟨Yi,Yt⟩:=AO dE;have Ye:x=Yp:=by rw[h9,List.getElem?_range Yl]at b3;simpa[dE]using b3.symm
   subst Ye;refine⟨Yi,λj u hu=>?_⟩;have dR:j<s.length:=by have:=(cT.1 hu).1;omega
   have bF:=Yt j dR;rw[hu]at bF;obtain⟨Yy,Yv⟩:=AO Yk;have o:=Yv 0 Yh;have fI:(a.add (0*s.length)).add 0=a:=by simp[Addr.add]
   rw[fI,hs (by omega:0<Yw.length)]at o;have k:a.spot=none:=by
    unfold World.cell? at o;split at o
    .cases b7:a.spot with
     |none=>rfl
     |some z=>simp[b7]at o
    .cases o
   obtain⟨dS,Ys,sd⟩:=a;simp only at k;subst k;simpa[Addr.add_mid]using bF
  .obtain⟨i,Yu,rfl⟩:=eS.1 b3;have Yl:i<t:=pC.1 Yu;obtain⟨Yp,dE,v⟩:=ao i ac;rw[dE];refine AN m e s n Yp _ Yg v λk g=>y k ?_;simp only[ny]at Yq;rw[Yq.1];have:=AM (P:=P) (e:=e) (z:=(List.range t).map lX) (d:=lX i) (eS.2 ⟨i,Yu,rfl⟩) k g;simp only[DataW.weights,eF,dk,fd];exact .inr (.inl this)
  .simp only[ny]at Yq;rw[Yq.1]at y;have:=y (((List.range t).map lX).length+((List.range (q-t)).map λj=>lX (t+j)).length|>(·*P.bytesOf e)) (by simp[DataW.weights,eF]);have g:t*P.bytesOf e<=(((List.range t).map lX).length+((List.range (q-t)).map λj=>lX (t+j)).length)*P.bytesOf e:=kh _ T3;exact jy g this
def EB(z:laidOutB P=true){W k:aZ}{Yf:Nat->Bool}:∀{x:ab a7} {i:ab aj} {s:ab (DataW l)} {aY:ab MemPlace},(x.all λt=>P.readableRec t&&decide (t<P.types.size))=true->DataW.TrodAll L P W G (λ_=>true) true x i s aY->(∀p∈aY,W.sameAt k p)->(∀p∈aY,Yf p.block=true)->DataW.TrodAll L P k G Yf true x i s aY
 |[],i,s,aY,_,h,_,_=>by obtain⟨rfl,rfl,rfl⟩:=trodAll_nil h;exact trodAll_mk0
 |t::x,i,s,aY,y,h,j,b=>by
  obtain⟨v,Ye,d,Yc,p,q,rfl,rfl,rfl,g,o⟩:=trodAll_cons h;simp only[AD,c5,dl]at y;exact trodAll_cons_mk (WideElems.Trod_stays z y.1.1 y.1.2 g (λx t=>j x OK) (λx t=>b x OK))
   (EB z y.2 o (λx t=>j x OK) (λx t=>b x OK))
structure uZ(W eI:aZ):Prop where
 block:∀b,b<W.heap.size->eI.heap[b]?=W.heap[b]?
 os:eI.os=W.os
 output:eI.output=W.output
def uZ.same{W y:aZ}(h:uZ W y){p:MemPlace}(z:p.block<W.heap.size):W.sameAt y p:=by
 cases p with
 |cell b o=>exact World.cell?_of_block (w:=W) (h.block b z)
 |map b=>exact h.block b z
def uZ.frame{W y:aZ}(h:uZ W y)(t:MemPlace->Prop):W.keptBut y t:=by refine⟨h.os,h.output,λi ao=>?_⟩;rw[h.block i ao];split<;>simp_all
def EC{f:Func}{s:ChangeSpec}{j b y i:Bool}{W h:aZ}{args:Array aj}{v:ab (DataW l)}{Yc:ab MemPlace}{Ye:a7} (x:DataW.Whole L P f.params.toList s.vars j W args.toList v [] Yc) (k:DataW.TrodAll L P W 0 (λ_=>true) true f.params.toList args.toList v Yc) (z:s.vars=[]) (Yg:s.fn l (v++[])={results:=[.lit (.bool true)],args:=v}) (d:uZ W h) (g:laidOutB P=true) (o:(f.params.toList.all λt=>P.readableRec t&&decide (t<P.types.size))=true) (Yi:f.resultTypes=#[Ye]) (Yj:P.underlying Ye=some .bool):s.post L P f j b y i W args (.bool true) h:=by
 have i:=x.lt;have Yh:∀(b:Nat) (t:Nat->Bool) (y:Bool),DataW.TrodAll L P h b t y f.resultTypes.toList ((Value.bool true).resultList f.resultTypes.size) (s.fn l (v++[])).results []:=λ_ _ _=>by rw[Yg,Yi];exact trodAll_mk1 (shut_bool Yj _)
 have Yf:∀t:Nat->Bool,(∀p∈Yc,t p.block=true)->DataW.TrodAll L P h 0 t true f.params.toList args.toList (s.fn l (v++[])).args Yc:=λt y=>by rw[Yg];exact EB g o k (λp j=>d.same (i p j)) y
 have k:∀t:Nat->Bool,DataW.TrodVars L P h t s.vars (s.fn l (v++[])).vars []:=λt=>by rw[Yg,z];rfl
 have t:∀p∈Yc,(λb=>decide (b<W.heap.size)) p.block=true:=λp j=>by simpa using i p j
 refine⟨v,[],Yc,[],Yc,[],x,Yh _ _ _,Yf _ t,k _,World.keptBut_mono (λp j=>⟨j,u0 (by simpa using j)⟩) (d.frame (·∈Yc)),λ_=>?_⟩;obtain⟨_,_,_,_,_,v,y⟩:=x;refine⟨ok_one Yi rfl (okWide_bool_mk Yj _),_,_,([]++Yc)++[],⟨[]++Yc,[],trodAll_append (Yf _ (λ_ _=>rfl)) (Yh _ _ _),k _,rfl,?_,?_⟩,?_⟩
 .intro b off j;have t:MemPlace.cell b off∈Yc:=by simpa using j
  rw[World.frozen?_of_block (w:=W) (d.block b (i _ t))];exact v b off t
 .intro t;have:=y t;simpa using this
 .intro p j _;simpa using j
@[irreducible] def snap(ED:World)(EE:List Nat):ax where
 gk:=EE
 holds w:=∀b,b∈EE->w.heap[b]?=ED.heap[b]?/\b<ED.heap.size
 loc w iI h cG:=λb bH=>⟨(h b bH).trans (cG b bH).1,(cG b bH).2⟩
 lt w cG b bH:=by
  have:=(cG b bH).1;have bY:=(cG b bH).2;rcases Nat.lt_or_ge b w.heap.size with cd|cd
  .exact cd
  .rw[Array.getElem?_eq_none cd,Array.getElem?_eq_getElem bY]at this;cases this
theorem EF(b y):(snap b y).gk=y:=by unfold snap;rfl
theorem AP(i y w):(snap i y).holds w↔∀b,b∈y->w.heap[b]?=i.heap[b]?/\b<i.heap.size:=by unfold snap;rfl
def sc.aao{s w:aZ}{b off aI:Nat}{t:ab (ab aj)}{y:ab Nat}(h:sc s b off aI t)(z:(snap s y).holds w)(o:0<t.length->b∈y):sc w b off aI t:=by
 rw[AP]at z;intro i x g;have ao:0<t.length:=by have:=(cT.1 g).1;omega
 obtain⟨t,d⟩:=h i x g;exact⟨t,λj u g=>(World.cell?_of_block (w:=s) (z b (o ao)).1).trans (d j u g)⟩
end
end Go.ay
namespace Go.ay
open Go
section
variable{P:bU}{r:aT Nat}{W:aZ}{D:ab Nat}{n:dq}{Q:cU}{am:bC}{an:ab ax}
def ip(am:bC)(an:ab ax):ab Nat->ab ax->Prop
 |[],be=>be=[]
 |d::z,be=>∃b o T c t,ev am d=some (aw b o)/\cells b T c∈an/\be=cells b T c::t/\ip am an z t
def aK.aap(ad:ca P){dst:Nat}{ba:a7}{bb:String}{bc:Array Edge}{aV:aT (Nat×Bool)}{t i:a7}{x y:bf}{p q:Bool}{u:Nat}(g:aR am x=some (.bool p))(d:aR am y=some (.bool q))(j:bM ad.wG t=some u):aK P n am an ⟨some dst,.binOp .neq t x y i,ba,bb,bc,aV⟩ (.bool (!(p==q))):=
 aK.neq g d rfl rfl (c6.bool (ad.Xk j))
def ar.run{f:eR}{args:ab aj}{R:aj->ab ax->Prop}(h:ar P f args an R)(w:aZ)(o:hn an w):Calls P f args.toArray w λe t=>∃v a2,e=.returned v/\R v a2/\H w (bn an) a2 t:=h w o
end
end Go.ay
namespace Go.ay
open Go
variable{aI:Nat}{d:ab (ab aj)}{b:ab (Nat×aj)}{k:Nat}{e:ax}{args:ab aj}{C:bC->ab ax->Prop}{off:Nat}{aV:aT (Nat×Bool)}{R:aj->ab ax->Prop}{bu:Type}{Yg:ab (Nat×bf)}{bc:Array Edge}{xs:ab (ab aj)}
section
variable{P:bU}{r:aT Nat}{W:aZ}{D:ab Nat}{n:dq}{Q:cU}{am Z:bC}{an a2:ab ax}{J:Array b6}{N:ab b6}
variable{dst:Nat}{ba:a7}{bb:String}
structure Rd(e:ax)(cV:aT Addr)(len b off aI:Nat)(xs:ab (ab aj)):Prop where
 length:xs.length=len
 small:len<=maxLen
 addr:0<len->cV=some ⟨b,off,none⟩
 reads:∀w,e.holds w->sc w b off aI xs
def Rd.snap{s:aZ}{i:aT Addr}{len b:Nat}{t:ab (ab aj)}(o:t.length=len)(g:len<=maxLen)(j:0<len->i=some ⟨b,off,none⟩/\b<s.heap.size)(z:sc s b off aI t){y:ab Nat}(d:0<len->b∈y):Rd (snap s y) i len b off aI t:=
 ⟨o,g,λh=>(j h).1,λw i=>z.aao i (by rw[o];exact d)⟩
def se(b o j:Nat):(⟨b,o,none⟩:Addr).add j=⟨b,o+j,none⟩:=Addr.add_mid b o j
def EG{aI:Nat}:∀{t:ab (ab aj)} {i:Nat} {x:ab aj},(∀y,y∈t->y.length=aI)->t[i]?=some x->∀(j:Nat) (u:aj),x[j]?=some u->t.flatten[i*aI+j]?=some u
 |[],_,_,_,h,_,_,_=>Uj
 |y::o,0,x,g,h,j,u,d=>by simp only[qk,eY]at h;subst h;have:=(cT.1 d).1;rw[AQ,rh ac];simpa using d
 |y::o,i+1,x,g,h,j,u,d=>by have t:y.length=aI:=g y T3;simp only[sf]at h;have o:=EG (λz v=>g z (by simp[v])) h j u d;rw[AQ,ji (by rw[t,fr];omega),t];rw[show(i+1)*aI+j-aI=i*aI+j by rw[fr];omega];exact o
def Rd.row{g E cap:Nat}(d:xs.length=k)(v:∀y,y∈xs->y.length=aI)(t:k<=maxLen):Rd (row (.slice (some ⟨g,0,none⟩) k cap) E aI k xs.flatten) (some ⟨g,0,none⟩) k g 0 aI xs:=
 ⟨d,t,λ_=>rfl,λw s i x t=>by
  rw[io]at s;refine⟨v x (jX t),λj u g=>?_⟩;have ao:i<xs.length:=(cT.1 t).1;have y:j<aI:=by have:=(cT.1 g).1;rw[v x (jX t)]at this;exact this
  have y:i*aI+j<k*aI:=by have:(i+1)*aI<=k*aI:=kh aI ac;rw[fr]at this;omega
  have:=s.cellAt (i*aI+j) y;rw[h8,this];exact EG v t j u g⟩
def pD{T:Nat}(h:(P.info? T).map (·.size)=some aI)(w:aZ):(sizeOf T).run P w=.ok aI w:=by obtain⟨i,ao,rfl⟩:=qg.1 h;simp[sizeOf,typeInfo,ao]
def aK.aaq{t E:a7}{x y:bf}{s:aT Addr}{h z b:Nat}(k:Nat)(g:aR am x=some (.slice s h z))(o:aR am y=some (I (k:Int)))(ew:Rd e s h b off aI d)(i:q6 P t E=true)(j:(P.info? E).map (·.size)=some aI)(z:k<h):aK P n am an ⟨some dst,.indexAddr t x y,ba,bb,bc,aV⟩ (aw b (off+k*aI)):=λa w v _=>by
 have y:=gt i;have z:P.elem t=E:=by simp[Program.elem,y]
 have d:=ew.addr ac;simp only[execOp,v.eval g,v.eval o,d];rw[cK,run_indexAt_slice w t _ _ _ _ _ (by rw[z];exact y)];have o:(0:Int)<=(k:Int)/\(k:Int)<(h:Int):=⟨ac,ac⟩
 rw[aQ o,z,pD j];simp[se]
def aK.aar(ad:ca P){t E:a7}{x y:bf}{i:aT Addr}{s z b:Nat}(g:aR am x=some (.slice i s z))(o:aR am y=some (I (k:Int)))(h:Rd e i s b off aI d)(v:bM ad.fe t=some E)(j:bM ad.gV E=some aI)(z:k<s):aK P n am an ⟨some dst,.indexAddr t x y,ba,bb,bc,aV⟩ (aw b (off+k*aI)):=
 aK.aaq k g o h (ad.Uu v) (ad.Vc j) z
def aK.aas(ad:ca P){T:a7}{x:bf}{i:aT Addr}{j b:Nat}{c:ab aj}(t:bM ad.agg T=some aI)(g:aR am x=some (aw b (off+k*aI)))(h:Rd e i j b off aI d)(o:e∈an)(z:d[k]?=some c):aK P n am an ⟨some dst,.load T x,ba,bb,bc,aV⟩ (A c):=λa w j v=>by obtain⟨d,s,i,ao⟩:=uO (ad.UT t);obtain⟨t,y⟩:=h.reads w (v _ o) k c z;simp only[execOp,j.eval g,Instr.loadAt,Instr.sureAddr,cK,eP,dW];rw[Aw w b (off+k*aI) T c d (λj v z=>y j v z) s i (by rw[ao,t])];rfl
def aK.aat(ad:ca P){T u:a7}{x:bf}{i:aT Addr}{j b:Nat}{v:aj}(t:bM ad.one T=some u)(g:aR am x=some (aw b (off+k*1)))(s:Rd e i j b off 1 d)(o:e∈an)(z:d[k]?=some [v]):aK P n am an ⟨some dst,.load T x,ba,bb,bc,aV⟩ v:=λa w y b=>by obtain⟨d,j⟩:=s.reads w (b _ o) k [v] z;simp only[execOp,y.eval g,Instr.loadAt,Instr.sureAddr,cK,eP,dW];have o:=j 0 v rfl;rw[ho]at o;rw[yp (ad.Un t) o];rfl
def av.aau{f:eR}{x:bf}{g:ab bf}{Yi:Array a7}{Yh Yc:ab ax}(i:Nat.blt dst n.n=true)(z:aR am x=some (.func (.func f) #[] #[]))(Ye:kF P f=true)(t:ay.hU am g=some args)(Yg:an.Perm (Yh++Yc))(k:ar P f args Yh R)(d:∀v a2,R v a2->C ((dst,v)::am) (a2++Yc)):av P r W D n ⟨some dst,.call ⟨.value x,g.toArray,Yi⟩,ba,bb,bc,aV⟩ am an C:=λK Q s a w y b=>by
 have Yf:=b.perm Yg;have Yk:g.toArray.map a.eval=args.toArray:=by rw[<-y.hU t];simp
 refine ys (f:=f) (args:=args.toArray) (b:=w) rfl ?_ ?_
 .simp only[execOp,resolve,cK,Yk,y.eval z];simp[Deferred.ofValue,invoke,wD Ye]
 .refine(k w ⟨λe j=>Yf.fQ e (by simp[j]),?_⟩).mono ?_
  .have:=Yf.nodup;exact LD
  .rintro e h⟨v,a2,rfl,o,Yj⟩;exact⟨_,rfl,s _ _ (d v a2 o) _ _ (y.put i v) (Yf.call Yj)⟩
def av.aav{f:eR}{x:bf}{d:ab bf}{i:Array a7}{v:aj}(y:Nat.blt dst n.n=true)(z:aR am x=some (.func (.func f) #[] #[]))(b:kF P f=true)(g:ay.hU am d=some args)(k:dr P f args v)(j:C ((dst,v)::am) an):av P r W D n ⟨some dst,.call ⟨.value x,d.toArray,i⟩,ba,bb,bc,aV⟩ am an C:=
 av.aau (Yh:=[]) (Yc:=an) y z b g (he _) k (λv a2 ⟨t,o⟩=>by subst t o;exact j)
def av.Xq{o:b6}{g:bC->ab ax->Prop}(h:av P r W D n o am an C)(t:∀Z a2,C Z a2->∃i,g Z i/\∀w,H W D a2 w->H W D i w):av P r W D n o am an g:=
 λK Q b=>h K Q (λZ a2 g a w j v=>by obtain⟨i,d,y⟩:=t Z a2 g;exact b Z i d a w j (y w v))
def bI(aI:Nat):Nat->ab (Nat×aj)->ab aj->Prop
 |_,[],cs=>cs=[]
 |k,(i,v)::l,cs=>i=k/\∃c z,v.cells=c.toArray/\c.length=aI/\cs=c++z/\bI aI (k+1) l z
def bI.nil:bI aI k [] []:=rfl
def bI.agg{c cs:ab aj}{l:ab (Nat×aj)}(t:c.length=aI)(h:bI aI (k+1) l cs):bI aI k ((k,A c)::l) (c++cs):=⟨rfl,c,cs,rfl,t,rfl,h⟩
def bI.one{v:aj}{cs:ab aj}{l:ab (Nat×aj)}(z:v.cells=#[v])(h:bI 1 (k+1) l cs):bI 1 k ((k,v)::l) (v::cs):=⟨rfl,[v],cs,z,rfl,rfl,h⟩
def bI.length:∀{k:Nat} {l:ab (Nat×aj)} {cs:ab aj},bI aI k l cs->cs.length=l.length*aI
 |_,[],cs,h=>by obtain rfl:cs=[]:=h;simp
 |k,(i,v)::l,cs,h=>by obtain⟨_,c,j,_,t,rfl,z⟩:=h;simp[t,z.length,fr];omega
def bI.fill{aI:Nat}:∀{l:ab (Nat×aj)} {k:Nat} {cs:ab aj} (z:Array aj),bI aI k l cs->z.size=(k+l.length)*aI->Instr.fill (λi=>some (i*aI,aI)) z l=some (z.toList.take (k*aI)++cs).toArray
 |[],k,cs,z,h,y=>by obtain rfl:cs=[]:=h;simp only[Instr.fill,dT];rw[k8 (by simpa using Nat.le_of_eq y)]
 |(i,v)::l,k,cs,z,h,y=>by
  obtain⟨rfl,c,s,j,t,rfl,b⟩:=h;have g:i*aI+aI<=z.size:=by
   rw[y];simp only[dD];have:(i+(l.length+1))*aI=i*aI+aI+l.length*aI:=by rw[fr,fr];omega
   omega
  simp only[Instr.fill,j,o6,t];rw[aM Ui];have k:=AE (i*aI) c 0 z ac;simp only[ho]at k;have e:((c.toArray.zipIdx.foldl (λcs (p:aj×Nat)=>cs.setIfInBounds (i*aI+p.2) p.1) z))=(eg (i*aI) c z.toList).toArray:=by rw[<-k];simp
  have s:(c.toArray.zipIdx.foldl (λcs x=>match x with|(c,j)=>cs.setIfInBounds (i*aI+j) c) z)=(eg (i*aI) c z.toList).toArray:=e;rw[s];rw[bI.fill _ b (by
   simp only[eg,o6,b2,fp,k9,og,t];rw[ri ac];have:(i+1+l.length)*aI=(i+(l.length+1))*aI:=by congr 1;omega
   rw[this,<-dD (a:=(i,v)),<-y];omega)]
  congr 2;simp only[eg,cn];rw[<-cn,o7 (by simp[t];rw[ri ac,fr];omega)];rw[k8 (by simp[t];rw[ri ac,fr];omega)];simp
def aeP{t E:a7}{s:Nat}{cs:ab aj}{z:aj}(v:q6 P t E=true)(o:(P.info? E).map (·.size)=some aI)(y:(P.info? E).bind (·.zero)=some z)(j:bI aI 0 b cs)(d:b.length=s)(g:s*aI<=1000)(w:aZ):(Instr.buildSlice t s b.toArray).run P w=.ok (.slice (some ⟨w.heap.size,0,none⟩) s s) (w.alloc (.cells cs.toArray E)):=by
 have t:(zeroValue E).run P w=.ok z w:=by obtain⟨i,ao,z⟩:=AA.1 y;simp[zeroValue,typeInfo,ao,z]
 have k:∀(y:Array aj),Instr.fill (λi=>some (i*aI,aI)) ((Array.range (s*aI)).map (y[·%y.size]!)) b=some cs.toArray:=λy=>by rw[j.fill _ (by simp[d])];simp
 unfold Instr.buildSlice;simp only[cK,et (gt v),dW,pD o];rw[aM ac];by_cases o:s*aI=0
 .simp only[eP,dW,cK,aQ o,k];rfl
 .simp only[eP,dW,cK,aM o,t,k];rfl
def av.lit(ad:ca P){t E:a7}{Yc:Nat}{ia:ab (Nat×aj)}{iM cs:ab aj}(dM:Nat.blt dst n.n=true)(cN:q6 P t E=true)(y:(P.info? E).map (·.size)=some aI)(fk:iK ad.iZ E=some iM)(d:ay.m0 am Yg=some ia)(s:bI aI 0 ia cs)(v:ia.length=Yc)(j:Nat.ble (Yc*aI) 1000=true)(Yh:Nat.ble 1 aI=true)(dQ:∀b,C ((dst,.slice (some ⟨b,0,none⟩) Yc Yc)::am) (row (.slice (some ⟨b,0,none⟩) Yc Yc) E aI Yc cs::an)):av P r W D n ⟨some dst,.buildSlice t Yc Yg.toArray,ba,bb,bc,aV⟩ am an C:=λK Q cA a w k cy=>by
 obtain⟨z,g,rfl⟩:=ad.zeroAt fk;have Yf:Yc*aI<=1000:=o0 j;have Ye:=s.length;have e:(Yg.toArray.map λ(p:Nat×bf)=>(p.1,a.eval p.2))=ia.toArray:=by rw[<-k.m0 d];simp
 have kG:(Yg.toArray.map λ(x:Nat×bf)=>match x with|(i,x)=>(i,a.eval x))=ia.toArray:=e;have Yi:H w [] [row (.slice (some ⟨w.heap.size,0,none⟩) Yc Yc) E aI Yc cs] (w.alloc (.cells cs.toArray E)):=by
  refine⟨λx d=>?_,Oq,λb j=>?_,λb j _=>tm _ _ j,T3,rfl,rfl,rfl,cD _⟩
  .obtain rfl:x=_:=by simpa using d
   rw[io];have o:Yc<=maxLen\/aI=0:=by
    rcases Nat.eq_zero_or_pos aI with h|h
    .exact .inr h
    .left;have:=Nat.le_mul_of_pos_right Yc h;simp only[maxLen];omega
   rcases o with o|o
   .have:=World.ownsRow_lit (base:=0) (e:=E) (size:=aI) w cs.toArray Yc (cO _) o (by simp[Ye,v]);simpa using this
   .exact absurd o (by have:=o0 Yh;omega)
  .obtain rfl:b=w.heap.size:=by simpa[bn,h6,Value.ownBlock]using j
   exact .inr (cD _)
 refine jA rfl ?_ (cA _ _ (dQ w.heap.size) _ _ (k.put dM _) (cy.new Yi));simp only[execOp,cK,kG,aeP cN y g s v Yf w,dW,eP]
def av.Xr(ad:ca P){t E:a7}{h:ab (Nat×bf)}{s cs:ab aj}(i:Nat.blt dst n.n=true)(v:bM ad.fe t=some E)(z:bM ad.gV E=some aI)(y:iK ad.iZ E=some s)(g:ay.m0 am h=some b)(j:bI aI 0 b cs)(o:b.length=k)(d:Nat.ble (k*aI) 1000=true)(x:Nat.ble 1 aI=true)(s:∀b,C ((dst,.slice (some ⟨b,0,none⟩) k k)::am) (row (.slice (some ⟨b,0,none⟩) k k) E aI k cs::an)):av P r W D n ⟨some dst,.buildSlice t k h.toArray,ba,bb,bc,aV⟩ am an C:=av.lit ad i (ad.Uu v) (ad.Vc z) y g j o d x s
def ah.aaw{c:Code}(J:bu->Prop)(E:bu->bC)(S:bu->ab ax)(d:bu->Nat)(s:bu)(o:J s)(z:de am (E s))(g:∀w,H W D an w->H W D (S s) w)(h:∀x,J x->ah P r W D n (Exit.then (λa w=>∃y,J y/\d y<d x/\dd n (E y) a/\H W D (S y) w) Q) c (E x) (S x)):ah P r W D n Q (.loop c) am an:=
 ah.loop (bu:={x:bu//J x}) (λx=>E x.1) (λx=>S x.1) (λx=>d x.1) ⟨s,o⟩ z g λ⟨x,t⟩ a w j v=>
  tr (h x t a w j v) λe b g aW=>by
   cases e with
   |normal=>
    obtain⟨y,d,t,g,o⟩:=aW;exact⟨⟨y,d⟩,t,g,o⟩
   |_=>exact aW
def AR{bu:Type}(f:bu->ab aj)(o:bu->Prop){b:ab od}:∀{t:ab (ab aj)},(∀x,x∈t->hr b x)->(∀{x:ab aj},hr b x->∃y,x=f y/\o y)->∃d:ab bu,t=d.map f/\∀y,y∈d->o y
 |[],_,_=>⟨[],rfl,λ_ h=>Ua⟩
 |x::t,h,k=>by
  obtain⟨y,rfl,g⟩:=k (h x T3);obtain⟨d,rfl,j⟩:=AR f o (t:=t) (λz v=>h z (by simp[v])) k;exact⟨y::d,rfl,λz v=>by
   rcases dk.1 v with rfl|v
   .exact g
   .exact j z v⟩
def lv:ab (Nat×Nat)->ab Nat
 |[]=>[]
 |(t,b)::l=>if 0<t/\b∉lv l then b::lv l else lv l
def yB:∀l,(lv l).Nodup
 |[]=>by simp[lv]
 |(t,b)::l=>by
  unfold lv;split
  .rename_i h;exact la.2 ⟨h.2,yB l⟩
  .exact yB l
def AS:∀{l:ab (Nat×Nat)} {g b:Nat},(g,b)∈l->0<g->b∈lv l
 |(i,s)::l,g,b,h,j=>by
  unfold lv;rcases dk.1 h with z|h
  .obtain⟨rfl,rfl⟩:=wL z;split
   .simp
   .rename_i y;by_cases t:b∈lv l
    .exact t
    .exact absurd ⟨j,t⟩ y
  .have:=AS h j;split<;>simp[this]
def AT{N:Nat}:∀{l:ab (Nat×Nat)},(∀p,p∈l->0<p.1->p.2<N)->∀b,b∈lv l->b<N
 |[],_,b,h=>by simp[lv]at h
 |(i,s)::l,h,b,t=>by
  have d:=AT (l:=l) (λp z=>h p Of);unfold lv at t;split at t
  .rename_i g;rcases dk.1 t with rfl|t
   .exact h (i,b) T3 g.1
   .exact d b t
  .exact d b t
end
end Go.ay
namespace Go.ay
open Go
variable{R:aj->ab ax->Prop}{e:dI}{args:ab aj}{am:bC}{bu:Type}{be an:ab ax}{aV:aT (Nat×Bool)}{C:bC->ab ax->Prop}{K:Act->aZ->Prop}{b:Bool}{bc:Array Edge}{d:Nat}
inductive al:List ax->ax->List ax->Prop
 |here {e:ax} {an:List ax}:al (e::an) e an
 |there {x e:ax} {an a2:List ax}:al an e a2->al (x::an) e (x::a2)
inductive ak:List ax->List ax->List ax->Prop
 |nil {an:List ax}:ak an [] an
 |cons {an rj be wM:List ax} {e:ax}:al an e rj->ak rj be wM->ak an (e::be) wM
def al.perm{e:ax}{a2:ab ax}(h:al an e a2):an.Perm (e::a2):=by
 induction h with
 |here=>exact he _
 |there _ d=>exact(sg _ d).trans (hK _ _ _)
def ak.perm{t:ab ax}(h:ak an be t):an.Perm (be++t):=by
 induction h with
 |nil=>exact he _
 |cons h _ d=>exact h.perm.trans (sg _ d)
inductive nz:List ax->List ax->List ax->Prop
 |nil {an:List ax}:nz [] an an
 |cons {e:ax} {an be wM:List ax}:nz an be wM->nz (e::an) be (e::wM)
def nz.eq{t:ab ax}(h:nz an be t):an++be=t:=by
 induction h with
 |nil=>rfl
 |cons _ d=>simp[d]
inductive kH(am:bC):List Nat->bC->Prop
 |nil:kH am [] []
 |cons {k:Nat} {v:Value} {EH:List Nat} {e:bC}:ev am k=some v->kH am EH e->kH am (k::EH) ((k,v)::e)
def kH.sub{k:ab Nat}{e:bC}(h:kH am k e):de am e:=by
 induction h with
 |nil=>trivial
 |cons h _ d=>exact⟨h,d⟩
def de.app{am:bC}:∀{l m:bC},de am l->de am m->de am (l++m)
 |[],_,_,h=>h
 |(_,_)::_,_,h,t=>⟨h.1,de.app h.2 t⟩
def de.nil:de am []:=trivial
def de.cons{l:bC}{k:Nat}{u v:aj}(h:ev am k=some u)(e:u=v)(t:de am l):de am ((k,v)::l):=⟨by rw[h,e],t⟩
section
variable{P:bU}{r:aT Nat}{W:aZ}{D:ab Nat}{n:dq}{Q:cU}{Z:bC}{a2:ab ax}{J:Array b6}{N:ab b6}
variable{dst:Nat}{X:Op}{ba:a7}{bb:String}
def H.gW{w:aZ}{g:ab ax}(t:ak an be g)(h:H W D an w):H W D be w:=(h.perm t.perm).sub (EI _ _)
def H.UP{w:aZ}{g:ab ax}(t:ak an be g)(h:H W D an w):H W D (be++g) w:=h.perm t.perm
def ai.v{v:aj}(h:aK P n am an ⟨some dst,X,ba,bb,bc,aV⟩ v)(g:ai P r W D n J Q N ((dst,v)::am) an)(t:hp am J aV=some true:=by exact rfl)(x:kf X=true:=by exact rfl)(y:Nat.blt dst n.n=true:=by exact rfl):ai P r W D n J Q (⟨some dst,X,ba,bb,bc,aV⟩::N) am an:=ai.val t x y h g
def ai.o{o:b6}(h:av P r W D n o am an (ai P r W D n J Q N))(t:hp am J o.guard=some true:=by exact rfl):ai P r W D n J Q (o::N) am an:=ai.op t h
def ai.aax(h:ai P r W D n J Q N ((d,undef)::am) an)(t:hp am J aV=some false:=by exact rfl)(y:Nat.blt d n.n=true:=by exact rfl):ai P r W D n J Q (⟨some d,X,ba,bb,bc,aV⟩::N) am an:=ai.skip t y h
def ai.dA{o:b6}(j:b=true->ai P r W D n J Q (o::N) ((d,.bool true)::am) an)(k:b=false->ai P r W D n J Q (o::N) ((d,.bool false)::am) an)(t:Ay J o.guard=some d:=by exact rfl)(z:ev am d=some (.bool b):=by exact rfl):ai P r W D n J Q (o::N) am an:=ai.part t z j k
def ah.aay{c:bf}{x y:Code}(h:ah P r W D n Q x am an)(t:aR am c=some (.bool true):=by exact rfl):ah P r W D n Q (.cond c x y) am an:=ah.ZV t h
def ah.aaz{c:bf}{x y:Code}(h:ah P r W D n Q y am an)(t:aR am c=some (.bool false):=by exact rfl):ah P r W D n Q (.cond c x y) am an:=ah.ZW t h
def ah.c{c:bf}{x y:Code}(t:b=true->ah P r W D n Q x am an)(g:b=false->ah P r W D n Q y am an)(d:aR am c=some (.bool b):=by exact rfl):ah P r W D n Q (.cond c x y) am an:=ah.cond d t g
def Out.VM{id g:Nat}(h:Out W D n Q (.exit g) am an)(t:Nat.beq g id=false:=by exact rfl):Out W D n (Exit.inBlock id Q) (.exit g) am an:=Out.Z3 t h
def av.Z'{f:eR}{g:ab bf}{s:Array a7}{d j:ab ax}(t:ay.hU am g=some args)(k:ar P f args d R)(x:ak an d j)(d:∀v a2,R v a2->∃i,nz a2 j i/\C ((dst,v)::am) i)(y:Nat.blt dst n.n=true:=by exact rfl)(b:kF P f=true:=by kernel_rfl):av P r W D n ⟨some dst,.call ⟨.value (.func f),g.toArray,s⟩,ba,bb,bc,aV⟩ am an C:=
 av.call y b t x.perm k λv a2 g=>by obtain⟨i,t,h⟩:=d v a2 g;rw[t.eq];exact h
def av.Xs{f:eR}{x:bf}{g:ab bf}{Yk:Array a7}{Yg:ab aj}{Yj Yc:ab ax}(z:aR am x=some (.func (.func f) #[] Yg.toArray))(t:ay.hU am g=some args)(k:ar P f (args++Yg) Yj R)(Yi:ak an Yj Yc)(d:∀v a2,R v a2->∃Yf,nz a2 Yc Yf/\C ((dst,v)::am) Yf)(i:Nat.blt dst n.n=true:=by exact rfl)(Ye:kF P f=true:=by kernel_rfl):av P r W D n ⟨some dst,.call ⟨.value x,g.toArray,Yk⟩,ba,bb,bc,aV⟩ am an C:=λK Q s a w y b=>by
 have Yh:=b.perm Yi.perm;have Ym:g.toArray.map a.eval=args.toArray:=by rw[<-y.hU t];simp
 refine ys (f:=f) (args:=(args++Yg).toArray) (b:=w) rfl ?_ ?_
 .simp only[execOp,resolve,cK,Ym,y.eval z];simp[Deferred.ofValue,invoke,wD Ye]
 .refine(k w ⟨λe j=>Yh.fQ e (by simp[j]),?_⟩).mono ?_
  .have:=Yh.nodup;exact LD
  .rintro e h⟨v,a2,rfl,o,Yl⟩;obtain⟨Yf,t,h⟩:=d v a2 o;refine⟨_,rfl,s _ _ h _ _ (y.put i v) ?_⟩;have:=Yh.call Yl;rwa[t.eq]at this
def av.fn{f:eR}{g:ab bf}{i:Array a7}{x:aj}(t:ay.hU am g=some args)(k:dr P f args x)(d:C ((dst,x)::am) an)(y:Nat.blt dst n.n=true:=by exact rfl)(v:kF P f=true:=by kernel_rfl):av P r W D n ⟨some dst,.call ⟨.value (.func f),g.toArray,i⟩,ba,bb,bc,aV⟩ am an C:=av.fun y v t k d
def av.Wk{f:eR}{x:bf}{g:ab bf}{i:Array a7}{v:aj}(z:aR am x=some (.func (.func f) #[] #[]))(t:ay.hU am g=some args)(k:dr P f args v)(d:C ((dst,v)::am) an)(y:Nat.blt dst n.n=true:=by exact rfl)(v:kF P f=true:=by kernel_rfl):av P r W D n ⟨some dst,.call ⟨.value x,g.toArray,i⟩,ba,bb,bc,aV⟩ am an C:=av.aav y z v t k d
def ah.cp{c:Code}(k:ab Nat)(J:bu->Prop)(E:bu->bC)(S:bu->ab ax)(v:bu->Nat)(s:bu){d:bC}{g:ab ax}(z:J s)(h:∀x,J x->∀K:Act->aZ->Prop,(∀y,J y->v y<v x->∀a w,dd n (E y++d) a->H W D (S y++g) w->K a w)->ah P r W D n (Exit.then K Q) c (E x++d) (S x++g))(t:kH am k d:=by(repeat(first|exact kH.nil|apply kH.cons rfl)))(j:de am (E s):=by(repeat(first|exact de.nil|refine de.cons rfl rfl ?_)))(o:ak an (S s) g:=by(repeat(first|exact ak.nil|exact al.here|apply ak.cons|apply al.there))):ah P r W D n Q (.loop c) am an:=
 ah.aaw J (λx=>E x++d) (λx=>S x++g) v s z (j.app t.sub) (λ_ i=>i.UP o) λx g=>h x g _ λy t d _ _ z v=>⟨y,t,d,z,v⟩
def Out.z'{J G:bu->Prop}{E:bu->bC}{S:bu->ab ax}{d:bC}{h g:ab ax}(b:∀y,J y->G y->∀a w,dd n (E y++d) a->H W D (S y++h) w->K a w)(y:bu)(x:J y)(o:G y)(z:de am (E y++d):=by(repeat(first|exact de.nil|refine de.cons rfl rfl ?_)))(t:ak an (S y++h) g:=by(repeat(first|exact ak.nil|exact al.here|apply ak.cons|apply al.there))):Out W D n (Exit.then K Q) .normal am an:=λ_ _ j v=>b y x o _ _ (j.sub z.get) (v.gW t)
def ah.mt{x y:Code}(k:ab Nat)(J:bu->Prop)(E:bu->bC)(S:bu->ab ax){b:bC}{h i:ab ax}(t:∀K:Act->aZ->Prop,(∀z,J z->True->∀a w,dd n (E z++b) a->H W D (S z++h) w->K a w)->ah P r W D n (Exit.then K Q) x am an)(d:∀z,J z->ah P r W D n Q y (E z++b) (S z++h))(g:kH am k b:=by(repeat(first|exact kH.nil|apply kH.cons rfl)))(o:ak an i h:=by(repeat(first|exact ak.nil|exact al.here|apply ak.cons|apply al.there))):ah P r W D n Q (.seq x y) am an:=
 ah.seq λa w v y=>tr (t (λa w=>∃z,J z/\dd n (E z++b) a/\H W D (S z++h) w) (λz t _ _ _ g j=>⟨z,t,g,j⟩) a w v y) λe s b aW=>by
  cases e with
  |normal=>
   obtain⟨z,v,k,j⟩:=aW;exact d z v s b k j
  |_=>exact aW
variable{fn:Func}
def Out.Wl{v:aj}(j:e=.ret\/e=.normal)(z:∀a w,dd n am a->r5 an w->(results fn a.tmps).run P w=.ok v w)(h:∃a2 k,R v a2/\ak an (fY n.ds++a2) k):Out W D n (pA P fn (Ends R W D)) e am an:=λa w y b=>by
 obtain⟨a2,k,i,o⟩:=h;have d:LeavesInM Fence.wide 0 P fn a.tmps (Ends R W D) a.defers .returning w:=by rw[y.defers];exact DY n.ds a2 w (b.gW o) b.dE λs t g=>⟨v,z a s y g,v,a2,rfl,i,t⟩
 rcases j with rfl|rfl<;>exact d
def Out.gC(t:fn.results=#[])(h:∃a2 g,R (.tuple #[]) a2/\ak an (fY n.ds++a2) g)(z:e=.ret\/e=.normal:=by first|exact .inl rfl|exact .inr rfl):Out W D n (pA P fn (Ends R W D)) e am an:=
 Out.Wl z (λ_ _ _ _=>by simp[results,t]) h
def Out.dx{j:ResultVar}{v:aj}(g:fn.results=#[j])(t:e1 P am an j v)(h:∃a2 d,R v a2/\ak an (fY n.ds++a2) d)(z:e=.ret\/e=.normal:=by first|exact .inl rfl|exact .inr rfl):Out W D n (pA P fn (Ends R W D)) e am an:=
 Out.Wl z (λ_ _ j v=>Kb g j v t) h
def Out.bv{x y:ResultVar}{v j:aj}(d:fn.results=#[x,y])(t:e1 P am an x v)(g:e1 P am an y j)(h:∃a2 o,R (.tuple #[v,j]) a2/\ak an (fY n.ds++a2) o)(z:e=.ret\/e=.normal:=by first|exact .inl rfl|exact .inr rfl):Out W D n (pA P fn (Ends R W D)) e am an:=
 Out.Wl z (λ_ _ j v=>Kc d j v t g) h
def Out.gm{x i s:ResultVar}{y v b:aj}(o:fn.results=#[x,i,s])(t:e1 P am an x y)(g:e1 P am an i v)(d:e1 P am an s b)(h:∃a2 j,R (.tuple #[y,v,b]) a2/\ak an (fY n.ds++a2) j)(z:e=.ret\/e=.normal:=by first|exact .inl rfl|exact .inr rfl):Out W D n (pA P fn (Ends R W D)) e am an:=
 Out.Wl z (λ_ _ j v=>aeI o j v t g d) h
def Out.f0{d:ab ax}(g:fn.results=#[])(h:R (.tuple #[]) be)(t:ak an (fY n.ds++be) d:=by(repeat(first|exact ak.nil|exact al.here|apply ak.cons|apply al.there)))(z:e=.ret\/e=.normal:=by first|exact .inl rfl|exact .inr rfl):Out W D n (pA P fn (Ends R W D)) e am an:=Out.gC g ⟨be,d,h,t⟩ z
def Out.f1{j:ResultVar}{v:aj}{o:ab ax}(d:fn.results=#[j])(t:e1 P am an j v)(h:R v be)(g:ak an (fY n.ds++be) o:=by(repeat(first|exact ak.nil|exact al.here|apply ak.cons|apply al.there)))(z:e=.ret\/e=.normal:=by first|exact .inl rfl|exact .inr rfl):Out W D n (pA P fn (Ends R W D)) e am an:=Out.dx d t ⟨be,o,h,g⟩ z
def Out.f2{x:ResultVar}{v:aj}{y:ResultVar}{z:aj}{j:ab ax}(o:fn.results=#[x,y])(t:e1 P am an x v)(g:e1 P am an y z)(h:R (.tuple #[v,z]) be)(d:ak an (fY n.ds++be) j:=by(repeat(first|exact ak.nil|exact al.here|apply ak.cons|apply al.there)))(z:e=.ret\/e=.normal:=by first|exact .inl rfl|exact .inr rfl):Out W D n (pA P fn (Ends R W D)) e am an:=Out.bv o t g ⟨be,j,h,d⟩ z
def Out.f3{x:ResultVar}{y:aj}{i:ResultVar}{j:aj}{s:ResultVar}{b:aj}{v:ab ax}(z:fn.results=#[x,i,s])(t:e1 P am an x y)(g:e1 P am an i j)(o:e1 P am an s b)(h:R (.tuple #[y,j,b]) be)(d:ak an (fY n.ds++be) v:=by(repeat(first|exact ak.nil|exact al.here|apply ak.cons|apply al.there)))(j:e=.ret\/e=.normal:=by first|exact .inl rfl|exact .inr rfl):Out W D n (pA P fn (Ends R W D)) e am an:=Out.gm z t g o ⟨be,v,h,d⟩ j
def e1.t{t:Tmp}{v:aj}(h:ev am t=some v:=by exact rfl):e1 P am an (.tmp t) v:=h
def e1.VB(ad:ca P){p:Tmp}{T E:a7}{b o k:Nat}{c j:ab aj}(h:ev am p=some (aw b o):=by exact rfl)(g:cells b E c∈an:=by(repeat first|exact aF _|apply aG))(t:bM ad.agg T=some k:=by exact rfl)(d:Nat.ble (o+k) c.length=true:=by exact rfl)(z:eZ o k c j:=by infer_instance):e1 P am an (.cell p T) (A j):=⟨b,E,c,o,h,g,jW.agg (ad.UT t) d z.eq⟩
def e1.hV(ad:ca P){p:Tmp}{T E:a7}{b o u:Nat}{c:ab aj}{v:aj}(h:ev am p=some (aw b o):=by exact rfl)(g:cells b E c∈an:=by(repeat first|exact aF _|apply aG))(t:bM ad.one T=some u:=by exact rfl)(d:c[o]?=some v:=by exact rfl):e1 P am an (.cell p T) v:=⟨b,E,c,o,h,g,jW.one (ad.Un t) d⟩
end
end Go.ay
namespace Go.ay
open Go
variable{k:IntKind}{T:a7}{d:ab (ab aj)}{b:Bool}{X:BinOp}{q:Int}{aV:aT (Nat×Bool)}{C:bC->ab ax->Prop}{e:ax}{M:Act->aZ->Prop}{off:Nat}{bc:Array Edge}{U:Nat}{Y:Array Bool}
section
variable{P:bU}{r:aT Nat}{W:aZ}{D:ab Nat}{n:dq}{Q:cU}{am Z:bC}{an a2:ab ax}{J:Array b6}{N:ab b6}
variable{dst:Nat}{ba:a7}{bb:String}
def V.fx{x:bf}{v:aj}(t:aR am x=some v:=by exact rfl):aK P n am an ⟨some dst,.move x,ba,bb,bc,aV⟩ v:=aK.move t
def V.sd{x:bf}{v:aj}(t:aR am x=some v:=by exact rfl):aK P n am an ⟨some dst,.assign x,ba,bb,bc,aV⟩ v:=aK.assign t
def V.Xt{c x y:bf}{v:aj}(g:aR am c=some (.bool true):=by exact rfl)(t:aR am x=some v:=by exact rfl):aK P n am an ⟨some dst,.pick c x y,ba,bb,bc,aV⟩ v:=aK.aag g t
def V.Xu{c x y:bf}{v:aj}(g:aR am c=some (.bool false):=by exact rfl)(t:aR am y=some v:=by exact rfl):aK P n am an ⟨some dst,.pick c x y,ba,bb,bc,aV⟩ v:=aK.aah g t
def V.cmp{t i:a7}{x y:bf}{p:Int}(g:aR am x=some (.int k p):=by exact rfl)(d:aR am y=some (.int k q):=by exact rfl)(o:bd X p q=some b:=by exact rfl):aK P n am an ⟨some dst,.binOp X t x y i,ba,bb,bc,aV⟩ (.bool b):=aK.cmp g d o
def V.ob{t i:a7}{x y:bf}{p q:ab aS}(g:aR am x=some (S p):=by exact rfl)(d:aR am y=some (S q):=by exact rfl)(o:ay.ob X p q=some b:=by exact rfl):aK P n am an ⟨some dst,.binOp X t x y i,ba,bb,bc,aV⟩ (.bool b):=aK.ob g d o
def V.Wm(ad:ca P){t i:a7}{x y:bf}{p q:Bool}{u:Nat}(g:aR am x=some (.bool p):=by exact rfl)(d:aR am y=some (.bool q):=by exact rfl)(j:bM ad.wG t=some u:=by exact rfl):aK P n am an ⟨some dst,.binOp .neq t x y i,ba,bb,bc,aV⟩ (.bool (!(p==q))):=aK.aap ad g d j
def V.eq{t i:a7}{x y:bf}{u v:aj}(h:c6 P 10000 t u v b)(g:aR am x=some u:=by exact rfl)(d:aR am y=some v:=by exact rfl)(z:uR u v=true:=by exact rfl)(o:uS P t u v=true:=by kernel_rfl):aK P n am an ⟨some dst,.binOp .eql t x y i,ba,bb,bc,aV⟩ (.bool b):=aK.eql g d z o h
def V.ne{t i:a7}{x y:bf}{u v:aj}(h:c6 P 10000 t u v b)(g:aR am x=some u:=by exact rfl)(d:aR am y=some v:=by exact rfl)(z:uR u v=true:=by exact rfl)(o:uS P t u v=true:=by kernel_rfl):aK P n am an ⟨some dst,.binOp .neq t x y i,ba,bb,bc,aV⟩ (.bool (!b)):=aK.neq g d z o h
def V.add{t i:a7}{x y:bf}{p:Int}(g:aR am x=some (I p):=by exact rfl)(d:aR am y=some (I q):=by exact rfl)(o:-9223372036854775808<=p+q/\p+q<=9223372036854775807:=by first|omega|(dsimp only;omega)):aK P n am an ⟨some dst,.binOp .add t x y i,ba,bb,bc,aV⟩ (I (p+q)):=aK.add g d o
def V.sub{t i:a7}{x y:bf}{p:Int}(g:aR am x=some (I p):=by exact rfl)(d:aR am y=some (I q):=by exact rfl)(o:-9223372036854775808<=p-q/\p-q<=9223372036854775807:=by first|omega|(dsimp only;omega)):aK P n am an ⟨some dst,.binOp .sub t x y i,ba,bb,bc,aV⟩ (I (p-q)):=aK.sub g d o
def V.mul{t i:a7}{x y:bf}{p:Int}(g:aR am x=some (I p):=by exact rfl)(d:aR am y=some (I q):=by exact rfl)(o:-9223372036854775808<=p*q/\p*q<=9223372036854775807:=by first|omega|(dsimp only;omega)):aK P n am an ⟨some dst,.binOp .mul t x y i,ba,bb,bc,aV⟩ (I (p*q)):=aK.mul g d o
def yC(X:BinOp)(k:IntKind)(p q:Int):aT Int:=match X with|.add=>some (k.wrap (p+q))|.sub=>some (k.wrap (p-q))|.mul=>some (k.wrap (p*q))|_=>none
def V.Xv{t i:a7}{x y:bf}{p u:Int}(g:aR am x=some (.int k p):=by exact rfl)(d:aR am y=some (.int k q):=by exact rfl)(o:yC X k p q=some u:=by exact rfl):aK P n am an ⟨some dst,.binOp X t x y i,ba,bb,bc,aV⟩ (.int k u):=aK.arith g d o
def V.quo{t i:a7}{x y:bf}{p:Int}(g:aR am x=some (I p):=by exact rfl)(d:aR am y=some (I q):=by exact rfl)(o:0<=p/\p<=9223372036854775807/\1<=q:=by first|omega|(dsimp only;omega)):aK P n am an ⟨some dst,.binOp .quo t x y i,ba,bb,bc,aV⟩ (I (p/q)):=aK.quo g d o
def V.Xw{t i:a7}{x y:bf}{p:Int}(g:aR am x=some (.int k p):=by exact rfl)(d:aR am y=some (.int k q):=by exact rfl)(o:q≠0:=by first|omega|(dsimp only;omega)):aK P n am an ⟨some dst,.binOp .rem t x y i,ba,bb,bc,aV⟩ (.int k (p.tmod q)):=
 λa w j _=>by simp[execOp,j.eval g,j.eval d,eqGuard,binOp,Op.intDiv,o]
def lb(X:BinOp)(k:IntKind)(x y:Int):aT Int:=
 match X with
 |.and=>some (k.wrap (BitVec.ofInt k.bits x&&&BitVec.ofInt k.bits y).toNat)
 |.or=>some (k.wrap (BitVec.ofInt k.bits x|||BitVec.ofInt k.bits y).toNat)
 |.xor=>some (k.wrap (BitVec.ofInt k.bits x^^^BitVec.ofInt k.bits y).toNat)
 |.andNot=>some (k.wrap (BitVec.ofInt k.bits x&&&~~~(BitVec.ofInt k.bits y)).toNat)
 |_=>none
def V.bit{t i:a7}{x y:bf}{p u v:Int}(z:u=v)(g:aR am x=some (.int k p):=by exact rfl)(d:aR am y=some (.int k q):=by exact rfl)(o:lb X k p q=some u:=by exact rfl):aK P n am an ⟨some dst,.binOp X t x y i,ba,bb,bc,aV⟩ (.int k v):=
 λa w j _=>by subst z;simp only[execOp,j.eval g,j.eval d];cases X<;>simp only[lb,eY,reduceCtorEq]at o<;>subst o<;>simp[eqGuard,binOp,Op.intBits]
def V.shl{t i:a7}{x y:bf}{v:IntKind}{p u:Int}(g:aR am x=some (.int k p):=by exact rfl)(d:aR am y=some (.int v q):=by exact rfl)(o:0<=q:=by omega)(z:k.wrap (p*2^(Min.min q.toNat k.bits))=u:=by exact rfl):aK P n am an ⟨some dst,.binOp .shl t x y i,ba,bb,bc,aV⟩ (.int k u):=
 λa w j _=>Oe
def V.shr{t i:a7}{x y:bf}{v:IntKind}{p u:Int}(g:aR am x=some (.int k p):=by exact rfl)(d:aR am y=some (.int v q):=by exact rfl)(o:0<=q:=by omega)(z:p.fdiv (2^(Min.min q.toNat k.bits))=u:=by exact rfl):aK P n am an ⟨some dst,.binOp .shr t x y i,ba,bb,bc,aV⟩ (.int k u):=
 λa w j _=>Oe
def V.aaA{t:a7}{x:bf}{p u v:Int}(z:u=v)(g:aR am x=some (.int k p):=by exact rfl)(d:lb .xor k (if k.signed then-1 else k.max) p=some u:=by exact rfl):aK P n am an ⟨some dst,.unOp .xor t x,ba,bb,bc,aV⟩ (.int k v):=
 λa w j _=>by subst z;simp only[lb,eY]at d;subst d;simp[execOp,j.eval g,Op.unary,Op.intBits]
def V.not{t:a7}{x:bf}{p:Bool}(g:aR am x=some (.bool p):=by exact rfl):aK P n am an ⟨some dst,.unOp .not t x,ba,bb,bc,aV⟩ (.bool (!p)):=aK.not g
def V.VU(ad:ca P){t u:a7}{x:bf}{o z:IntKind}{p:Int}(g:aR am x=some (.int k p):=by exact rfl)(j:mu ad.ints u=some o:=by exact rfl)(d:mu ad.ints t=some z:=by exact rfl):aK P n am an ⟨some dst,.convert t u x,ba,bb,bc,aV⟩ (.int o (o.wrap p)):=aK.Xn ad g j d
def AU{p:Int}(h:mv k p):k.wrap p=p:=by unfold mv Lit.wf at h;simp only[c5,dl]at h;obtain⟨t,g⟩:=h;cases k<;>simp_all[IntKind.wrap,IntKind.min,IntKind.max,IntKind.signed,IntKind.bits]<;>omega
def V.ex{x:bf}{o2:Nat}{g:ab aj}{v:aj}(t:aR am x=some (.tuple g.toArray):=by exact rfl)(z:g[o2]?=some v:=by exact rfl):aK P n am an ⟨some dst,.extract x o2,ba,bb,bc,aV⟩ v:=aK.extract t z
def V.VV{x:bf}{b o:Nat}(t:aR am x=some (aw b o):=by exact rfl):aK P n am an ⟨some dst,.nilCheck x,ba,bb,bc,aV⟩ (aw b o):=aK.nilCheck t
def V.ki{fn:Fn}{v cs:ab bf}{t d:ab aj}(k:ay.hU am v=some t:=by exact rfl)(g:ay.hU am cs=some d:=by exact rfl):aK P n am an ⟨some dst,.makeFunc fn v.toArray cs.toArray,ba,bb,bc,aV⟩ (.func fn t.toArray d.toArray):=
 λa w j _=>by
  have b:v.toArray.map a.eval=t.toArray:=by rw[<-j.hU k];simp
  have t:cs.toArray.map a.eval=d.toArray:=by rw[<-j.hU g];simp
  simp only[execOp,Instr.makeFunc,b,t,cK,eP,dW]
def V.VW(ad:ca P){s:a7}{x:bf}{f b o g:Nat}(t:aR am x=some (aw b o):=by exact rfl)(k:n9 ad.q7 s f=some off:=by exact rfl)(y:o+off=g:=by(first|exact h8 _|exact ho _|(simp only[Nat.reduceAdd];done)|exact rfl)):aK P n am an ⟨some dst,.fieldAddr s x f,ba,bb,bc,aV⟩ (aw b g):=aK.aab ad t k y
def V.C'(ad:ca P){E:a7}{x:bf}{b o u:Nat}{c:ab aj}{v:aj}(t:bM ad.one T=some u:=by exact rfl)(g:aR am x=some (aw b o):=by exact rfl)(d:cells b E c∈an:=by(repeat first|exact aF _|apply aG))(z:c[o]?=some v:=by exact rfl):aK P n am an ⟨some dst,.load T x,ba,bb,bc,aV⟩ v:=aK.Z7 ad t g d z
def V.UY(ad:ca P){E:a7}{x:bf}{b o k:Nat}{c v:ab aj}(t:bM ad.agg T=some k:=by exact rfl)(g:aR am x=some (aw b o):=by exact rfl)(d:cells b E c∈an:=by(repeat first|exact aF _|apply aG))(z:Nat.ble (o+k) c.length=true:=by exact rfl)(j:eZ o k c v:=by infer_instance):aK P n am an ⟨some dst,.load T x,ba,bb,bc,aV⟩ (A v):=aK.Z8 ad t g d z j
def V.UZ(ad:ca P){j:ab (Nat×bf)}{o:ab (Nat×aj)}{c d:ab aj}(y:yx P T=true:=by kernel_rfl)(v:iK ad.iZ T=some c:=by exact rfl)(t:ay.m0 am j=some o:=by exact rfl)(g:lV P T o c d:=by(repeat first|exact lV.nil|(apply lV.aae ad;exact rfl;exact rfl;exact rfl;exact rfl;exact rfl;infer_instance)|(apply lV.aaf ad;exact rfl;exact rfl;exact rfl;exact rfl;infer_instance))):aK P n am an ⟨some dst,.build T j.toArray,ba,bb,bc,aV⟩ (A d):=aK.build ad y v t g
def V.WG(ad:ca P){t u:a7}{x:bf}{p:ab aS}(g:aR am x=some (S p):=by exact rfl)(j:bM ad.strs t=some u:=by exact rfl):aK P n am an ⟨some dst,.call ⟨.builtin .len,#[x],#[t]⟩,ba,bb,bc,aV⟩ (I (p.length:Int)):=aK.WG ad g j
def V.Wj(ad:ca P){t e:a7}{x:bf}{a:aT Addr}{o d:Nat}(g:aR am x=some (.slice a o d):=by exact rfl)(j:bM ad.fe t=some e:=by exact rfl):aK P n am an ⟨some dst,.call ⟨.builtin .len,#[x],#[t]⟩,ba,bb,bc,aV⟩ (I (o:Int)):=aK.aai ad g j
def V.max{i:Array a7}{x y:bf}{p:Int}(t:aR am x=some (I p):=by exact rfl)(g:aR am y=some (I q):=by exact rfl):aK P n am an ⟨some dst,.call ⟨.builtin .max,#[x,y],i⟩,ba,bb,bc,aV⟩ (I (Max.max p q)):=aK.max t g
def V.min{i:Array a7}{x y:bf}{p:Int}(t:aR am x=some (I p):=by exact rfl)(g:aR am y=some (I q):=by exact rfl):aK P n am an ⟨some dst,.call ⟨.builtin .min,#[x,y],i⟩,ba,bb,bc,aV⟩ (I (Min.min p q)):=aK.min t g
def V.WI(ad:ca P){t u:a7}{x y:bf}{p:ab aS}{i:Int}{b:aS}(g:aR am x=some (S p))(d:aR am y=some (.int k i))(z:0<=i)(o:p[i.toNat]?=some b)(j:bM ad.strs t=some u:=by exact rfl):aK P n am an ⟨some dst,.index t x y,ba,bb,bc,aV⟩ (.int .u8 (b.toNat:Int)):=aK.Xp ad g d j z o
def V.aaB(ad:ca P){t u:a7}{x y:bf}{p:ab aS}{i:Nat}{b:aS}(g:aR am x=some (S p))(d:aR am y=some (.int k (i:Int)))(o:p[i]?=some b)(j:bM ad.strs t=some u:=by exact rfl):aK P n am an ⟨some dst,.index t x y,ba,bb,bc,aV⟩ (.int .u8 (b.toNat:Int)):=aK.Xp ad g d j ac (by simpa using o)
def V.Xx(ad:ca P){t u:a7}{x v:bf}{p:ab aS}{i:Int}(d:aR am x=some (S p):=by exact rfl)(o:aR am v=some (.int k i):=by exact rfl)(j:bM ad.strs t=some u:=by exact rfl)(z:0<=i:=by first|omega|(dsimp only;omega))(g:i<=p.length:=by first|omega|(dsimp only;omega)):aK P n am an ⟨some dst,.slice t x (some v) none none,ba,bb,bc,aV⟩ (S (p.drop i.toNat)):=aK.aak ad d o j z g
def V.Wn(ad:ca P){t u:a7}{x ao:bf}{p:ab aS}{i:Int}(d:aR am x=some (S p):=by exact rfl)(o:aR am ao=some (.int k i):=by exact rfl)(j:bM ad.strs t=some u:=by exact rfl)(z:0<=i:=by first|omega|(dsimp only;omega))(g:i<=p.length:=by first|omega|(dsimp only;omega)):aK P n am an ⟨some dst,.slice t x none (some ao) none,ba,bb,bc,aV⟩ (S (p.take i.toNat)):=aK.aal ad d o j z g
def V.Vm(ad:ca P){t E:a7}{x y:bf}{i:aT Addr}{v j b aI:Nat}{k:Nat}(g:aR am x=some (.slice i v j))(o:aR am y=some (I (k:Int)))(s:Rd e i v b off aI d)(j:bM ad.fe t=some E:=by exact rfl)(d:bM ad.gV E=some aI:=by exact rfl)(z:k<v:=by omega):aK P n am an ⟨some dst,.indexAddr t x y,ba,bb,bc,aV⟩ (aw b (off+k*aI)):=aK.aar ad g o s j d z
def V.Ux(ad:ca P){x:bf}{i:aT Addr}{z b aI k:Nat}{c:ab aj}(g:aR am x=some (aw b (off+k*aI)))(j:Rd e i z b off aI d)(o:d[k]?=some c)(t:bM ad.agg T=some aI:=by exact rfl)(d:e∈an:=by(repeat first|exact aF _|apply aG)):aK P n am an ⟨some dst,.load T x,ba,bb,bc,aV⟩ (A c):=aK.aas ad t g j d o
def V.VC(ad:ca P){u:a7}{x:bf}{i:aT Addr}{z b k:Nat}{v:aj}(g:aR am x=some (aw b (off+k*1)))(j:Rd e i z b off 1 d)(o:d[k]?=some [v])(t:bM ad.one T=some u:=by exact rfl)(d:e∈an:=by(repeat first|exact aF _|apply aG)):aK P n am an ⟨some dst,.load T x,ba,bb,bc,aV⟩ v:=aK.aat ad t g j d o
def c6.Xy{d:Nat}{e:a7}{b o:Nat}(h:P.underlying T=some (.pointer e)):c6 P (d+1) T (aw b o) (.pointer none) false:=λw=>by simp[Op.equalIn,cK,et h]
def c6.Xz{d:Nat}{e:a7}(h:P.underlying T=some (.pointer e)):c6 P (d+1) T (.pointer none) (.pointer none) true:=λw=>by simp[Op.equalIn,cK,et h]
def u1(P:bU)(t:a7):Bool:=match P.underlying t with|some (.pointer _)=>true|_=>false
def yD{t:a7}(h:u1 P t=true):∃e,P.underlying t=some (.pointer e):=by
 unfold u1 at h;split at h
 .exact⟨_,TX⟩
 .cases h
def V.XA{t i:a7}{x y:bf}{b o:Nat}(g:aR am x=some (aw b o):=by exact rfl)(o:aR am y=some (.pointer none):=by exact rfl)(j:u1 P t=true:=by kernel_rfl):aK P n am an ⟨some dst,.binOp .eql t x y i,ba,bb,bc,aV⟩ (.bool false):=by obtain⟨e,z⟩:=yD j;exact aK.eql g o rfl rfl (c6.Xy (d:=9999) z)
def V.XB{t i:a7}{x y:bf}{b o:Nat}(g:aR am x=some (aw b o):=by exact rfl)(o:aR am y=some (.pointer none):=by exact rfl)(j:u1 P t=true:=by kernel_rfl):aK P n am an ⟨some dst,.binOp .neq t x y i,ba,bb,bc,aV⟩ (.bool true):=by obtain⟨e,z⟩:=yD j;exact aK.neq g o rfl rfl (c6.Xy (d:=9999) z)
def V.XC{t i:a7}{x y:bf}(g:aR am x=some (.pointer none):=by exact rfl)(o:aR am y=some (.pointer none):=by exact rfl)(j:u1 P t=true:=by kernel_rfl):aK P n am an ⟨some dst,.binOp .eql t x y i,ba,bb,bc,aV⟩ (.bool true):=by obtain⟨e,z⟩:=yD j;exact aK.eql g o rfl rfl (c6.Xz (d:=9999) z)
def V.XD{t i:a7}{x y:bf}(g:aR am x=some (.pointer none):=by exact rfl)(o:aR am y=some (.pointer none):=by exact rfl)(j:u1 P t=true:=by kernel_rfl):aK P n am an ⟨some dst,.binOp .neq t x y i,ba,bb,bc,aV⟩ (.bool false):=by obtain⟨e,z⟩:=yD j;exact aK.neq g o rfl rfl (c6.Xz (d:=9999) z)
def aeg{v:aj}(h:v.oneCell'=true):v.cells.toList=[v]:=by cases v<;>first|rfl|(cases h;done)
def O.K'(ad:ca P){E:a7}{x y:bf}{b o u:Nat}{c s:ab aj}{v:aj}(h:C am a2)(t:bM ad.one T=some u:=by exact rfl)(g:aR am x=some (aw b o):=by exact rfl)(z:aR am y=some v:=by exact rfl)(k:v.oneCell'=true:=by first|exact rfl|with_reducible assumption)(d:az an (cells b E c) (cells b E s) a2:=by(repeat first|exact az.here _ _ _|apply az.there))(j:Nat.blt o c.length=true:=by exact rfl)(i:bA o [v] c s:=by infer_instance):av P r W D n ⟨none,.store T x y,ba,bb,bc,aV⟩ am an C:=av.Z9 ad t g z k d j i h
def O.VX(ad:ca P){E:a7}{x y:bf}{b o k:Nat}{c s u:ab aj}(dQ:C am a2)(t:bM ad.agg T=some k:=by exact rfl)(g:aR am x=some (aw b o):=by exact rfl)(z:aR am y=some (A u):=by exact rfl)(v:u.length=k:=by exact rfl)(h:u.all (·.oneCell')=true:=by exact rfl)(d:az an (cells b E c) (cells b E s) a2:=by(repeat first|exact az.here _ _ _|apply az.there))(j:Nat.ble (o+k) c.length=true:=by exact rfl)(i:bA o u c s:=by infer_instance):av P r W D n ⟨none,.store T x y,ba,bb,bc,aV⟩ am an C:=av.aaa ad t g z v h d j i dQ
def O.Wo{x:bf}{c:ab aj}(g:∀b,C ((dst,aw b 0)::am) (cells b T c::an))(y:Nat.blt dst n.n=true:=by exact rfl)(t:aR am x=some (A c):=by exact rfl):av P r W D n ⟨some dst,.box T x,ba,bb,bc,aV⟩ am an C:=av.Xm y t g
def O.UQ{x:bf}{v:aj}(g:∀b,C ((dst,aw b 0)::am) (cells b T [v]::an))(y:Nat.blt dst n.n=true:=by exact rfl)(t:aR am x=some v:=by exact rfl)(z:v.cells.toList=[v]:=by first|exact rfl|exact aeg (by assumption)):av P r W D n ⟨some dst,.box T x,ba,bb,bc,aV⟩ am an C:=av.aac y t z g
def O.N'(ad:ca P){c:ab aj}(t:∀b,C ((dst,aw b 0)::am) (cells b T c::an))(y:Nat.blt dst n.n=true:=by exact rfl)(v:iK ad.iZ T=some c:=by exact rfl):av P r W D n ⟨some dst,.alloc T,ba,bb,bc,aV⟩ am an C:=av.aad ad y v t
def O.lit(ad:ca P){t E:a7}{s aI:Nat}{k:ab (Nat×bf)}{d:ab (Nat×aj)}{h cs:ab aj}(i:∀b,C ((dst,.slice (some ⟨b,0,none⟩) s s)::am) (row (.slice (some ⟨b,0,none⟩) s s) E aI s cs::an))(b:Nat.blt dst n.n=true:=by exact rfl)(v:bM ad.fe t=some E:=by exact rfl)(z:bM ad.gV E=some aI:=by exact rfl)(y:iK ad.iZ E=some h:=by exact rfl)(g:ay.m0 am k=some d:=by exact rfl)(j:bI aI 0 d cs:=by(repeat first|exact bI.nil|(exact bI.last rfl)|(apply bI.agg;exact rfl)|(apply bI.one;exact rfl)))(o:d.length=s:=by exact rfl)(d:Nat.ble (s*aI) 1000=true:=by exact rfl)(h:Nat.ble 1 aI=true:=by exact rfl):av P r W D n ⟨some dst,.buildSlice t s k.toArray,ba,bb,bc,aV⟩ am an C:=av.Xr ad b v z y g j o d h i
def av.x'{X:Op}{v:aj}(h:aK P n am an ⟨some dst,X,ba,bb,bc,aV⟩ v)(t:C ((dst,v)::am) an)(x:kf X=true:=by exact rfl)(y:Nat.blt dst n.n=true:=by exact rfl):av P r W D n ⟨some dst,X,ba,bb,bc,aV⟩ am an C:=av.Xh x y h t
variable{K F:ab ax}{u:ab Nat}{T:Bool}{X:Op}
def af.t{v:aj}(i:Nat)(ao:J[i]?=some ⟨some dst,X,ba,bb,bc,aV⟩)(g:aK P n am K ⟨some dst,X,ba,bb,bc,aV⟩ v)(h:af P r W D n J M K F u true U (Y.setIfInBounds i true) ((dst,v)::am) an)(t:tv J u Y i=true:=by kernel_rfl)(d:hp am J aV=some true:=by exact rfl)(x:kf X=true:=by exact rfl)(y:Nat.blt dst n.n=true:=by exact rfl):af P r W D n J M K F u true (U+1) Y am an:=af.take i ao t d x y g h
def af.i'{v:aj}(i:Nat)(ao:J[i]?=some ⟨some dst,X,ba,bb,bc,aV⟩)(t:aK P n am F ⟨some dst,X,ba,bb,bc,aV⟩ v)(h:af P r W D n J M K F u T U (Y.setIfInBounds i true) ((dst,v)::am) an)(g:yz J Y i=true:=by kernel_rfl)(d:hp am J aV=some true:=by exact rfl)(x:kf X=true:=by exact rfl)(y:Nat.blt dst n.n=true:=by exact rfl):af P r W D n J M K F u T (U+1) Y am an:=af.aan i ao g d x y t h
def af.s(i:Nat)(ao:J[i]?=some ⟨some dst,X,ba,bb,bc,aV⟩)(h:af P r W D n J M K F u true U (Y.setIfInBounds i true) ((dst,undef)::am) an)(t:tv J u Y i=true:=by kernel_rfl)(g:hp am J aV=some false:=by exact rfl)(y:Nat.blt dst n.n=true:=by exact rfl):af P r W D n J M K F u true (U+1) Y am an:=af.skip i ao t g y h
def af.q'{o:b6}(i:Nat)(ao:J[i]?=some o)(h:av P r W D n o am an (λZ a2=>(∀w,H W D a2 w->fw K w)/\(∀w,H W D a2 w->fw F w)/\af P r W D n J M K F u true U (Y.setIfInBounds i true) Z a2))(t:sb .any J Y i=true:=by kernel_rfl)(g:hp am J o.guard=some true:=by exact rfl):af P r W D n J M K F u T (U+1) Y am an:=af.only i ao t g h
def af.l{o:b6}(i:Nat)(ao:J[i]?=some o)(h:av P r W D n o am an (λZ a2=>(∀w,H W D a2 w->fw F w)/\af P r W D n J M K F u false U (Y.setIfInBounds i true) Z a2))(t:(sb .any J Y i&&u.contains i)=true:=by kernel_rfl)(g:hp am J o.guard=some true:=by exact rfl):af P r W D n J M K F u T (U+1) Y am an:=af.last i ao t g h
def af.aaC{e:dI}(h:Out W D n Q e am an)(t:(Region.ready .any J Y).isEmpty=true:=by kernel_rfl):af P r W D n J (Q e) K F u T U Y am an:=af.out t h
def af.dA(d:Nat)(j:b=true->af P r W D n J M K F u T U Y ((d,.bool true)::am) an)(k:b=false->af P r W D n J M K F u T U Y ((d,.bool false)::am) an)(z:ev am d=some (.bool b):=by exact rfl):af P r W D n J M K F u T U Y am an:=af.part z j k
inductive sh(an:List ax):List ax->Prop
 |nil:sh an []
 |cons {e:ax} {be:List ax} (h:e∈an) (k:sh an be):sh an (e::be)
def sh.mem{be:ab ax}(h:sh an be):∀e,e∈be->e∈an:=by
 induction h with
 |nil=>intro e z;cases z
 |cons h _ d=>intro e z;rcases dk.1 z with rfl|z<;>first|exact h|exact d _ z
def AV(t:sh an K:=by(repeat(first|exact sh.nil|refine sh.cons T1 ?_))):∀w,H W D an w->fw K w:=λ_ i e z=>i.fQ e (t.mem e z)
end
end Go.ay
namespace Go.ay
open Go
section
variable{P:bU}{r:aT Nat}{W:aZ}{D:ab Nat}{n:dq}{Q:cU}{am Z:bC}{an a2:ab ax}
def ah.Uv{id:Nat}{l:ab b6}{K F:ab ax}(u:ab Nat)(h:af P r W D n l.toArray (Q .normal) K F u true l.length (Array.replicate l.length false) am an)(g:K.Sublist an)(j:F.Sublist an)(t:P.follows .mixedOrders=true:=by kernel_rfl):ah P r W D n Q (.region id l.toArray true) am an:=
 ah.draw K F u t (λ_ i=>(i.sub g).hold) (λ_ i=>(i.sub j).hold) h
def EJ{C:ab ax->Prop}{an be g:ab ax}(h:C g)(t:nz an be g:=by(repeat(first|exact nz.nil|apply nz.cons))):∃y,nz an be y/\C y:=⟨_,t,h⟩
end
end Go.ay
namespace Go.ay
open Go
variable{aI:Nat}{aV:aT (Nat×Bool)}{C:bC->ab ax->Prop}{bc:Array Edge}{d:ab (ab aj)}{k:Nat}
section
variable{P:bU}{w:aZ}
def AW(t cr ba e:a7)(i:TypeInfo)(z:aj)(Yi bytes:Nat)(cN:P.underlying t=some (.slice e))(ao:P.info? e=some i)(fk:i.zero=some z)(Yw:i.size=Yi)(Yu:i.bytes=bytes)(Yq:z.cells.size=Yi)(Yg:0<Yi)(v:aj)(n:Nat)(o:ab aj)(Yh:w.ownsRow 0 e Yi v n o)(x:aj)(m:Nat)(Yf:ab aj)(h:Src P Yi cr x m Yf w)(Yo:n+m<=maxLen)(Yv:(n+m)*bytes<=140737488355328):∃ei iI,(Builtin.append_ #[t,cr] ba #[v,x]).run P w=.ok ei iI/\iI.ownsRow 0 e Yi ei (n+m) (o++Yf)/\w.grownBy iI v.ownBlock/\(ei=.slice none 0 0↔v=.slice none 0 0/\m=0)/\(ei.ownBlock=v.ownBlock\/ei.ownBlock=some w.heap.size)/\w.drawn<=iI.drawn:=by
 subst Yw;subst Yu;have y:=h.newsLen;have Yz:n+m<=9223372036854775807:=by simp only[maxLen]at Yo;omega
 have Ye:(o++Yf).length=(n+m)*i.size:=by rw[b2,Yh.1,y,fr]
 have Yy:∀(Yt:Nat),Yt<n+m->∀(row:aT Nat),
   (w.drew.alloc (.cells ((o++Yf).toArray++Builtin.zeroCells z.cells (grownCap w (n+m) Yt e-(n+m))) e)).ownsRow 0 e i.size
    (.slice (some ⟨w.heap.size,0,none⟩) (n+m) (grownCap w (n+m) Yt e)) (n+m) (o++Yf)/\
   w.grownBy (w.drew.alloc (.cells ((o++Yf).toArray++Builtin.zeroCells z.cells (grownCap w (n+m) Yt e-(n+m))) e)) row:=by
  intro Yt dy row
  have Yn:=yE w (n+m) Yt e
  have Yj:grownCap w (n+m) Yt e<=maxLen:=yF w (n+m) Yt e Yo
  refine⟨⟨Ye,.inr ⟨w.heap.size,_,_,rfl,cO _,yo w.drew _,Yn,Yj,?_,?_⟩⟩,⟨rfl,rfl,rfl,T3,λk b _=>tm w.drew _ b⟩⟩
  .simp only[yG,o6,AX,Yq,Ye,<-fr]
   congr 1
   omega
  .simp only[AY]
   rw[<-Ye]
   exact ql
 rcases Yh.2 with⟨rfl,rfl⟩|⟨g,s,Yc,rfl,Yr,bF,Ym,Yj,Yk,Yl⟩
 .have d:o=[]:=lW (by simpa using Yh.1);subst d;by_cases j:m=0
  .subst j;have cM:Yf=[]:=lW (by simpa using y);subst cM;refine⟨.slice none 0 0,w,?_,EK w 0 e i.size,⟨rfl,rfl,rfl,cD _,λ_ _ _=>rfl⟩,T3,.inl rfl,cD _⟩;have d:=h.cells;rcases h.kind with⟨v,b⟩|b<;>simp[Builtin.append_,et cN,et b,sizeOf,typeInfo,ao,h.len,d]
  .have d:=AZ (P:=P) w t cr ba e i z cN ao fk none 0 0 [] (run_firstCells_none w.drew i.size 0 0 0) x m Yf h ac ac (yH ac (by simpa using Yv));have Yp:=Yy 0 ac (Value.ownBlock (.slice none 0 0));simp only[h8,gJ]at Yp d⊢;exact⟨_,_,d,Yp.1,Yp.2,by simp[j],.inr rfl,wN _⟩
 .by_cases Ys:n+m<=s
  .have Yx:n*i.size+Yf.length<=Yc.size:=by rw[y,Yk,<-fr];exact kh _ Ys
   have j:=tq P g (n*i.size) e Yf 0 Yc w bF (by simpa using Yx) h.one;simp only[ho]at j;have d:(Builtin.append_ #[t,cr] ba #[.slice (some ⟨g,0,none⟩) n s,x]).run P w=
     .ok (.slice (some ⟨g,0,none⟩) (n+m) s) (w.setRow g (Yc.toList.take (n*i.size)++Yf++Yc.toList.drop (n*i.size+Yf.length)).toArray):=by
    rcases h.kind with⟨v,b⟩|b<;>simp[Builtin.append_,et cN,et b,sizeOf,typeInfo,ao,h.len,Ys,h.cells,u2,j]
   refine⟨_,_,d,⟨Ye,.inr ⟨g,s,_,rfl,Yr,q4 w g Yc _ e _ bF,Ys,Yj,?_,?_⟩⟩,⟨rfl,rfl,rfl,T3,λk _ b=>wz w g k _ (λe=>b (by simp[Value.ownBlock,e]))⟩,T3,.inl rfl,cD _⟩
   .simp only[o6,b2,fp,k9,og];omega
   .rw[Yl,<-Ye];exact ql
  .have k:∀j u,o[j]?=some u->w.cell? ((⟨g,0,none⟩:Addr).add j)=some u:=Yh.cells (g:=g) rfl;have d:=AZ (P:=P) w t cr ba e i z cN ao fk (some ⟨g,0,none⟩) n s o (u3 w.drew i.size n _ n s o Yh.1 (by simpa using k)) x m Yf h ac ac (yH ac Yv);have Yp:=Yy s ac (Value.ownBlock (.slice (some ⟨g,0,none⟩) n s));exact⟨_,_,d,Yp.1,Yp.2,T3,.inr rfl,wN _⟩
end
section
variable{P:bU}{r:aT Nat}{W:aZ}{D:ab Nat}{n:dq}{Q:cU}{am Z:bC}{an a2:ab ax}{J:Array b6}{N:ab b6}
variable{dst:Nat}{X:Op}{ba:a7}{bb:String}
def oh(P:bU)(an:ab ax)(aI:Nat)(cr:a7)(x:aj)(m:Nat)(t:ab aj):Prop:=∀w,fw an w->Src P aI cr x m t w
def oh.row(ad:ca P){E cr s m:Nat}{x:aj}{v:ab aj}(o:row x E aI m v∈an)(j:bM ad.fe cr=some s)(t:v.all (·.oneCell')=true):oh P an aI cr x m v:=λw i=>by
 have h:=i _ o;rw[io]at h;have y:∀u∈v,u.oneCell'=true:=hq.1 t;rcases h.2 with⟨rfl,rfl⟩|⟨g,cap,z,rfl,_⟩
 .have d:v=[]:=lW (by simpa using h.1);subst d;exact Src.ofNil w (gt (ad.Uu j)) 0
 .exact u4 w (gt (ad.Uu j)) _ _ _ _ h.1 (h.cells (g:=g) rfl) y
def oh.str(ad:ca P){cr u:Nat}{l:ab aS}(j:bM ad.strs cr=some u):oh P an 1 cr (S l) l.length (l.map λb=>.int .u8 (b.toNat:Int)):=λw _=>by have:=Src.ofString (P:=P) w (ad.Vl j) ⟨l.toArray⟩;simpa[byteCells,wH]using this
def Kj{t:ab (ab aj)}(o:∀x,x∈t->x.length=aI){j:Nat}{u:aj}(h:t.flatten[j]?=some u):∃i x k,t[i]?=some x/\x[k]?=some u/\j=i*aI+k:=by
 induction t generalizing j with
 |nil=>simp at h
 |cons y t z=>
  rw[AQ]at h;rcases o1 j y.length with b|t
  .rw[rh b]at h;exact⟨0,y,j,rfl,h,T3⟩
  .rw[ji t]at h;obtain⟨i,x,k,t,d,g⟩:=z (λx g=>o x (by simp[g])) h;have g:=o y T3;exact⟨i+1,x,k,SD,d,by rw[fr];omega⟩
def oh.rd(ad:ca P){e:ax}{cr kG Yc cap b off:Nat}{cV:aT Addr}(ew:Rd e cV Yc b off aI d)(z:e∈an)(cN:bM ad.fe cr=some kG)(t:d.flatten.all (·.oneCell')=true)(Ye:∀x,x∈d->x.length=aI)(Yf:0<Yc):oh P an aI cr (.slice cV Yc cap) Yc d.flatten:=λw cG=>by
 have fI:=ew.addr Yf;have h:=ew.reads w (cG _ z);have v:d.flatten.length=Yc*aI:=by
  rw[<-ew.length];clear h t ew;induction d with
  |nil=>simp
  |cons y o3 lu=>rw[AQ,b2,Ye y T3,lu (λx g=>Ye x (by simp[g])),dD,fr];omega
 subst fI;refine u4 w (gt (ad.Uu cN)) _ _ _ _ v (λj u hu=>?_) (hq.1 t);obtain⟨i,x,k,o,s,rfl⟩:=Kj Ye hu;rw[se];have:=(h i x o).2 k u s;rwa[qi]at this
def H.append{E m:Nat}{v j:aj}{g o3:ab aj}{w eX:aZ}(h:H W D an w)(u:az an (row v E aI k g) (row j E aI m o3) a2)(i:eX.ownsRow 0 E aI j m o3)(o:w.grownBy eX v.ownBlock)(d:j.ownBlock=v.ownBlock\/j.ownBlock=some w.heap.size)(Ye:w.drawn<=eX.drawn):H W D a2 eX:=by
 refine h.n7 u ⟨λe z=>?_,?_,λx t=>?_,λb s y=>?_,o.size,o.os,o.tape,o.output,Ye⟩
 .obtain rfl:e=_:=by simpa using z
  rw[io];exact i
 .have:bn [row j E aI m o3]=j.ownBlock.toList:=by simp[bn,h6]
  rw[this];cases j.ownBlock<;>simp
 .have Yc:j.ownBlock=some x:=by simpa[bn,h6]using t
  rcases d with d|d
  .left;rw[h6,<-d,Yc];simp
  .right;rw[d]at Yc;injection Yc with Yc;omega
 .refine o.block b s λe=>y ?_;rw[h6,<-e];simp
def ca.info(ad:ca P){E b:Nat}{y:ab aj}(g:bM ad.gV E=some aI)(d:bM ad.lT E=some b)(v:iK ad.iZ E=some y):∃i z,P.info? E=some i/\i.zero=some z/\i.size=aI/\i.bytes=b/\z.cells.toList=y:=by have t:=ad.Vc g;have g:=ad.Z6 d;obtain⟨z,d,o⟩:=ad.zeroAt v;obtain⟨i,ao,j⟩:=AA.1 d;rw[ao]at t g;exact⟨i,z,ao,j,SD,by simpa using g,o⟩
def O.aaD(ad:ca P){t cr E gu m:Nat}{x y:bf}{v u:aj}{j Yf iM:ab aj}{a2:aj->ab ax}(o:aR am x=some v)(h:aR am y=some u)(b7:oh P an aI cr u m Yf)(dQ:∀ei,ei.oneCell'=true->(ei=.slice none 0 0↔v=.slice none 0 0/\m=0)->C ((dst,ei)::am) (a2 ei))(s:∀ei,az an (row v E aI k j) (row ei E aI (k+m) (j++Yf)) (a2 ei):=by(intro _;repeat first|exact az.here _ _ _|apply az.there))(dM:Nat.blt dst n.n=true:=by exact rfl)(cN:bM ad.fe t=some E:=by exact rfl)(Yg:bM ad.gV E=some aI:=by exact rfl)(Yl:bM ad.lT E=some gu:=by exact rfl)(fk:iK ad.iZ E=some iM:=by exact rfl)(Yn:iM.length=aI:=by exact rfl)(Yi:Nat.blt 0 aI=true:=by exact rfl)(Yp:k+m<=9223372036854775807:=by omega)(Yo:(k+m)*gu<=140737488355328:=by omega):av P r W D n ⟨some dst,.call ⟨.builtin .append,#[x,y],#[t,cr]⟩,ba,bb,bc,aV⟩ am an C:=λK Q cA a w c2 cy=>by
 obtain⟨i,z,ao,Yk,d,b,cd⟩:=ad.info Yg Yl fk;obtain⟨l,nx,dz,_⟩:=(s v).split;have Yh:=cy.mem (e:=row v E aI k j) (by rw[dz];simp);rw[io]at Yh;have Yq:0<aI:=o0 Yi;have Ym:z.cells.size=aI:=by rw[<-og,cd,Yn]
 obtain⟨ei,eX,c1,dy,bF,cM,bH,Yj⟩:=AW (P:=P) (w:=w) t cr ba E i z aI gu (gt (ad.Uu cN)) ao Yk d b Ym Yq v k j Yh u m Yf (b7 w cy.hold) Rn Yo;have d:ei.oneCell'=true:=by rcases dy.2 with⟨rfl,_⟩|⟨g,Yc,Ye,rfl,_⟩<;>rfl
 refine jA rfl ?_ (cA _ _ (dQ ei d cM) _ _ (c2.put dM _) (cy.append (s ei) dy bF bH Yj));exact MJ
def O.ap(ad:ca P){t cr E gu m:Nat}{x y:bf}{v u:aj}{j Yf iM:ab aj}{a2:aj->ab ax}(o:aR am x=some v)(h:aR am y=some u)(b7:oh P an aI cr u m Yf)(dQ:∀g Yc,C ((dst,.slice (some ⟨g,0,none⟩) (k+m) Yc)::am) (a2 (.slice (some ⟨g,0,none⟩) (k+m) Yc)))(eE:0<k+m:=by omega)(s:∀ei,az an (row v E aI k j) (row ei E aI (k+m) (j++Yf)) (a2 ei):=by(intro _;repeat first|exact az.here _ _ _|apply az.there))(dM:Nat.blt dst n.n=true:=by exact rfl)(cN:bM ad.fe t=some E:=by exact rfl)(Yg:bM ad.gV E=some aI:=by exact rfl)(Yl:bM ad.lT E=some gu:=by exact rfl)(fk:iK ad.iZ E=some iM:=by exact rfl)(Yn:iM.length=aI:=by exact rfl)(Yi:Nat.blt 0 aI=true:=by exact rfl)(Yp:k+m<=9223372036854775807:=by omega)(Yo:(k+m)*gu<=140737488355328:=by omega):av P r W D n ⟨some dst,.call ⟨.builtin .append,#[x,y],#[t,cr]⟩,ba,bb,bc,aV⟩ am an C:=λK Q cA a w c2 cy=>by
 obtain⟨i,z,ao,Yk,d,b,cd⟩:=ad.info Yg Yl fk;obtain⟨l,nx,dz,_⟩:=(s v).split;have Yh:=cy.mem (e:=row v E aI k j) (by rw[dz];simp);rw[io]at Yh;have Yq:0<aI:=o0 Yi;have Ym:z.cells.size=aI:=by rw[<-og,cd,Yn]
 obtain⟨ei,eX,c1,dy,bF,cM,bH,Yj⟩:=AW (P:=P) (w:=w) t cr ba E i z aI gu (gt (ad.Uu cN)) ao Yk d b Ym Yq v k j Yh u m Yf (b7 w cy.hold) Rn Yo;rcases dy.2 with⟨_,c9⟩|⟨g,Yc,Ye,rfl,_⟩
 .omega
 .refine jA rfl ?_ (cA _ _ (dQ g Yc) _ _ (c2.put dM _) (cy.append (s _) dy bF bH Yj));exact MJ
def ah.fact{c:Code}{p:Prop}(z:∀w,H W D an w->p)(h:p->ah P r W D n Q c am an):ah P r W D n Q c am an:=λa w j v=>h (z w v) a w j v
def ai.fact{l:ab b6}{p:Prop}(z:∀w,H W D an w->p)(h:p->ai P r W D n J Q l am an):ai P r W D n J Q l am an:=λa w j v=>h (z w v) a w j v
def Out.fact{e:dI}{p:Prop}(z:∀w,H W D an w->p)(h:p->Out W D n Q e am an):Out W D n Q e am an:=λa w j v=>h (z w v) a w j v
def ais{v:aj}{E:Nat}{t:ab aj}(d:row v E aI k t∈an):∀w,H W D an w->(v=.slice none 0 0/\k=0/\t=[])\/∃g o,v=.slice (some ⟨g,0,none⟩) k o/\k<=o/\o<=maxLen:=λw i=>by
 have h:=i.mem d;rw[io]at h;rcases h.2 with⟨t,d⟩|⟨g,o,j,t,_,_,d,z,_⟩
 .exact .inl ⟨t,d,lW (by rw[h.1,d];simp)⟩
 .exact .inr ⟨g,o,t,d,z⟩
def H.aaE{w:aZ}(E aI:Nat)(h:H W D an w):H W D (row (.slice none 0 0) E aI 0 []::an) w:=by
 have:H w [] [row (.slice none 0 0) E aI 0 []] w:=by
  refine⟨λe z=>?_,Oq,λb t=>(by simp[bn,h6,Value.ownBlock]at t),λb _ _=>rfl,cD _,rfl,rfl,rfl,cD _⟩;obtain rfl:e=_:=LX
  rw[io];exact EK w 0 E aI
 exact h.new this
def V.o2(ad:ca P){t E b o s d:Nat}{x y:bf}{k:IntKind}{i:Int}(g:aR am x=some (.slice (some ⟨b,o,none⟩) s d):=by exact rfl)(d:aR am y=some (.int k i):=by exact rfl)(v:bM ad.fe t=some E:=by exact rfl)(z:bM ad.gV E=some aI:=by exact rfl)(j:0<=i/\i<(s:Int):=by omega):aK P n am an ⟨some dst,.indexAddr t x y,ba,bb,bc,aV⟩ (aw b (o+i.toNat*aI)):=λa w y _=>by
 have b:=gt (ad.Uu v);have v:P.elem t=E:=by simp[Program.elem,b]
 simp only[execOp,y.eval g,y.eval d];simp[Instr.indexAt,cK,asIntOf,et b,j,pD (ad.Vc z),se]
def V.B'(ad:ca P){t E b o i z:Nat}{x y:bf}(g:aR am x=some (.slice (some ⟨b,o,none⟩) i z))(d:aR am y=some (I (k:Int)))(v:bM ad.fe t=some E:=by exact rfl)(z:bM ad.gV E=some aI:=by exact rfl)(j:k<i:=by omega):aK P n am an ⟨some dst,.indexAddr t x y,ba,bb,bc,aV⟩ (aw b (o+k*aI)):=by have:=V.o2 (n:=n) (am:=am) (an:=an) (dst:=dst) (ba:=ba) (bb:=bb) (bc:=bc) (aV:=aV) ad (t:=t) g d v z ac;simpa using this
def run_bytesToString{w:aZ}{E:Nat}{v:aj}{l:ab aS}(h:w.ownsRow 0 E 1 v k (l.map λb=>.int .u8 (b.toNat:Int))):(Conv.bytesToString v).run P w=.ok (S l) w:=by
 have y:l.length=k:=by simpa using h.1
 rcases h.2 with⟨rfl,rfl⟩|⟨g,d,j,rfl,_⟩
 .have:l=[]:=lW y;subst this;rfl
 .have o:=h.cells (g:=g) rfl;have i:(loadCells ⟨g,0,none⟩ k).run P w=.ok (l.map λb=>Value.int .u8 (b.toNat:Int)).toArray w:=by have:=u3 (P:=P) w 1 k ⟨g,0,none⟩ k d _ h.1 o;simpa[Builtin.firstCells]using this
  have z:∀(t:ab aS) (s:ByteArray),(t.map λb=>(b.toNat:Int)).foldl (λr n=>r.push (UInt8.ofNat n.toNat)) s=⟨s.data++t.toArray⟩:=by
   intro t;induction t with
   |nil=>intro s;simp
   |cons x t o=>
    intro s;simp only[e7,qh];rw[o];apply ByteArray.ext;simp[ByteArray.push]
  rw[Go.run_bytesToString w ⟨g,0,none⟩ k d (l.map λb=>(b.toNat:Int)) (by simpa[Function.comp_def]using i),z];simp
def V.XE(ad:ca P){t u E e a:Nat}{x:bf}{v:aj}{l:ab aS}(d:aR am x=some v:=by exact rfl)(o:row v E 1 k (l.map λb=>.int .u8 (b.toNat:Int))∈an:=by(repeat first|exact aF _|apply aG))(cN:bM ad.strs u=some a:=by exact rfl)(hu:bM ad.fe t=some e:=by exact rfl)(i:mu ad.ints e=some .u8:=by exact rfl):aK P n am an ⟨some dst,.convert t u x,ba,bb,bc,aV⟩ (S l):=λa w s cy=>by
 have h:=cy _ o;rw[io]at h;have j:=run_bytesToString (P:=P) h;have y:∃cV Yc z,v=.slice cV Yc z:=by rcases h.2 with⟨rfl,_⟩|⟨g,z,Ye,rfl,_⟩<;>exact⟨_,_,_,rfl⟩
 obtain⟨cV,Yc,z,rfl⟩:=y;simp only[execOp,s.eval d,convert,cK,et (ad.Vl cN),et (gt (ad.Uu hu)),dW,et (ad.UJ i),j,eP]
end
end Go.ay
namespace Go.ay
open Go
variable{bu:Type}{aI:Nat}{k:IntKind}{aV:aT (Nat×Bool)}{C:bC->ab ax->Prop}{bc:Array Edge}
def EL[Inhabited bu]{f:bu->aj}{t:ab bu}{k:Nat}(g:k<t.length):(t.map λx=>[f x])[k]?=some [f (t.getD k default)]:=by simp[g]
@[irreducible] def rows{bu:Type}(f:bu->List Value)(v:Value)(E aI:Nat)(l:List bu):ax:=row v E aI l.length (l.flatMap f)
def fs(f:bu->ab aj)(v:aj)(E aI:Nat)(l:ab bu):rows f v E aI l=row v E aI l.length (l.flatMap f):=by unfold rows;rfl
def dt(b:aS):ab aj:=[.int .u8 (b.toNat:Int)]
def tw(n:Int):ab aj:=[I n]
def e8(b:Bool):ab aj:=[B b]
def fg(l:ab aS):ab aj:=[S l]
abbrev jj{bu:Type}(f:bu->ab aj):Prop:=∀x,(f x).all (·.oneCell')=true
def EM:jj dt:=λ_=>rfl
def o8:jj e8:=λ_=>rfl
def jj.flat{f:bu->ab aj}(h:jj f)(l:ab bu):(l.flatMap f).all (·.oneCell')=true:=by simp only[List.all_flatMap];exact hq.2 λx _=>h x
def yI(l:ab aS):l.flatMap dt=l.map λb=>.int .u8 (b.toNat:Int):=by
 induction l with
 |nil=>rfl
 |cons x l d=>rw[gn,d];rfl
def Rd.len{e:ax}{i:aT Addr}{len b off:Nat}{t:ab (ab aj)}(h:Rd e i len b off aI t):len<=9223372036854775807:=by have:=h.small;simp only[maxLen]at this;omega
def bI.last{k:Nat}{c:ab aj}(t:c.length=aI):bI aI k [(k,A c)] c:=⟨rfl,c,[],rfl,t,T3,rfl⟩
def yJ(f:bu->ab aj)(l:ab bu):(l.map f).flatten=l.flatMap f:=by rw[wO]
def Rd.lits(f:bu->ab aj){g E k z:Nat}{cs:ab aj}(l:ab bu)(o:l.length=k)(j:l.flatMap f=cs)(v:∀x,(f x).length=aI)(t:k<=1000000:=by first|omega|decide):Rd (ay.row (.slice (some ⟨g,0,none⟩) k z) E aI k cs) (some ⟨g,0,none⟩) k g 0 aI (l.map f):=by
 have:=Rd.row (g:=g) (E:=E) (aI:=aI) (k:=k) (cap:=z) (xs:=l.map f) (by simpa using o) (λy d=>TU) Rn
 rwa[yJ,j]at this
def Rd.rows{f:bu->ab aj}{g E cap:Nat}{l:ab bu}(v:∀x,(f x).length=aI)(t:l.length<=9223372036854775807):Rd (ay.rows f (.slice (some ⟨g,0,none⟩) l.length cap) E aI l) (some ⟨g,0,none⟩) l.length g 0 aI (l.map f):=by
 rw[fs];have:=Rd.row (g:=g) (E:=E) (aI:=aI) (k:=l.length) (cap:=cap) (xs:=l.map f) T3 (λy d=>TU) Rn
 rwa[yJ]at this
section
variable{P:bU}{r:aT Nat}{W:aZ}{D:ab Nat}{n:dq}{Q:cU}{am Z:bC}{an a2:ab ax}{J:Array b6}{N:ab b6}
variable{dst:Nat}{X:Op}{ba:a7}{bb:String}
variable{f:bu->ab aj}
def cq(P:bU)(an:ab ax)(f:bu->ab aj)(aI:Nat)(cr:a7)(x:aj)(l:ab bu):Prop:=oh P an aI cr x l.length (l.flatMap f)
def cq.one(ad:ca P){E cr i:Nat}{x:aj}{a:bu}(g:row x E aI 1 (f a)∈an)(t:jj f)(j:bM ad.fe cr=some i:=by exact rfl):cq P an f aI cr x [a]:=by have:=oh.row ad g j (t a);unfold cq;simpa using this
def cq.rows(ad:ca P){E cr i:Nat}{x:aj}{l:ab bu}(g:ay.rows f x E aI l∈an)(t:jj f)(j:bM ad.fe cr=some i:=by exact rfl):cq P an f aI cr x l:=by rw[fs]at g;exact oh.row ad g j (t.flat l)
def cq.str(ad:ca P){cr u:Nat}{l:ab aS}(j:bM ad.strs cr=some u:=by exact rfl):cq P an dt 1 cr (S l) l:=by unfold cq;rw[yI];exact oh.str ad j
def cq.rd(ad:ca P){e:ax}{cr s cap b off:Nat}{i:aT Addr}{l:ab bu}(o:Rd e i l.length b off aI (l.map f))(g:e∈an)(t:jj f)(v:∀x,(f x).length=aI)(z:0<l.length)(j:bM ad.fe cr=some s:=by exact rfl):cq P an f aI cr (.slice i l.length cap) l:=by
 unfold cq;have:=oh.rd (cap:=cap) ad o g j (by rw[yJ];exact t.flat l) (λy d=>TU) z
 rwa[yJ]at this
def O.U'(ad:ca P){t cr E gu:Nat}{x y:bf}{v u:aj}{l m:ab bu}{k:ab aj}{a2:aj->ab ax}(d:aR am x=some v)(z:aR am y=some u)(o:∀ei,az an (rows f v E aI l) (rows f ei E aI (l++m)) (a2 ei))(b:cq P an f aI cr u m)(dQ:∀g j,C ((dst,.slice (some ⟨g,0,none⟩) (l++m).length j)::am) (a2 (.slice (some ⟨g,0,none⟩) (l++m).length j)))(h:Nat.blt dst n.n=true:=by exact rfl)(i:bM ad.fe t=some E:=by exact rfl)(Yc:bM ad.gV E=some aI:=by exact rfl)(Yf:bM ad.lT E=some gu:=by exact rfl)(s:iK ad.iZ E=some k:=by exact rfl)(Yg:k.length=aI:=by exact rfl)(Ye:Nat.blt 0 aI=true:=by exact rfl)(Yh:(l.length+m.length)*gu<=140737488355328:=by(first|omega|(simp only[b2,dD,gv,eT];omega)))(Yi:l.length+m.length<=9223372036854775807:=by(first|omega|(simp only[b2,dD,gv,eT];omega)))(v:0<l.length+m.length:=by(first|omega|(simp only[b2,dD,gv,eT];omega))):av P r W D n ⟨some dst,.call ⟨.builtin .append,#[x,y],#[t,cr]⟩,ba,bb,bc,aV⟩ am an C:=
 O.ap (n:=n) (am:=am) (an:=an) (dst:=dst) (k:=l.length) (m:=m.length) (j:=l.flatMap f) (Yf:=m.flatMap f) (a2:=a2) ad d z b (λg j=>by have:=dQ g j;rwa[b2]at this) v
  (λei=>by have:=o ei;simp only[fs,b2,m1]at this;exact this) h i Yc Yf s Yg Ye Yi Yh
def O.Vj(ad:ca P){t cr E gu:Nat}{x y:bf}{v u:aj}{l m:ab bu}{k:ab aj}{a2:aj->ab ax}(g:aR am x=some v)(o:aR am y=some u)(d:∀s,az an (rows f v E aI l) (rows f s E aI (l++m)) (a2 s))(z:cq P an f aI cr u m)(i:∀s,s.oneCell'=true->(s=.slice none 0 0↔v=.slice none 0 0/\m.length=0)->C ((dst,s)::am) (a2 s))(b:Nat.blt dst n.n=true:=by exact rfl)(j:bM ad.fe t=some E:=by exact rfl)(h:bM ad.gV E=some aI:=by exact rfl)(Ye:bM ad.lT E=some gu:=by exact rfl)(v:iK ad.iZ E=some k:=by exact rfl)(Yf:k.length=aI:=by exact rfl)(Yc:Nat.blt 0 aI=true:=by exact rfl)(Yg:(l.length+m.length)*gu<=140737488355328:=by(first|omega|(simp only[b2,dD,gv,eT];omega)))(Yh:l.length+m.length<=9223372036854775807:=by(first|omega|(simp only[b2,dD,gv,eT];omega))):av P r W D n ⟨some dst,.call ⟨.builtin .append,#[x,y],#[t,cr]⟩,ba,bb,bc,aV⟩ am an C:=
 O.aaD (n:=n) (am:=am) (an:=an) (dst:=dst) (k:=l.length) (m:=m.length) (j:=l.flatMap f) (Yf:=m.flatMap f) (a2:=a2) ad g o z i
  (λs=>by have:=d s;simp only[fs,b2,m1]at this;exact this) b j h Ye v Yf Yc Yh Yg
def V.Vv(ad:ca P){t e E:a7}{x:bf}{v:aj}{l:ab bu}(g:aR am x=some v:=by exact rfl)(d:rows f v E aI l∈an:=by(repeat first|exact aF _|apply aG))(j:bM ad.fe t=some e:=by exact rfl):aK P n am an ⟨some dst,.call ⟨.builtin .len,#[x],#[t]⟩,ba,bb,bc,aV⟩ (I (l.length:Int)):=by rw[fs]at d;exact aK.aaj g d (ad.Uu j)
def u5{aI:Nat}(v:∀x,(f x).length=aI):∀(l:ab bu) (k:Nat) (a:bu),l[k]?=some a->jz (k*aI) aI (l.flatMap f)=f a
 |[],_,_,h=>Uj
 |x::l,0,a,h=>by
  simp only[qk,eY]at h;subst h;show((f x++l.flatMap f).drop (0*aI)).take aI=f x
  rw[ra,AK,o7 (by rw[v];omega),k8 (by rw[v];omega)]
 |x::l,k+1,a,h=>by
  have d:=u5 v l k a Ub;rw[<-d];have e:(k+1)*aI=(f x).length+k*aI:=by rw[v x,fr];omega
  simp only[jz,gn,e];rw[<-rb];simp
def V.H'(ad:ca P){T E b k:Nat}{Yc i:Nat}{x:bf}{l:ab bu}{a:bu}(o:aR am x=some (aw b (0+k*aI)))(z:rows f (.slice (some ⟨b,0,none⟩) Yc i) E aI l∈an)(fk:∀x,(f x).length=aI)(y:l[k]?=some a)(t:bM ad.agg T=some aI:=by exact rfl):aK P n am an ⟨some dst,.load T x,ba,bb,bc,aV⟩ (A (f a)):=λgR w h cy=>by
 obtain⟨d,hu,dM,ao⟩:=uO (ad.UT t);have Ye:=cy _ z;rw[fs,io]at Ye;simp only[execOp,h.eval o,Instr.loadAt,Instr.sureAddr,cK,eP,dW];rw[Aw w b (0+k*aI) T (f a) d (λj v s=>?_) hu dM (by rw[ao,fk])]
 .rfl
 .have:=Ye.cells (g:=b) rfl (k*aI+j) v (by
   rw[<-u5 fk l k a y]at s;simp only[jz,lS,mY]at s;split at s
   .exact s
   .cases s)
  rw[se]at this;simpa[qi]using this
def V.UH(ad:ca P){T u E b k:Nat}{j t:Nat}{x:bf}{v:aj}{l:ab bu}{a:bu}(g:aR am x=some (aw b (0+k*1)))(d:rows f (.slice (some ⟨b,0,none⟩) j t) E 1 l∈an)(i:∀x,(f x).length=1)(o:l[k]?=some a)(z:(f a)[0]?=some v:=by exact rfl)(t:bM ad.one T=some u:=by exact rfl):aK P n am an ⟨some dst,.load T x,ba,bb,bc,aV⟩ v:=λs w j y=>by
 have s:=y _ d;rw[fs,io]at s;simp only[execOp,j.eval g,Instr.loadAt,Instr.sureAddr,cK,eP,dW];have d:=u5 i l k a o;have:=s.cells (g:=b) rfl (k*1) v (by have g:=z;rw[<-d]at g;simpa[jz,lS,mY]using g)
 rw[se]at this;rw[yp (ad.Un t) (by simpa using this)];rfl
def V.XF(ad:ca P){t u E e a:Nat}{x:bf}{v:aj}{l:ab aS}(g:aR am x=some v:=by exact rfl)(d:rows dt v E 1 l∈an:=by(repeat first|exact aF _|apply aG))(j:bM ad.strs u=some a:=by exact rfl)(o:bM ad.fe t=some e:=by exact rfl)(z:mu ad.ints e=some .u8:=by exact rfl):aK P n am an ⟨some dst,.convert t u x,ba,bb,bc,aV⟩ (S l):=by rw[fs,yI]at d;exact V.XE ad g d j o z
def hW{v:aj}{E:Nat}{l:ab bu}(d:rows f v E aI l∈an):∀w,H W D an w->(v=.slice none 0 0/\l=[])\/∃g t,v=.slice (some ⟨g,0,none⟩) l.length t/\l.length<=t/\t<=maxLen:=λw i=>by
 rw[fs]at d;rcases ais d w i with⟨t,g,_⟩|h
 .exact .inl ⟨t,lW g⟩
 .exact .inr h
def H.VY{w:aZ}(f:bu->ab aj)(E aI:Nat)(h:H W D an w):H W D (rows f (.slice none 0 0) E aI []::an) w:=by rw[fs];exact h.aaE E aI
def ah.Ur{c:Code}(f:bu->ab aj)(E aI:Nat)(h:ah P r W D n Q c am (rows f (.slice none 0 0) E aI []::an)):ah P r W D n Q c am an:=λa w j v=>h a w j (v.VY f E aI)
def ah.iN{c:Code}{a2:ab ax}(t:∀w,H W D an w->H W D a2 w)(h:ah P r W D n Q c am a2):ah P r W D n Q c am an:=λa w j v=>h a w j (t w v)
def Out.iN{e:dI}{a2:ab ax}(t:∀w,H W D an w->H W D a2 w)(h:Out W D n Q e am a2):Out W D n Q e am an:=λa w j v=>h a w j (t w v)
def V.U0(ad:ca P){t u:a7}{x:bf}{o z:IntKind}{p q:Int}(g:aR am x=some (.int k p))(j:mu ad.ints u=some o)(aW:o.wrap p=q)(d:mu ad.ints t=some z:=by exact rfl):aK P n am an ⟨some dst,.convert t u x,ba,bb,bc,aV⟩ (.int o q):=by have:=aK.Xn (n:=n) (am:=am) (an:=an) (dst:=dst) (ba:=ba) (bb:=bb) (bc:=bc) (aV:=aV) ad g j d;rwa[aW]at this
def V.VN{X:BinOp}{t i:a7}{x y:bf}{p q v:Int}(g:aR am x=some (.int k p))(d:aR am y=some (.int k q))(o:lb X k p q=some v):aK P n am an ⟨some dst,.binOp X t x y i,ba,bb,bc,aV⟩ (.int k v):=V.bit rfl g d o
def V.VD{t i:a7}{x y:bf}{j:IntKind}{p q u:Int}(g:aR am x=some (.int k p))(d:aR am y=some (.int j q))(z:p.fdiv (2^(Min.min q.toNat k.bits))=u)(o:0<=q:=by omega):aK P n am an ⟨some dst,.binOp .shr t x y i,ba,bb,bc,aV⟩ (.int k u):=V.shr g d o z
def V.aaF{t i:a7}{x y:bf}{j:IntKind}{p q u:Int}(g:aR am x=some (.int k p))(d:aR am y=some (.int j q))(z:k.wrap (p*2^(Min.min q.toNat k.bits))=u)(o:0<=q:=by omega):aK P n am an ⟨some dst,.binOp .shl t x y i,ba,bb,bc,aV⟩ (.int k u):=V.shl g d o z
def V.aaG{X:BinOp}{t i:a7}{x y:bf}{p q u:Int}(g:aR am x=some (.int k p))(d:aR am y=some (.int k q))(o:yC X k p q=some u):aK P n am an ⟨some dst,.binOp X t x y i,ba,bb,bc,aV⟩ (.int k u):=V.Xv g d o
end
end Go.ay
namespace Go.ay
def getD_some{bu:Type}[Inhabited bu]{l:ab bu}{k:Nat}(t:k<l.length):l[k]?=some (l.getD k default):=OK
end Go.ay
namespace Go.ay
open Go
variable{aI:Nat}{aV:aT (Nat×Bool)}{C:bC->ab ax->Prop}{d:ab (Nat×aj)}{bc:Array Edge}
section
variable{P:bU}{r:aT Nat}{W:aZ}{D:ab Nat}{n:dq}{Q:cU}{am Z:bC}{an a2:ab ax}{J:Array b6}{N:ab b6}
variable{dst:Nat}{X:Op}{ba:a7}{bb:String}
variable{bu:Type}{f:bu->ab aj}
def Rd.nil{e:ax}{i:aT Addr}{b off:Nat}:Rd e i 0 b off aI []:=⟨rfl,cO _,λh=>absurd h ac,λ_ _ i x t=>Tm⟩
def cq.XG(ad:ca P){e:ax}{cr s d b off:Nat}{i:aT Addr}{l:ab bu}(o:Rd e i l.length b off aI (l.map f))(g:e∈an)(t:jj f)(y:∀x,(f x).length=aI)(v:bM ad.fe cr=some s:=by exact rfl):cq P an f aI cr (.slice i l.length d) l:=by
 cases l with
 |cons x l=>exact cq.rd ad o g t y T3 v
 |nil=>
  intro w _;cases i with
  |none=>exact Src.ofNil w (gt (ad.Uu v)) d
  |some a=>exact u4 w (gt (ad.Uu v)) a 0 d [] T3 (λj u h=>Uj) (λu h=>Ua)
def O.Q'(ad:ca P){t E:a7}{k:Nat}{h:ab (Nat×bf)}{x cs:ab aj}(f:bu->ab aj)(l:ab bu)(g:ay.m0 am h=some d)(j:bI aI 0 d cs)(Yc:l.flatMap f=cs)(Ye:l.length=k)(s:∀b,C ((dst,.slice (some ⟨b,0,none⟩) k k)::am) (rows f (.slice (some ⟨b,0,none⟩) k k) E aI l::an))(i:Nat.blt dst n.n=true:=by exact rfl)(v:bM ad.fe t=some E:=by exact rfl)(z:bM ad.gV E=some aI:=by exact rfl)(y:iK ad.iZ E=some x:=by exact rfl)(o:d.length=k:=by exact rfl)(d:Nat.ble (k*aI) 1000=true:=by exact rfl)(x:Nat.ble 1 aI=true:=by exact rfl):av P r W D n ⟨some dst,.buildSlice t k h.toArray,ba,bb,bc,aV⟩ am an C:=by refine av.Xr ad i v z y g j o d x λb=>?_;have:=s b;rw[fs,Yc,Ye]at this;exact this
def tx(o i:Nat)(c x:ab aj)(h:o<=c.length):(eg o x c)[i]?=if i<o then c[i]? else if i<o+x.length then x[i-o]? else c[i]?:=by
 simp only[eg,cn];have b:(c.take o).length=o:=Mt
 by_cases t:i<o
 .rw[aQ t,rh ac,lS,aQ t]
 .rw[aM t,ji ac,b];by_cases t:i<o+x.length
  .rw[aQ t,rh ac]
  .rw[aM t,ji ac,mY];congr 1;omega
def Kl(o m:Nat)(c x:ab aj)(h:o+x.length<=m)(t:m<=c.length):(eg o x c).take m=eg o x (c.take m):=by
 apply oi;intro i;rw[lS,tx o i c x ac,tx o i (c.take m) x Mt];simp only[lS];by_cases ao:i<m
 .simp[ao]
 .rw[aM ao,aM ac,aM ac,aM ao]
def A0(o:Nat)(c x:ab aj)(h:o+x.length<=c.length):(eg o x c).length=c.length:=by simp[eg];omega
def H.WJ{w:aZ}{g i k E off:Nat}{o x:ab aj}(h:H W D an w)(u:az an (row (.slice (some ⟨g,0,none⟩) k i) E aI k o) (row (.slice (some ⟨g,0,none⟩) k i) E aI k (eg off x o)) a2)(d:off+x.length<=o.length)(t:x.all (·.oneCell')=true):∃eX,(storeCells ⟨g,off,none⟩ x).run P w=.ok () eX/\H W D a2 eX:=by
 obtain⟨l,nx,v,_⟩:=u.split;have Yg:=h.mem (e:=row (.slice (some ⟨g,0,none⟩) k i) E aI k o) (by rw[v];simp);rw[io]at Yg;rcases Yg.2 with⟨c9,_⟩|⟨u6,Yh,Ye,c9,j,s,Ym,Yi,Yk,Yl⟩
 .cases c9
 .simp only[rf,eY,wP]at c9;obtain⟨⟨rfl,_,_⟩,_,rfl⟩:=c9;have Yn:=Yg.1;have Yj:Ye.toList.length=i*aI:=by simpa using Yk
  have Yo:k*aI<=i*aI:=kh _ Ym;have Yf:=tq P g off E x 0 Ye w s (by simp only[ho];omega) (λu hu=>hq.1 t u hu);simp only[ho]at Yf;refine⟨_,Yf,h.n7 u ⟨λe c9=>?_,Oq,λy z=>?_,λb Yc cM=>wz w g b _ (λe=>cM (by simp[h6,Value.ownBlock,e])),T3,rfl,rfl,rfl,cD _⟩⟩
  .obtain rfl:e=_:=by simpa using c9
   rw[io];refine⟨by rw[A0 _ _ _ d];exact Yn,.inr ⟨g,i,_,rfl,j,q4 w g Ye _ E _ s,Ym,Yi,?_,?_⟩⟩
   .have:=A0 off Ye.toList x ac;simp only[eg]at this;simpa[Yk]using this
   .have:=Kl off (k*aI) Ye.toList x ac ac;rw[Yl]at this;simpa[eg]using this
  .left;have:y=g:=by simpa[bn,h6,Value.ownBlock]using z
   subst this;simp[h6,Value.ownBlock]
def wQ{aI:Nat}(v:∀x,(f x).length=aI):∀(l:ab bu) (k:Nat) (a:bu),k<l.length->eg (k*aI) (f a) (l.flatMap f)=(l.set k a).flatMap f
 |[],_,_,h=>Uj
 |x::l,0,a,_=>by have b:=v x;have t:=v a;simp only[eg,ra,wR,gJ,h8,gn,EN,t];rw[wS,si ac,b];simp
 |x::l,k+1,a,h=>by
  have d:=wQ v l k a Ub;have b:=v x;have e:(k+1)*aI=aI+k*aI:=by rw[fr];omega
  simp only[gn,List.set_cons_succ,<-d];simp only[eg,e];rw[sj,wS,b];have z:(f x).take (aI+k*aI)=f x:=k8 ac;have t:(f x).drop (aI+k*aI+(f a).length)=[]:=si ac;rw[z,t,show aI+k*aI-aI=k*aI by omega,show aI+k*aI+(f a).length-aI=k*aI+(f a).length by omega];simp
def kI(v:∀x,(f x).length=aI)(l:ab bu):(l.flatMap f).length=l.length*aI:=by
 induction l with
 |nil=>simp
 |cons x l d=>rw[gn,b2,d,v,dD,fr];omega
def O.J'(ad:ca P){T E g k Yc i:Nat}{x y:bf}{l:ab bu}{a:bu}(d:aR am x=some (aw g (0+k*aI)))(j:aR am y=some (A (f a)))(z:az an (rows f (.slice (some ⟨g,0,none⟩) Yc i) E aI l) (rows f (.slice (some ⟨g,0,none⟩) Yc i) E aI (l.set k a)) a2)(v:l.length=Yc)(b:k<l.length)(fk:∀x,(f x).length=aI)(t:jj f)(dQ:C am a2)(o:bM ad.agg T=some aI:=by exact rfl):av P r W D n ⟨none,.store T x y,ba,bb,bc,aV⟩ am an C:=λK Q cA gR w s h=>by
 subst v;have v:az an (row (.slice (some ⟨g,0,none⟩) l.length i) E aI l.length (l.flatMap f)) (row (.slice (some ⟨g,0,none⟩) l.length i) E aI l.length (eg (k*aI) (f a) (l.flatMap f))) a2:=by have:=z;simp only[fs,co]at this;rwa[wQ fk l k a b]
 have y:(k+1)*aI<=l.length*aI:=kh aI b;rw[fr]at y;obtain⟨eX,z,y⟩:=H.WJ (P:=P) h v (by rw[kI fk,fk];omega) (t a);refine tt rfl ?_ (cA _ _ dQ _ _ (s.Vi undef) y);have t:(P.info? T).map (·.size)=some aI:=ad.Xl o;obtain⟨i,ao,o⟩:=qg.1 t;simp only[execOp,s.eval d,s.eval j,Instr.storeAt,Instr.sureAddr,cK,eP,dW];have t:(storeVar T ⟨g,0+k*aI,none⟩ (A (f a))).run P w=.ok () eX:=by rw[h8];simp[storeVar,sizeOf,typeInfo,ao,Value.cells,fk,o,z]
 rw[t];rfl
def O.VO(ad:ca P){T u E g k Yc s:Nat}{x y:bf}{l:ab bu}{a:bu}{v:aj}(t:aR am x=some (aw g (0+k*1)))(z:aR am y=some v)(dU:f a=[v])(Ye:v.oneCell'=true)(o:az an (rows f (.slice (some ⟨g,0,none⟩) Yc s) E 1 l) (rows f (.slice (some ⟨g,0,none⟩) Yc s) E 1 (l.set k a)) a2)(j:l.length=Yc)(b:k<l.length)(fk:∀x,(f x).length=1)(dQ:C am a2)(d:bM ad.one T=some u:=by exact rfl):av P r W D n ⟨none,.store T x y,ba,bb,bc,aV⟩ am an C:=λK Q cA gR w c2 cy=>by
 subst j;have Yf:az an (row (.slice (some ⟨g,0,none⟩) l.length s) E 1 l.length (l.flatMap f)) (row (.slice (some ⟨g,0,none⟩) l.length s) E 1 l.length (eg (k*1) [v] (l.flatMap f))) a2:=by have:=o;simp only[fs,co]at this;rwa[<-dU,wQ fk l k a b]
 obtain⟨eX,c1,Yg⟩:=H.WJ (P:=P) cy Yf (by rw[kI fk];simp;omega) (by simp[Ye]);refine tt rfl ?_ (cA _ _ dQ _ _ (c2.Vi undef) Yg);have h:(P.info? T).map (·.size)=some 1:=ad.Wi d;obtain⟨i,ao,Yh⟩:=qg.1 h;have Yi:v.cells=#[v]:=by cases v<;>first|rfl|(cases Ye;done)
 simp only[execOp,c2.eval t,c2.eval z,Instr.storeAt,Instr.sureAddr,cK,eP,dW];have t:(storeVar T ⟨g,0+k*1,none⟩ v).run P w=.ok () eX:=by
  rw[h8];have y:(storeCells ⟨g,k*1,none⟩ v.cells.toList).run P w=.ok () eX:=by rw[Yi];exact c1
  simp[storeVar,sizeOf,typeInfo,ao,Yh,Yi]at y⊢;exact y
 rw[t];rfl
end
end Go.ay
namespace Go.ay
variable{bu:Type}{k:Nat}
def jB{g:Type}{f:bu->g}{t:ab bu}{x:bu}(h:t[k]?=some x):(t.map f)[k]?=some (f x):=by simp[h]
def lw{t:ab bu}{x:bu}(h:t[k]?=some x):t.take (k+1)=t.take k++[x]:=by rw[oj,h];rfl
def cl{t:ab bu}(h:k<t.length):∃x,t[k]?=some x:=⟨_,hs h⟩
end Go.ay
namespace Go.ay
open Go
@[irreducible] def aL(be:List ax):ax where
 gk:=bn be
 holds w:=(∀e,e∈be->e.holds w)/\(bn be).Nodup
 loc w iI h cG:=⟨λe c9=>e.loc w iI (λb bH=>h b (wx.2 ⟨e,c9,bH⟩)) (cG.1 e c9),cG.2⟩
 lt w h x b3:=by obtain⟨e,c9,bH⟩:=wx.1 b3;exact e.lt w (h.1 e c9) x bH
def u7(be):(aL be).gk=bn be:=by unfold aL;rfl
def rk(be w):(aL be).holds w↔(∀e,e∈be->e.holds w)/\(bn be).Nodup:=by unfold aL;rfl
section
variable{P:bU}{r:aT Nat}{W:aZ}{D:ab Nat}{n:dq}{Q:cU}{am Z:bC}{an a2 be:ab ax}{J:Array b6}{N:ab b6}{w:aZ}
variable{dst:Nat}{X:Op}{ba:a7}{bb:String}{bc:Array Edge}{aV:aT (Nat×Bool)}{C:bC->ab ax->Prop}
def H.UO(h:H W D (aL be::an) w):H W D (be++an) w:=by
 have y:bn (aL be::an)=bn (be++an):=by rw[iJ,jx,u7]
 refine⟨λe z=>?_,y▸h.nodup,y▸h.own,h.cQ,h.size,h.os,h.tape,h.output,h.oZ⟩;rcases fd.1 z with z|z
 .have:=h.mem (e:=aL be) T3;rw[rk]at this;exact this.1 e z
 .exact h.mem Of
def H.toBag(h:H W D (be++an) w):H W D (ay.aL be::an) w:=by
 have y:bn (ay.aL be::an)=bn (be++an):=by rw[iJ,jx,u7]
 refine⟨λe z=>?_,y▸h.nodup,y▸h.own,h.cQ,h.size,h.os,h.tape,h.output,h.oZ⟩;rcases dk.1 z with rfl|z
 .rw[rk];refine⟨λe z=>h.mem Of,?_⟩;have:=h.nodup;exact LD
 .exact h.mem Of
def hn.UO(h:hn (ay.aL be::an) w):hn (be++an) w:=(h.start.UO).eE
def hn.toBag(h:hn (be++an) w):hn (ay.aL be::an) w:=(h.start.toBag).eE
def sk:bn (ay.aL be::an)=bn (be++an):=by rw[iJ,jx,u7]
def ah.UO{c:Code}(h:ah P r W D n Q c am (be++an)):ah P r W D n Q c am (ay.aL be::an):=λa w j v=>h a w j v.UO
def kJ(P:bU)(l:Nat)(args:ab aj)(an:ab ax)(R:aj->ab ax->Prop):Prop:=
 ∀w,hn an w->∃fn s assign body,(Instr.yield l args.toArray).run P w=.ok (.round l fn s assign body) w/\
  RoundIn Fence.wide 0 P l fn s assign body w λe t=>∃v a2,e=.returned v/\R v a2/\H w (bn an) a2 t
def Km{o:b6}{a:Act}{w y:aZ}{K:Act->aZ->Prop}{Q:cU}{l:Nat}{f:eR}{s:Array aj}{assign body:Code}(x:kf o.op=true)(z:(execOp a.eval o).run P w=.ok (.round l f s assign body) y) (d:RoundIn Fence.wide 0 P l f s assign body y λe b=>∃v,e=.returned v/\K (a.put o.dst v) b):mZ P r o a w K Q:=by unfold mZ;rw[uQ x,z];refine⟨λh=>Ua,?_⟩;have t:RoundIn (mr r) 0 P l f s assign body y λe b=>∃v,e=.returned v/\K (a.put o.dst v) b:=d;exact t.mono λe b ⟨v,j,g⟩=>by subst j;exact g
def av.Vd{l:Nat}{x:bf}{d:ab bf}{Yj:Array a7}{args:ab aj}{Yi Yc:ab ax}{R:aj->ab ax->Prop}(j:aR am x=some (.func (.yield l) #[] #[]))(g:ay.hU am d=some args)(h:kJ P l args Yi R)(Yh:ak an Yi Yc) (dQ:∀v a2,R v a2->∃Ye,nz a2 Yc Ye/\C ((dst,v)::am) Ye) (s:Nat.blt dst n.n=true:=by exact rfl):av P r W D n ⟨some dst,.call ⟨.value x,d.toArray,Yj⟩,ba,bb,bc,aV⟩ am an C:=λK Q k a w b i=>by
 have Yf:=i.perm Yh.perm;have Yl:d.toArray.map a.eval=args.toArray:=by rw[<-b.hU g];simp
 have z:hn Yi w:=⟨λe y=>Yf.fQ e (by simp[y]),by have:=Yf.nodup;rw[jx,hH]at this;exact this.1⟩
 obtain⟨fn,Yg,assign,body,t,o⟩:=h w z;refine Km (y:=w) rfl ?_ (o.mono ?_)
 .simp only[execOp,resolve,cK,Yl,b.eval j];simp[Deferred.ofValue,invoke,t]
 .rintro e iI⟨v,a2,rfl,ew,Yk⟩;obtain⟨Ye,t,h⟩:=dQ v a2 ew;refine⟨_,rfl,k _ _ h _ _ (b.put s v) ?_⟩;have:=Yf.call Yk;rwa[t.eq]at this
def nA:dI->aT Code
 |.ret=>some .ret
 |.exit id=>some (.exit id)
 |_=>none
def fc:dI->Bool
 |.normal=>true
 |_=>false
def ga:dI->Bool
 |.normal|.ret|.exit _=>true
 |_=>false
@[irreducible] def ce(l:Nat)(rec:LoopState->Option Code->Loop)(e:Exit):ax:=bW l (.loop (rec (if fc e then .ready else .done) (nA e)))
@[irreducible] def jC(l:Nat)(rec:LoopState->Option Code->Loop):ax:=bW l (.loop (rec .busy none))
def u9(l rec e):ce l rec e=bW l (.loop (rec (if fc e then .ready else .done) (nA e))):=by unfold ce;rfl
def A1(l rec):jC l rec=bW l (.loop (rec .busy none)):=by unfold jC;rfl
def rl(P:bU)(l:Nat)(body:Code)(Q:cU)(a:Act)(w:aZ):Prop:=
 ∃v,(Instr.beginRound l).run P w=.ok () v/\body.wpIn (mr (some l)) 0 P Q a v
def sl:cU:=λ_ _ _=>False
def H.XH{l:Nat}{o j:Obj}(h:H W D an w)(u:az an (bW l o) (bW l j) a2):H W D a2 (w.putObj l j):=by
 have g:bW l o∈an:=by obtain⟨p,q,rfl,_⟩:=u.split;simp
 have dE:=h.mem g;rw[r3]at dE;refine h.n7 u ⟨λe z=>?_,by simp[bn,tk],λx t=>?_,λk d y=>?_,T3,rfl,rfl,rfl,cD _⟩
 .obtain rfl:e=_:=by simpa using z
  rw[r3];exact sn (o4.1 dE).1
 .left;simpa[bn,tk]using t
 .exact uV (by simpa[tk]using y)
structure qm(rec:LoopState->aT Code->Loop):Prop where
 state:∀s j,(rec s j).state=s
 pending:∀s j,(rec s j).pending=j
 EO:∀s j cE,{rec s j with state:=cE}=rec cE j
 n7:∀s j cE A2,{rec s j with state:=cE,pending:=A2}=rec cE A2
def Out.aaH{l:Nat}{rec:LoopState->aT Code->Loop}{body:Code}{g:cU}(d:qm rec)(h:ah P (some l) W D n Q body am a2)(u:az an (ce l rec .normal) (jC l rec) a2:=by(repeat first|exact az.here _ _ _|apply az.there)):Out W D n (Exit.then (rl P l body Q) g) .normal am an:=λa w j v=>by
 rw[u9,A1]at u;have t:bW l (.loop (rec .ready none))∈an:=by obtain⟨p,q,rfl,_⟩:=u.split;simp[fc,nA]
 have g:=v.mem t;rw[r3]at g;refine⟨_,run_beginRound g (d.state _ _),h a _ j ?_⟩;rw[d.EO];exact v.XH u
def qn:ab Tmp->ab aj->bC->bC
 |p::aY,v::t,e=>qn aY t ((p,v)::e)
 |_,_,e=>e
def dd.zip{j:ab Nat}:∀(aY:ab Tmp) (g:ab aj) (am:bC) (s:Array aj),(aY.all λp=>Nat.blt p n.n)=true->aY.length=g.length->dd ⟨n.n,j⟩ am {tmps:=s,defers:=j.map mark}->dd ⟨n.n,j⟩ (qn aY g am) {tmps:=(aY.zip g).foldl (λt (p,v)=>t.setIfInBounds p v) s,defers:=j.map mark}
 |[],[],am,s,_,_,h=>h
 |p::aY,v::g,am,s,z,t,h=>by simp only[AD,c5]at z;exact dd.zip aY g _ _ z.2 SD (h.put z.1 v)
 |[],_::_,_,_,_,t,_=>Tm
 |_::_,[],_,_,_,t,_=>Tm
def ajr{e:dI}(h:ga e=true):(nA e).isNone=fc e:=by cases e<;>first|rfl|cases h
def kJ.aaI{l fn:Nat}{rec:LoopState->aT Code->Loop}{Yf:Array aj}{aY:ab Tmp}{assign body:Code}{args:ab aj}{m:Nat}{s:ax}{R:dI->ax->Prop} (y:qm rec) (eh:∀st j,(rec st j).fn=fn/\(rec st j).tmps=Yf/\(rec st j).params=aY.toArray/\(rec st j).assign=assign/\(rec st j).body=body) (c2:dd ⟨m,[]⟩ am {tmps:=Yf,defers:=[]}) (cu:(aY.all λp=>Nat.blt p m)=true) (o:aY.length=args.length) (h:∀(eI:aZ) (K:cU),(∀e b,ga e=true->R e b->∀a w,H eI (bn [ce l rec .normal,s]) [jC l rec,b] w->K e a w)->ah P (some l) eI (bn [ce l rec .normal,s]) ⟨m,[]⟩ (Exit.then (rl P l body K) sl) assign (qn aY args am) [ce l rec .normal,s]):kJ P l args [ce l rec .normal,s] (λv a2=>∃e b,v=.bool (fc e)/\ga e=true/\R e b/\a2=[ce l rec e,b]):=λw i=>by
 have z:=i.fQ (ce l rec .normal) T3;rw[u9,r3]at z;obtain⟨dx,bv,gm,om,nB⟩:=eh .ready none;have g:=run_yield (P:=P) (args:=args.toArray) z (by simp only[fc,nA,h7];rw[gm];simp[o]);simp only[fc,nA,h7]at g;rw[dx,bv,gm,om,nB]at g;refine⟨_,_,_,_,g,?_⟩;have fk:=dd.zip (n:=⟨m,[]⟩) (j:=[]) aY args am Yf cu o c2;have Yc:=h w (λe a iI=>ga e=true/\∃b,R e b/\H w (bn [ce l rec .normal,s]) [jC l rec,b] iI)
  (λe b cG ew a iI cy=>⟨cG,b,ew,cy⟩) _ w fk i.start
 refine roundIn_of_wpIn trivial ?_;have gC:((aY.toArray.zip args.toArray).foldl (λYf (x:Tmp×aj)=>match x with|(t,a)=>Yf.setIfInBounds t a) Yf)=(aY.zip args).foldl (λt (p,v)=>t.setIfInBounds p v) Yf:=by rw[<-Array.foldl_toList];simp
 rw[gC];refine tr Yc ?_;intro e jY eX aW;cases e with
 |normal=>
  obtain⟨oo,d,Yj⟩:=aW;refine⟨oo,d,tr Yj ?_⟩;intro e gb m2 ⟨cG,b,ew,cy⟩;have Yg:=cy.mem (e:=jC l rec) T3;rw[A1,r3]at Yg;have Yi:∀j:aT Code,(Instr.endRound l j).run P m2=.ok (.bool j.isNone) (m2.putObj l (.loop (rec (if j.isNone then .ready else .done) j))):=λj=>by have:=run_endRound (P:=P) j Yg;rw[y.n7]at this;exact this
  have Ye:H w (bn [ce l rec .normal,s]) [ce l rec e,b] (m2.putObj l (.loop (rec (if(nA e).isNone then .ready else .done) (nA e)))):=by rw[A1]at cy;rw[u9 l rec e,<-ajr cG];exact cy.XH (az.here _ _ _)
  have Yh:∀v,v=Value.bool (fc e)->∃ei a2,Ending.returned v=.returned ei/\(∃e b,ei=.bool (fc e)/\ga e=true/\R e b/\a2=[ce l rec e,b])/\H w (bn [ce l rec .normal,s]) a2 (m2.putObj l (.loop (rec (if(nA e).isNone then .ready else .done) (nA e)))):=
   λv k=>⟨v,_,rfl,⟨e,b,k,cG,ew,rfl⟩,Ye⟩
  cases e with
  |normal=>exact⟨_,_,Yi none,Yh _ rfl⟩
  |ret=>exact⟨_,_,Yi (some .ret),Yh _ rfl⟩
  |exit id=>exact⟨_,_,Yi (some (.exit id)),Yh _ rfl⟩
  |_=>cases cG
 |_=>exact aW.elim
def H.XI(h:H W D an w)(o:Obj):H W D (bW w.heap.size o::an) (w.alloc o):=by
 have:H w [] [bW w.heap.size o] (w.alloc o):=by
  refine⟨λe z=>?_,by simp[bn,tk],λb t=>?_,λb t _=>tm _ _ t,T3,rfl,rfl,rfl,cD _⟩
  .obtain rfl:e=_:=by simpa using z
   rw[r3];exact EP _ _
  .obtain rfl:b=w.heap.size:=by simpa[bn,tk]using t
   exact .inr (cD _)
 exact h.new this
def Code.iO{e:dI}(i:ga e=true){a:Act}{w:aZ}(h:Q e a w):match nA e with|none=>Q .normal a w|some c=>c.wpIn (mr r) 0 P Q a w:=by
 cases e with
 |normal=>exact h
 |ret=>exact wpIn_ret h
 |exit id=>exact wpIn_exit h
 |_=>cases i
def ah.VZ{g:bf}{aY:ab Tmp}{assign body:Code}{o:eR}{s:ab aj}{lx:Type}{x k:ab ax} (A:lx->ab aj) (va:ax) (S:lx->ax) (T:lx->dI->ax->Prop) (R:dI->ab ax->Prop) (bF:aR am g=some (.func (.func o) #[] s.toArray)) (Yc:kF P o=true) (Yg:ak an (va::x) k) (dJ:∀i,aY.length=(A i).length) (cu:(aY.all λp=>Nat.blt p n.n)=true) (round:∀(i:lx) (l:Nat) (rec:LoopState->aT Code->Loop),qm rec->∀(eI:aZ) (K:cU),(∀e d,ga e=true->T i e d->∀a w,H eI (bn [ce l rec .normal,S i]) [jC l rec,d] w->K e a w)->ah P (some l) eI (bn [ce l rec .normal,S i]) ⟨n.n,[]⟩ (Exit.then (rl P l body K) sl) assign (qn aY (A i) am) [ce l rec .normal,S i]) (Yi:∀(l:Nat) (rec:LoopState->aT Code->Loop),(∀i,kJ P l (A i) [ce l rec .normal,S i] (λv a2=>∃e d,v=.bool (fc e)/\ga e=true/\T i e d/\a2=[ce l rec e,d]))->ar P o (.func (.yield l) #[] #[]::s) (ce l rec .normal::va::x) (λ_ a2=>∃e y,ga e=true/\R e y/\a2=ce l rec e::y)) (Yn:∀(b:Nat) (e:dI) (y:ab ax),ga e=true->R e y->Out W D ⟨n.n,b::n.ds⟩ Q e am (gl b::(y++k))):ah P none W D n Q (.rangeFunc g aY.toArray assign body) am an:=λa w c2 cy=>by
 have Yh:=((cy.UP Yg).XI (.deferred (some [])))
 refine wpIn_rangeFunc λfn _=>?_;obtain⟨rec,t⟩:∃rec:LoopState->aT Code->Loop,rec=λst ag6=>{state:=st,pending:=ag6,fn,tmps:=a.tmps,params:=aY.toArray,assign,body,defers:=w.heap.size}:=⟨_,rfl⟩
 have c1:qm rec:=by subst t;exact⟨λ_ _=>rfl,λ_ _=>rfl,λ_ _ _=>rfl,λ_ _ _ _=>rfl⟩
 have Yk:=Yh.XI (.loop (rec .ready none));rw[World.size_alloc]at Yk;have Yj:a.eval g=.func (.func o) #[] s.toArray:=c2.eval bF;have Yl:∀(args:Array aj) (w:aZ),(callFunc o args).run P w=.ok (.enter o args) w:=λargs w=>wD Yc args w;refine⟨w.heap.size+1,[mark w.heap.size],(w.alloc (.deferred (some []))).alloc (.loop (rec .ready none)),{target:=.fn (.func o) s.toArray,args:=#[.func (.yield (w.heap.size+1)) #[] #[]]},(w.alloc (.deferred (some []))).alloc (.loop (rec .ready none)),o,
  #[.func (.yield (w.heap.size+1)) #[] #[]]++s.toArray,(w.alloc (.deferred (some []))).alloc (.loop (rec .ready none)),?_,?_,?_,?_,λh=>Ua,?_⟩
 .subst t;exact run_enterLoop_outer _ _ _ _ _
 .simp only[resolve,Yj];simp[Deferred.ofValue,Act.eval]
 .intro aci _;trivial
 .simp[invoke,Yl]
 .have Yo:dd ⟨n.n,[]⟩ am {tmps:=a.tmps,defers:=[]}:=⟨c2.size,rfl,c2.get⟩
  have fy:∀i,kJ P (w.heap.size+1) (A i) [ce (w.heap.size+1) rec .normal,S i] (λv a2=>∃e d,v=.bool (fc e)/\ga e=true/\T i e d/\a2=[ce (w.heap.size+1) rec e,d]):=λi=>
   kJ.aaI (fn:=fn) (Yf:=a.tmps) (aY:=aY) (assign:=assign) (body:=body) c1 (λst j=>by subst t;exact⟨rfl,rfl,rfl,rfl,rfl⟩) Yo cu (dJ i) (λeI K cA=>round i _ rec c1 eI K cA)
  have z:=Yi (w.heap.size+1) rec fy;have dx:ce (w.heap.size+1) rec .normal=bW (w.heap.size+1) (.loop (rec .ready none)):=by rw[u9];rfl
  have Ym:H W D ((ce (w.heap.size+1) rec .normal::va::x)++(gl w.heap.size::k)) ((w.alloc (.deferred (some []))).alloc (.loop (rec .ready none))):=by rw[dx,gl];refine Yk.perm ?_;simp only[ly];refine sg _ ?_;have:=(n8 (a:=bW w.heap.size (.deferred (some []))) (l₁:=va::x) (l₂:=k)).symm;simpa using this
  have eE:hn (ce (w.heap.size+1) rec .normal::va::x) ((w.alloc (.deferred (some []))).alloc (.loop (rec .ready none))):=by refine⟨λe c9=>Ym.fQ e (by simp only[fd];exact .inl c9),?_⟩;have:=Ym.nodup;exact LD
  have Yf:=z _ eE;have Ye:=(callsIn_wide (n:=0)).2 Yf;have bv:(#[Value.func (.yield (w.heap.size+1)) #[] #[]]++s.toArray)=(Value.func (.yield (w.heap.size+1)) #[] #[]::s).toArray:=T3
  rw[bv];refine CallsIn.mono (F:=mr none) (n:=0-1) Ye ?_;rintro e iI⟨v,a2,rfl,⟨e,y,cG,ew,rfl⟩,Yp⟩;have b:=Ym.call Yp;have t:=b.mem (e:=ce (w.heap.size+1) rec e) T3;rw[u9,r3]at t;have v:=run_endLoop (P:=P) t (by rw[c1.state];split<;>simp);rw[c1.EO,c1.pending]at v;refine⟨nA e,_,v,?_⟩;have t:dd ⟨n.n,w.heap.size::n.ds⟩ am {a with defers:=[mark w.heap.size]++a.defers}:=⟨c2.size,by simp[c2.defers],c2.get⟩
  have g:H W D (gl w.heap.size::(y++k)) (iI.putObj (w.heap.size+1) (.loop (rec .exhausted (nA e)))):=by
   have d:H W D (ce (w.heap.size+1) rec e::(y++(gl w.heap.size::k))) iI:=by simpa using b
   have b:=H.Xi (e:=ce (w.heap.size+1) rec e) (.loop (rec .exhausted (nA e))) (by rw[u9,tk]) d;refine b.perm ?_;exact n8
  have:=Yn w.heap.size e y cG ew _ _ t g;exact Code.iO cG this
end
end Go.ay
namespace Go.ay
open Go
variable{rec:LoopState->aT Code->Loop}{args:ab aj}{bu:Type}
section
variable{P:bU}{r:aT Nat}{W:aZ}{D:ab Nat}{n:dq}{Q:cU}{am Z:bC}{an a2 be:ab ax}{J:Array b6}{N:ab b6}{w:aZ}
def ar.conv{f:eR}{R t:aj->ab ax->Prop}(h:ar P f args an R)(o:∀w,hn be w->hn an w)(b:bn be=bn an)(d:∀v a2,R v a2->∃s,t v s/\∀W D w,H W D a2 w->H W D s w):ar P f args be t:=λw i=>
 (h w (o w i)).mono λ_ _ ⟨v,a2,z,j,y⟩=>by obtain⟨s,t,g⟩:=d v a2 j;exact⟨v,s,z,t,by rw[b];exact g _ _ _ y⟩
def kJ.conv{l:Nat}{R t:aj->ab ax->Prop}(h:kJ P l args an R)(o:∀w,hn be w->hn an w)(b:bn be=bn an)(d:∀v a2,R v a2->∃k,t v k/\∀W D w,H W D a2 w->H W D k w):kJ P l args be t:=λw i=>by obtain⟨fn,s,assign,body,t,g⟩:=h w (o w i);refine⟨fn,s,assign,body,t,g.mono λe j ⟨v,a2,z,o,y⟩=>?_⟩;obtain⟨k,t,g⟩:=d v a2 o;exact⟨v,k,z,t,by rw[b];exact g _ _ _ y⟩
def rm(P:bU)(o:eR)(i:ab aj)(h:ab ax)(L:bu->ab aj)(g:ab bu)(j:ab ax):Prop:=
 ∀(l:Nat) (t:Type) (G X:ab bu->t->Prop) (S:t->ax) (d:t),G [] d->
  (∀pre x z b,g=pre++x::z->G pre b->kJ P l (L x) [S b] (λv a2=>∃s t,v=.bool t/\(t=true->G (pre++[x]) s)/\(t=false->X (pre++[x]) s)/\a2=[S s]))->
  ar P o (.func (.yield l) #[] #[]::i) (S d::h) (λ_ a2=>∃s,(G g s\/∃pre,pre<+:g/\X pre s)/\a2=S s::j)
def Way{t:Type}(G:ab bu->t->Prop)(X:dI->ab bu->t->Prop)(pre:ab bu)(e:dI)(b:t):Prop:=
 match e with
 |.normal=>G pre b
 |e=>X e pre b
def Out.rd{t:Type}{l:Nat}{T:dI->t->Prop}{S:t->ab ax}{K:cU}{e:dI}{g:ab ax}(i:∀e b,ga e=true->T e b->∀a w,H W D (jC l rec::S b) w->K e a w)(b:t)(d:T e b)(t:ak an (jC l rec::S b) g:=by(repeat(first|exact ak.nil|exact al.here|apply ak.cons|apply al.there)))(s:ga e=true:=by exact rfl):Out W D n K e am an:=λa w _ v=>i e b s d a w (v.gW t)
def ah.rg{jD:Type}{g:bf}{aY:ab Tmp}{assign body:Code}{jE:eR}{Yk:ab aj}{L:bu->ab aj}{o:ab bu}{Yi Yf Yg:ab ax}(ib:rm P jE Yk Yi L o Yf)(S:jD->ab ax)(G:ab bu->jD->Prop)(X:dI->ab bu->jD->Prop)(ff:jD)(eE:G [] ff)(round:∀pre x Yc b l rec,o=pre++x::Yc->G pre b->qm rec->∀(eI:aZ) (jk:ab Nat) (K:cU),(∀e dm,ga e=true->Way G X (pre++[x]) e dm->∀a w,H eI jk (jC l rec::S dm) w->K e a w)->ah P (some l) eI jk ⟨n.n,[]⟩ (Exit.then (rl P l body K) sl) assign (qn aY (L x) am) (ce l rec .normal::S b))(done:∀b c,G o b->Out W D ⟨n.n,c::n.ds⟩ Q .normal am (gl c::(S b++(Yf++Yg))))(left:∀b c e pre,ga e=true->fc e=false->pre<+:o->X e pre b->Out W D ⟨n.n,c::n.ds⟩ Q e am (gl c::(S b++(Yf++Yg))))(bF:aR am g=some (.func (.func jE) #[] Yk.toArray):=by exact rfl)(Yh:kF P jE=true:=by kernel_rfl)(Yl:ak an (S ff++Yi) Yg:=by(repeat(first|exact ak.nil|exact al.here|apply ak.cons|apply al.there)))(dJ:∀x,aY.length=(L x).length:=by intro _;rfl)(cu:(aY.all λp=>Nat.blt p n.n)=true:=by exact rfl):ah P none W D n Q (.rangeFunc g aY.toArray assign body) am an:=by
 have Ye:ah P none W D n Q (.rangeFunc g aY.toArray assign body) am (aL (S ff)::(Yi++Yg)):=by
  have Yn:∀{e:dI} {pre:ab bu} {b:jD},ga e=true->Way G X pre e b->(fc e=true/\G pre b)\/(fc e=false/\X e pre b):=by
   intro e pre b cG h;cases e with
   |normal=>exact .inl ⟨rfl,h⟩
   |ret=>exact .inr ⟨rfl,h⟩
   |exit id=>exact .inr ⟨rfl,h⟩
   |_=>cases cG
  refine ah.VZ (lx:={p:ab bu×bu×ab bu×jD//o=p.1++p.2.1::p.2.2.1/\G p.1 p.2.2.2}) (x:=Yi) (k:=Yg) (λi=>L i.1.2.1) (aL (S ff)) (λi=>aL (S i.1.2.2.2)) (λi e cE=>∃dm,cE=aL (S dm)/\Way G X (i.1.1++[i.1.2.1]) e dm)
   (λe Yj=>∃dm,Yj=aL (S dm)::Yf/\((e=.normal/\G o dm)\/(fc e=false/\∃pre,pre<+:o/\X e pre dm))) bF Yh ?_ (λi=>dJ _) cu ?_ ?_ ?_
  .have:∀(l:ab ax) (s:ax),ak (s::(l++Yg)) (s::l) Yg:=by
    intro l s;refine ak.cons al.here ?_;induction l with
    |nil=>exact ak.nil
    |cons x l lu=>exact ak.cons al.here lu
   exact this Yi _
  .rintro⟨⟨pre,x,Yc,b⟩,d,dv⟩ l rec c1 eI K cA;have dM:bn [ce l rec .normal,aL (S b)]=bn (ce l rec .normal::S b):=by simp only[iJ,u7];simp[bn]
   have:=round pre x Yc b l rec d dv c1 eI (bn [ce l rec .normal,aL (S b)]) K (λe dm cG eF a w cy=>cA e (aL (S dm)) cG ⟨dm,rfl,eF⟩ a w (by have t:H eI (bn [ce l rec .normal,aL (S b)]) (S dm++[jC l rec]) w:=cy.perm (by simpa using(oq (l₁:=[jC l rec]) (l₂:=S dm)));exact(t.toBag).perm (hK ..)))
   intro a w c2 cy;refine this a w c2 ?_;have t:=(cy.perm (hK ..)).UO;exact t.perm T3
  .intro l rec j;have k:=ib l (dI×jD) (λpre p=>p.1=.normal/\G pre p.2) (λpre p=>ga p.1=true/\fc p.1=false/\X p.1 pre p.2) (λp=>aL [ce l rec p.1,aL (S p.2)]) (.normal,ff) ⟨rfl,eE⟩ ?_
   .refine k.conv (λw h=>?_) ?_ ?_
    .exact hn.toBag (be:=[ce l rec .normal,aL (S ff)]) h
    .exact(sk (be:=[ce l rec .normal,aL (S ff)])).symm
    .rintro v a2⟨⟨e,dm⟩,y,rfl⟩;refine⟨ce l rec e::aL (S dm)::Yf,⟨e,_,?_,⟨dm,rfl,?_⟩,rfl⟩,λW D w h=>h.UO (be:=[ce l rec e,aL (S dm)])⟩
     .rcases y with⟨h,_⟩|⟨_,_,h,_⟩
      exact LL
      .exact h
     .rcases y with⟨h,z⟩|⟨pre,cu,_,cd,gX⟩
      .exact .inl ⟨h,z⟩
      .exact .inr ⟨cd,pre,cu,gX⟩
   .rintro pre x Yc⟨e,b⟩ d⟨c9,dv⟩;simp only at c9 dv;subst c9;refine(j ⟨(pre,x,Yc,b),d,dv⟩).conv (λw h=>?_) ?_ ?_
    exact RT
    .have:=(sk (be:=[ce l rec .normal,aL (S b)]) (an:=[]))
     simpa using this
    .rintro v a2⟨e,cE,rfl,cG,⟨dm,rfl,eF⟩,rfl⟩;refine⟨[aL [ce l rec e,aL (S dm)]],⟨(e,dm),fc e,rfl,λh=>?_,λh=>?_,rfl⟩,λW D w h=>H.toBag (be:=[ce l rec e,aL (S dm)]) (an:=[]) Ub⟩
     .rcases Yn cG eF with⟨t,z⟩|⟨t,z⟩
      .refine⟨?_,z⟩;cases e<;>first|rfl|cases t
      .rw[t]at h;cases h
     .rcases Yn cG eF with⟨t,z⟩|⟨t,z⟩
      .rw[t]at h;cases h
      .exact⟨cG,t,z⟩
  .rintro c e Yj cG⟨dm,rfl,y⟩;have conv:∀{e:dI},Out W D ⟨n.n,c::n.ds⟩ Q e am (gl c::(S dm++(Yf++Yg)))->Out W D ⟨n.n,c::n.ds⟩ Q e am (gl c::(aL (S dm)::Yf++Yg)):=λh a w c2 cy=>by refine h a w c2 ?_;have t:H W D (aL (S dm)::(gl c::(Yf++Yg))) w:=cy.perm Oa;exact t.UO.perm n8
   rcases y with⟨rfl,dv⟩|⟨Ym,pre,Yo,iP⟩
   .exact conv (done dm c dv)
   .exact conv (left dm c e pre cG Ym Yo iP)
 intro a w c2 cy;refine Ye a w c2 ?_;have t:=cy.UP Yl;rw[cn]at t;exact t.toBag
end
end Go.ay
namespace Go.ay
open Go
variable{k:Nat}{args:ab aj}{aV:aT (Nat×Bool)}{C:bC->ab ax->Prop}{M:Act->aZ->Prop}{bc:Array Edge}{Y:Array Bool}
section
variable{P:bU}{r:aT Nat}{W:aZ}{D:ab Nat}{n:dq}{Q:cU}{am Z:bC}{an a2 be:ab ax}{J:Array b6}{N:ab b6}{w:aZ}
variable{dst:Nat}{X:Op}{ba:a7}{bb:String}
instance{x y:aj}:bA 0 [x] [y] [x]:=⟨rfl⟩
instance(priority:=100){o k:Nat}{c:ab aj}:eZ o k c (jz o k c):=⟨rfl⟩
instance(priority:=100){o:Nat}{x c:ab aj}:bA o x c (eg o x c):=⟨rfl⟩
def V.XJ(ad:ca P){t E aI b o m:Nat}{i:IntKind}{x y:bf}(g:aR am x=some (aw b o))(d:aR am y=some (.int i (k:Int)))(v:r7 ad.arr t=some (m,E):=by exact rfl)(z:bM ad.gV E=some aI:=by exact rfl)(j:k<m:=by omega):aK P n am an ⟨some dst,.indexAddr t x y,ba,bb,bc,aV⟩ (aw b (o+k*aI)):=λa w j _=>by
 have y:=ad.WF v;have t:(0:Int)<=(k:Int)/\(k:Int)<(m:Int):=⟨ac,ac⟩
 simp only[execOp,j.eval g,j.eval d];simp[Instr.indexAt,cK,asIntOf,et y,Instr.sureAddr,t,pD (ad.Vc z),se];omega
def V.Us(ad:ca P){t E aI b o m:Nat}{s:IntKind}{i:Int}{x y:bf}(g:aR am x=some (aw b o))(d:aR am y=some (.int s i))(ao:i=(k:Int))(v:r7 ad.arr t=some (m,E):=by exact rfl)(z:bM ad.gV E=some aI:=by exact rfl)(j:k<m:=by omega):aK P n am an ⟨some dst,.indexAddr t x y,ba,bb,bc,aV⟩ (aw b (o+k*aI)):=by subst ao;exact V.XJ ad g d v z j
structure aO(an be:ab ax):Prop where
 bn:(bn an).Perm (bn be)
 holds:∀w,(ay.bn an).Nodup->((∀e,e∈an->e.holds w)↔(∀e,e∈be->e.holds w))
def aO.refl(an:ab ax):aO an an:=⟨he _,λ_ _=>Iff.rfl⟩
def aO.symm(h:aO an be):aO be an:=⟨h.bn.symm,λw y=>(h.holds w (h.bn.nodup_iff.2 y)).symm⟩
def aO.trans{t:ab ax}(h:aO an be)(k:aO be t):aO an t:=⟨h.bn.trans k.bn,λw y=>(h.holds w y).trans (k.holds w (h.bn.nodup_iff.1 y))⟩
def aO.UA(h:an.Perm be):aO an be:=⟨h.flatMap_right _,λ_ _=>⟨λk e z=>k e (h.mem_iff.2 z),λk e z=>k e (h.mem_iff.1 z)⟩⟩
def aO.append{a2 t:ab ax}(h:aO an be)(k:aO a2 t):aO (an++a2) (be++t):=by
 refine⟨by rw[jx,jx];exact h.bn.append k.bn,λw y=>?_⟩;rw[jx,hH]at y;have t:=h.holds w y.1;have g:=k.holds w y.2.1;constructor
 .intro q e z;rcases fd.1 z with z|z
  .exact t.1 (λe z=>q e Of) e z
  .exact g.1 (λe z=>q e Of) e z
 .intro q e z;rcases fd.1 z with z|z
  .exact t.2 (λe z=>q e Of) e z
  .exact g.2 (λe z=>q e Of) e z
def aO.cons(e:ax)(h:aO an be):aO (e::an) (e::be):=(aO.refl [e]).append h
def aO.aL:aO [ay.aL be] be:=by
 refine⟨by rw[sk];simp,λw y=>?_⟩;rw[sk,dT]at y;constructor
 .intro q e z;have:=q (ay.aL be) T3;rw[rk]at this;exact this.1 e z
 .intro q e z;obtain rfl:e=ay.aL be:=by simpa using z
  rw[rk];exact⟨q,y⟩
def H.eqv(h:aO an be)(k:H W D an w):H W D be w:=
 ⟨(h.holds w k.nodup).1 k.fQ,h.bn.nodup_iff.1 k.nodup,λb t=>k.own b (h.bn.mem_iff.2 t),k.cQ,k.size,k.os,k.tape,k.output,k.oZ⟩
def H.XK{o:ab Nat}(y:∀b,b∈D↔b∈o)(k:H W D an w):H W o an w:=
 ⟨k.fQ,k.nodup,λb d=>(k.own b d).imp (y b).1 id,λb t g=>k.cQ b t (λh=>g ((y b).1 h)),k.size,k.os,k.tape,k.output,k.oZ⟩
def ah.eqv{c:Code}(h:aO an be)(k:ah P r W D n Q c am be):ah P r W D n Q c am an:=λa w j v=>k a w j (v.eqv h)
def Out.eqv{e:dI}(h:aO an be)(k:Out W D n Q e am be):Out W D n Q e am an:=λa w j v=>k a w j (v.eqv h)
def ar.eqv{f:eR}{R t:aj->ab ax->Prop}(h:aO an be)(k:ar P f args be R)(g:∀v a2,R v a2->∃j,t v j/\aO a2 j):ar P f args an t:=λw o=>by have t:hn be w:=(o.start.eqv h).eE;refine(k w t).mono λe o ⟨v,a2,z,d,y⟩=>?_;obtain⟨j,i,x⟩:=g v a2 d;exact dG
def kJ.eqv{l:Nat}{R t:aj->ab ax->Prop}(h:aO an be)(k:kJ P l args be R)(d:∀v a2,R v a2->∃j,t v j/\aO a2 j):kJ P l args an t:=λw o=>by have t:hn be w:=(o.start.eqv h).eE;obtain⟨fn,s,assign,body,g,o⟩:=k w t;refine⟨fn,s,assign,body,g,o.mono λe t ⟨v,a2,z,o,y⟩=>?_⟩;obtain⟨j,i,x⟩:=d v a2 o;exact dG
section
variable{bu:Type}
def so(f:bu->ab aj)(E aI:Nat):ab aj->ab (ab bu)->ab ax
 |v::t,l::b=>rows f v E aI l::so f E aI t b
 |_,_=>[]
variable{f:bu->ab aj}{E aI:Nat}
def A3:∀{k:Nat} {g:ab aj} {b:ab (ab bu)} {v:aj} {l:ab bu},g[k]?=some v->b[k]?=some l->(so f E aI g b).Perm (rows f v E aI l::so f E aI (g.eraseIdx k) (b.eraseIdx k))
 |0,v::g,l::b,_,_,z,t=>by simp only[qk,eY]at z t;subst z t;exact he _
 |k+1,u::g,m::b,v,l,z,t=>by simp only[sf]at z t;simp only[so,Kp];exact((A3 z t).cons _).trans (hK ..)
 |0,[],_,_,_,z,_=>by simp at z
 |0,_::_,[],_,_,_,t=>Tm
 |k+1,[],_,_,_,z,_=>by simp at z
 |k+1,_::_,[],_,_,_,t=>Tm
def acH{g:ab aj}{b:ab (ab bu)}{d:aj}{o:ab bu}(z:k<g.length)(t:k<b.length):(so f E aI (g.set k d) (b.set k o)).Perm (rows f d E aI o::so f E aI (g.eraseIdx k) (b.eraseIdx k)):=by have:=A3 (f:=f) (E:=E) (aI:=aI) (k:=k) (g:=g.set k d) (b:=b.set k o) (v:=d) (l:=o) Of OK;simpa[List.eraseIdx_set_eq]using this
def gY(f:bu->ab aj)(E aI:Nat)(t:ab aj)(b:ab (ab bu)):ax:=ay.aL (so f E aI t b)
def gY.open{g:ab aj}{b:ab (ab bu)}{v:aj}{l:ab bu}(z:g[k]?=some v)(t:b[k]?=some l):aO [gY f E aI g b] [rows f v E aI l,gY f E aI (g.eraseIdx k) (b.eraseIdx k)]:=
 aO.aL.trans ((aO.UA (A3 z t)).trans (aO.cons _ aO.aL.symm))
def gY.shut{g:ab aj}{b:ab (ab bu)}{d:aj}{o:ab bu}(z:k<g.length)(t:k<b.length):aO [rows f d E aI o,gY f E aI (g.eraseIdx k) (b.eraseIdx k)] [gY f E aI (g.set k d) (b.set k o)]:=
 (aO.aL.trans ((aO.UA (acH z t)).trans (aO.cons _ aO.aL.symm))).symm
end
def af.bv{K F:ab ax}{u:ab Nat}{U:Nat}{T:Bool}{v z:b6}(i j:Nat)(ao:J[i]?=some v)(y:J[j]?=some z)(t:av P r W D n v am an (λZ a2=>(∀w,H W D a2 w->fw K w)/\(∀w,H W D a2 w->fw F w)/\af P r W D n J M K F u true U (Y.setIfInBounds i true) Z a2))(g:av P r W D n z am an (λZ a2=>(∀w,H W D a2 w->fw K w)/\(∀w,H W D a2 w->fw F w)/\af P r W D n J M K F u true U (Y.setIfInBounds j true) Z a2))(d:(Region.ready .any J Y==[i,j]&&![i,j].isEmpty)=true:=by kernel_rfl)(s:hp am J v.guard=some true:=by exact rfl)(b:hp am J z.guard=some true:=by exact rfl):af P r W D n J M K F u T (U+1) Y am an:=
 af.each [i,j] d (by
  intro k o;rcases dk.1 o with rfl|o
  .exact⟨v,ao,s,t⟩
  .obtain rfl:k=j:=by simpa using o
   exact⟨z,y,b,g⟩)
end
end Go.ay
namespace Go.ay
open Go
section
variable{P:bU}{r:aT Nat}{W:aZ}{D:ab Nat}{n:dq}{Q:cU}{am:bC}{an:ab ax}
def ah.form{bu:Type}{f:bu->ab aj}{v:aj}{E aI:Nat}{l:ab bu}{c:Code}(o:rows f v E aI l∈an)(y:v=.slice none 0 0->l=[]->ah P r W D n Q c am an) (t:∀g z,v=.slice (some ⟨g,0,none⟩) l.length z->ah P r W D n Q c am an):ah P r W D n Q c am an:=λa w v b=>by
 rcases hW o w b with⟨d,j⟩|⟨g,z,d,_⟩
 .exact y d j a w v b
 .exact t g z d a w v b
end
end Go.ay
namespace Go.ay
open Go
variable{R:aj->ab ax->Prop}{args:ab aj}{C:bC->ab ax->Prop}
section
variable{P:bU}{r:aT Nat}{W:aZ}{D:ab Nat}{n:dq}{Q:cU}{am:bC}{an:ab ax}{J:Array b6}
def ah.of{c:Code}(h:∀a w,dd n am a->H W D an w->c.wpIn (mr r) 0 P Q a w):ah P r W D n Q c am an:=h
def ah.get{c:Code}(h:ah P r W D n Q c am an):∀a w,dd n am a->H W D an w->c.wpIn (mr r) 0 P Q a w:=h
def Out.of{e:dI}(h:∀a w,dd n am a->H W D an w->Q e a w):Out W D n Q e am an:=h
def Out.get{e:dI}(h:Out W D n Q e am an):∀a w,dd n am a->H W D an w->Q e a w:=h
def aK.of{o:b6}{v:aj}(h:∀a w,dd n am a->fw an w->(execOp a.eval o).run P w=.ok (.value v) w):aK P n am an o v:=h
def aK.get{o:b6}{v:aj}(h:aK P n am an o v):∀a w,dd n am a->fw an w->(execOp a.eval o).run P w=.ok (.value v) w:=h
def fw.get{w:aZ}(h:fw an w):∀e,e∈an->e.holds w:=h
def av.of{o:b6}(h:∀(K:Act->aZ->Prop) (Q:cU),(∀Z a2,C Z a2->∀a w,dd n Z a->H W D a2 w->K a w)->∀a w,dd n am a->H W D an w->mZ P r o a w K Q):av P r W D n o am an C:=h
def ar.of{f:eR}(h:∀w,hn an w->Calls P f args.toArray w λe t=>∃v a2,e=.returned v/\R v a2/\H w (bn an) a2 t):ar P f args an R:=h
def ar.get{f:eR}(h:ar P f args an R):∀w,hn an w->Calls P f args.toArray w λe t=>∃v a2,e=.returned v/\R v a2/\H w (bn an) a2 t:=h
end
end Go.ay
section
attribute[irreducible] Go.ay.ah Go.ay.ai Go.ay.af Go.ay.Out Go.ay.av Go.ay.ar Go.ay.aK Go.ay.fw Go.ay.c6
end
