/- Part 1 of what the proof stands on. -/
import Derived.StillTail
import Derived.OrdersHeld
import Derived.Laws.FloatArith
import Derived.Lib.MapLaws
import Derived.Lib.LazyBuf
import Derived.Shelf.Strings.OnBuilder
import Derived.Shelf.Small.Utf8
import Derived.Shelf.Small.Wraps
import Derived.Shelf.Utf8.RuneCount
import Derived.Shelf.Strconv.Itoa3
import Derived.Shelf.Strings.Shaped
import Derived.Shelf.Strings.SplitShaped
import Derived.Shelf.Unicode.Decode
import Derived.Shelf.Strings.RuneCount
import Derived.Shelf.Unicode.DecodeAny
import Derived.Shelf.Slices.Clone
import Derived.WideMake
import Derived.Deep.Strs
import Derived.Lib.AtoiTie
import Derived.Lib.AtoiErrMem
import Derived.Shelf.Strings.SlTrimAscii
import Derived.RangeFuncSeq
import Derived.OrdersIn
import Derived.Shelf.SlSortCmp.NoneTotal
import Derived.Lib.ItoaLen
import Derived.Lib.LaidU8
import Derived.Lay
import Derived.HandedShaped
import Derived.OpenShut
import Derived.Test.YtnbngknffkcefaaGreatDoorProg
import GoSem.PinnedTables
import GoSem.Claim
import GoSem.ClaimJoined
import GoSem.ClaimMapViews
import GoSem.ClaimSeven
import Derived.JoinedTies
import Derived.KernelRfl
import Derived.LaidByTextLater
set_option linter.unusedVariables false
set_option linter.unusedSimpArgs false
set_option maxHeartbeats 4000000
set_option maxRecDepth 100000
set_option synthInstance.maxHeartbeats 400000
set_option synthInstance.maxSize 10000
open Go in
abbrev Lu:=List UInt8
open Go in
abbrev Lv:=List Value
open Go in
abbrev Oa:=Option Addr
open Go in
abbrev Wo:=World
abbrev Ui:=UInt8
open Go in
abbrev Va:=Value
theorem dq2{p:Prop}[Decidable p]:(decide p=false)<->Not p:=decide_eq_false_iff_not
theorem dq1{p:Prop}[Decidable p]:(decide p=true)=p:=decide_eq_true_eq
theorem om{p:Prop}(h:p:=by omega):p:=h
theorem de{p:Prop}(h:p:=by decide):p:=h
theorem kr{p:Prop}(h:p:=by kernel_rfl):p:=h
theorem sz{p:Prop}(h:p:=by simp):p:=h
theorem su{p q:Prop}(h:p)(k:p->q:=by intro h;simpa using h):q:=k h
theorem oh{p q:Prop}(h:p)(k:p->q:=by intro h;omega):q:=k h
theorem od{p:Prop}(h:p:=by(try dsimp only);omega):p:=h
theorem nB{α:Type}{a b:α}{q:Prop}(h:a=b)(k:a=b->q:=by intro h;rw[h];decide):q:=k h
theorem dk{p:Prop}(h:p:=by decide+kernel):p:=h
theorem lz{p:Prop}(h:p:=by first|(simp;done)|exact Nat.le_of_ble_eq_true rfl):p:=h
theorem O{α:Sort _}{a:α}:a=a:=rfl
open Go
variable {p:Addr}{listed:Array Bool}{af:Array Edge}{fs:Array Field}{ops Ed:Array Oper}{ts:Array TypeId}{held w1 want:Bool}{R:Ending->Wo->Prop}{fd:Field}{fn:Func}{f:FuncId}{DF DI hi DM:Int}{G:List (Bool×Bool)}{pl:List (Nat×Nat)}{D Os T:List Int}{rest:List Oper}{Ar key nm Ay:Lu}{args cs ds news vs xs zs:Lv}{b bytes c cap db fuel i k kb lg m n n0 nn o off size u:Nat}{spare:Nat->Bool}{ps:Nat->Int}{a a0 ka:Oa}{op:Op}{d:Option Nat}{P:Program}{S1 S2 g1 g2:Prop}{pos:String}{H X α β σ:Type}{E dst src t' ty:TypeId}{us v v0:Va}{B w:Wo}{C:Wo->Prop}
namespace Gk
theorem cs0: (∀(p : Prop) [Decidable p], (decide p = true) = p) ∧ (∀(p : Prop) [Decidable p], (decide p = false)↔¬ p) ∧ (∀{α : Type} [BEq α] [LawfulBEq α] {a b : α}, (a==b) = true↔a = b) ∧ (∀{α : Type} [BEq α] [LawfulBEq α] {a b : α}, (a==b) = false↔a≠b) ∧ (∀{α : Type} [BEq α] [LawfulBEq α] {a b : α}, (a !=b) = true↔a≠b) ∧ (∀(b : Bool), ((!b) = true) = (b = false)) ∧ (∀(b : Bool), ((!b) = false) = (b = true)) ∧ (∀(a b : Bool), ((a||b) = true) = (a = true ∨ b = true)) ∧ (∀(a b : Bool), ((a&&b) = true) = (a = true ∧ b = true)) ∧ (∀(a b : Bool), ((a||b) = false) = (a = false ∧ b = false)) ∧ (∀(a b : Bool), ((a&&b) = false) = (a = false ∨ b = false)) ∧ (∀{α : Type} (a b : α), (a≠b) = ¬ (a = b)) ∧ (∀{a b : Int}, ¬ a<b↔b ≤ a) ∧ (∀{a b : Int}, ¬ a ≤ b↔b<a) ∧ (∀{α : Type} [BEq α] [LawfulBEq α] {a b : α}, (a !=b) = false↔a = b) ∧ (∀(b : Bool), (¬ (b = true)) = (b = false)) ∧ (∀(b : Bool), (¬ (b = false)) = (b = true)) :=
 ⟨λp _ => dq1, λp _ => dq2, beq_iff_eq, beq_eq_false_iff_ne, bne_iff_ne, (by intro b;cases b<;>decide), (by intro b;cases b<;>decide), (by intro a b;cases a<;>cases b<;>decide), (by intro a b;cases a<;>cases b<;>decide), (by intro a b;cases a<;>cases b<;>decide), (by intro a b;cases a<;>cases b<;>decide), λ_ _ => ne_eq _ _, Int.not_lt, Int.not_le, bne_eq_false_iff_eq, (by intro b;cases b<;>decide), (by intro b;cases b<;>decide)⟩
theorem ot{p q:Prop}(h:p)(k:p->q:=by intro h;(try simp only[Gk.cs0]at h);omega):q:=k h
end Gk
abbrev Y0:=@List.length_append
abbrev Y1:=@List.getElem?_eq_some_iff
abbrev Y2:=@List.getElem?_eq_getElem
abbrev Y3:=@if_neg
abbrev Y4:=@Nat.zero_le
abbrev Y5:=@List.length_cons
abbrev Y6:=@List.length_drop
abbrev Y7:=@List.mem_of_getElem?
abbrev Y8:=@Bool.and_eq_true
abbrev Y9:=@if_pos
abbrev Ya:=@Nat.le_refl
abbrev Yb:=@List.drop_of_length_le
abbrev Yc:=@congrArg
abbrev Yd:=@Int.toNat_natCast
abbrev Ye:=@List.getElem?_append_left
abbrev Yf:=@List.getD_eq_getElem?_getD
abbrev Yg:=@List.append_assoc
abbrev Yh:=@List.length_nil
abbrev Yi:=@List.eq_nil_of_length_eq_zero
abbrev Yj:=@List.length_map
abbrev Yk:=@Nat.zero_add
abbrev Yl:=@List.length_take
abbrev Ym:=@List.drop_eq_getElem_cons
abbrev Yn:=@List.map_append
abbrev Yo:=@List.take_of_length_le
abbrev Yp:=@List.mem_cons
abbrev Yq:=@Nat.le_trans
abbrev Yr:=@List.getElem?_map
abbrev Ys:=@List.mem_append
abbrev Yt:=@Nat.lt_or_ge
abbrev Yu:=@List.map_cons
abbrev Yv:=@List.take_add_one
abbrev Yw:=@List.getElem?_append_right
abbrev Yx:=@Nat.le_of_ble_eq_true
abbrev Yy:=@List.append_nil
abbrev Yz:=@absurd
abbrev GF:=@Array.getD_eq_getD_getElem?
abbrev EA:=@List.mem_iff_getElem?
abbrev DE:=@Option.toList_some
abbrev CS:=@UInt8.toNat_inj
abbrev EP:=@List.length_filter_le
abbrev EB:=@Bool.or_eq_false_iff
abbrev Dj:=@List.all_eq_true
abbrev Db:=@List.nil_append
abbrev Fw:=@List.take_append_drop
abbrev Cv:=@Bool.true_and
abbrev Iv:=@Array.getElem?_eq_getElem
abbrev Jo:=@Array.getElem?_eq_some_iff
abbrev Em:=@List.cons_append
abbrev Fx:=@List.flatten_cons
abbrev E6:=@List.not_mem_nil
abbrev EC:=@Bool.or_eq_true
abbrev Fy:=@List.take_length
abbrev DR:=@List.all_cons
abbrev Dt:=@List.mem_map
abbrev Hk:=@List.getElem?_drop
abbrev Iw:=@List.take_succ_cons
abbrev K5:=@Option.map_eq_some_iff
abbrev Dm:=@Nat.mul_one
abbrev Ix:=@Nat.eq_zero_or_pos
abbrev Ks:=@List.drop_succ_cons
abbrev FY:=@List.drop_zero
abbrev ED:=@List.map_nil
abbrev Gj:=@List.drop_drop
abbrev Gl:=@List.take_zero
abbrev K6:=@List.length_pos_iff
abbrev ER:=@Nat.add_zero
abbrev M6:=@List.flatMap_append
abbrev Jq:=@List.filter_cons
abbrev PM:=@List.getElem?_modify
abbrev Iy:=@List.mem_filter
abbrev PN:=@List.flatten_append
abbrev FZ:=@Nat.mul_comm
abbrev Si:=@List.mem_cons_of_mem
abbrev T3:=@List.perm_append_comm
abbrev M7:=@List.foldl_append
abbrev PO:=@List.getElem?_take
abbrev PQ:=@List.mem_singleton
abbrev K7:=@Nat.le_add_right
abbrev Sj:=@Array.length_toList
abbrev Kt:=@List.foldl_cons
abbrev T4:=@Nat.mul_le_mul_right
abbrev F0:=@Nat.add_mul
abbrev PR:=@Bool.not_eq_true'
abbrev PS:=@List.ext_getElem?
abbrev Zx:=@Bool.and_eq_false_iff
abbrev Sk:=@Bool.false_eq_true
abbrev Zy:=@List.getElem?_eq_none
abbrev Sl:=@List.pairwise_cons
abbrev aS:=@Nat.add_sub_cancel_left
abbrev K8:=@Nat.two_pow_pos
abbrev Jr:=@Nat.mul_assoc
abbrev M8:=@Nat.min_eq_left
abbrev jx:=@Nat.mul_lt_mul_of_pos_right
abbrev T5:=@List.filter_append
abbrev aT:=@List.length_singleton
abbrev aU:=@List.mem_append_right
abbrev fW:=@Option.bind_eq_some_iff
abbrev nt:=@List.take_append_of_le_length
abbrev aV:=@Nat.pow_le_pow_right
abbrev K9:=@Bool.false_or
abbrev jy:=@Gk.cs0
abbrev fX:=@Array.getElem?_toList
abbrev fY:=@List.length_replicate
abbrev Ku:=@Nat.add_comm
abbrev f_:=@List.mem_append_left
abbrev T6:=@List.nodup_cons
abbrev Sm:=@UInt8.toNat_lt
abbrev pt:=@List.drop_append_of_le_length
abbrev gf:=@List.dropWhile_cons
abbrev gg:=@List.mem_map_of_mem
abbrev aW:=@List.flatMap_cons
abbrev jz:=@List.set_getElem_self
abbrev pz:=@Array.getElem?_setIfInBounds
abbrev T7:=@Bool.and_false
abbrev T8:=@List.take_left
abbrev jA:=@List.getElem?_append
abbrev jB:=@List.pairwise_append
abbrev PT:=@Nat.zero_mul
abbrev jC:=@Int.toNat_of_nonneg
abbrev M_:=@Nat.pow_add
abbrev pA:=@List.mem_of_find?_eq_some
abbrev pB:=@List.mem_or_eq_of_mem_set
abbrev nu:=@List.set_append_right
abbrev Sn:=@Nat.succ_mul
abbrev nw:=@UInt8.le_iff_toNat_le
abbrev jD:=@List.mem_cons_self
abbrev gh:=@List.any_eq_true
abbrev gi:=@Option.bind_some
abbrev gj:=@Option.getD_some
abbrev ny:=@Bool.and_eq_true_iff
abbrev nz:=@List.eraseIdx_set_eq
abbrev pC:=@List.getElem?_cons_succ
abbrev T9:=@Nat.pow_succ
abbrev jE:=@List.all_eq_false
abbrev nA:=@List.filter_eq_self
abbrev gk:=@List.filter_nil
abbrev nC:=@List.takeWhile_cons
abbrev gn:=@Option.map_some
abbrev pD:=@List.getElem?_set_self
abbrev jF:=@List.drop_suffix
abbrev jG:=@List.getElem_mem
abbrev jH:=@List.mem_flatMap
abbrev jI:=@Nat.mod_eq_of_lt
abbrev pE:=@Array.getElem?_modify
abbrev nD:=@Bool.not_eq_false'
abbrev nE:=@List.cons_beq_cons
abbrev pF:=@List.contains_iff_mem
abbrev pG:=@List.getElem?_toArray
abbrev Zz:=@List.set_set
abbrev aX:=@List.sum_cons
abbrev gp:=@Bool.not_false
abbrev gq:=@List.mem_range
abbrev tY:=@List.pairwise_iff_getElem
abbrev pH:=@List.mem_of_mem_take
abbrev x_:=@Array.getElem?_setIfInBounds_ne
abbrev nF:=@Array.toList_push
abbrev nG:=@List.getElem?_set
abbrev jJ:=@List.length_set
abbrev nH:=@List.size_toArray
abbrev nI:=@List.drop_length
abbrev nJ:=@List.getElem_map
abbrev nK:=@Nat.shiftLeft_eq
abbrev T_:=@Nat.mod_lt
abbrev tZ:=@Array.getElem?_eq_none
abbrev pI:=@List.set_cons_succ
abbrev t_:=@List.dropWhile_suffix
abbrev ya:=@List.take_length_add_append
abbrev ud:=@Nat.ble_eq_true_of_le
abbrev nL:=@Nat.div_add_mod
abbrev yb:=@Nat.two_pow_add_eq_or_of_lt
abbrev jK:=@Bool.not_true
abbrev yc:=@Int.lt_of_mul_lt_mul_right
abbrev yd:=@List.dropWhile_cons_of_pos
abbrev ue:=@List.set_append_left
abbrev pJ:=@Bool.not_eq_true
abbrev pK:=@List.perm_middle
abbrev pL:=@Nat.div_eq_of_lt
abbrev uf:=@Bool.or_eq_true_iff
abbrev ug:=@List.filter_sublist
abbrev uh:=@List.getElem_of_mem
abbrev ui:=@List.length_reverse
abbrev ye:=@Array.setIfInBounds_comm
abbrev jL:=@Int.ofNat_lt
abbrev jM:=@List.map_map
abbrev yf:=@List.mem_of_mem_eraseIdx
abbrev jN:=@Nat.sub_self
abbrev uj:=@Array.empty_append
abbrev pM:=@Bool.eq_iff_iff
abbrev uk:=@Int.natCast_nonneg
abbrev um:=@List.contains_cons
abbrev yg:=@List.getElem?_cons_zero
abbrev yh:=@List.getElem?_replicate
abbrev uo:=@Nat.lt_of_lt_of_le
abbrev uq:=@Bool.eq_false_iff
abbrev Y5f:=@List.eraseIdx_eq_take_drop_succ
abbrev pN:=@Bool.false_and
abbrev pO:=@List.drop_left
abbrev Y5i:=@Int.mul_le_mul_of_nonneg_right
abbrev nM:=@Nat.sub_zero
abbrev ur:=@List.flatten_nil
abbrev uu:=@Nat.succ_ne_zero
abbrev yi:=@List.mem_of_mem_drop
abbrev yj:=@Nat.div_lt_of_lt_mul
abbrev pP:=@Bool.and_true
abbrev Y5p:=@List.dropLast_concat_getLast
abbrev pQ:=@Nat.add_assoc
abbrev Y5r:=@Array.getElem_setIfInBounds
abbrev uw:=@Int.natCast_mul
abbrev ux:=@List.all_append
abbrev Y5u:=@List.drop_length_add_append
abbrev yk:=@Nat.testBit_two_pow
abbrev Y5w:=@List.dropWhile_cons_of_neg
abbrev Y5x:=@List.isPrefixOf_iff_prefix
abbrev Y5y:=@Nat.add_mul_mod_self_right
abbrev pR:=@Nat.le_of_lt
abbrev yl:=@Nat.lt_of_le_of_lt
abbrev ym:=@Nat.pos_of_ne_zero
abbrev yn:=@UInt8.toNat_ofNat'
abbrev Y63:=@List.getLast?_eq_getElem?
abbrev Y64:=@List.getLastD_eq_getLast?
abbrev uy:=@Nat.mul_le_mul
abbrev yo:=@Bool.not_eq_false
abbrev yp:=@List.any_eq_false
abbrev yq:=@List.nodup_append
abbrev yr:=@List.pairwise_map
abbrev yt:=@Nat.or_lt_two_pow
abbrev Y6b:=@Int.eq_ofNat_of_zero_le
abbrev Y6c:=@List.eraseIdx_cons_zero
abbrev pS:=@Nat.one_mul
abbrev yu:=@Array.toList_map
abbrev yv:=@Bool.toNat_false
abbrev yw:=@List.drop_append
abbrev Y6h:=@List.dropWhile_sublist
abbrev Y6i:=@List.flatten_singleton
abbrev Y6j:=@List.length_pos_of_mem
abbrev Y6k:=@List.reverse_singleton
abbrev Y6l:=@List.takeWhile_sublist
abbrev yx:=@Bool.toNat_true
abbrev uz:=@Int.le_of_lt
abbrev yy:=@List.find?_cons
abbrev uA:=@List.map_set
abbrev uB:=@Nat.le_of_eq
abbrev uC:=@UInt8.not_lt
abbrev yz:=@List.take_take
abbrev yA:=@Option.map_map
abbrev uD:=@Int.le_refl
abbrev uE:=@Nat.le_succ
abbrev yB:=@List.any_cons
abbrev yC:=@List.map_drop
abbrev yD:=@List.map_take
namespace Gk
open Go
abbrev AB:=List (Nat×Va)
abbrev S(l:Lu):Va:=.string ⟨l.toArray⟩
abbrev Ab(n:Int):Va:=.int .i64 n
abbrev U8(n:Int):Va:=.int .u8 n
theorem Js{a:Nat}(h:¬ a=b):Nat.beq a b=false:=by
 cases c:Nat.beq a b
 ·rfl
 ·exact Yz (Nat.eq_of_beq_eq_true c) h
def A5:AB->Nat->Option Value
 | [],_=>none
 | (k,v)::L,t=>bif Nat.beq k t then some v else A5 L t
abbrev DK:Nat:=1099511627776
def look(L:AB)(t:Nat):Option Va:=bif Nat.beq t DK then none else A5 L t
def dl(L:AB):List Deferred:=match A5 L DK with
 | some (.func f _ cap)=>[{ target:=.fn f cap,args:=#[] }]
 | some (.map (some r))=>[{ target:=.collected r,args:=#[] }]
 | _=>[]
theorem ml{L:AB}{t:Nat}(h:look L t=some v):t≠DK/\A5 L t=some v:=by
 unfold look at h;cases a:Nat.beq t DK with
 | true=>rw[a]at h;cases h
 | false=>rw[a]at h;exact⟨λe=>by subst e;simp at a,h⟩
theorem xV{L:AB}{t:Nat}(a:t≠DK)(h:A5 L t=some v):look L t=some v:=by
 unfold look;rw[Js a];exact h
structure Ap(n:Nat)(L:AB)(a:Act):Prop where
 size:a.tmps.size=n
 small:n<=DK
 defers:a.defers=dl L
 get:∀t v,look L t=some v->a.tmps.getD t undef=v
def ev(L:AB):Operand->Option Value
 | .tmp t=>look L t
 | .const v=>some v
 | .global g=>some (.pointer (some ⟨g,0,none⟩))
 | .func f=>some (.func (.func f) #[] #[])
theorem xM{L:AB}{a:Act}(h:Ap n L a){x:Operand}(hx:ev L x=some v):a.eval x=v:=by
 cases x with
 | tmp t=>exact h.get t v hx
 | const u=>simpa[ev,Act.eval]using hx
 | global g=>simpa[ev,Act.eval]using hx
 | func f=>simpa[ev,Act.eval]using hx
theorem Ap.put{L:AB}{a:Act}(h:Ap n L a){d:Nat}(i:Nat.blt d n=true)(v:Va):Ap n ((d,v)::L) (a.put (some d) v):=by
 have c:d<n:=by have:=Yx i;omega
 have j:¬ d=DK:=λe=>by have:=h.small;omega
 refine⟨by simp[Act.put,h.size],h.small,?_,λt u b=>?_⟩
 ·have:dl ((d,v)::L)=dl L:=by unfold dl;rw[A5,Js j];rfl
  rw[this];exact h.defers
 obtain⟨f,b⟩:=ml b;unfold A5 at b
 by_cases e:d=t
 ·subst e;simp at b
  subst b;simp[Act.put,h.size,c,GF]
 ·have g:=Js e;rw[g]at b
  have:=h.get t u (xV f b)
  simpa[Act.put,GF,pz,e]using this
theorem Ap.skip{L:AB}{a:Act}(h:Ap n L a)(v:Va):Ap n L (a.put none v):=h
def Sub:AB->AB->Prop
 | [],M=>match A5 M DK with
  | none=>True
  | some _=>False
 | (t,v)::L,M=>look M t=some v/\Sub L M
theorem Sub.A5:∀{L M:AB},Sub L M->∀{t v},A5 L t=some v->look M t=some v
 | [],_,_,_,_,h=>by cases h
 | (k,u)::L,M,a,t,v,h=>by
  unfold Gk.A5 at h
  by_cases e:k=t
  ·subst e;simp at h
   subst h;exact a.1
  ·have b:=Js e;rw[b]at h;exact a.2.A5 h
theorem Sub.none:∀{L M:AB},Sub L M->Gk.A5 M DK=.none
 | [],M,h=>by
  unfold Sub at h;cases e:Gk.A5 M DK with
  | none=>rfl
  | some v=>rw[e]at h;exact h.elim
 | (k,u)::L,M,h=>h.2.none
theorem Sub.look{L M:AB}(a:Sub L M){t v}(h:look L t=some v):look M t=some v:=a.A5 (ml h).2
theorem Sub.dl{L M:AB}(a:Sub L M):dl M=dl L:=by
 unfold Gk.dl;rw[a.none];cases e:Gk.A5 L DK with
 | none=>rfl
 | some v=>have:=(ml (a.A5 e)).1;exact Yz O this
theorem Ap.sub{L M:AB}{a:Act}(h:Ap n M a)(b:Sub L M):Ap n L a:=⟨h.size,h.small,h.defers.trans b.dl,λt v c=>h.get t v (b.look c)⟩
abbrev Bk:=Exit->AB->Wo->Prop
def K2(n:Nat)(K:Bk):Exit->Act->Wo->Prop:=λe a w=>∃L,Ap n L a/\K e L w
def WL(P:Program)(n:Nat)(ops:Array Oper)(K:Bk)(l:List Oper)(L:AB)(w:Wo):Prop:=∀a,Ap n L a->wpList P ops (K2 n K) l a w
def WC(P:Program)(n:Nat)(c:Code)(K:Bk)(L:AB)(w:Wo):Prop:=∀a,Ap n L a->c.wp P (K2 n K) a w
def Ft(next:AB->World->Prop)(K:Bk):Bk
 | .normal,L,w=>next L w
 | e,L,w=>K e L w
def aJ(a:Nat)(K:Bk):Bk
 | .exit i,L,w=>bif Nat.beq i a then K .normal L w else K (.exit i) L w
 | e,L,w=>K e L w
section
variable {P:Program} {n:Nat} {K:Bk} {L:AB} {w:Wo}
theorem WC.mono{c:Code}{K':Bk}(h:WC P n c K L w)(g:∀e L w,K e L w->K' e L w):WC P n c K' L w:=λa f=>wp_mono (h a f) λ_ _ _ ⟨L',b,d⟩=>⟨L',b,g _ _ _ d⟩
theorem WC.sub{c:Code}{M:AB}(h:WC P n c K M w)(d:Sub M L):WC P n c K L w:=λa b=>h a (b.sub d)
theorem WC.seq{x y:Code}(h:WC P n x (Ft (λL w=>WC P n y K L w) K) L w):WC P n (.seq x y) K L w:=by
 intro a f;refine wp_seq (wp_mono (h a f) ?_);rintro e d w' ⟨L',b,c⟩;cases e with
 | normal=>exact c d b
 | _=>exact⟨L',b,c⟩
theorem WC.cut{x y:Code}(J:AB->Wo->Prop)(h:WC P n x (Ft J K) L w)(b:∀L w,J L w->WC P n y K L w):WC P n (.seq x y) K L w :=
 WC.seq (h.mono λe L w a=>by cases e<;>first|exact b _ _ a|exact a)
theorem WC.skip(h:K .normal L w):WC P n .skip K L w:=λ_ a=>wp_skip ⟨L,a,h⟩
theorem WC.label{l:Nat}(h:K .normal L w):WC P n (.label l) K L w:=λ_ a=>wp_label ⟨L,a,h⟩
theorem WC.exit{a:Nat}(h:K (.exit a) L w):WC P n (.exit a) K L w:=λ_ b=>wp_exit ⟨L,b,h⟩
theorem WC.ret(h:K .ret L w):WC P n .ret K L w:=λ_ a=>wp_ret ⟨L,a,h⟩
theorem WC.block{f:Nat}{c:Code}(h:WC P n c (aJ f K) L w):WC P n (.block f c) K L w:=by
 intro a g;refine wp_block (wp_mono (h a g) ?_);rintro e k w' ⟨L',d,b⟩;cases e with
 | exit i =>
  unfold Exit.inBlock;unfold aJ at b
  by_cases e:i=f
  ·subst e;simp only[if_true]
   simp at b
   exact⟨L',d,b⟩
  ·simp only[e,if_false]
   have j:=Js e;exact⟨L',d,by simpa[j]using b⟩
 | _=>exact⟨L',d,b⟩
theorem WC.cond{c:Operand}{x y:Code}{b:Bool}(f:ev L c=some (.bool b))(h:b=true->WC P n x K L w)(g:b=false->WC P n y K L w):WC P n (.cond c x y) K L w:=by
 intro a d;have e:=xM d f;cases b with
 | true=>exact wp_cond_true e (h O a d)
 | false=>exact wp_cond_false e (g O a d)
theorem WC.Ct{c:Operand}{x y:Code}(a:ev L c=some (.bool true))(h:WC P n x K L w):WC P n (.cond c x y) K L w:=WC.cond a (λ_=>h) (λe=>by cases e)
theorem WC.Aw{c:Operand}{x y:Code}(a:ev L c=some (.bool false))(h:WC P n y K L w):WC P n (.cond c x y) K L w:=WC.cond a (λe=>by cases e) (λ_=>h)
theorem WC.loop{c:Code}(E:σ->AB)(f:σ->Wo->Prop)(μ:σ->Nat)(z:σ)(F:Sub (E z) L)(C:f z w)
  (round:∀s w,f s w->WC P n c (Ft (λL' w'=>∃o,Sub (E o) L'/\f o w'/\μ o<μ s) K) (E s) w):WC P n (.loop c) K L w:=by
 intro a t b k cs;have key:∀m s a w,μ s=m->Ap n (E s) a->f s w->
   ∃e r w',K2 n K e r w'/\Arrives P (lone (b.at a (.code c::.inLoop c::k)) cs w) b k cs e r w':=by
  intro m
  induction m using Nat.strongRecOn with
  | _ m G =>
   intro s a w D t hi;obtain⟨e,i,w1,⟨p,j,g⟩,d⟩:=round s w hi a t b (.inLoop c::k) cs;cases e with
   | normal =>
    obtain⟨o,q,u,v⟩:=g;obtain⟨B,A,H,y,h⟩:=G (μ o) (D▸v) o i w1 O (j.sub q) u;exact⟨B,A,H,y,.of_steps (Steps.trans d (.one step_inLoop)) h⟩
   | exit J=>exact⟨_,i,w1,⟨p,j,g⟩,.pass (x:=.inLoop c) O (λ_ _=>.inl sz) d⟩
   | goto l=>exact⟨_,i,w1,⟨p,j,g⟩,.pass (x:=.inLoop c) O (λ_ _=>.inl sz) d⟩
   | ret=>exact⟨_,i,w1,⟨p,j,g⟩,.pass (x:=.inLoop c) O (λ_ _=>.inl sz) d⟩
   | panic I=>exact⟨_,i,w1,⟨p,j,g⟩,.pass (x:=.inLoop c) O (λ_ _=>.inl sz) d⟩
   | outgrown=>exact⟨_,i,w1,⟨p,j,g⟩,.pass (x:=.inLoop c) O (λ_ _=>.inl sz) d⟩
 obtain⟨e,r,w',g,d⟩:=key _ z a w O (t.sub F) C;exact⟨e,r,w',g,.of_steps (.one step_loop) d⟩
theorem WC.region{c:Nat}{l:List Oper}(h:WL P n l.toArray K l L w):WC P n (.region c l.toArray false) K L w:=λa b=>wp_region_lit (h a b)
def MN(P:Program)(n:Nat)(fn:Func)(R:Ending->World->Prop):Bk
 | .normal,L,w|.ret,L,w=>dl L=[]/\∀a,Ap n L a->∃v,(results fn a.tmps).run P w=.ok v w/\R (.returned v) w
 | _,_,_=>False
def PE:Nat->List Value->AB
 | _,[]=>[]
 | i,v::l=>(i,v)::PE (i+1) l
theorem vU:∀(l:Lv) (i t:Nat) (v:Va),A5 (PE i l) t=some v->i<=t/\l[t-i]?=some v
 | [],_,_,_,h=>by cases h
 | u::l,i,t,v,h=>by
  unfold PE A5 at h
  by_cases e:i=t
  ·subst e;simp at h
   exact⟨Ya _,by simp[h]⟩
  ·have b:=Js e;rw[b]at h;obtain⟨c,a⟩:=vU l (i+1) t v h;exact⟨om,by rw[show t-i=(t-(i+1))+1 by omega];simpa using a⟩
theorem rE(f:fn.ntmps=n)(c:(Nat.ble args.length n&&Nat.ble n DK)=true):Ap n (PE 0 args) { tmps:=args.toArray++Array.replicate (fn.ntmps-args.toArray.size) undef,defers:=[] }:=by
 have b:args.length<=n/\n<=DK:=su c
 refine⟨by simp[f];omega,b.2,?_,λt v g=>?_⟩
 ·unfold dl;cases e:A5 (PE 0 args) DK with
  | none=>rfl
  | some v =>
   obtain⟨_,a⟩:=vU args 0 DK v e
   have:=(Y1.1 a).1
   simp only[nM]at this
   omega
 obtain⟨_,a⟩:=vU args 0 t v (ml g).2;simp only[nM]at a
 have d:t<args.length:=(Y1.1 a).1;rw[Y2 d]at a;simpa[GF,Array.getElem?_append,d]using a
theorem calls{c:Code}(j:P.funcs[f]?=some fn)(i:fn.body=some c)(k:fn.ntmps=n)(d:(Nat.ble args.length n&&Nat.ble n DK)=true)
  (h:WC P n c (MN P n fn R) (PE 0 args) w):Calls P f args.toArray w R:=by
 refine calls_of_wp j i (wp_mono (h _ (rE k d)) ?_);rintro e g w' ⟨L',b,a⟩;cases e with
 | normal=>exact⟨b.defers.trans a.1,a.2 g b⟩
 | ret=>exact⟨b.defers.trans a.1,a.2 g b⟩
 | _=>exact a.elim
section k9
variable {fn:Func} {R:Ending->Wo->Prop}
theorem Ac_(h:fn.results=#[])(b:R (.returned (.tuple #[])) w)(c:dl L=[]:=by rfl):MN P n fn R .ret L w:=⟨c,λa _=>⟨_,by simp[results,h],b⟩⟩
theorem cE(h:fn.results=#[])(b:R (.returned (.tuple #[])) w)(c:dl L=[]:=by rfl):MN P n fn R .normal L w:=⟨c,λa _=>⟨_,by simp[results,h],b⟩⟩
theorem GD{t:Nat}(h:fn.results=#[.tmp t])(e:look L t=some v)(b:R (.returned v) w)(d:dl L=[]:=by rfl):MN P n fn R .ret L w :=
 ⟨d,λa c=>⟨v,by have:=c.get t v e;simp[results,h];simpa[GF]using this,b⟩⟩
theorem qO{t:Nat}{x:Va}(h:fn.results=#[.tmp t,.tmp u])(g:look L t=some v)(hx:look L u=some x)(e:R (.returned (.tuple #[v,x])) w)(f:dl L=[]:=by rfl):MN P n fn R .ret L w :=
 ⟨f,λa d=>⟨_,by have b:=d.get t v g;have c:=d.get u x hx;simp only[GF]at b c;simp[results,h,b,c],e⟩⟩
theorem k8{t r:Nat}{x y:Va}(h:fn.results=#[.tmp t,.tmp u,.tmp r])(i:look L t=some v)(hx:look L u=some x)(j:look L r=some y)(f:R (.returned (.tuple #[v,x,y])) w)(g:dl L=[]:=by rfl):MN P n fn R .ret L w :=
 ⟨g,λa b=>⟨_,by have c:=b.get t v i;have d:=b.get u x hx;have e:=b.get r y j;simp only[GF]at c d e;simp[results,h,c,d,e],f⟩⟩
end k9
end
def Ev(n:Nat)(L:AB)(x:Operand)(v:Va):Prop:=∀a,Ap n L a->a.eval x=v
def gd(b want:Bool)(v:Va):Va:=bif b==want then v else undef
def Ex(P:Program)(n:Nat)(L:AB)(w:Wo)(o:Oper)(v:Va)(w':Wo):Prop:=∀a,Ap n L a->(execOp a.eval o).run P w=.ok (.value v) w'
def Es(P:Program)(n:Nat)(L:AB)(w:Wo)(o:Oper)(w':Wo):Prop:=∀a,Ap n L a->(execOp a.eval o).run P w=.ok .skip w'
section
variable {P:Program} {n:Nat} {K:Bk} {L:AB} {w w':Wo} {ops:Array Oper} {rest:List Oper}
theorem Ev.of{x:Operand}(h:ev L x=some v):Ev n L x v:=λ_ a=>xM a h
theorem Ev.gd{x:Operand}{b:Bool}(d:b=want)(h:ev L x=some (gd b want v)):Ev n L x v:=λa c=>by
 rw[xM c h,d];cases want<;>rfl
theorem lU{o:Oper}(a:o.guard=none)(y:Nat->Option Bool):Region.wanted o y=true:=by simp[Region.wanted,a]
theorem WL.nil(h:K .normal L w):WL P n ops K [] L w:=λa b=>wpList_nil ⟨L,b,h⟩
theorem WL.val{d:Nat}(hx:Ex P n L w ⟨some d,op,ty,pos,af,none⟩ v w')(e:Nat.blt d n=true)
  (h:WL P n ops K rest ((d,v)::L) w'):WL P n ops K (⟨some d,op,ty,pos,af,none⟩::rest) L w:=by
 intro a b;refine wpList_plain O λK' c=>?_
 unfold Oper.wp;rw[hx a b];exact c _ _ (h _ (b.put e v))
theorem WL.st(hx:Es P n L w ⟨none,op,ty,pos,af,none⟩ w')
  (h:WL P n ops K rest L w'):WL P n ops K (⟨none,op,ty,pos,af,none⟩::rest) L w:=by
 intro a b;refine wpList_plain O λK' c=>?_
 unfold Oper.wp;rw[hx a b];exact c _ _ (h _ b)
theorem wa{a:Act}{L:AB}(f:Ap n L a){j t:Nat}{b:Bool}(i:(ops[j]?).bind (·.dst)=some t)(g:look L t=some (.bool b)):yielded ops a.tmps j=some b:=by
 have c:=f.get t _ g;have d:t<a.tmps.size:=by
  apply Classical.byContradiction
  intro l;rw[GF,tZ om]at c;cases c
 rw[GF,Iv d]at c;simp only[gj]at c
 have e:a.tmps[t]?=some (.bool b):=by rw[Iv d,c]
 obtain⟨o,k,h⟩:=fW.1 i;simp[yielded,k,h,e]
theorem WL.Aj{d j t:Nat}{b:Bool}
  (o:(ops[j]?).bind (·.dst)=some t) (l:look L t=some (.bool b)) (hx:b=want->Ex P n L w ⟨some d,op,ty,pos,af,some (j,want)⟩ v w) (m:Nat.blt d n=true)
  (h:WL P n ops K rest ((d,gd b want v)::L) w):WL P n ops K (⟨some d,op,ty,pos,af,some (j,want)⟩::rest) L w:=by
 intro a f;refine wpList_step λK' g=>?_
 have i:=wa f o l;have c:=h _ (f.put m (Gk.gd b want v));unfold Gk.gd at c
 by_cases e:b=want
 ·rw[Y9 (by simp[Region.wanted,i,e])];unfold Oper.wp;rw[hx e a f];subst e;exact g _ _ (su c)
 ·rw[Y3 (by simp[Region.wanted,i,e])];have k:(b==want)=false:=su e
  rw[k]at c;exact g _ _ (su c)
def CH:List (Bool×Bool)->Value->Value
 | [],v=>v
 | (b,want)::r,v=>gd b want (CH r v)
theorem Ka:∀{c:List (Bool×Bool)} {v:Va},(∀p∈c,p.1=p.2)->CH c v=v
 | [],_,_=>rfl
 | (b,want)::r,v,h=>by
  have a:b=want:=h (b,want) sz;subst a;simp only[CH,Gk.gd,beq_self_eq_true,cond_true]
  exact Ka λp d=>h p (Si _ d)
theorem TJ:∀{c:List (Bool×Bool)} {v:Va},¬ (∀p∈c,p.1=p.2)->CH c v=undef
 | [],_,h=>Yz (λ_ a=>by cases a) h
 | (b,want)::r,v,h=>by
  by_cases e:b=want
  ·subst e;simp only[CH,Gk.gd,beq_self_eq_true,cond_true]
   exact TJ λf=>h λp a=>by
    rcases Yp.1 a with rfl|a
    ·rfl
    ·exact f p a
  ·have d:(b==want)=false:=su e
   simp only[CH,Gk.gd,d,cond_false]
theorem WL.F6{d j t:Nat}{c:List (Bool×Bool)}{b:Bool}
  (B:(ops[j]?).bind (·.dst)=some t) (D:Nat.blt t n=true) (z:look L t=some (CH c (.bool b))) (hx:(∀p∈c++[(b,want)],p.1=p.2)->Ex P n L w ⟨some d,op,ty,pos,af,some (j,want)⟩ v w) (A:Nat.blt d n=true)
  (h:WL P n ops K rest ((d,CH (c++[(b,want)]) v)::L) w):WL P n ops K (⟨some d,op,ty,pos,af,some (j,want)⟩::rest) L w:=by
 intro a r;refine wpList_step λK' x=>?_
 have f:=h _ (r.put A (CH (c++[(b,want)]) v));have q:t<a.tmps.size:=by have:=Yx D;rw[r.size];omega
 have u:=r.get t _ z;have k:yielded ops a.tmps j=match CH c (.bool b)with|.bool b=>some b|_=>none:=by
  obtain⟨o,C,s⟩:=fW.1 B;rw[GF,Iv q]at u;simp only[gj]at u
  have y:a.tmps[t]?=some (CH c (.bool b)):=by rw[Iv q,u]
  simp only[yielded,C,s,gi,y]
  generalize CH c (.bool b)=g;cases g<;>rfl
 by_cases e:∀p∈c++[(b,want)],p.1=p.2
 ·have m:∀p∈c,p.1=p.2:=λp i=>e p (by simp[i])
  have l:b=want:=e (b,want) sz;rw[Ka m]at k;rw[Y9 (by simp[Region.wanted,k,l])];unfold Oper.wp;rw[hx e a r];rw[Ka e]at f;exact x _ _ f
 ·have E:Region.wanted (⟨some d,op,ty,pos,af,some (j,want)⟩:Oper) (yielded ops a.tmps)=false:=by
   by_cases m:∀p∈c,p.1=p.2
   ·rw[Ka m]at k;have l:¬ b=want:=λl=>e λp i=>by
     rcases Ys.1 i with i|i
     ·exact m p i
     ·simp at i;subst i;exact l
    simp[Region.wanted,k,l]
   ·rw[TJ m]at k;simp[Region.wanted,k,undef]
  rw[Y3 (by simp[E])];rw[TJ e]at f;exact x _ _ f
theorem WL.F5{d j t:Nat}{b1 b:Bool}
  (g:(ops[j]?).bind (·.dst)=some t) (i:Nat.blt t n=true) (a:look L t=some (gd b1 w1 (.bool b))) (hx:b1=w1->b=want->Ex P n L w ⟨some d,op,ty,pos,af,some (j,want)⟩ v w) (f:Nat.blt d n=true)
  (h:WL P n ops K rest ((d,gd b1 w1 (gd b want v))::L) w):WL P n ops K (⟨some d,op,ty,pos,af,some (j,want)⟩::rest) L w :=
 WL.F6 (c:=[(b1,w1)]) g i a (λe=>hx (e (b1,w1) sz) (e (b,want) sz)) f h
theorem WL.qg{d j t:Nat}{b1 a f b:Bool}
  (k:(ops[j]?).bind (·.dst)=some t) (l:Nat.blt t n=true) (g:look L t=some (gd b1 w1 (gd a f (.bool b)))) (hx:b1=w1->a=f->b=want->Ex P n L w ⟨some d,op,ty,pos,af,some (j,want)⟩ v w) (i:Nat.blt d n=true)
  (h:WL P n ops K rest ((d,gd b1 w1 (gd a f (gd b want v)))::L) w):WL P n ops K (⟨some d,op,ty,pos,af,some (j,want)⟩::rest) L w :=
 WL.F6 (c:=[(b1,w1),(a,f)]) k l g (λe=>hx (e (b1,w1) sz) (e (a,f) sz) (e (b,want) sz)) i h
theorem Ev.cK{x:Operand}{b1 a b:Bool}(c:b1=w1)(d:a=b)(h:ev L x=some (Gk.gd b1 w1 (Gk.gd a b v))):Ev n L x v:=by
 subst c;subst d;refine Ev.of (h.trans ?_);simp[Gk.gd]
theorem Ev.yP{x:Operand}{b1 a c b d:Bool}(e:b1=w1)(f:a=c)(g:b=d)(h:ev L x=some (Gk.gd b1 w1 (Gk.gd a c (Gk.gd b d v)))):Ev n L x v:=by
 subst e;subst f;subst g;refine Ev.of (h.trans ?_);simp[Gk.gd]
section pure
variable {d:Option Nat} {ty:TypeId} {pos:String} {af:Array Edge} {g:Option (Nat×Bool)}
theorem Ex.move{x:Operand}(hx:Ev n L x v):Ex P n L w ⟨d,.move x,ty,pos,af,g⟩ v w:=λa b=>by simp[execOp,hx a b]
theorem Ex.assign{x:Operand}(hx:Ev n L x v):Ex P n L w ⟨d,.assign x,ty,pos,af,g⟩ v w:=λa b=>by simp[execOp,hx a b]
theorem Ex.pick{c x y:Operand}{b:Bool}{u:Va}(f:Ev n L c (.bool b))(hx:Ev n L x u)(h:Ev n L y v):Ex P n L w ⟨d,.pick c x y,ty,pos,af,g⟩ (bif b then u else v) w :=
 λa e=>by cases b<;>simp[execOp,hx a e,h a e,f a e,asBool]
theorem Ex.por{c x y:Operand}{b r:Bool}(hc:Ev n L c (.bool b))(hx:Ev n L x (.bool true))(hy:Ev n L y (Gk.gd b false (.bool r))):Ex P n L w ⟨d,.pick c x y,ty,pos,af,g⟩ (.bool (b||r)) w :=
 λa e=>by cases b<;>simp[execOp,hx a e,hy a e,hc a e,asBool,Gk.gd]
theorem Ex.k3{c x y:Operand}{b r:Bool}(hc:Ev n L c (.bool b))(hx:Ev n L x (Gk.gd b true (.bool r)))(hy:Ev n L y (.bool false)):Ex P n L w ⟨d,.pick c x y,ty,pos,af,g⟩ (.bool (b&&r)) w :=
 λa e=>by cases b<;>simp[execOp,hx a e,hy a e,hc a e,asBool,Gk.gd]
theorem Ex.extract{x:Operand}{vs:Array Va}(hx:Ev n L x (.tuple vs))(hi:vs[i]?=some v):Ex P n L w ⟨d,.extract x i,ty,pos,af,g⟩ v w :=
 λa b=>by simp[execOp,hx a b,Instr.extract,hi]
theorem Ex.not{x:Operand}{b:Bool}{t:TypeId}(hx:Ev n L x (.bool b)):Ex P n L w ⟨d,.unOp .not t x,ty,pos,af,g⟩ (.bool (!b)) w :=
 λa c=>by simp[execOp,hx a c,Op.unary]
theorem Ex.nilCheck{x:Operand}(hx:Ev n L x (.pointer (some p))):Ex P n L w ⟨d,.nilCheck x,ty,pos,af,g⟩ (.pointer (some p)) w :=
 λa b=>by simp[execOp,hx a b]
variable {t t':TypeId} {x y:Operand}
theorem CV{op:BinOp}{u r:Va}(hx:Ev n L x u)(f:Ev n L y v)(c:∀p q,(eqGuard op t p q u v).run P w=.ok () w)(e:(binOp op t u v).run P w=.ok r w):Ex P n L w ⟨d,.binOp op t x y t',ty,pos,af,g⟩ r w :=
 λa b=>by simp[execOp,hx a b,f a b,c,e]
theorem Xj(op:BinOp)(k:IntKind)(a b:Int)(p q:Operand):(eqGuard op t p q (.int k a) (.int k b)).run P w=.ok () w:=by
 unfold eqGuard;split<;>simp
theorem vo(op:BinOp)(a b:ByteArray)(p q:Operand):(eqGuard op t p q (.string a) (.string b)).run P w=.ok () w:=by
 unfold eqGuard;split<;>simp
variable {k:IntKind} {i j:Int}
theorem Ex.lss(hx:Ev n L x (.int k i))(a:Ev n L y (.int k j)):Ex P n L w ⟨d,.binOp .lss t x y t',ty,pos,af,g⟩ (.bool (decide (i<j))) w :=
 CV hx a (Xj _ _ _ _) (by simp[binOp,Op.intCmp])
theorem Ex.leq(hx:Ev n L x (.int k i))(a:Ev n L y (.int k j)):Ex P n L w ⟨d,.binOp .leq t x y t',ty,pos,af,g⟩ (.bool (decide (i<=j))) w :=
 CV hx a (Xj _ _ _ _) (by simp[binOp,Op.intCmp])
theorem Ex.gtr(hx:Ev n L x (.int k i))(a:Ev n L y (.int k j)):Ex P n L w ⟨d,.binOp .gtr t x y t',ty,pos,af,g⟩ (.bool (decide (j<i))) w :=
 CV hx a (Xj _ _ _ _) (by simp[binOp,Op.intCmp])
theorem Ex.geq(hx:Ev n L x (.int k i))(a:Ev n L y (.int k j)):Ex P n L w ⟨d,.binOp .geq t x y t',ty,pos,af,g⟩ (.bool (decide (j<=i))) w :=
 CV hx a (Xj _ _ _ _) (by simp[binOp,Op.intCmp])
theorem Ex.eql(hx:Ev n L x (.int k i))(a:Ev n L y (.int k j)):Ex P n L w ⟨d,.binOp .eql t x y t',ty,pos,af,g⟩ (.bool (i==j)) w :=
 CV hx a (Xj _ _ _ _) (by simp[binOp,Op.intCmp])
theorem Ex.neq(hx:Ev n L x (.int k i))(a:Ev n L y (.int k j)):Ex P n L w ⟨d,.binOp .neq t x y t',ty,pos,af,g⟩ (.bool (i !=j)) w :=
 CV hx a (Xj _ _ _ _) (by simp[binOp,Op.intCmp])
theorem Ex.jO(hx:Ev n L x (.int k i))(a:Ev n L y (.int k j)):Ex P n L w ⟨d,.binOp .add t x y t',ty,pos,af,g⟩ (.int k (k.wrap (i+j))) w :=
 CV hx a (Xj _ _ _ _) (by simp[binOp,Op.intArith])
theorem Ex.Adi(hx:Ev n L x (.int k i))(a:Ev n L y (.int k j)):Ex P n L w ⟨d,.binOp .sub t x y t',ty,pos,af,g⟩ (.int k (k.wrap (i-j))) w :=
 CV hx a (Xj _ _ _ _) (by simp[binOp,Op.intArith])
theorem Ex.kS(hx:Ev n L x (.int k i))(a:Ev n L y (.int k j)):Ex P n L w ⟨d,.binOp .mul t x y t',ty,pos,af,g⟩ (.int k (k.wrap (i*j))) w :=
 CV hx a (Xj _ _ _ _) (by simp[binOp,Op.intArith])
abbrev FG(i:Int):Prop:=-9223372036854775808<=i/\i<=9223372036854775807
theorem x8{i:Int}(h:FG i):IntKind.i64.wrap i=i:=by
 obtain⟨a,b⟩:=h;rw[IntKind.wrap_i64];omega
theorem Ex.add(hx:Ev n L x (Ab i))(a:Ev n L y (Ab j))(h:FG (i+j)):Ex P n L w ⟨d,.binOp .add t x y t',ty,pos,af,g⟩ (Ab (i+j)) w :=
 CV hx a (Xj _ _ _ _) (by simp[binOp,Op.intArith,x8 h])
theorem Ex.sub(hx:Ev n L x (Ab i))(a:Ev n L y (Ab j))(h:FG (i-j)):Ex P n L w ⟨d,.binOp .sub t x y t',ty,pos,af,g⟩ (Ab (i-j)) w :=
 CV hx a (Xj _ _ _ _) (by simp[binOp,Op.intArith,x8 h])
theorem Ex.mul(hx:Ev n L x (Ab i))(a:Ev n L y (Ab j))(h:FG (i*j)):Ex P n L w ⟨d,.binOp .mul t x y t',ty,pos,af,g⟩ (Ab (i*j)) w :=
 CV hx a (Xj _ _ _ _) (by simp[binOp,Op.intArith,x8 h])
theorem Ex.eqp{p:Oa}{e:TypeId}(hx:Ev n L x (.pointer p))(b:Ev n L y (.pointer none))(a:P.underlying t=some (.pointer e)):Ex P n L w ⟨d,.binOp .eql t x y t',ty,pos,af,g⟩ (.bool p.isNone) w :=
 CV hx b (λ_ _=>by unfold eqGuard;split<;>simp) (run_eql_pointer_nil w t p (by simp[Program.pointee,a]))
theorem Ex.nep{p:Oa}{e:TypeId}(hx:Ev n L x (.pointer p))(b:Ev n L y (.pointer none))(a:P.underlying t=some (.pointer e)):Ex P n L w ⟨d,.binOp .neq t x y t',ty,pos,af,g⟩ (.bool (!p.isNone)) w :=
 CV hx b (λ_ _=>by unfold eqGuard;split<;>simp) (run_neq_pointer_nil w t p (by simp[Program.pointee,a]))
variable {l m:Lu}
theorem Ex.eqs(hx:Ev n L x (S l))(a:Ev n L y (S m)):Ex P n L w ⟨d,.binOp .eql t x y t',ty,pos,af,g⟩ (.bool (l==m)) w :=
 CV hx a (vo _ _ _) (by simp[binOp,Op.stringOp])
theorem Ex.uL(hx:Ev n L x (S l))(a:Ev n L y (S m)):Ex P n L w ⟨d,.binOp .neq t x y t',ty,pos,af,g⟩ (.bool (!(l==m))) w :=
 CV hx a (vo _ _ _) (by simp[binOp,Op.stringOp])
theorem Ex.cat(hx:Ev n L x (S l))(e:Ev n L y (S m))(h:((l.length+m.length:Nat):Int)<=9223372036854775807):Ex P n L w ⟨d,.binOp .add t x y t',ty,pos,af,g⟩ (S (l++m)) w :=
 CV hx e (vo _ _ _) (by
  have a:((ByteArray.size ⟨l.toArray⟩+ByteArray.size ⟨m.toArray⟩:Nat):Int)=((l.length+m.length:Nat):Int):=rfl;have b:¬ (((l.length+m.length:Nat):Int) > IntKind.i64.max):=by show ¬ ((l.length+m.length:Nat):Int) > 9223372036854775807;omega
  have c:(⟨l.toArray⟩++⟨m.toArray⟩:ByteArray)=⟨(l++m).toArray⟩:=by
   apply ByteArray.ext
   simp
  simp only[binOp,Op.stringOp,a,Y3 b,c,Sem.run_pure])
theorem KQ{t e:TypeId}(a:P.underlying t=some (.slice e)):P.elem t=e:=by simp[Program.elem,a]
theorem Ex.len(hx:Ev n L x (S l))(b:P.underlying t=some .string):Ex P n L w ⟨d,.call ⟨.builtin .len,#[x],#[t]⟩,ty,pos,af,g⟩ (Ab l.length) w :=
 λa c=>by
  have h:=run_len_string (P:=P) w t ty ⟨l.toArray⟩ b;simp[execOp,resolve,invoke,builtin,hx a c,h,goInt,ByteArray.size]
theorem Ex.CK{p:Oa}{k:Nat}{e:TypeId}(hx:Ev n L x (.slice p k c))(b:P.underlying t=some (.slice e)):Ex P n L w ⟨d,.call ⟨.builtin .len,#[x],#[t]⟩,ty,pos,af,g⟩ (Ab k) w :=
 λa f=>by
  have h:=run_len_slice (P:=P) w t ty p k c (by rw[KQ b];exact b);simp[execOp,resolve,invoke,builtin,hx a f,h,goInt]
def at_(l:Lu)(i:Int):Ui:=l.getD i.toNat 0
theorem Ex.kI{c:Ui}(hx:Ev n L x (S l))(o:Ev n L y (Ab i))(hi:0<=i)(e:l[i.toNat]?=some c)(m:P.underlying t=some .string):Ex P n L w ⟨d,.index t x y,ty,pos,af,g⟩ (U8 c.toNat) w :=
 λa b=>by
  have p:i.toNat<l.length:=(Y1.1 e).1;have f:=(Y1.1 e).2;have j:0<=i/\i<((ByteArray.size ⟨l.toArray⟩:Nat):Int):=⟨hi,by show i<(l.length:Int);omega⟩
  have h:=run_index_string (P:=P) w t ⟨l.toArray⟩ .i64 i m;rw[dif_pos j]at h;have k:(⟨l.toArray⟩:ByteArray)[i.toNat]'(by show i.toNat<l.length;omega)=c:=f;rw[k]at h;simp[execOp,hx a b,o a b,h]
theorem Ex.index(hx:Ev n L x (S l))(c:Ev n L y (Ab i))(hi:0<=i)(e:i<(l.length:Int))(b:P.underlying t=some .string):Ex P n L w ⟨d,.index t x y,ty,pos,af,g⟩ (U8 (at_ l i).toNat) w:=by
 have a:i.toNat<l.length:=om
 refine Ex.kI hx c hi ?_ b;rw[at_,Yf,Y2 a];rfl
theorem x7(l:Lu)(a b:Nat):(Value.string ((⟨l.toArray⟩:ByteArray).extract a b))=S ((l.drop a).take (b-a)):=by
 rw[S,Lib.extract_eq]
theorem Ex.H7{z:Operand}(hx:Ev n L x (S l))(m:Ev n L y (Ab i))(o:Ev n L z (Ab j))(e:0<=i)(f:i<=j)(k:j<=(l.length:Int))(c:P.underlying t=some .string):Ex P n L w ⟨d,.slice t x (some y) (some z) none,ty,pos,af,g⟩ (S ((l.drop i.toNat).take (j.toNat-i.toNat))) w:=λa b=>by
 have h:=run_slice_string (P:=P) w t ⟨l.toArray⟩ .i64 .i64 i j c e f k;rw[x7]at h;simp[execOp,hx a b,m a b,o a b,run_sliceAt_string w t _ _ _ _ c,h]
theorem Ex.Ee(hx:Ev n L x (S l))(k:Ev n L y (Ab i))(f:0<=i)(j:i<=(l.length:Int))(b:P.underlying t=some .string):Ex P n L w ⟨d,.slice t x (some y) none none,ty,pos,af,g⟩ (S (l.drop i.toNat)) w:=λa c=>by
 have h:=run_slice_string_l (P:=P) w t ⟨l.toArray⟩ b .i64 i f j;rw[x7]at h;have e:(l.drop i.toNat).take ((⟨l.toArray⟩:ByteArray).size-i.toNat)=l.drop i.toNat:=Yo (by simp[ByteArray.size]);rw[e]at h;simp[execOp,hx a c,k a c,run_sliceAt_string w t _ _ _ _ b,h]
theorem Ex.gZ{z:Operand}(hx:Ev n L x (S l))(i:Ev n L z (Ab j))(e:0<=j)(f:j<=(l.length:Int))(b:P.underlying t=some .string):Ex P n L w ⟨d,.slice t x none (some z) none,ty,pos,af,g⟩ (S (l.take j.toNat)) w:=λa c=>by
 have h:=run_slice_string_h (P:=P) w t ⟨l.toArray⟩ b .i64 j e f;rw[x7]at h;simp only[FY,nM]at h
 simp[execOp,hx a c,i a c,run_sliceAt_string w t _ _ _ _ b,h]
theorem Ex.min2{z:Operand}(hx:Ev n L x (.int k i))(c:Ev n L z (.int k j)):Ex P n L w ⟨d,.call ⟨.builtin .min,#[x,z],ts⟩,ty,pos,af,g⟩ (.int k (min i j)) w:=λa b=>by
 have e:(if j<i then j else i)=min i j:=by split<;>omega
 simp[execOp,resolve,invoke,builtin,hx a b,c a b,Builtin.min_,Builtin.min2,e]
theorem Ex.max2{z:Operand}(hx:Ev n L x (.int k i))(c:Ev n L z (.int k j)):Ex P n L w ⟨d,.call ⟨.builtin .max,#[x,z],ts⟩,ty,pos,af,g⟩ (.int k (max i j)) w:=λa b=>by
 have e:(if i<j then j else i)=max i j:=by split<;>omega
 simp[execOp,resolve,invoke,builtin,hx a b,c a b,Builtin.max_,Builtin.max2,e]
end pure
end
def jX:BinOp->Value->Value->Option (Value×Option Prop)
 | .lss,.int k a,.int c b=>if k=c then some (.bool (decide (a<b)),none)else none
 | .leq,.int k a,.int c b=>if k=c then some (.bool (decide (a<=b)),none)else none
 | .gtr,.int k a,.int c b=>if k=c then some (.bool (decide (b<a)),none)else none
 | .geq,.int k a,.int c b=>if k=c then some (.bool (decide (b<=a)),none)else none
 | .eql,.int k a,.int c b=>if k=c then some (.bool (a==b),none)else none
 | .neq,.int k a,.int c b=>if k=c then some (.bool (a !=b),none)else none
 | .eql,.string ⟨⟨a⟩⟩,.string ⟨⟨b⟩⟩=>some (.bool (a==b),none)
 | .neq,.string ⟨⟨a⟩⟩,.string ⟨⟨b⟩⟩=>some (.bool (!(a==b)),none)
 | .add,.int .i64 a,.int .i64 b=>some (.int .i64 (a+b),some (FG (a+b)))
 | .sub,.int .i64 a,.int .i64 b=>some (.int .i64 (a-b),some (FG (a-b)))
 | .mul,.int .i64 a,.int .i64 b=>some (.int .i64 (a*b),some (FG (a*b)))
 | .add,.string ⟨⟨a⟩⟩,.string ⟨⟨b⟩⟩=>some (.string ⟨⟨a++b⟩⟩,some (((a.length+b.length:Nat):Int)<=9223372036854775807))
 | _,_,_=>none
def xX(P:Program)(L:AB):Op->Option (Value×Option Prop)
 | .move x=>match ev L x with
  | some v=>some (v,none)
  | none=>none
 | .assign x=>match ev L x with
  | some v=>some (v,none)
  | none=>none
 | .extract x i=>match ev L x with
  | some (.tuple vs)=>match vs[i]? with
   | some v=>some (v,none)
   | none=>none
  | _=>none
 | .nilCheck x=>match ev L x with
  | some (.pointer (some p))=>some (.pointer (some p),none)
  | _=>none
 | .unOp .not _ x=>match ev L x with
  | some (.bool b)=>some (.bool (!b),none)
  | _=>none
 | .binOp op _ x y _=>match ev L x with
  | some u=>match ev L y with
   | some v=>jX op u v
   | none=>none
  | none=>none
 | .call ⟨.builtin .len,⟨[x]⟩,⟨[t]⟩⟩=>match ev L x with
  | some (.string ⟨⟨l⟩⟩)=>some (.int .i64 (l.length:Nat),some (P.underlying t=some .string))
  | some (.slice _ k _)=>some (.int .i64 (k:Nat),some (∃e,P.underlying t=some (.slice e)))
  | _=>none
 | .index t x y=>match ev L x with
  | some (.string ⟨⟨l⟩⟩)=>match ev L y with
   | some (.int .i64 i)=>some (U8 (at_ l i).toNat,some ((0<=i/\i<(l.length:Int))/\P.underlying t=some .string))
   | _=>none
  | _=>none
 | _=>none
def x4(P:Program)(n:Nat)(L:AB)(o:Oper):Option (Nat×Value×Option Prop) :=
 match o.dst,o.guard with
 | some d,none=>match Nat.blt d n with
  | true=>match xX P L o.op with
   | some (v,c)=>some (d,v,c)
   | none=>none
  | false=>none
 | _,_=>none
def runs(P:Program)(n:Nat):Nat->List Oper->AB->List Oper×AB×Prop
 | 0,l,L=>(l,L,True)
 | _+1,[],L=>([],L,True)
 | k+1,o::r,L=>match x4 P n L o with
  | some (d,v,none)=>runs P n k r ((d,v)::L)
  | some (d,v,some c)=>match runs P n k r ((d,v)::L)with
   | (a,L',C)=>(a,L',c/\C)
  | none=>(o::r,L,True)
section
variable {P:Program} {n:Nat} {K:Bk} {L:AB} {w:Wo} {ops:Array Oper}
def Holds?:Option Prop->Prop
 | none=>True
 | some c=>c
theorem bN{t:TypeId}{g:Option (Nat×Bool)}{x y:Operand}{op:BinOp}{u r:Va}{c:Option Prop}(hx:Ev n L x u)(a:Ev n L y v)(h:jX op u v=some (r,c))(b:Holds? c):Ex P n L w ⟨d,.binOp op t x y t',ty,pos,af,g⟩ r w:=by
 unfold jX at h;split at h
 ·split at h
  ·rename_i e;subst e;cases h;exact .lss hx a
  ·cases h
 ·split at h
  ·rename_i e;subst e;cases h;exact .leq hx a
  ·cases h
 ·split at h
  ·rename_i e;subst e;cases h;exact .gtr hx a
  ·cases h
 ·split at h
  ·rename_i e;subst e;cases h;exact .geq hx a
  ·cases h
 ·split at h
  ·rename_i e;subst e;cases h;exact .eql hx a
  ·cases h
 ·split at h
  ·rename_i e;subst e;cases h;exact .neq hx a
  ·cases h
 ·cases h;exact .eqs hx a
 ·cases h;exact .uL hx a
 ·cases h;exact .add hx a b
 ·cases h;exact .sub hx a b
 ·cases h;exact .mul hx a b
 ·cases h;exact .cat hx a b
 ·cases h
theorem Xzg{g:Option (Nat×Bool)}{c:Option Prop}(h:xX P L op=some (v,c))(a:Holds? c):Ex P n L w ⟨d,op,ty,pos,af,g⟩ v w:=by
 unfold xX at h;split at h
 ·split at h
  ·rename_i hx;cases h;exact .move (.of hx)
  ·cases h
 ·split at h
  ·rename_i hx;cases h;exact .assign (.of hx)
  ·cases h
 ·split at h
  ·rename_i hx
   split at h
   ·rename_i hi;cases h;exact .extract (.of hx) hi
   ·cases h
  ·cases h
 ·split at h
  ·rename_i hx;cases h;exact .nilCheck (.of hx)
  ·cases h
 ·split at h
  ·rename_i hx;cases h;exact .not (.of hx)
  ·cases h
 ·split at h
  ·rename_i hx
   split at h
   ·rename_i b;exact bN (.of hx) (.of b) h a
   ·cases h
  ·cases h
 ·split at h
  ·rename_i hx;cases h;exact .len (.of hx) a
  ·rename_i hx;cases h
   obtain⟨e,f⟩:=a;exact .CK (.of hx) f
  ·cases h
 ·split at h
  ·rename_i hx
   split at h
   ·rename_i b;cases h;exact .index (.of hx) (.of b) a.1.1 a.1.2 a.2
   ·cases h
  ·cases h
 ·cases h
theorem WL.OA{o:Oper}{r:List Oper}{d:Nat}{c:Option Prop}(a:x4 P n L o=some (d,v,c))(b:Holds? c)(h:WL P n ops K r ((d,v)::L) w):WL P n ops K (o::r) L w:=by
 obtain⟨dst,op,ty,pos,af,g⟩:=o;unfold x4 at a;cases dst with
 | none=>cases a
 | some d =>
  cases g with
  | some g=>cases a
  | none =>
   simp only at a
   split at a
   ·rename_i e
    split at a
    ·rename_i v c f
     cases a
     exact WL.val (Xzg f b) e h
    ·cases a
   ·cases a
theorem WL.H5:∀(k:Nat) (l:List Oper) (L:AB),(runs P n k l L).2.2->WL P n ops K (runs P n k l L).1 (runs P n k l L).2.1 w->WL P n ops K l L w
 | 0,_,_,_,h=>h
 | _+1,[],_,_,h=>h
 | k+1,o::r,L,a,h=>by
  unfold runs at h a;split at h
  ·rename_i d v b
   rw[b]at a;exact WL.OA b trivial (WL.H5 k r ((d,v)::L) a h)
  ·rename_i d v c b
   rw[b]at a;simp only at a h
   exact WL.OA b a.1 (WL.H5 k r ((d,v)::L) a.2 h)
  ·exact h
theorem WL.run(k:Nat){l r:List Oper}{M:AB}{C:Prop}(a:runs P n k l L=(r,M,C))(b:C)(h:WL P n ops K r M w):WL P n ops K l L w:=by
 refine .H5 k l L ?_ ?_
 ·rw[a];exact b
 ·rw[a];exact h
end
theorem WL.q{K:Bk}{L:AB}(k:Nat){l r:List Oper}{M:AB}(a:runs P n k l L=(r,M,True))(h:WL P n ops K r M w):WL P n ops K l L w:=WL.run k a trivial h
theorem WC.q{K:Bk}{L:AB}(k:Nat){b:Nat}{l:List Oper}{M:AB}(a:runs P n k l L=([],M,True))(h:K .normal M w):WC P n (.region b l.toArray false) K L w:=WC.region (WL.run k a trivial (WL.nil h))
theorem WC.t{K:Bk}{L:AB}(k:Nat){b:Nat}{l r:List Oper}{M:AB}(a:runs P n k l L=(r,M,True))(h:WL P n l.toArray K r M w):WC P n (.region b l.toArray false) K L w:=WC.region (WL.run k a trivial h)
abbrev TU:=List (Nat×Obj)
abbrev X1:=TU->Prop
abbrev La:=List X1
abbrev Im:=Nat->Option Obj
def own(b:Nat)(o:Obj):X1:=λh=>h=[(b,o)]
def Xh(cs:Lv)(E:TypeId):Obj:=.cells cs.toArray E (0,0)
def Ac(b:Nat)(cs:Lv)(E:TypeId):X1:=own b (Xh cs E)
abbrev ptr(b o:Nat):Va:=.pointer (some ⟨b,o,none⟩)
def Am:List X1->X1
 | [],h=>h=[]
 | A::N,h=>∃a b,h=a++b/\A a/\Am N b
@[reducible] def Um:List X1->List X1->List X1
 | [],R=>R
 | A::l,R=>A::Um l R
theorem Lc:∀l R:La,Um l R=l++R
 | [],_=>rfl
 | A::l,R=>by simp[Um,Lc l R]
structure Good(B w:Wo)(I:Im)(h:TU):Prop where
 os:w.os=B.os
 tape:w.tape=B.tape
 output:w.output=B.output
 GN:∀b o,I b=some o->w.heap[b]?=some o
 own:∀b o,(b,o)∈h->w.heap[b]?=some o
 nodup:(h.map (·.1)).Nodup
 apart:∀b o,(b,o)∈h->I b=none
class inductive Aa (B:outParam World) (w:World) (I:outParam Im) (N:outParam (List X1)):Prop where
 | mk (h:TU) (s:Am N h) (g:Good B w I h):Aa B w I N
class Le(I:outParam Im)(J:Im):Prop where
 h:∀b o,I b=some o->J b=some o
theorem Le.refl(I:Im):Le I I:=⟨λ_ _ h=>h⟩
theorem Le.trans{I J M:Im}(h:Le I J)(k:Le J M):Le I M:=⟨λb o e=>k.h b o (h.h b o e)⟩
theorem Good.perm{I:Im}{h h':TU}(g:Good B w I h)(p:h.Perm h'):Good B w I h' :=
 ⟨g.os,g.tape,g.output,g.GN,λb o a=>g.own b o (p.mem_iff.2 a),(p.map _).nodup_iff.1 g.nodup,λb o a=>g.apart b o (p.mem_iff.2 a)⟩
theorem Good.left{I:Im}{h c:TU}(g:Good B w I (h++c)):Good B w I h :=
 ⟨g.os,g.tape,g.output,g.GN,λb o a=>g.own b o (f_ _ a),by have:=g.nodup;rw[Yn]at this;exact(yq.1 this).1,λb o a=>g.apart b o (f_ _ a)⟩
theorem Good.right{I:Im}{h h':TU}(g:Good B w I (h++h')):Good B w I h' :=
 (g.perm T3).left
theorem Am.at_:∀{N:La} {k:Nat} {A:X1} {h:TU},N[k]?=some A->Am N h->
  ∃e b,h.Perm (e++b)/\A e/\(∀(g:X1) (a:TU),g a->∃c,Am (N.set k g) c/\c.Perm (a++b))/\(∃c,Am (N.eraseIdx k) c/\c.Perm b)
 | [],_,_,_,f,_=>by simp at f
 | A0::N,0,A,h,f,p=>by
  obtain⟨e,b,rfl,m,l⟩:=p;simp at f
  subst f;exact⟨e,b,.refl _,m,λg a d=>⟨a++b,⟨a,b,O,d,l⟩,.refl _⟩,⟨b,l,.refl _⟩⟩
 | A0::N,k+1,A,h,f,p=>by
  obtain⟨g1,g2,rfl,i,l⟩:=p;obtain⟨e,b,t,m,j,r,s,o⟩:=Am.at_ (N:=N) (k:=k) (su f) l;refine⟨e,g1++b,?_,m,λg a d=>?_,⟨g1++r,⟨g1,r,O,i,s⟩,o.append_left g1⟩⟩
  ·refine(t.append_left g1).trans ?_;rw[<-Yg,<-Yg];exact T3.append_right _
  ·obtain⟨c,q,n⟩:=j g a d;refine⟨g1++c,⟨g1,c,O,i,q⟩,(n.append_left g1).trans ?_⟩;rw[<-Yg,<-Yg];exact T3.append_right _
section
variable {B w w':Wo} {I:Im} {N:La} {k:Nat} {A A':X1} {b:Nat} {o o':Obj}
theorem Aa.block(c:Aa B w I N)(e:N[k]?=some (own b o)):w.heap[b]?=some o:=by
 obtain⟨h,g,d⟩:=c;obtain⟨i,j,f,a,_⟩:=g.at_ e;rw[own]at a;subst a;exact(d.perm f).own b o sz
theorem Aa.say(f:Aa B w I N)(l:N[k]?=some A)(h:∀h,A h->A' h):Aa B w I (N.set k A'):=by
 obtain⟨g,n,j⟩:=f;obtain⟨d,o,m,i,a,_⟩:=n.at_ l;obtain⟨e,c,b⟩:=a A' d (h d i);exact⟨e,c,j.perm (m.trans b.symm)⟩
theorem Aa.opened(f:Aa B w I N)(l:N[k]?=some A){T:X->X1}(h:∀h,A h->∃x,T x h):∃x,Aa B w I (N.set k (T x)):=by
 obtain⟨g,n,j⟩:=f;obtain⟨d,o,m,i,a,_⟩:=n.at_ l;obtain⟨x,hx⟩:=h d i;obtain⟨e,c,b⟩:=a (T x) d hx;exact⟨x,e,c,j.perm (m.trans b.symm)⟩
theorem Aa.CM(b:Aa B w I N)(d:N[k]?=some A){p:Prop}(h:∀h,A h->p):p:=by
 obtain⟨g,e,i⟩:=b;obtain⟨a,f,j,c,_⟩:=e.at_ d;exact h a c
theorem Aa.drop(c:Aa B w I N)(f:N[k]?=some A):Aa B w I (N.eraseIdx k):=by
 obtain⟨h,i,e⟩:=c;obtain⟨j,l,g,_,_,b,d,a⟩:=i.at_ f;exact⟨b,d,(e.perm g).right.perm a.symm⟩
theorem Aa.freeze(j:Aa B w I N)(p:N[k]?=some (own b o)):∃J,Le I J/\J b=some o/\Aa B w J (N.eraseIdx k):=by
 obtain⟨h,s,n⟩:=j;obtain⟨t,f,r,c,_,i,m,a⟩:=s.at_ p;rw[own]at c;subst c;have g:=n.perm r;have l:I b=none:=g.apart b o sz;refine⟨λx=>if x=b then some o else I x,⟨λx y hx=>?_⟩,by simp,i,m,Good.perm ?_ a.symm⟩
 ·by_cases e:x=b
  ·subst e;rw[l]at hx;cases hx
  ·simpa[e]using hx
 ·have q:b ∉ f.map (·.1):=by
   have:=g.nodup
   simp only[Em,Db,Yu,T6]at this
   exact this.1
  refine⟨g.os,g.tape,g.output,λx y hx=>?_,g.right.own,g.right.nodup,λx y d=>?_⟩
  ·by_cases e:x=b
   ·subst e;simp at hx
    subst hx;exact g.own _ _ sz
   ·simp[e]at hx
    exact g.GN x y hx
  ·have e:x≠b:=λe=>q (e▸gg d)
   simpa[e]using g.right.apart x y d
abbrev Aa.fZ{B w:Wo}{I:Im}{N:La}(hS:Aa B w I N)(k:Nat){b:Nat}{o:Obj}(hk:N[k]?=some (own b o):=by rfl):=hS.freeze hk
theorem Aa.world(i:Aa B w I N)(d:w'.os=w.os)(f:w'.tape=w.tape)(g:w'.output=w.output)(c:w'.heap=w.heap):Aa B w' I N:=by
 obtain⟨h,j,a⟩:=i;exact⟨h,j,d.trans a.os,f.trans a.tape,g.trans a.output,λb o e=>by rw[c];exact a.GN b o e,λb o e=>by rw[c];exact a.own b o e,a.nodup,a.apart⟩
theorem Aa.drew(a:Aa B w I N):Aa B w.drew I N:=a.world O O O O
theorem Aa.alloc(f:Aa B w I N)(o:Obj):Aa B (w.alloc o) I (own w.heap.size o::N):=by
 obtain⟨h,g,c⟩:=f;have d:∀b x,w.heap[b]?=some x->b<w.heap.size:=λb x e=>(Jo.1 e).1
 have BQ:∀b x,w.heap[b]?=some x->(w.alloc o).heap[b]?=some x:=λb x e=>by
  rw[heap_alloc_old w o (d b x e)];exact e
 refine⟨(w.heap.size,o)::h,⟨[(w.heap.size,o)],h,O,O,g⟩,c.os,c.tape,c.output,λb x e=>BQ b x (c.GN b x e),λb x a=>?_,?_,λb x a=>?_⟩
 ·rcases Yp.1 a with e|a
  ·cases e
   exact heap_alloc_new w o
  ·exact BQ b x (c.own b x a)
 ·simp only[Yu,T6]
  refine⟨λa=>?_,c.nodup⟩;obtain⟨⟨b,x⟩,a,e⟩:=Dt.1 a
  have:=d b x (c.own b x a)
  simp at e
  omega
 ·rcases Yp.1 a with e|a
  ·cases e
   cases hi:I w.heap.size with
   | none=>rfl
   | some y=>have:=d _ _ (c.GN _ _ hi);omega
  ·exact c.apart b x a
theorem Aa.write(s:Aa B w I N)(v:N[k]?=some (own b o))(p:w'.os=w.os)(q:w'.tape=w.tape)(r:w'.output=w.output)(t:w'.heap[b]?=some o')(f:∀c,c≠b->w'.heap[c]?=w.heap[c]?):Aa B w' I (N.set k (own b o')):=by
 obtain⟨h,C,u⟩:=s;obtain⟨g1,g2,A,m,i,_⟩:=C.at_ v;rw[own]at m;subst m;obtain⟨n,l,j⟩:=i (own b o') [(b,o')] O;have g:=u.perm A;have z:b ∉ g2.map (·.1):=by
  have:=g.nodup
  simp only[Em,Db,Yu,T6]at this
  exact this.1
 refine⟨n,l,Good.perm ?_ j.symm⟩;refine⟨p.trans g.os,q.trans g.tape,r.trans g.output,λx y e=>?_,λx y a=>?_,su g.nodup,λx y a=>?_⟩
 ·have d:x≠b:=λd=>by have:=g.apart b o sz;rw[<-d,e]at this;cases this
  rw[f x d];exact g.GN x y e
 ·rcases Yp.1 a with e|a
  ·cases e;exact t
  ·have d:x≠b:=λd=>z (d▸gg a)
   rw[f x d];exact g.own x y (Si _ a)
 ·rcases Yp.1 a with e|a
  ·cases e;exact g.apart b o sz
  ·exact g.apart x y (Si _ a)
end
def An(E size:Nat)(v:Va)(n:Nat)(xs:Lv):X1:=λh =>
 xs.length=n*size/\((v=.slice none 0 0/\n=0/\h=[])\/
  ∃g cap rest,v=.slice (some ⟨g,0,none⟩) n cap/\h=[(g,Xh (xs++rest) E)]/\n<=cap/\cap<=maxLen/\xs.length+rest.length=cap*size)
section
variable {B w w':Wo} {I:Im} {N:La} {k:Nat} {A A':X1} {b:Nat} {o o':Obj} {E size n:Nat} {v:Va} {xs:Lv}
theorem Aa.Ai(a:Aa B w I N)(E size:Nat):Aa B w I (An E size (.slice none 0 0) 0 []::N):=by
 obtain⟨h,c,b⟩:=a;exact⟨h,⟨[],h,O,⟨by simp,.inl ⟨O,O,O⟩⟩,c⟩,b⟩
theorem Aa.A2(b:Aa B w I N){g:Nat}(d:N[k]?=some (Ac g cs E))(a:cs.length=n*size)(e:n<=maxLen):Aa B w I (N.set k (An E size (.slice (some ⟨g,0,none⟩) n n) n cs)) :=
 b.say d λ_ c=>⟨a,.inr ⟨g,n,[],O,by rw[Yy];exact c,Ya _,e,su a⟩⟩
theorem Aa.AF(j:Aa B w I N)(o:N[k]?=some (An E size v n xs))(y:0<n):∃(b cap:Nat) (r:Lv),v=.slice (some ⟨b,0,none⟩) n cap/\n<=cap/\cap<=maxLen/\xs.length=n*size/\xs.length+r.length=cap*size/\Aa B w I (N.set k (Ac b (xs++r) E)):=by
 obtain⟨g,s,m⟩:=j;obtain⟨u,x,q,⟨p,l⟩,a,_⟩:=s.at_ o;rcases l with⟨_,t,_⟩|⟨b,cap,rest,rfl,rfl,f,h,i⟩
 ·omega
 ·obtain⟨e,d,c⟩:=a (Ac b (xs++rest) E) _ O;exact⟨b,cap,rest,O,f,h,p,i,e,d,m.perm (q.trans c.symm)⟩
theorem Aa.AR(d:Aa B w I N){g:Nat}{rest:Lv}(f:N[k]?=some (Ac g (xs++rest) E))(a:n<=cap)(b:cap<=maxLen)(h:xs.length=n*size)(c:xs.length+rest.length=cap*size):Aa B w I (N.set k (An E size (.slice (some ⟨g,0,none⟩) n cap) n xs)) :=
 d.say f λ_ e=>⟨h,.inr ⟨g,cap,rest,O,e,a,b,c⟩⟩
theorem Aa.AG(e:Aa B w I N)(h:N[k]?=some (An E size v n xs)):∃a c,v=.slice a n c/\n<=c/\xs.length=n*size :=
 e.CM h λ_ ⟨b,f⟩=>by
  rcases f with⟨rfl,rfl,_⟩|⟨g,cap,rest,rfl,_,d,_⟩
  ·exact⟨none,0,O,Ya _,b⟩
  ·exact⟨_,_,O,d,b⟩
abbrev Aa.vS{B w:Wo}{I:Im}{N:La}(hS:Aa B w I N)(k:Nat){E n1 n:Nat}{v:Va}{xs:Lv}(hk:N[k]?=some (An E n1 v n xs):=by rfl):=hS.AG hk
theorem u3(Y:Aa B w I N){t:TypeId}{i:TypeInfo}{z:Va}(ht:P.underlying t=some (.slice E))(hi:P.info? E=some i)(hz:i.zero=some z)
  (J:i.size=size) (ae:i.bytes=bytes) (ao:z.cells.size=size) (U:N[k]?=some (An E size v n xs))    (y:news.length=m*size) (hm:0<m)
  (d:∀j u,news[j]?=some u->w.cell? (p.add j)=some u) (X:∀u∈news,u.oneCell'=true) (M:n+m<=maxLen) (f:(n+m)*bytes<=140737488355328) :∃v' w',(Builtin.append_ #[t,t] ty #[v,.slice (some p) m c]).run P w=.ok v' w'/\Aa B w' I (N.set k (An E size v' (n+m) (xs++news))):=by
 subst J;subst ae;have Z:n+m<=9223372036854775807:=by simp only[maxLen]at M;omega
 have r:xs.length=n*i.size:=Y.CM U λh ⟨y,_⟩=>y
 have o:(xs++news).length=(n+m)*i.size:=by rw[Y0,r,y,F0]
 have grown:∀(a:Nat),Aa B (w.drew.alloc (.cells (xs.toArray++news.toArray++Builtin.zeroCells z.cells (grownCap w (n+m) a E-(n+m))) E)) I
   (N.set k (An E i.size (.slice (some ⟨w.heap.size,0,none⟩) (n+m) (grownCap w (n+m) a E)) (n+m) (xs++news))):=by
  intro a;have ag:=grownCap_ge w (n+m) a E;have D:grownCap w (n+m) a E<=maxLen:=grownCap_le_maxLen w (n+m) a E M;have Q:=Y.drew.alloc (.cells (xs.toArray++news.toArray++Builtin.zeroCells z.cells (grownCap w (n+m) a E-(n+m))) E);have e1:(own w.drew.heap.size (.cells (xs.toArray++news.toArray++Builtin.zeroCells z.cells (grownCap w (n+m) a E-(n+m))) E))=Ac w.heap.size ((xs++news)++(Builtin.zeroCells z.cells (grownCap w (n+m) a E-(n+m))).toList) E:=by
   unfold Ac Xh
   congr 2
   apply Array.ext'
   simp
  rw[e1]at Q;have ad:=Q.AR (k:=0) (cap:=grownCap w (n+m) a E) O ag D o (by
   rw[o,Sj,size_zeroCells,ao,<-F0]
   congr 1
   omega)
  -- the new one stands at the a qF place
  obtain⟨h,hs,hg⟩:=ad;obtain⟨q1,q2,rfl,ai,aj⟩:=hs;obtain⟨L,A,hp,_,q,_⟩:=Am.at_ U aj;obtain⟨h',H,G⟩:=q _ q1 ai;have g2:Good B (w.drew.alloc (.cells (xs.toArray++news.toArray++Builtin.zeroCells z.cells (grownCap w (n+m) a E-(n+m))) E)) I (q1++A):=by
   have g:=hg.perm (hp.append_left q1)
   have:(q1++(L++A)).Perm ((q1++A)++L):=by
    rw[Yg];exact(T3).append_left q1
   exact(g.perm this).left
  exact⟨h',H,g2.perm G.symm⟩
 have C:(v=.slice none 0 0/\n=0)\/∃g cap rest,v=.slice (some ⟨g,0,none⟩) n cap/\n<=cap/\cap<=maxLen/\xs.length+rest.length=cap*i.size/\Aa B w I (N.set k (Ac g (xs++rest) E)):=by
  by_cases hn:0<n
  ·obtain⟨g,cap,rest,X,h2,h3,_,h5,h6⟩:=Y.AF U hn;exact .inr ⟨g,cap,rest,X,h2,h3,h5,h6⟩
  ·obtain⟨g,hs,hg⟩:=Y;obtain⟨X,h2,hp,⟨y,ha⟩,q,_⟩:=hs.at_ U;rcases ha with⟨hv,h0,_⟩|⟨b,cap,rest,rfl,rfl,h3,h4,h5⟩
   ·exact .inl ⟨hv,h0⟩
   ·obtain⟨h',H,G⟩:=q (Ac b (xs++rest) E) _ O;exact .inr ⟨b,cap,rest,O,h3,h4,h5,h',H,hg.perm (hp.trans G.symm)⟩
 rcases C with⟨rfl,rfl⟩|⟨g,cap,rest,rfl,a6,D,S,R⟩
 ·have hx:xs=[]:=Yi (su r);subst hx;have K:=run_append_nil (P:=P) w t ty E i z ht hi hz p m c news y d hm om (by have hb:=f;simp only[Yk]at hb;omega);have T:=grown 0;simp only[Yk,Db,uj]at T ⊢
  exact⟨_,_,K,T⟩
 ·have W:k<N.length:=(Y1.1 U).1;have V:(N.set k (Ac g (xs++rest) E))[k]?=some (Ac g (xs++rest) E):=by simp[W]
  have l:=R.block V
  by_cases e:n+m<=cap
  ·have s:n*i.size+news.length<=(xs++rest).toArray.size:=by
    simp only[nH,Y0]
    rw[S,y,<-F0];exact T4 _ e
   have K:=run_append_room (P:=P) w t ty E i ht hi g n cap (xs++rest).toArray l p m c news y d X e s;have e2:((xs++rest).take (n*i.size)++news++(xs++rest).drop (n*i.size+news.length)).toArray=((xs++news)++rest.drop news.length).toArray:=by
    rw[<-r,T8,yw,Yb (by omega:xs.length<=xs.length+news.length)]
    simp
   rw[e2]at K;refine⟨_,_,K,?_⟩;have hw:=R.write (w':=w.setRow g ((xs++news)++rest.drop news.length).toArray) (o':=Xh ((xs++news)++rest.drop news.length) E) V O O O (setRow_heap w g _ _ E _ l) (λx hx=>setRow_other w g x _ hx);have al:=hw.AR (k:=k) (g:=g) (E:=E) (cap:=cap) (xs:=xs++news) (rest:=rest.drop news.length) (by simp[W,Ac]) e D o (by
    have h7:news.length<=rest.length:=by
     have h8:n*i.size+news.length<=(xs++rest).length:=s;rw[Y0]at h8;omega
    rw[Y0,Y6,<-S];omega)
   simpa using al
  ·have F:∀j u,xs[j]?=some u->w.cell? ((⟨g,0,none⟩:Addr).add j)=some u:=by
    intro j u hu;have hj:j<xs.length:=(Y1.1 hu).1;rw[Addr.add_lit,Yk];have h9:w.heap[g]?=some (.cells (xs++rest).toArray E (0,0)):=l;simp only[World.cell?,h9,Option.isSome_none,Sk,if_false]
    simp[hj]at hu ⊢
    simp[jA,hj,hu]
   have K:=run_append_grow (P:=P) w t ty E i z ht hi hz ⟨g,0,none⟩ n cap xs r F p m c news y d om om (growslice_fits om f);exact⟨_,_,K,grown cap⟩
end
@[reducible] def yE:List Value->List Value->List Value
 | [],m=>m
 | v::l,m=>v::yE l m
@[reducible] def mpI:List Int->List Value
 | []=>[]
 | i::l=>.int .i64 i::mpI l
def AY(Q:Va->Wo->Prop):Ending->Wo->Prop:=λe w=>∃v,e=.returned v/\Q v w
class At(I:Im)(p:Addr)(vs:outParam Lv):Prop where
 spot:p.spot=none
 row:∃arr E fr,I p.block=some (.cells arr E fr)/\∀j v,vs[j]?=some v->arr[p.off+j]?=some v
theorem At.mono{I J:Im}(h:At I p vs)(c:Le I J):At J p vs:=by
 obtain⟨d,a,E,b,hi,e⟩:=h;exact⟨d,a,E,b,c.h _ _ hi,e⟩
def RS(I:Im)(a:Oa)(size n:Nat)(xs:Lv):Prop:=xs.length=n*size/\(0<n->∃p,a=some p/\At I p xs)
theorem RS.mono{I J:Im}(h:RS I a size n xs)(c:Le I J):RS J a size n xs :=
 ⟨h.1,λd=>let⟨p,e,b⟩:=h.2 d;⟨p,e,b.mono c⟩⟩
theorem RS.nil(I:Im)(size:Nat):RS I none size 0 []:=⟨by simp,λh=>Yz h om⟩
abbrev ad(b o:Nat):Addr:=⟨b,o,none⟩
theorem CY(b o i:Nat):(ad b o).add i=ad b (o+i):=by
 unfold Addr.add;split
 ·simp_all
 ·rfl
def jv(cs:Lv)(off:Nat)(l:Lv):Lv:=cs.take off++l++cs.drop (off+l.length)
def MS(pl:Nat->Option (Nat×Nat)):List Value->List (Nat×Value)->Option (List Value)
 | cs,[]=>some cs
 | cs,(i,v)::rest=>match pl i with
  | none=>none
  | some (off,size)=>bif Nat.beq v.cells.toList.length size&&Nat.ble (off+size) cs.length then MS pl (jv cs off v.cells.toList) rest else none
theorem Xoa:∀(l:Lv) (cs:Lv) (off k:Nat),off+k+l.length<=cs.length->
  (l.zipIdx k).foldl (λ(cs:Array Va) (p:Va×Nat)=>cs.setIfInBounds (off+p.2) p.1) cs.toArray=(jv cs (off+k) l).toArray
 | [],cs,off,k,_=>by simp[jv]
 | v::l,cs,off,k,h=>by
  rw[List.zipIdx_cons,Kt];have e:cs.toArray.setIfInBounds (off+k) v=(cs.set (off+k) v).toArray:=by simp
  have a:=Xoa l (cs.set (off+k) v) off (k+1) (by simp at h ⊢;omega);simp only at a ⊢
  rw[e,a]
  congr 1
  unfold jv;have b:=list_seg_step cs (off+k) v l (by simp at h;omega);simpa[pQ]using b
theorem vL{pl:Nat->Option (Nat×Nat)}:∀{vs:List (Nat×Va)} {cs ds:Lv},MS pl cs vs=some ds->Instr.fill pl cs.toArray vs=some ds.toArray
 | [],cs,ds,h=>by simp[MS]at h;simp[Instr.fill,h]
 | (i,v)::rest,cs,ds,h=>by
  unfold MS at h;unfold Instr.fill;split at h
  ·cases h
  ·rename_i off size d
   rw[d];simp only
   by_cases a:(Nat.beq v.cells.toList.length size&&Nat.ble (off+size) cs.length)=true
   ·rw[a,cond_true]at h;simp only[Y8]at a
    have c:v.cells.size=size:=by have:=Nat.eq_of_beq_eq_true a.1;simpa using this
    have g:off+size<=cs.length:=Yx a.2;have e:=Xoa v.cells.toList cs off 0 (by simp[c];omega);have f:(v.cells.zipIdx.foldl (λcs (x:Va×Nat)=>cs.setIfInBounds (off+x.2) x.1) cs.toArray)=(jv cs off v.cells.toList).toArray:=by
     rw[<-Array.foldl_toList,Array.toList_zipIdx];simpa using e
    rw[Y3 (by simp[c];omega)];rw[f];exact vL h
   ·have b:(Nat.beq v.cells.toList.length size&&Nat.ble (off+size) cs.length)=false:=uq.2 a;rw[b,cond_false]at h;cases h
theorem lK(z:Va)(s:Nat)(b:z.cells.size=s):∀len,(Array.range (len*s)).map (z.cells[·%z.cells.size]!)=((List.replicate len z.cells.toList).flatten).toArray:=by
 intro len
 apply Array.ext'
 simp only[yu,Array.toList_range]
 induction len with
 | zero=>simp
 | succ k d =>
  rw[List.replicate_succ',PN,Sn,List.range_add,Yn,d];simp only[Fx,ur,Yy]
  congr 1
  apply PS
  intro j
  by_cases a:j<s
  ·have:(k*s+j)%s=j:=by rw[Ku,Y5y,jI a]
   have c:j<z.cells.size:=om
   simp[a,b,this,c]
  ·simp[a,b]
section
variable {P:Program} {n:Nat} {K:Bk} {L:AB} {w w':Wo} {ops:Array Oper} {rest:List Oper}
variable {B:Wo} {I:Im} {N:La} {k:Nat} {d:Nat} {ty:TypeId} {pos:String} {af:Array Edge} {g:Option (Nat×Bool)} {t e:TypeId} {x y:Operand}
theorem me(o:Obj)(f:Nat->Sem α):(Sem.new o f).run P w=(f w.heap.size).run P (w.alloc o):=rfl
theorem Xz(a:w.heap[b]?=some (Xh cs E))(c:cs[o]?=some v):w.cell? (ad b o)=some v:=by
 unfold Xh at a;simp[World.cell?,a,c]
theorem Xyn(a:w.heap[b]?=some (Xh cs E))(o:Nat):w.frozen? (ad b o)=false:=by
 unfold Xh at a;simp[World.frozen?,a]
theorem Xv(g:Aa B w I N)(i:At I p vs){j:Nat}(l:vs[j]?=some v):w.cell? (p.add j)=some v:=by
 obtain⟨d,f,E,m,hi,h⟩:=i;obtain⟨n,_,k⟩:=g;have b:=k.GN _ _ hi;have c:=h j v l;obtain⟨a,po,ps⟩:=p;simp only at d hi b c
 subst d;have e:(⟨a,po,none⟩:Addr).add j=⟨a,po+j,none⟩:=CY a po j;rw[e];simp[World.cell?,b,c]
theorem Ex.ld{d:Option Nat}(hx:Ev n L x (ptr b o))(hS:Aa B w I N)(hk:N[k]?=some (Ac b cs E))(ht:∀w,(isAgg t).run P w=.ok false w)(hv:cs[o]?=some v):Ex P n L w ⟨d,.load t x,ty,pos,af,g⟩ v w:=λa c=>by
 have h:=Xz (hS.block hk) hv;simp[execOp,hx a c,Instr.loadAt,Instr.sureAddr,loadVar,ht,load,Sem.run,h]
theorem Ex.DY{d:Option Nat}{s:Nat}(hx:Ev n L x (ptr b o))(c:Aa B w I N)(l:N[k]?=some (Ac b cs E))(q:∀w,(isAgg t).run P w=.ok true w)(p:∀w,(Go.sizeOf t).run P w=.ok s w)
  (m:vs.length=s) (r:∀(j:Nat) (v:Va),vs[j]?=some v->cs[o+j]?=some v):Ex P n L w ⟨d,.load t x,ty,pos,af,g⟩ (.agg vs.toArray) w:=λa e=>by
 have f:=c.block l;have h:=run_loadCells_list (P:=P) w (ad b o) vs (λj v i=>by rw[CY];exact Xz f (r j v i));rw[m]at h;simp[execOp,hx a e,Instr.loadAt,Instr.sureAddr,loadVar,q,p,h]
theorem Ex.BS{d:Option Nat}(hx:Ev n L x (.pointer (some p)))(b:Aa B w I N)(c:At I p vs)(f:∀w,(isAgg t).run P w=.ok false w)(i:vs[0]?=some v):Ex P n L w ⟨d,.load t x,ty,pos,af,g⟩ v w:=λa e=>by
 have h:=Xv b c i;rw[show p.add 0=p from O]at h;simp[execOp,hx a e,Instr.loadAt,Instr.sureAddr,loadVar,f,load,Sem.run,h]
theorem Ex.B5{d:Option Nat}{s:Nat}{us:Lv}(hx:Ev n L x (.pointer (some p)))(b:Aa B w I N)(c:At I p vs)(l:∀w,(isAgg t).run P w=.ok true w)(k:∀w,(Go.sizeOf t).run P w=.ok s w)
  (i:us.length=s) (m:∀(j:Nat) (v:Va),us[j]?=some v->vs[j]?=some v):Ex P n L w ⟨d,.load t x,ty,pos,af,g⟩ (.agg us.toArray) w:=λa e=>by
 have h:=run_loadCells_list (P:=P) w p us (λj v f=>Xv b c (m j v f));rw[i]at h;simp[execOp,hx a e,Instr.loadAt,Instr.sureAddr,loadVar,l,k,h]
theorem Ex.fieldAddr{d:Option Nat}{f:Nat}{s:Nat}(off:Nat)(hx:Ev n L x (ptr b o))(ht:P.underlying t=some (.struct fs))(hf:fs[f]?=some fd)(ho:fd.offset=off)(hs:∀w,(Go.sizeOf fd.type).run P w=.ok s w)(h0:Nat.beq s 0=false):Ex P n L w ⟨d,.fieldAddr t x f,ty,pos,af,g⟩ (ptr b (o+off)) w:=λa i=>by
 subst ho;have c:s≠0:=λe=>by rw[e]at h0;cases h0
 have h:=CY b o fd.offset;simp[execOp,hx a i,Instr.fieldAt,run_underlying ht,hf,Instr.sureAddr,fieldPlace,hs,c,h]
theorem Ex.Bq{d:Option Nat}{f:Nat}{s:Nat}(off:Nat)(hx:Ev n L x (.pointer (some p)))(ht:P.underlying t=some (.struct fs))(hf:fs[f]?=some fd)(ho:fd.offset=off)(hs:∀w,(Go.sizeOf fd.type).run P w=.ok s w)(h0:Nat.beq s 0=false):Ex P n L w ⟨d,.fieldAddr t x f,ty,pos,af,g⟩ (.pointer (some (p.add off))) w:=λa c=>by
 subst ho;have b:s≠0:=λe=>by rw[e]at h0;cases h0
 simp[execOp,hx a c,Instr.fieldAt,run_underlying ht,hf,Instr.sureAddr,fieldPlace,hs,b]
theorem At.add(h:At I p vs)(i:Nat):At I (p.add i) (vs.drop i):=by
 obtain⟨c,a,E,f,hi,d⟩:=h;obtain⟨b,po,ps⟩:=p;simp only at c hi d
 subst c;have e:(⟨b,po,none⟩:Addr).add i=⟨b,po+i,none⟩:=CY b po i;rw[e];exact⟨O,a,E,f,hi,λj v g=>by rw[show po+i+j=po+(i+j)by omega];exact d (i+j) v (su g)⟩
theorem Ex.indexAddr{d:Option Nat}{len s:Nat}{i:Int}(hx:Ev n L x (.slice (some (ad b o)) len cap))(hy:Ev n L y (Ab i))(hi:0<=i)(hl:i<len)(ht:P.underlying t=some (.slice e))(hs:∀w,(Go.sizeOf e).run P w=.ok s w):Ex P n L w ⟨d,.indexAddr t x y,ty,pos,af,g⟩ (ptr b (o+i.toNat*s)) w:=λa c=>by
 have h:=run_indexAt_slice (P:=P) w t (ad b o) len cap .i64 i (by rw[KQ ht];exact ht);rw[Y9 ⟨hi,hl⟩,KQ ht,hs]at h;simp only[Result.andThen_ok,CY]at h
 simp[execOp,hx a c,hy a c,h]
theorem Ex.AD{d:Option Nat}{len s:Nat}{i:Int}(hx:Ev n L x (.slice (some p) len cap))(hy:Ev n L y (Ab i))(hi:0<=i)(hl:i<len)(ht:P.underlying t=some (.slice e))(hs:∀w,(Go.sizeOf e).run P w=.ok s w):Ex P n L w ⟨d,.indexAddr t x y,ty,pos,af,g⟩ (.pointer (some (p.add (i.toNat*s)))) w:=λa b=>by
 have h:=run_indexAt_slice (P:=P) w t p len cap .i64 i (by rw[KQ ht];exact ht);rw[Y9 ⟨hi,hl⟩,KQ ht,hs]at h;simp[execOp,hx a b,hy a b,h,Result.andThen]
theorem WL.yH(e:Aa B w I N)(hx:Ev n L x v)(c:v.oneCell'=true)(i:Nat.blt d n=true)
  (h:∀b w',Aa B w' I (Ac b [v] E::N)->WL P n ops K rest ((d,ptr b 0)::L) w'):WL P n ops K (⟨some d,.box E x,ty,pos,af,none⟩::rest) L w:=by
 refine WL.val (w':=w.alloc (Xh [v] E)) (λa f=>?_) i (h _ _ (e.alloc _));have g:v.cells=#[v]:=by cases v<;>first|rfl|cases c
 simp[execOp,hx a f,Instr.box,newVar,newRow,newObj,me,g,Xh]
theorem WL.GJ(c:Aa B w I N)(hx:Ev n L x (.agg cs.toArray))(f:Nat.blt d n=true)
  (h:∀b w',Aa B w' I (Ac b cs E::N)->WL P n ops K rest ((d,ptr b 0)::L) w'):WL P n ops K (⟨some d,.box E x,ty,pos,af,none⟩::rest) L w:=by
 refine WL.val (w':=w.alloc (Xh cs E)) (λa e=>?_) f (h _ _ (c.alloc _));simp[execOp,hx a e,Instr.box,newVar,newRow,newObj,me,Value.cells,Xh]
theorem WL.K_(e:Aa B w I N)(i:∀w,(zeroValue E).run P w=.ok v w)(c:v.oneCell'=true)(g:Nat.blt d n=true)
  (h:∀b w',Aa B w' I (Ac b [v] E::N)->WL P n ops K rest ((d,ptr b 0)::L) w'):WL P n ops K (⟨some d,.alloc E,ty,pos,af,none⟩::rest) L w:=by
 refine WL.val (w':=w.alloc (Xh [v] E)) (λa j=>?_) g (h _ _ (e.alloc _));have f:v.cells=#[v]:=by cases v<;>first|rfl|cases c
 simp[execOp,Instr.alloc,i,newVar,newRow,newObj,me,f,Xh]
theorem WL.EE(c:Aa B w I N)(f:∀w,(zeroValue E).run P w=.ok (.agg cs.toArray) w)(e:Nat.blt d n=true)
  (h:∀b w',Aa B w' I (Ac b cs E::N)->WL P n ops K rest ((d,ptr b 0)::L) w'):WL P n ops K (⟨some d,.alloc E,ty,pos,af,none⟩::rest) L w:=by
 refine WL.val (w':=w.alloc (Xh cs E)) (λa g=>?_) e (h _ _ (c.alloc _));simp[execOp,Instr.alloc,f,newVar,newRow,newObj,me,Value.cells,Xh]
theorem WL.buildSlice{len s:Nat}{c:Array (Nat×Operand)}{vs:List (Nat×Va)}{z:Va}(r:Aa B w I N)(x:∀a,Ap n L a->c.toList.map (λp=>(p.1,a.eval p.2))=vs)
  (o:P.underlying t=some (.slice e)) (m:∀w,(Go.sizeOf e).run P w=.ok s w) (A:∀w,(zeroValue e).run P w=.ok z w) (k:Nat.ble (len*s) 16777216=true) (l:z.cells.size=s)
  (f:MS (λi=>some (i*s,s)) ((List.replicate len z.cells.toList).flatten) vs=some cs) (v:Nat.blt d n=true)
  (h:∀b w',Aa B w' I (Ac b cs e::N)->WL P n ops K rest ((d,.slice (some (ad b 0)) len len)::L) w'):WL P n ops K (⟨some d,.buildSlice t len c,ty,pos,af,none⟩::rest) L w:=by
 refine WL.val (w':=w.alloc (Xh cs e)) (λa u=>?_) v (h _ _ (r.alloc _));have g:¬ (16777216<len*s):=by have:=Yx k;omega
 have q:=x a u;have f:=vL f;rw[<-lK z s l]at f
 by_cases j:len*s=0
 ·have y:(Array.range (len*s)).map (z.cells[·%z.cells.size]!)=#[]:=by simp[j]
  rw[y]at f;simp[execOp,Instr.buildSlice,run_underlying o,m,j,newRow,newObj,me,Array.range_zero',q,f,Xh]
 ·simp[execOp,Instr.buildSlice,run_underlying o,m,g,j,A,newRow,newObj,me,q,f,Xh]
theorem TC:∀a:Act,Ap n L a->(#[]:Array (Nat×Operand)).toList.map (λp=>(p.1,a.eval p.2))=[]:=λ_ _=>rfl
theorem Xiu{ps:List (Nat×Operand)}{vs:List (Nat×Va)}(hx:Ev n L x v)(h:∀a,Ap n L a->ps.toArray.toList.map (λp=>(p.1,a.eval p.2))=vs):∀a,Ap n L a->((i,x)::ps).toArray.toList.map (λp=>(p.1,a.eval p.2))=(i,v)::vs:=λa b=>by
 have:=h a b
 simp only[Yu]at this ⊢
 rw[hx a b,this]
def rf(P:Program)(t:TypeId)(pl:List (Nat×Nat))(zs:Lv):Prop:=∀(a:Array (Nat×Va)) (cs:Array Va) (w:Wo),Instr.fill (λi:Nat=>pl[i]?) zs.toArray a.toList=some cs->(Instr.build t a).run P w=.ok (.agg cs) w
theorem Ex.build{d:Option Nat}{b:Array (Nat×Operand)}{vs:List (Nat×Va)}(h:∀a,Ap n L a->b.toList.map (λp=>(p.1,a.eval p.2))=vs)(e:rf P t pl zs)
  (f:MS (λi:Nat=>pl[i]?) zs vs=some cs):Ex P n L w ⟨d,.build t b,ty,pos,af,g⟩ (.agg cs.toArray) w:=λa c=>by
 have j:=e (b.map λ(i,x)=>(i,a.eval x)) cs.toArray w (by rw[yu,h a c];exact vL f);simp only[execOp,j,Sem.run_bind,Result.andThen_ok,Sem.run_pure]
theorem CZ{z:Va}(d:P.underlying t=some (.struct fs))(g:∀w,(zeroValue t).run P w=.ok z w)(c:∀w,((fs.mapM λf=>do pure (f.offset,<-Go.sizeOf f.type)):Sem (Array (Nat×Nat))).run P w=.ok pl.toArray w):rf P t pl z.cells.toList:=by
 intro b cs w a;have e:(λi:Nat=>pl.toArray[i]?)=(λi:Nat=>pl[i]?):=by funext i;simp
 simp only[Array.toArray_toList]at a
 rw[<-e]at a;simp only[Instr.build,Sem.run_bind,g,run_underlying d,Result.andThen_ok,c,a,Sem.run_pure]
theorem WL.st1(hS:Aa B w I N)(hk:N[k]?=some (Ac b cs E))(hx:Ev n L x (ptr b o))(hy:Ev n L y v)(h1:v.oneCell'=true)(hs:∀w,(Go.sizeOf t).run P w=.ok 1 w)(ho:o<cs.length)
  (h:∀w',Aa B w' I (N.set k (Ac b (cs.set o v) E))->WL P n ops K rest L w'):WL P n ops K (⟨none,.store t x y,ty,pos,af,none⟩::rest) L w:=by
 have i:=hS.block hk;have e:=Xz i (Y2 ho);have g:=Xyn i o;have j:v.cells=#[v]:=by cases v<;>first|rfl|cases h1
 have f:=run_store P w (ad b o) v .plain h1;rw[e]at f;simp only[g]at f
 have d:=setCell_eq_setRow w b o _ _ (0,0) v i;refine WL.st (w':=w.setCell (ad b o) v) (λa l=>?_) (h _ (hS.write (o':=Xh (cs.set o v) E) hk O O O ?_ λc j=>?_))
 ·have e0:(ad b o).add 0=ad b o:=rfl;simp[execOp,hx a l,hy a l,Instr.storeAt,Instr.sureAddr,storeVar,hs,j,storeCells,e0,f]
 ·rw[d,setRow_heap w b _ _ _ _ i];simp[Xh]
 ·rw[d,setRow_other w b c _ j]
theorem WL.BG{s:Nat}(hS:Aa B w I N)(hk:N[k]?=some (Ac b cs E))(hx:Ev n L x (ptr b o))(hy:Ev n L y (.agg vs.toArray))(h1:vs.all Value.oneCell'=true)(hs:∀w,(Go.sizeOf t).run P w=.ok s w)(hl:vs.length=s)(ho:o+s<=cs.length)
  (h:∀w',Aa B w' I (N.set k (Ac b (cs.take o++vs++cs.drop (o+s)) E))->WL P n ops K rest L w'):WL P n ops K (⟨none,.store t x y,ty,pos,af,none⟩::rest) L w:=by
 subst hl;have f:=hS.block hk;have d:=run_storeCells_at P b o E vs 0 cs.toArray w f (su ho) (Dj.1 h1);simp only[ER]at d
 refine WL.st (w':=w.setRow b (cs.take o++vs++cs.drop (o+vs.length)).toArray) (λa e=>?_) (h _ (hS.write (o':=Xh _ E) hk O O O (setRow_heap w b _ _ E _ f) λc g=>setRow_other w b c _ g));simp[execOp,hx a e,hy a e,Instr.storeAt,Instr.sureAddr,storeVar,hs,Value.cells,d]
theorem WL.append{E:Nat}{i:TypeInfo}{z:Va}{s:TypeId}(C:Aa B w I (Ac b news s::N))(hx:Ev n L x v)(U:Ev n L y (.slice (some (ad b 0)) m c))
  (J:N[k]?=some (An E size v nn xs)) (S:P.underlying t=some (.slice E)) (hi:P.info? E=some i) (V:i.zero=some z) (e:i.size=size) (o:i.bytes=bytes) (q:z.cells.size=size)
  (M:news.length=m*size) (Q:Nat.blt 0 m=true) (F:news.all Value.oneCell'=true) (f:(nn+m)*bytes<=140737488355328/\nn+m<=maxLen) (H:Nat.blt d n=true)
  (h:∀r w',Aa B w' I (N.set k (An E size r (nn+m) (xs++news)))->WL P n ops K rest ((d,r)::L) w') :WL P n ops K (⟨some d,.call ⟨.builtin .append,#[x,y],#[t,t]⟩,ty,pos,af,none⟩::rest) L w:=by
 have G:=C.block (k:=0) O;obtain⟨r,w',R,l⟩:=u3 (P:=P) (ty:=ty) (k:=k+1) C S hi V e o q J (p:=ad b 0) (m:=m) (c:=c) M (Yx Q) (λj u T=>by rw[CY,Yk];exact Xz G T) (Dj.1 F) f.2 f.1
 have g:=l.drop (k:=0) (A:=Ac b news s) sz;simp only[pI,Y6c]at g
 refine WL.val (w':=w') (λa D=>?_) H (h _ _ g);simp[execOp,resolve,invoke,builtin,hx a D,U a D,R]
theorem WL.make{l:Nat}{i:TypeInfo}{z:Va}{y:Operand}(k:Aa B w I N)(hx:Ev n L x (Ab l))(v:Ev n L y (Ab l))(u:P.underlying t=some (.slice e))(hi:P.info? e=some i)(A:i.zero=some z)(m:(i.bytes:Int)*l<=281474976710656)(q:(l:Int)<=9223372036854775807)
  (c:z.cells=#[z]) (s:i.size=1) (o:Nat.blt d n=true)
  (h:∀b w',Aa B w' I (Ac b (List.replicate l z) e::N)->WL P n ops K rest ((d,.slice (some (ad b 0)) l l)::L) w'):WL P n ops K (⟨some d,.makeSlice t x y,ty,pos,af,none⟩::rest) L w:=by
 have f:=run_make (P:=P) w t e i z u hi A .i64 .i64 l l om om m q;have r:madeCells z.cells ((l:Int).toNat*i.size)=(List.replicate l z).toArray:=by
  rw[c,s]
  apply Array.ext'
  simp[madeCells]
  apply PS
  intro j
  by_cases p:j<l<;>simp[p,Nat.mod_one]
 rw[r]at f;refine WL.val (w':=w.alloc (Xh (List.replicate l z) e)) (λa g=>?_) o (h _ _ (k.alloc _));simp only[Yd]at f
 simp[execOp,hx a g,v a g,f,Xh]
theorem Ex.slc{d:Option Nat}{len s:Nat}{lo:Int}{z:Operand}(hx:Ev n L x (.slice a0 len cap))(m:Ev n L y (Ab lo))(o:Ev n L z (Ab hi))(i:0<=lo)(j:lo<=hi)(k:hi<=cap)(c:P.underlying t=some (.slice e))(l:∀w,(Go.sizeOf e).run P w=.ok s w):Ex P n L w ⟨d,.slice t x (some y) (some z) none,ty,pos,af,g⟩ (sliced a0 lo.toNat hi.toNat cap s) w:=λa b=>by
 have f:P.underlying t=some (.slice (P.elem t)):=by rw[KQ c];exact c
 have h:=run_slice_lh (P:=P) w t a0 len cap f .i64 .i64 lo hi i j k;rw[KQ c,l]at h;simp[execOp,hx a b,m a b,o a b,run_sliceAt_slice w t _ _ _ _ f,h,Result.andThen]
theorem Ex.JR{d:Option Nat}{len s:Nat}{z:Operand}(hx:Ev n L x (.slice a0 len cap))(l:Ev n L z (Ab hi))(i:0<=hi)(j:hi<=cap)(b:P.underlying t=some (.slice e))(k:∀w,(Go.sizeOf e).run P w=.ok s w):Ex P n L w ⟨d,.slice t x none (some z) none,ty,pos,af,g⟩ (sliced a0 0 hi.toNat cap s) w:=λa f=>by
 have c:P.underlying t=some (.slice (P.elem t)):=by rw[KQ b];exact b
 have h:=run_slice_h (P:=P) w t a0 len cap c .i64 hi i j;rw[KQ b,k]at h;simp[execOp,hx a f,l a f,run_sliceAt_slice w t _ _ _ _ c,h,Result.andThen]
theorem Ex.FD{d:Option Nat}{len s:Nat}{lo:Int}(hx:Ev n L x (.slice a0 len cap))(l:Ev n L y (Ab lo))(i:0<=lo)(j:lo<=len)(b:P.underlying t=some (.slice e))(k:∀w,(Go.sizeOf e).run P w=.ok s w):Ex P n L w ⟨d,.slice t x (some y) none none,ty,pos,af,g⟩ (sliced a0 lo.toNat len cap s) w:=λa f=>by
 have c:P.underlying t=some (.slice (P.elem t)):=by rw[KQ b];exact b
 have h:=run_slice_l (P:=P) w t a0 len cap c .i64 lo i j;rw[KQ b,k]at h;simp[execOp,hx a f,l a f,run_sliceAt_slice w t _ _ _ _ c,h,Result.andThen]
def Xf(fn : Func): Bool := fn.name != "runtime.NumGoroutine" && fn.body.isSome
theorem WL.call{xs:List Operand}{Q:Va->Wo->Prop}(s:P.funcs[f]?=some fn)(i:Xf fn=true)(hx:∀a,Ap n L a->xs.map a.eval=vs)(q:Nat.blt d n=true)
  (b:Calls P f vs.toArray w (AY Q)) (h:∀v w',Q v w'->WL P n ops K rest ((d,v)::L) w'):WL P n ops K (⟨some d,.call ⟨.value (.func f),xs.toArray,ts⟩,ty,pos,af,none⟩::rest) L w:=by
 intro a m;refine wpList_plain O λK' p=>?_
 have r:(execOp a.eval (⟨some d,.call ⟨.value (.func f),xs.toArray,ts⟩,ty,pos,af,none⟩:Oper)).run P w=.ok (.enter f vs.toArray) w:=by
  unfold Xf at i;simp only[Y8]at i
  obtain⟨o,l⟩:=i;have c : ¬ fn.name = "runtime.NumGoroutine" := by simpa using o
  have g:¬ fn.body=none:=by intro e;rw[e]at l;cases l
  have j:=hx a m;simp[execOp,resolve,Act.eval,Deferred.ofValue,invoke,callFunc,program,Sem.run,s,c,g,<-j]
 unfold Oper.wp;rw[r];refine b.mono λe k t=>?_
 obtain⟨v,rfl,j⟩:=t;exact p _ _ (h v k j _ (m.put q v))
theorem X4:∀a:Act,Ap n L a->([]:List Operand).map a.eval=[]:=λ_ _=>rfl
theorem X6{xs:List Operand}(hx:Ev n L x v)(h:∀a,Ap n L a->xs.map a.eval=vs):∀a,Ap n L a->(x::xs).map a.eval=v::vs:=λa b=>by
 rw[Yu,hx a b,h a b]
end
section
variable {P:Program} {n:Nat} {K:Bk} {L:AB} {w w':Wo} {ops:Array Oper} {rest:List Oper}
variable {B:Wo} {I:Im} {N:La} {k:Nat} {ty:TypeId} {pos:String} {af:Array Edge} {g:Option (Nat×Bool)} {t e:TypeId} {x y:Operand}
theorem Ex.mo{x:Operand}(hx:ev L x=some v):Ex P n L w ⟨d,.move x,ty,pos,af,g⟩ v w:=Ex.move (hx:=.of hx)
theorem Ex.ao{x:Operand}(hx:ev L x=some v):Ex P n L w ⟨d,.assign x,ty,pos,af,g⟩ v w:=Ex.assign (hx:=.of hx)
theorem Ex.po{c x y:Operand}{b r:Bool}(hc:ev L c=some (.bool b))(hx:ev L x=some (.bool true))(hy:ev L y=some (Gk.gd b false (.bool r))):Ex P n L w ⟨d,.pick c x y,ty,pos,af,g⟩ (.bool (b||r)) w:=Ex.por (hc:=.of hc) (hx:=.of hx) (hy:=.of hy)
theorem Ex.pa{c x y:Operand}{b r:Bool}(hc:ev L c=some (.bool b))(hx:ev L x=some (Gk.gd b true (.bool r)))(hy:ev L y=some (.bool false)):Ex P n L w ⟨d,.pick c x y,ty,pos,af,g⟩ (.bool (b&&r)) w:=Ex.k3 (hc:=.of hc) (hx:=.of hx) (hy:=.of hy)
theorem Ex.no{x:Operand}(hx:ev L x=some (.pointer (some p))):Ex P n L w ⟨d,.nilCheck x,ty,pos,af,g⟩ (.pointer (some p)) w:=Ex.nilCheck (hx:=.of hx)
theorem Ex.fo{f:Nat}{s:Nat}(off:Nat)(hx:ev L x=some (ptr b o))(ht:P.underlying t=some (.struct fs))(hf:fs[f]?=some fd)(ho:fd.offset=off)(hs:∀w,(Go.sizeOf fd.type).run P w=.ok s w)(h0:Nat.beq s 0=false):Ex P n L w ⟨d,.fieldAddr t x f,ty,pos,af,g⟩ (ptr b (o+off)) w:=Ex.fieldAddr (off:=off) (hx:=.of hx) (ht:=ht) (hf:=hf) (ho:=ho) (hs:=hs) (h0:=h0)
theorem Ex.fi{f:Nat}{s:Nat}(off:Nat)(hx:ev L x=some (.pointer (some p)))(ht:P.underlying t=some (.struct fs))(hf:fs[f]?=some fd)(ho:fd.offset=off)(hs:∀w,(Go.sizeOf fd.type).run P w=.ok s w)(h0:Nat.beq s 0=false):Ex P n L w ⟨d,.fieldAddr t x f,ty,pos,af,g⟩ (.pointer (some (p.add off))) w:=Ex.Bq (off:=off) (hx:=.of hx) (ht:=ht) (hf:=hf) (ho:=ho) (hs:=hs) (h0:=h0)
theorem Ex.lo(hx:ev L x=some (ptr b o))(hS:Aa B w I N)(hk:N[k]?=some (Ac b cs E))(ht:∀w,(isAgg t).run P w=.ok false w)(hv:cs[o]?=some v):Ex P n L w ⟨d,.load t x,ty,pos,af,g⟩ v w:=Ex.ld (hx:=.of hx) (hS:=hS) (hk:=hk) (ht:=ht) (hv:=hv)
theorem Ex.io{len s:Nat}{i:Int}(hx:ev L x=some (.slice (some (ad b o)) len cap))(hy:ev L y=some (Ab i))(hi:0<=i)(hl:i<len)(ht:P.underlying t=some (.slice e))(hs:∀w,(Go.sizeOf e).run P w=.ok s w):Ex P n L w ⟨d,.indexAddr t x y,ty,pos,af,g⟩ (ptr b (o+i.toNat*s)) w:=Ex.indexAddr (hx:=.of hx) (hy:=.of hy) (hi:=hi) (hl:=hl) (ht:=ht) (hs:=hs)
theorem Ex.ii{len s:Nat}{i:Int}(hx:ev L x=some (.slice (some p) len cap))(hy:ev L y=some (Ab i))(hi:0<=i)(hl:i<len)(ht:P.underlying t=some (.slice e))(hs:∀w,(Go.sizeOf e).run P w=.ok s w):Ex P n L w ⟨d,.indexAddr t x y,ty,pos,af,g⟩ (.pointer (some (p.add (i.toNat*s)))) w:=Ex.AD (hx:=.of hx) (hy:=.of hy) (hi:=hi) (hl:=hl) (ht:=ht) (hs:=hs)
theorem A3{xs:List Operand}(hx:ev L x=some v)(h:∀a,Ap n L a->xs.map a.eval=vs):∀a,Ap n L a->(x::xs).map a.eval=v::vs:=X6 (hx:=.of hx) (h:=h)
theorem IC{ps:List (Nat×Operand)}{vs:List (Nat×Va)}(hx:ev L x=some v)(h:∀a,Ap n L a->ps.toArray.toList.map (λp=>(p.1,a.eval p.2))=vs):∀a,Ap n L a->((i,x)::ps).toArray.toList.map (λp=>(p.1,a.eval p.2))=(i,v)::vs:=Xiu (hx:=.of hx) (h:=h)
theorem WL.so{s:Nat}(hS:Aa B w I N)(hk:N[k]?=some (Ac b cs E))(hx:ev L x=some (ptr b o))(hy:ev L y=some (.agg vs.toArray))(h1:vs.all Value.oneCell'=true)(hs:∀w,(Go.sizeOf t).run P w=.ok s w)(hl:vs.length=s)(ho:o+s<=cs.length)
    (h:∀w',Aa B w' I (N.set k (Ac b (cs.take o++vs++cs.drop (o+s)) E))->WL P n ops K rest L w'):WL P n ops K (⟨none,.store t x y,ty,pos,af,none⟩::rest) L w:=WL.BG (hS:=hS) (hk:=hk) (hx:=.of hx) (hy:=.of hy) (h1:=h1) (hs:=hs) (hl:=hl) (ho:=ho) (h:=h)
theorem WL.s1(hS:Aa B w I N)(hk:N[k]?=some (Ac b cs E))(hx:ev L x=some (ptr b o))(hy:ev L y=some v)(h1:v.oneCell'=true)(hs:∀w,(Go.sizeOf t).run P w=.ok 1 w)(ho:o<cs.length)
    (h:∀w',Aa B w' I (N.set k (Ac b (cs.set o v) E))->WL P n ops K rest L w'):WL P n ops K (⟨none,.store t x y,ty,pos,af,none⟩::rest) L w:=WL.st1 (hS:=hS) (hk:=hk) (hx:=.of hx) (hy:=.of hy) (h1:=h1) (hs:=hs) (ho:=ho) (h:=h)
theorem WL.vm{d:Nat}(hx:ev L x=some v)(a:Nat.blt d n=true)(h:WL P n ops K rest ((d,v)::L) w):WL P n ops K (⟨some d,.move x,ty,pos,af,none⟩::rest) L w:=WL.val (.move (.of hx)) a h
theorem WL.gm{d j t:Nat}{b:Bool}(e:(ops[j]?).bind (·.dst)=some t)(a:look L t=some (.bool b))(hx:ev L x=some v)(c:Nat.blt d n=true)(h:WL P n ops K rest ((d,gd b want v)::L) w):WL P n ops K (⟨some d,.move x,ty,pos,af,some (j,want)⟩::rest) L w:=WL.Aj e a (λ_=>.move (.of hx)) c h
end
section
variable {P:Program} {n:Nat} {K:Bk} {L:AB} {w w':Wo} {ops:Array Oper} {rest:List Oper}
variable {B:Wo} {I:Im} {N:La} {k:Nat} {d:Nat} {ty:TypeId} {pos:String} {af:Array Edge} {g:Option (Nat×Bool)} {t e:TypeId} {x y:Operand}
theorem WC.p5{c b:Code}(E:σ->AB)(a:σ->Wo->Prop)(h:WC P n c (Ft (λL w=>∃s,Sub (E s) L/\a s w) K) L w)(d:∀s w,a s w->WC P n b K (E s) w):WC P n (.seq c b) K L w :=
 WC.cut _ h λ_ _ ⟨s,e,hi⟩=>(d s _ hi).sub e
theorem ej(f:α->Va)(l:List α)(a:α)(rest:Lv){i:Int}(hi:0<=i)(c:i<(l.length:Int))(s:Nat)(b:s=1):(l.map f++rest)[0+i.toNat*s]?=some (f (l.getD i.toNat a)):=by
 subst b;have h:i.toNat<l.length:=om
 simp[jA,h,Yf]
theorem Ex.gJ{d:Option Nat}{s:Nat}(f:α->Va)(l:List α)(a:α)(r:Lv){i:Int}(hx:Ev n L x (ptr b (0+i.toNat*s)))(c:Aa B w I N)(e:N[k]?=some (Ac b (l.map f++r) E))(j:s=1)(m:∀w,(isAgg t).run P w=.ok false w)(hi:0<=i)(h:i<(l.length:Int)):Ex P n L w ⟨d,.load t x,ty,pos,af,g⟩ (f (l.getD i.toNat a)) w:=Ex.ld hx c e m (ej f l a r hi h s j)
theorem Ex.kM{d:Option Nat}{s:Nat}(f:α->Va)(l:List α)(a:α){i:Int}(hx:Ev n L x (.pointer (some (p.add (i.toNat*s)))))(b:Aa B w I N)(c:At I p (l.map f))(e:s=1)(j:∀w,(isAgg t).run P w=.ok false w)(hi:0<=i)(k:i<(l.length:Int)):Ex P n L w ⟨d,.load t x,ty,pos,af,g⟩ (f (l.getD i.toNat a)) w :=
 Ex.BS hx b (c.add _) j (by
  subst e;have h:i.toNat<l.length:=om
  simp[h,Yf])
theorem WL.stE{s:Nat}(f:α->Va)(l:List α)(r:Lv){i:Int}{u:α}(d:Aa B w I N)(g:N[k]?=some (Ac b (l.map f++r) E))(hx:Ev n L x (ptr b (0+i.toNat*s)))(o:Ev n L y (f u))(c:(f u).oneCell'=true)(j:s=1)(m:∀w,(Go.sizeOf t).run P w=.ok 1 w)(hi:0<=i)(p:i<(l.length:Int))
  (h:∀w',Aa B w' I (N.set k (Ac b ((l.set i.toNat u).map f++r) E))->WL P n ops K rest L w'):WL P n ops K (⟨none,.store t x y,ty,pos,af,none⟩::rest) L w:=by
 subst j;refine .st1 d g hx o c m (by simp;omega) λw' a=>h w' ?_
 have e:(l.map f++r).set (0+i.toNat*1) (f u)=(l.set i.toNat u).map f++r:=by
  rw[ue _ _ (by simp;omega),uA]
  simp
 rw[e]at a;exact a
theorem Aa.OK{E:Nat}(j:Aa B w I N)(n:N[k]?=some (An E size (.slice a nn c) nn xs))(p:m<=nn):Aa B w I (N.set k (An E size (sliced a 0 m c size) m (xs.take (m*size)))) :=
 j.say n λh ⟨o,l⟩=>by
  have q:m*size<=xs.length:=by rw[o];exact T4 _ p
  refine⟨by rw[Yl];omega,?_⟩;rcases l with⟨d,rfl,rfl⟩|⟨b,cap,r,d,rfl,s,i,t⟩
  ·injection d with d g e
   subst d;subst e;have f:m=0:=om
   subst f;exact .inl ⟨O,O,O⟩
  ·injection d with d g e
   subst d;subst e;refine .inr ⟨b,c,xs.drop (m*size)++r,?_,?_,om,i,?_⟩
   ·simp only[sliced,PT,nM,gn]
    congr 1
    split<;>rfl
   ·rw[<-Yg,Fw]
   ·rw[Y0,Yl,Y6];omega
theorem Aa.JX{f:α->Va}{E:Nat}{l:List α}(g:Aa B w I N)(i:N[k]?=some (An E 1 (.slice a l.length c) l.length (l.map f)))(j:m<=l.length):∃b d,sliced a 0 m c 1=.slice b (l.take m).length d/\Aa B w I (N.set k (An E 1 (.slice b (l.take m).length d) (l.take m).length ((l.take m).map f))):=by
 have h:=g.OK i j;have e:(l.take m).length=m:=by rw[Yl];omega
 rw[Dm,<-yD]at h;rw[e];exact⟨_,_,O,h⟩
theorem WL.D_{E j:Nat}{f:Lv}{i:TypeInfo}{z:Va}(s:Aa B w I N)(hx:Ev n L x v)(hy:Ev n L y (.slice a m c))
  (Q:N[k]?=some (An E size v nn xs)) (M:N[j]?=some (An E size (.slice a m c) m f)) (Z:P.underlying t=some (.slice E)) (hi:P.info? E=some i) (hz:i.zero=some z) (e:i.size=size) (H:i.bytes=bytes) (W:z.cells.size=size)
  (h1:f.all Value.oneCell'=true) (l:(nn+m)*bytes<=140737488355328/\nn+m<=maxLen) (Y:Nat.blt d n=true)
  (h:∀X w',Aa B w' I (N.set k (An E size X (nn+m) (xs++f)))->WL P n ops K rest ((d,X)::L) w') :WL P n ops K (⟨some d,.call ⟨.builtin .append,#[x,y],#[t,t]⟩,ty,pos,af,none⟩::rest) L w:=by
 have C:f.length=m*size:=s.CM M λ_ hh=>hh.1
 rcases Ix m with D|D
 ·subst D;have V:f=[]:=Yi (su C);subst V;obtain⟨a0,c0,rfl,J,_⟩:=s.AG Q;have S:(Builtin.append_ #[t,t] ty #[.slice a0 nn c0,.slice a 0 c]).run P w=.ok (.slice a0 nn c0) w:=by
   subst e;cases a0<;>cases a<;>simp[Builtin.append_,run_underlying Z,Go.sizeOf,typeInfo,hi,Builtin.lenOf,Builtin.firstCells,loadCells,loadCellsFrom,storeCells,J]
  have h2:=h (.slice a0 nn c0) w (by
   have:N.set k (An E size (.slice a0 nn c0) (nn+0) (xs++[]))=N:=by
    rw[ER,Yy]
    have:=(Y1.1 Q).2
    rw[<-this,jz]
   rw[this];exact s)
  exact WL.val (w':=w) (λg A=>by simp[execOp,resolve,invoke,builtin,hx g A,hy g A,S]) Y h2
 ·obtain⟨b,cap,r,T,_,_,_,_,G⟩:=s.AF M D;injection T with T aj U
  subst T;subst U;have R:j<N.length:=(Y1.1 M).1;have hb:=G.block (k:=j) (b:=b) (o:=Xh (f++r) E) (by simp[R,Ac]);obtain⟨X,w',S,F⟩:=u3 (P:=P) (ty:=ty) s Z hi hz e H W Q (p:=ad b 0) (m:=m) (c:=c) C D (λq u hu=>by
   rw[CY,Yk];refine Xz hb ?_;have hq:q<f.length:=(Y1.1 hu).1;rw[Ye hq];exact hu) (Dj.1 h1) l.2 l.1
  exact WL.val (w':=w') (λg A=>by simp[execOp,resolve,invoke,builtin,hx g A,hy g A,S]) Y (h _ _ F)
theorem X7(l:Lu){k:Nat}(h:k<l.length):l.drop k=at_ l (k:Int)::l.drop (k+1):=by
 rw[Ym h];simp[at_,Yf,h]
end
def WQ(P:Program)(n:Nat)(ops:Array Oper)(C:Wo->Prop)(K:AB->Prop)(l:List Oper)(L:AB):Prop :=
 ∀a,Ap n L a->wpQuiet P ops C (λb=>∃L',Ap n L' b/\K L') l a
def WT(P:Program)(n:Nat)(ops:Array Oper)(w:Wo)(K:Bk)(rest l:List Oper)(L:AB):Prop :=
 ∀a,Ap n L a->wpStill P ops w (λb=>wpList P ops (K2 n K) rest b w) l a
section
variable {P:Program} {n:Nat} {K:Bk} {L:AB} {w:Wo} {ops:Array Oper} {rest tl:List Oper} {C:Wo->Prop} {k:AB->Prop}
variable {B:Wo} {I:Im} {N:La}
theorem WC.quiet{v:Nat}{l:List Oper}(u:P.follows .mixedOrders=true)(m:Region.lexB .any l.toArray=true)(q:Aa B w I N)
  (h:WQ P n l.toArray (λw=>Aa B w I N) (λL'=>∀w',Aa B w' I N->K .normal L' w') l L):WC P n (.region v l.toArray true) K L w:=by
 intro a s;refine wp_region_quiet (C:=λw=>Aa B w I N) u m (q.world O O O O) ?_;have k:=h a s;have mono:∀(e:List Oper) (a:Act) (Q c:Act->Prop),(∀a,Q a->c a)->wpQuiet P l.toArray (λw=>Aa B w I N) Q e a->wpQuiet P l.toArray (λw=>Aa B w I N) c e a:=by
  intro e
  induction e with
  | nil=>intro a Q c d b;exact d _ b
  | cons o r j =>
   intro a Q c d b;unfold wpQuiet at b ⊢;split
   ·rename_i f;rw[Y9 f]at b;exact Oper.quiet_mono (λa=>j a Q c d) b
   ·rename_i f;rw[Y3 f]at b;exact j _ Q c d b
 refine mono l a (λi=>∃L',Ap n L' i/\∀w',Aa B w' I N->K .normal L' w') _ (λi b w' g=>?_) k;obtain⟨L',p,t⟩:=b;exact⟨L',p,t w' g⟩
theorem WQ.nil(h:k L):WQ P n ops C k [] L:=λa b=>wpQuiet_nil ⟨L,b,h⟩
theorem WQ.val{d:Nat}(hx:∀w,C w->Ex P n L w ⟨some d,op,ty,pos,af,none⟩ v w)(e:Nat.blt d n=true)
  (h:WQ P n ops C k rest ((d,v)::L)):WQ P n ops C k (⟨some d,op,ty,pos,af,none⟩::rest) L:=by
 intro a b;refine wpQuiet_step λK' c=>?_
 rw[Y9 (lU O _)];refine⟨v,λw f=>?_,c _ (h _ (b.put e v))⟩;unfold Oper.quietAt;rw[hx w f a b];exact⟨O,O⟩
theorem WQ.F6{d j t:Nat}{c:List (Bool×Bool)}{b:Bool}
  (E:(ops[j]?).bind (·.dst)=some t) (G:Nat.blt t n=true) (B:look L t=some (CH c (.bool b))) (hx:(∀p∈c++[(b,want)],p.1=p.2)->∀w,C w->Ex P n L w ⟨some d,op,ty,pos,af,some (j,want)⟩ v w) (D:Nat.blt d n=true)
  (h:WQ P n ops C k rest ((d,CH (c++[(b,want)]) v)::L)):WQ P n ops C k (⟨some d,op,ty,pos,af,some (j,want)⟩::rest) L:=by
 intro a s;refine wpQuiet_step λK' z=>?_
 have f:=h _ (s.put D (CH (c++[(b,want)]) v));have r:t<a.tmps.size:=by have:=Yx G;rw[s.size];omega
 have x:=s.get t _ B;have l:yielded ops a.tmps j=match CH c (.bool b)with|.bool b=>some b|_=>none:=by
  obtain⟨o,F,u⟩:=fW.1 E;rw[GF,Iv r]at x;simp only[gj]at x
  have A:a.tmps[t]?=some (CH c (.bool b)):=by rw[Iv r,x]
  simp only[yielded,F,u,gi,A]
  generalize CH c (.bool b)=g;cases g<;>rfl
 by_cases e:∀p∈c++[(b,want)],p.1=p.2
 ·have q:∀p∈c,p.1=p.2:=λp i=>e p (by simp[i])
  have m:b=want:=e (b,want) sz;rw[Ka q]at l;rw[Y9 (by simp[Region.wanted,l,m])];rw[Ka e]at f;refine⟨v,λw y=>?_,z _ f⟩;unfold Oper.quietAt;rw[hx e w y a s];exact⟨O,O⟩
 ·have y:Region.wanted (⟨some d,op,ty,pos,af,some (j,want)⟩:Oper) (yielded ops a.tmps)=false:=by
   by_cases q:∀p∈c,p.1=p.2
   ·rw[Ka q]at l;have m:¬ b=want:=λm=>e λp i=>by
     rcases Ys.1 i with i|i
     ·exact q p i
     ·simp at i;subst i;exact m
    simp[Region.wanted,l,m]
   ·rw[TJ q]at l;simp[Region.wanted,l,undef]
  rw[Y3 (by simp[y])];rw[TJ e]at f;exact z _ f
theorem WQ.Aj{d j t:Nat}{b:Bool}
  (g:(ops[j]?).bind (·.dst)=some t) (i:Nat.blt t n=true) (a:look L t=some (.bool b)) (hx:b=want->∀w,C w->Ex P n L w ⟨some d,op,ty,pos,af,some (j,want)⟩ v w) (f:Nat.blt d n=true)
  (h:WQ P n ops C k rest ((d,gd b want v)::L)):WQ P n ops C k (⟨some d,op,ty,pos,af,some (j,want)⟩::rest) L :=
 WQ.F6 (c:=[]) g i a (λe=>hx (e (b,want) sz)) f h
theorem WQ.call{d:Nat}{xs:List Operand}(s:P.funcs[f]?=some fn)(i:Xf fn=true)(hx:∀a,Ap n L a->xs.map a.eval=vs)(q:Nat.blt d n=true)
  (b:∀w,C w->Calls P f vs.toArray w (AY λu w'=>u=v/\C w')) (h:WQ P n ops C k rest ((d,v)::L)):WQ P n ops C k (⟨some d,.call ⟨.value (.func f),xs.toArray,ts⟩,ty,pos,af,none⟩::rest) L:=by
 intro a l;refine wpQuiet_step λK' p=>?_
 rw[Y9 (lU O _)];refine⟨v,λw x=>?_,p _ (h _ (l.put q v))⟩;have r:(execOp a.eval (⟨some d,.call ⟨.value (.func f),xs.toArray,ts⟩,ty,pos,af,none⟩:Oper)).run P w=.ok (.enter f vs.toArray) w:=by
  unfold Xf at i;simp only[Y8]at i
  obtain⟨m,j⟩:=i;have c : ¬ fn.name = "runtime.NumGoroutine" := by simpa using m
  have g:¬ fn.body=none:=by intro e;rw[e]at j;cases j
  have t:=hx a l;simp[execOp,resolve,Act.eval,Deferred.ofValue,invoke,callFunc,program,Sem.run,s,c,g,<-t]
 unfold Oper.quietAt;rw[r];refine⟨O,(b w x).mono ?_⟩;rintro e y ⟨u,rfl,rfl,o⟩;exact⟨O,o⟩
theorem WC.tail{f:Nat}{l:List Oper}(b:Nat)(e:P.follows .mixedOrders=true)(c:Region.lexTailB .any l.toArray b=true)
  (h:WT P n l.toArray w.drew K (l.drop b) (l.take b) L):WC P n (.region f l.toArray true) K L w:=by
 intro a d;exact wp_region_still_tail b e c (h a d)
theorem WT.nil(h:WL P n ops K tl L w):WT P n ops w K tl [] L:=λa b=>wpStill_nil (h a b)
theorem WT.val{d:Nat}(hx:Ex P n L w ⟨some d,op,ty,pos,af,none⟩ v w)(e:Nat.blt d n=true)
  (h:WT P n ops w K tl rest ((d,v)::L)):WT P n ops w K tl (⟨some d,op,ty,pos,af,none⟩::rest) L:=by
 intro a b;refine wpStill_step λK' c=>?_
 rw[Y9 (lU O _)];unfold Oper.still;rw[hx a b];exact⟨O,c _ (h _ (b.put e v))⟩
end
theorem WT.vm{K:Bk}{L:AB}{a:List Oper}{d:Nat}{x:Operand}(hx:ev L x=some v)(b:Nat.blt d n=true)(h:WT P n ops w K a rest ((d,v)::L)):WT P n ops w K a (⟨some d,.move x,ty,pos,af,none⟩::rest) L:=WT.val (.move (.of hx)) b h
section
variable {P:Program} {ops:Array Oper} {Q:Exit->Act->Wo->Prop} {md:Region.Mode} {S:Wo->Prop} {nd:Nat->Bool}
def Zj(P:Program)(b:Region.Mode)(ops:Array Oper)(Q:Exit->Act->World->Prop)(S:World->Prop)(nd:Nat->Bool):Nat->Array Bool->Act->World->Prop
 | 0,listed,a,w=>Region.ready b ops listed=[]/\Q .normal a w
 | fuel+1,listed,a,w =>
  (Region.ready b ops listed=[]->Q .normal a w)/\
  ∀i∈Region.ready b ops listed,wpOp P ops Q i (λc w'=>(nd i=true->S w->S w')/\Zj P b ops Q S nd fuel (listed.setIfInBounds i true) c w') a w
theorem Xje:∀(fuel:Nat) (listed:Array Bool) (a:Act) (w:Wo),Zj P md ops Q S nd fuel listed a w->wpAny P md ops Q fuel listed a w
 | 0,_,_,_,h=>h
 | fuel+1,_,_,_,h=>⟨h.1,λi hi=>wpOp_mono (λb w' c=>Xje fuel _ b w' c.2) (h.2 i hi)⟩
def tA(a:Region.Mode)(ops:Array Oper)(nd:Nat->Bool)(i:Nat):Bool :=
 (List.range ops.size).all λj=>nd j||j==i||match ops[j]? with
  | some b=>b.after.any (λe=>Region.binds a e&&e.on==i)
  | none=>true
theorem Xu4{r:Oper}(hi:ops[i]?=some r)(m:∀(j:Nat) (o:Oper) cs b,ops[j]?=some o->o.op≠.select cs b)
  (K:∀c a w,Q (.panic c) (a.put r.dst v) w->Q (.panic c) a w) :∀(fuel:Nat) (listed:Array Bool) (a:Act) (w:Wo),
   (∀j s,ops[j]?=some s->j≠i->listed.getD j true=false->(∀e∈s.after,Region.binds md e=true->e.on≠i)->r.apart ops s=true)->
   i∈Region.ready md ops listed->YieldsIf P ops (λ_=>True) r v a->
   Zj P md ops Q S nd fuel (listed.setIfInBounds i true) (a.put r.dst v) w->Zj P md ops Q S nd (fuel+1) listed a w:=by
 intro fuel
 induction fuel with
 | zero =>
  intro listed a w _ q A H;refine⟨λh=>(by rw[h]at q;cases q),λj z=>?_⟩
  by_cases d:j=i
  ·subst d;exact A.wpOp hi trivial ⟨λ_ h=>h,H⟩
  ·have:=ready_mono z d
   rw[H.1]at this;cases this
 | succ fuel T =>
  intro listed a w f q A H;refine⟨λh=>(by rw[h]at q;cases q),λj z=>?_⟩
  by_cases d:j=i
  ·subst d;exact A.wpOp hi trivial ⟨λ_ h=>h,H⟩
  ·have n:=H.2 j (ready_mono z d);obtain⟨l,s,p,t⟩:=mem_ready.1 z;have x:∀e∈s.after,Region.binds md e=true->e.on≠i:=λe M L D=>by
    have n:=t e M L;have G:=(mem_ready.1 q).1;rw[D]at n;rcases Yt i listed.size with B|B
    ·simp[B]at G n;rw[G]at n;cases n
    ·simp[tZ B]at n
   have J:=wpOp_putIf p (f j s p d l x) (λcs b=>m i r cs b hi) (λcs b=>m j s cs b p) K A n;have g:∀k ok,ops[k]?=some ok->k≠i->(listed.setIfInBounds j true).getD k true=false->
     (∀e∈ok.after,Region.binds md e=true->e.on≠i)->r.apart ops ok=true:=λk ok R E y F=>by
    refine f k ok R E ?_ F
    by_cases u:j=k
    ·subst u;exact l
    ·rw[getD_set_ne true u]at y;exact y
   refine wpOp_mono (λI w' C=>⟨C.2.1,T (listed.setIfInBounds j true) I w' g (ready_mono q (Ne.symm d)) C.1 ?_⟩) J;rw[ye _ _ d];exact C.2.2
theorem Xqq{t:Oper}(hi:ops[i]?=some t)(q:∀(j:Nat) (o:Oper) cs b,ops[j]?=some o->o.op≠.select cs b)
  (W:∀c a w,Q (.panic c) (a.put t.dst v) w->Q (.panic c) a w) (M:tA md ops nd i=true) :∀(fuel:Nat) (listed:Array Bool) (a:Act) (w:Wo),
   (∀j u,ops[j]?=some u->j≠i->listed.getD j true=false->(∀e∈u.after,Region.binds md e=true->e.on≠i)->t.apart ops u=true)->
   i∈Region.ready md ops listed->YieldsIf P ops S t v a->S w->
   Zj P md ops Q S nd fuel (listed.setIfInBounds i true) (a.put t.dst v) w->Zj P md ops Q S nd (fuel+1) listed a w:=by
 intro fuel
 induction fuel with
 | zero =>
  intro listed a w _ s F y H;refine⟨λh=>(by rw[h]at s;cases s),λj E=>?_⟩
  by_cases d:j=i
  ·subst d;exact F.wpOp hi y ⟨λ_ h=>h,H⟩
  ·have:=ready_mono E d
   rw[H.1]at this;cases this
 | succ fuel Y =>
  intro listed a w f s F y H;refine⟨λh=>(by rw[h]at s;cases s),λj E=>?_⟩
  by_cases d:j=i
  ·subst d;exact F.wpOp hi y ⟨λ_ h=>h,H⟩
  ·have r:=H.2 j (ready_mono E d);obtain⟨m,u,g,z⟩:=mem_ready.1 E;have p:∀e∈u.after,Region.binds md e=true->e.on≠i:=λe I A J=>by
    have r:=z e I A;have T:=(mem_ready.1 s).1;rw[J]at r;rcases Yt i listed.size with G|G
    ·simp[G]at T r;rw[T]at r;cases r
    ·simp[tZ G]at r
   have n:nd j=true:=by
    have L:j<ops.size:=(Jo.1 g).1;have x:=(Dj.1 M) j (gq.2 L);simp only[g,EC,beq_iff_eq,d,or_false]at x
    rcases x with x|x
    ·exact x
    ·obtain⟨e,I,A⟩:=Array.any_eq_true'.1 x;simp only[Y8,beq_iff_eq]at A
     exact Yz A.2 (p e I A.1)
   have V:=wpOp_putIf g (f j u g d m p) (λcs b=>q i t cs b hi) (λcs b=>q j u cs b g) W F r;have l:∀k ok,ops[k]?=some ok->k≠i->(listed.setIfInBounds j true).getD k true=false->
     (∀e∈ok.after,Region.binds md e=true->e.on≠i)->t.apart ops ok=true:=λk ok X K C R=>by
    refine f k ok X K ?_ R
    by_cases B:j=k
    ·subst B;exact m
    ·rw[getD_set_ne true B]at C;exact C
   refine wpOp_mono (λU w' D=>⟨λ_ _=>D.2.1 n y,Y (listed.setIfInBounds j true) U w' l (ready_mono s (Ne.symm d)) D.1 (D.2.1 n y) ?_⟩) V;rw[ye _ _ d];exact D.2.2
end
def N3(K:Bk):Bk
 | .panic _,_,_=>False
 | e,L,w=>K e L w
def WD(P:Program)(n:Nat)(ops:Array Oper)(S:Wo->Prop)(nd:Nat->Bool)(K:Bk)(fuel:Nat)(listed:Array Bool)(L:AB)(w:Wo):Prop :=
 ∀a,Ap n L a->Zj P .any ops (K2 n (N3 K)) S nd fuel listed a w
section
variable {P:Program} {n:Nat} {K:Bk} {L:AB} {w:Wo} {ops:Array Oper} {S:Wo->Prop} {nd:Nat->Bool} {fuel:Nat} {listed:Array Bool}
theorem WC.drawn(S:Wo->Prop)(nd:Nat->Bool){f:Nat}{l:List Oper}(d:P.follows .mixedOrders=true)(h:WD P n l.toArray S nd K l.toArray.size (Array.replicate l.toArray.size false) L w.drew):WC P n (.region f l.toArray true) K L w:=by
 refine .mono (K:=N3 K) (λa c=>wp_region_any d (Xje _ _ _ _ (h a c))) ?_;intro e L w b;cases e<;>first|exact b|exact b.elim
theorem WD.done(c:Region.ready .any ops listed=[])(h:K .normal L w):WD P n ops S nd K fuel listed L w:=λa b=>by
 cases fuel with
 | zero=>exact⟨c,L,b,h⟩
 | succ f=>exact⟨λ_=>⟨L,b,h⟩,by rw[c];simp⟩
theorem WD.take{d:Nat}(hi:ops[i]?=some ⟨some d,op,ty,pos,af,none⟩)(l:Region.noSelect ops=true)(g:Region.free .any ops listed i=true)(k:(Region.ready .any ops listed).contains i=true)
  (b:tA .any ops nd i=true) (e:S w) (hx:∀w,S w->Ex P n L w ⟨some d,op,ty,pos,af,none⟩ v w) (f:Nat.blt d n=true)
  (h:WD P n ops S nd K fuel (listed.setIfInBounds i true) ((d,v)::L) w):WD P n ops S nd K (fuel+1) listed L w:=λa c =>
 Xqq hi (Region.noSelect_spec l) (λ_ _ _ ⟨_,_,j⟩=>j.elim) b fuel listed a w (Region.free_spec hi g) (su k)
  (.inl ⟨lU O _,λw m=>hx w m a c⟩) e (h _ (c.put f v))
theorem WD.XT{d:Nat}(hi:ops[i]?=some ⟨some d,op,ty,pos,af,none⟩)(j:Region.noSelect ops=true)(e:Region.free .any ops listed i=true)(g:(Region.ready .any ops listed).contains i=true)
  (hx:∀w,Ex P n L w ⟨some d,op,ty,pos,af,none⟩ v w) (c:Nat.blt d n=true)
  (h:WD P n ops S nd K fuel (listed.setIfInBounds i true) ((d,v)::L) w):WD P n ops S nd K (fuel+1) listed L w:=λa b =>
 Xu4 hi (Region.noSelect_spec j) (λ_ _ _ ⟨_,_,f⟩=>f.elim) fuel listed a w (Region.free_spec hi e) (su g)
  (.inl ⟨lU O _,λw _=>hx w a b⟩) (h _ (b.put c v))
def WO(P:Program)(n:Nat)(ops:Array Oper)(S:Wo->Prop)(nd:Nat->Bool)(K:Bk)(fuel:Nat)(listed:Array Bool)(L:AB)(w:Wo)(a:List Nat):Prop :=
 ∀i∈a,∀o,ops[i]?=some o->WL P n ops (Ft (λL' w'=>(nd i=true->S w->S w')/\WD P n ops S nd K fuel (listed.setIfInBounds i true) L' w') (N3 K)) [o] L w
theorem WO.nil:WO P n ops S nd K fuel listed L w []:=λ_ h=>by cases h
theorem WO.cons{o:Oper}{c:List Nat}(d:ops[i]?=some o)
  (h:WL P n ops (Ft (λL' w'=>(nd i=true->S w->S w')/\WD P n ops S nd K fuel (listed.setIfInBounds i true) L' w') (N3 K)) [o] L w) (e:WO P n ops S nd K fuel listed L w c):WO P n ops S nd K fuel listed L w (i::c):=by
 intro j b o' a;rcases Yp.1 b with rfl|b
 ·rw[d]at a;cases a;exact h
 ·exact e j b o' a
theorem WD.branch(y:List Nat)(t:Region.ready .any ops listed=y)(m:y.isEmpty=false)(h:WO P n ops S nd K fuel listed L w y):WD P n ops S nd K (fuel+1) listed L w:=by
 intro a D;refine⟨λz=>?_,λi hi=>?_⟩
 ·rw[t]at z;rw[z]at m;cases m
 ·rw[t]at hi;obtain⟨_,o,A,_⟩:=mem_ready.1 (t▸hi);have k:=h i hi o A a D;unfold wpOp;simp only[A]
  unfold wpList at k;have conv:∀(g:Act) (w':Wo),wpList P ops (K2 n (Ft (λL' w'=>(nd i=true->S w->S w')/\WD P n ops S nd K fuel (listed.setIfInBounds i true) L' w') (N3 K))) [] g w'->
    (nd i=true->S w->S w')/\Zj P .any ops (K2 n (N3 K)) S nd fuel (listed.setIfInBounds i true) g w':=λg w' ⟨L',q,C,E⟩=>⟨C,E g q⟩
  have b:∀(e:Exit) (g:Act) (w':Wo),e≠.normal->K2 n (Ft (λL' w'=>(nd i=true->S w->S w')/\WD P n ops S nd K fuel (listed.setIfInBounds i true) L' w') (N3 K)) e g w'->K2 n (N3 K) e g w':=λe g w' l ⟨L',q,F⟩=>⟨L',q,by cases e<;>first|exact F|exact Yz O l⟩
  split at k
  ·rename_i v
   rw[Y9 v];rcases k with k|⟨j,p,w1,s⟩
   ·left
    have d:=Oper.wp_mono conv k;unfold Oper.wp at d ⊢;generalize (execOp a.eval o).run P w=r at *;cases r with
    | ok G w' =>
     cases G<;>simp only[Oper.upon]at d ⊢
     case value=>exact d
     case skip=>exact d
     case defer=>exact d
     case enter f args =>
      refine Calls.mono d λe H l=>?_
      cases e with
      | returned u=>exact l
      | panicked c=>exact b _ _ _ sz l
      | outgrown =>
       obtain⟨p,w1,B⟩:=l;exact⟨p,w1,b _ _ _ sz B⟩
     case row=>exact d
    | halt x w' =>
     cases x<;>simp only[Oper.upon]at d ⊢
     case panic=>exact b _ _ _ sz d
   ·right
    exact⟨j,p,w1,b _ _ _ sz s⟩
  ·rename_i v
   rw[Y3 v];exact conv _ _ k
theorem Aa.pick{I:Im}{N:La}{A:X1}(d:Aa B w I N)(k:Nat)(i:N[k]?=some A):Aa B w I (A::N.eraseIdx k):=by
 obtain⟨h,l,g⟩:=d;obtain⟨a,m,j,e,_,c,f,b⟩:=l.at_ i;exact⟨a++c,⟨a,c,O,e,f⟩,g.perm (j.trans (b.symm.append_left a))⟩
theorem Am.snoc:∀{N:La} {A:X1} {b a:TU},Am N b->A a->Am (N++[A]) (b++a)
 | [],A,b,a,h,c=>by
  simp only[Am]at h
  subst h;exact⟨a,[],by simp,c,O⟩
 | A0::N,A,b,a,h,c=>by
  obtain⟨g1,g2,rfl,d,e⟩:=h;exact⟨g1,g2++a,by rw[Yg],d,e.snoc c⟩
theorem Am.YF:∀{N:La} {A:X1} {h:TU},Am (N++[A]) h->∃a b,h=a++b/\Am N a/\A b
 | [],A,h,c=>by
  obtain⟨a,b,rfl,i,d⟩:=c;simp only[Am]at d
  subst d;exact⟨[],a,by simp,O,i⟩
 | A0::N,A,h,c=>by
  obtain⟨g1,g2,rfl,e,j⟩:=c;obtain⟨a,b,rfl,f,g⟩:=Am.YF j;exact⟨g1++a,b,by rw[Yg],⟨g1,a,O,e,f⟩,g⟩
theorem Aa.push{I:Im}{N Bs:La}{A:X1}(f:Aa B w I (A::N))(l:N[k]?=some (Am Bs)):Aa B w I (N.set k (Am (Bs++[A]))):=by
 obtain⟨h,⟨g1,g2,rfl,g,n⟩,j⟩:=f;obtain⟨e,o,m,i,a,_⟩:=n.at_ l;obtain⟨d,c,b⟩:=a (Am (Bs++[A])) (e++g1) (i.snoc g);refine⟨d,c,j.perm ((m.append_left g1).trans (List.Perm.trans ?_ b.symm))⟩;rw[<-Yg];exact T3.append_right _
theorem Aa.pop{I:Im}{N Bs:La}{A:X1}(f:Aa B w I N)(l:N[k]?=some (Am (Bs++[A]))):Aa B w I (A::N.set k (Am Bs)):=by
 obtain⟨h,n,j⟩:=f;obtain⟨o,p,m,i,a,_⟩:=n.at_ l;obtain⟨g1,g2,rfl,b,g⟩:=Am.YF i;obtain⟨e,d,c⟩:=a (Am Bs) g1 b;refine⟨g2++e,⟨g2,e,O,g,d⟩,j.perm (m.trans ?_)⟩;refine List.Perm.trans ?_ (c.symm.append_left g2);rw[<-Yg];exact T3.append_right _
theorem Aa.QD{I:Im}{N:La}{E:Nat}(e:Aa B w I N)(d:N[k]?=some (An E size (.slice a nn c) nn xs)):∃J,Le I J/\RS J a size nn xs/\Aa B w J (N.eraseIdx k):=by
 have s:xs.length=nn*size:=e.CM d λ_ x=>x.1
 rcases Ix nn with p|p
 ·exact⟨I,Le.refl I,⟨s,λh=>Yz h om⟩,e.drop d⟩
 ·obtain⟨b,cap,r,m,y,z,_,_,g⟩:=e.AF d p;injection m with m _ n
  subst m;subst n;have l:k<N.length:=(Y1.1 d).1;obtain⟨J,t,v,f⟩:=g.freeze (k:=k) (b:=b) (o:=Xh (xs++r) E) (by simp[l,Ac]);refine⟨J,t,⟨s,λ_=>⟨_,O,O,_,_,_,v,?_⟩⟩,by simpa[nz]using f⟩;intro j u q;have i:j<xs.length:=(Y1.1 q).1;simp only[Yk,pG]
  rw[Ye i];exact q
abbrev Aa.fV{B w:Wo}{I:Im}{N:La}(hS:Aa B w I N)(k:Nat){E n1 n c:Nat}{a:Oa}{xs:Lv}(hk:N[k]?=some (An E n1 (.slice a n c) n xs):=by rfl):=hS.QD hk
end
theorem three{a b c:Bool}(h:(a&&b&&c)=true):a=true/\b=true/\c=true:=by cases a<;>cases b<;>cases c<;>simp_all
theorem WD.tp{K:Bk}{L:AB}{S:Wo->Prop}{nd:Nat->Bool}(i:Nat){d:Nat}(hi:ops[i]?=some ⟨some d,op,ty,pos,af,none⟩)
    (hx:∀w,Ex P n L w ⟨some d,op,ty,pos,af,none⟩ v w)
    (h:WD P n ops S nd K fuel (listed.setIfInBounds i true) ((d,v)::L) w) (a:(Region.noSelect ops&&Region.free .any ops listed i&&(Region.ready .any ops listed).contains i)=true:=by kernel_rfl) (b:Nat.blt d n=true:=by rfl):WD P n ops S nd K (fuel+1) listed L w:=WD.XT hi (three a).1 (three a).2.1 (three a).2.2 hx b h
theorem four{a b c d:Bool}(h:(a&&b&&c&&d)=true):a=true/\b=true/\c=true/\d=true:=by cases a<;>cases b<;>cases c<;>cases d<;>simp_all
theorem WD.tk{K:Bk}{L:AB}{S:Wo->Prop}{nd:Nat->Bool}(i:Nat){d:Nat}(hi:ops[i]?=some ⟨some d,op,ty,pos,af,none⟩)
    (b:S w) (hx:∀w,S w->Ex P n L w ⟨some d,op,ty,pos,af,none⟩ v w)
    (h:WD P n ops S nd K fuel (listed.setIfInBounds i true) ((d,v)::L) w) (a:(Region.noSelect ops&&Region.free .any ops listed i&&(Region.ready .any ops listed).contains i&&tA .any ops nd i)=true:=by kernel_rfl) (c:Nat.blt d n=true:=by rfl):WD P n ops S nd K (fuel+1) listed L w:=WD.take hi (four a).1 (four a).2.1 (four a).2.2.1 (four a).2.2.2 b hx c h
theorem WD.b1{K:Bk}{L:AB}{S:Wo->Prop}{nd:Nat->Bool}(i:Nat){o:Oper}(a:ops[i]?=some o)(h:WL P n ops (Ft (λL' w'=>(nd i=true->S w->S w')/\WD P n ops S nd K fuel (listed.setIfInBounds i true) L' w') (N3 K)) [o] L w)(b:Region.ready .any ops listed=[i]:=by kernel_rfl):WD P n ops S nd K (fuel+1) listed L w:=WD.branch [i] b O (WO.cons a h WO.nil)
theorem WD.dn{K:Bk}{L:AB}{S:Wo->Prop}{nd:Nat->Bool}(h:K .normal L w)(a:Region.ready .any ops listed=[]:=by kernel_rfl):WD P n ops S nd K fuel listed L w:=WD.done a h
theorem WC.dw{K:Bk}{L:AB}(S:Wo->Prop)(nd:Nat->Bool){b:Nat}{l:List Oper}(h:WD P n l.toArray S nd K l.toArray.size (Array.replicate l.toArray.size false) L w.drew)(a:P.follows .mixedOrders=true:=by kernel_rfl):WC P n (.region b l.toArray true) K L w:=WC.drawn S nd a h
theorem WC.qt{K:Bk}{L:AB}{I:Im}{N:La}{d:Nat}{l:List Oper}(b:Aa B w I N)
    (h:WQ P n l.toArray (λw=>Aa B w I N) (λL'=>∀w',Aa B w' I N->K .normal L' w') l L) (c:P.follows .mixedOrders=true:=by kernel_rfl) (a:Region.lexB .any l.toArray=true:=by kernel_rfl):WC P n (.region d l.toArray true) K L w:=WC.quiet c a b h
def uO:List Nat->List X1->List X1
  | [],N=>N
  | k::ks,N=>uO ks (match N[k]? with
    | some A=>A::N.eraseIdx k
    | none=>N)
theorem Aa.x{I:Im}:∀{N:La} (_:Aa B w I N) (b:List Nat),Aa B w I (uO b N)
  | _,a,[]=>a
  | N,a,k::b=>by
    unfold uO;split
    · rename_i A c;exact Aa.x (a.pick k c) b
    · exact Aa.x a b
def uG(k:Nat):Nat->List X1->List X1
  | 0,N=>N
  | m+1,N=>uG k m (N.eraseIdx k)
theorem Aa.y{I:Im}{N:La}(a:Aa B w I N)(k:Nat):∀m,Aa B w I (uG k m N):=λm=>by
  induction m generalizing N with
  | zero=>exact a
  | succ m c =>
    unfold uG;cases b:N[k]? with
    | none=>rw[List.eraseIdx_of_length_le (oh (List.getElem?_eq_none_iff.1 b))];exact c a
    | some A=>exact c (a.drop b)
theorem Aa.z{I:Im}{N:La}(b:Aa B w I N)(a:List Nat)(k m:Nat):Aa B w I (uG k m (uO a N)):=(b.x a).y k m
def Wa(K:Bk):Bk:=λe L w=>match e with|.goto _=>False|e=>K e L w
theorem WC.scope{K:Bk}{L:AB}{c:Code}(h:WC P n c (Wa K) L w):WC P n (.scope c) K L w:=by
 intro a f;refine wp_scope_straight (wp_mono (h a f) ?_);rintro e g w' ⟨L',d,b⟩;cases e<;>first|exact b.elim|exact⟨L',d,b⟩
section
variable {P:Program} {n:Nat} {K:Bk} {L:AB} {w:Wo} {ops:Array Oper} {rest:List Oper}
theorem WL.Lx{d j t:Nat}{c:List (Bool×Bool)}{b:Bool}{xs:List Operand}{T:Wo->Prop}
  (R:(ops[j]?).bind (·.dst)=some t) (V:Nat.blt t n=true) (J:look L t=some (CH c (.bool b))) (Q:P.funcs[f]?=some fn) (B:Xf fn=true)
  (hx:(∀p∈c++[(b,want)],p.1=p.2)->∀a,Ap n L a->xs.map a.eval=vs) (F:Nat.blt d n=true)
  (l:(∀p∈c++[(b,want)],p.1=p.2)->Calls P f vs.toArray w (AY λv w'=>v=v0/\T w')) (G:T w)
  (h:∀w',T w'->WL P n ops K rest ((d,CH (c++[(b,want)]) v0)::L) w'):WL P n ops K (⟨some d,.call ⟨.value (.func f),xs.toArray,ts⟩,ty,pos,af,some (j,want)⟩::rest) L w:=by
 intro a s;refine wpList_step λK' E=>?_
 have u:t<a.tmps.size:=by have:=Yx V;rw[s.size];omega
 have x:=s.get t _ J;have m:yielded ops a.tmps j=match CH c (.bool b)with|.bool b=>some b|_=>none:=by
  obtain⟨o,S,C⟩:=fW.1 R;rw[GF,Iv u]at x;simp only[gj]at x
  have y:a.tmps[t]?=some (CH c (.bool b)):=by rw[Iv u,x]
  simp only[yielded,S,C,gi,y]
  generalize CH c (.bool b)=g;cases g<;>rfl
 by_cases e:∀p∈c++[(b,want)],p.1=p.2
 ·have r:∀p∈c,p.1=p.2:=λp k=>e p (by simp[k])
  have q:b=want:=e (b,want) sz;rw[Ka r]at m;rw[Y9 (by simp[Region.wanted,m,q])];have M:(execOp a.eval (⟨some d,.call ⟨.value (.func f),xs.toArray,ts⟩,ty,pos,af,some (j,want)⟩:Oper)).run P w=.ok (.enter f vs.toArray) w:=by
   unfold Xf at B;simp only[Y8]at B
   obtain⟨H,y⟩:=B;have z : ¬ fn.name = "runtime.NumGoroutine" := by simpa using H
   have A:¬ fn.body=none:=by intro e;rw[e]at y;cases y
   have x:=hx e a s;simp[execOp,resolve,Act.eval,Deferred.ofValue,invoke,callFunc,program,Sem.run,Q,z,A,<-x]
  unfold Oper.wp;rw[M];refine(l e).mono λX D U=>?_
  obtain⟨v,rfl,rfl,I⟩:=U;have i:=h D I _ (s.put F (CH (c++[(b,want)]) v));rw[Ka e]at i;exact E _ _ i
 ·have W:Region.wanted (⟨some d,.call ⟨.value (.func f),xs.toArray,ts⟩,ty,pos,af,some (j,want)⟩:Oper) (yielded ops a.tmps)=false:=by
   by_cases r:∀p∈c,p.1=p.2
   ·rw[Ka r]at m;have q:¬ b=want:=λq=>e λp k=>by
     rcases Ys.1 k with k|k
     ·exact r p k
     ·simp at k;subst k;exact q
    simp[Region.wanted,m,q]
   ·rw[TJ r]at m;simp[Region.wanted,m,undef]
  rw[Y3 (by simp[W])];have i:=h w G _ (s.put F (CH (c++[(b,want)]) v0));rw[TJ e]at i;exact E _ _ i
theorem WL.Au{d j t:Nat}{b:Bool}{xs:List Operand}{T:Wo->Prop}
  (p:(ops[j]?).bind (·.dst)=some t) (q:Nat.blt t n=true) (k:look L t=some (.bool b)) (o:P.funcs[f]?=some fn) (l:Xf fn=true)
  (hx:b=want->∀a,Ap n L a->xs.map a.eval=vs) (m:Nat.blt d n=true)
  (g:b=want->Calls P f vs.toArray w (AY λv w'=>v=v0/\T w')) (i:T w)
  (h:∀w',T w'->WL P n ops K rest ((d,gd b want v0)::L) w'):WL P n ops K (⟨some d,.call ⟨.value (.func f),xs.toArray,ts⟩,ty,pos,af,some (j,want)⟩::rest) L w :=
 WL.Lx (c:=[]) p q k o l (λe=>hx (e (b,want) sz)) m (λe=>g (e (b,want) sz)) i h
end
section
variable {P:Program} {n:Nat} {K:Bk} {L:AB} {w:Wo} {B:Wo} {I:Im} {N:La} {k:Nat} {x y:Operand} {ty:TypeId} {pos:String} {af:Array Edge} {g:Option (Nat×Bool)} {ops:Array Oper} {rest:List Oper}
theorem Ex.extern{e : Array Value → Sem Value}{xs : List Operand}{vs : List Value}{v : Value}(l : P.funcs[f]? = some fn)(b : (fn.name == "runtime.NumGoroutine") = false)(j : fn.body.isNone = true)(m : Extern.findNext fn = none)(k : Extern.find fn = some e)
  (hx:∀a,Ap n L a->xs.map a.eval=vs) (o:(e vs.toArray).run P w=.ok v w):Ex P n L w ⟨d,.call ⟨.value (.func f),xs.toArray,ts⟩,ty,pos,af,g⟩ v w:=λa i=>by
 have h:=run_callFunc_extern l b j m k vs.toArray w;have c:=hx a i;rw[o]at h;simp only[Result.andThen]at h
 subst c;simp[execOp,resolve,Act.eval,Deferred.ofValue,invoke,h]
theorem wQ(a:w.heap[b]?=some (Xh cs E)):w.shape? b=some (E,cs.length):=by
 simp[World.shape?,a,Xh]
theorem Ex.XW{t:TypeId}{j:TypeInfo}(hx:Ev n L x (ptr b o))(c:Aa B w I N)(l:N[k]?=some (Ac b cs E))(p:P.underlying src=some (.pointer t))(f:P.underlying dst=some .unsafePointer)(q:P.info? t=some j)(i:j.size≠0)(m:o<cs.length):Ex P n L w ⟨d,.convert src dst x,ty,pos,af,g⟩ (ptr b o) w:=λa e=>by
 have h:=Go.Lib.run_to_unsafe (P:=P) w ⟨b,o,none⟩ p f q i (wQ (c.block l)) m;simp[execOp,hx a e,h]
theorem Ex.Lw{u:TypeId}{j:TypeInfo}(hx:Ev n L x (ptr b o))(c:Aa B w I N)(i:N[k]?=some (Ac b cs E))(m:P.underlying src=some .unsafePointer)(f:P.underlying dst=some (.pointer u))(p:P.info? u=some j)(l:liesAt P P.depth E (cs.length/P.cellsOf E) o u 1=true):Ex P n L w ⟨d,.convert src dst x,ty,pos,af,g⟩ (ptr b o) w:=λa e=>by
 have h:=Go.Lib.run_from_unsafe (P:=P) w ⟨b,o,none⟩ m f p (wQ (c.block i)) l;simp[execOp,hx a e,h]
theorem Ex.dL{t b:TypeId}{j:TypeInfo}{a:Addr}(hx:Ev n L x (.pointer (some a)))(h:Ev n L y (.pointer (some a)))(c:P.underlying t=some (.pointer b))(e:P.info? b=some j)(f:True):Ex P n L w ⟨d,.binOp .neq t x y t,ty,pos,af,g⟩ (.bool false) w :=
 CV hx h (λ_ _=>by rw[eqGuard_at_pointer];rfl) (Go.Lib.run_neq_ptr_same w a c e)
abbrev Ao(l:Lu):Lv:=l.map λc=>U8 (c.toNat:Int)
theorem Ex.RA{a:Addr}(hx:Ev n L x (.slice (some a) m c))(f:c≠0):Ex P n L w ⟨d,.call ⟨.builtin .unsafeSliceData,#[x],ts⟩,ty,pos,af,g⟩ (.pointer (some a)) w:=λb e=>by
 have h:=Go.Lib.run_unsafeSliceData_row (P:=P) w ts ty a m c f;simp[execOp,resolve,invoke,builtin,hx b e,h]
theorem Ex.H6(hx:Ev n L x (.slice none m c)):Ex P n L w ⟨d,.call ⟨.builtin .unsafeSliceData,#[x],ts⟩,ty,pos,af,g⟩ (.pointer none) w:=λb a=>by
 have h:=Go.Lib.run_unsafeSliceData_nil (P:=P) w ts ty m c;simp[execOp,resolve,invoke,builtin,hx b a,h]
theorem Ex.EJ{e c:TypeId}{p:Oa}(hx:Ev n L x (.pointer p))(f:Ev n L y (Ab 0)):Ex P n L w ⟨d,.call ⟨.builtin .unsafeString,#[x,y],#[e,c]⟩,ty,pos,af,g⟩ (S []) w:=λb a=>by
 have h:=Go.Lib.run_unsafeString_none (P:=P) w e c ty p;simp[execOp,resolve,invoke,builtin,hx b a,f b a,h]
 rfl
theorem Aa.Jx(f:Aa B w I N)(d:N[k]?=some (Ac b cs E)):Aa B (w.freeze ⟨b,0,none⟩ m) I (N.eraseIdx k):=by
 by_cases a:m=0
 ·subst a;have e:w.freeze ⟨b,0,none⟩ 0=w:=by simp[World.freeze]
  rw[e];exact f.drop d
 ·have l:=f.block d;have p:∃o',(w.freeze ⟨b,0,none⟩ m).heap[b]?=some o':=by
   refine⟨.cells cs.toArray E (0,m),?_⟩;simp[World.freeze,a,pE,l,Xh]
  obtain⟨o',o⟩:=p;have i:=f.write (w':=w.freeze ⟨b,0,none⟩ m) d (by simp[World.freeze,a]) (by simp[World.freeze,a]) (by simp[World.freeze,a]) o (λc n=>by
   have h:¬ b=c:=λe=>n e.symm
   simp[World.freeze,a,pE,h])
  have g:k<N.length:=(Y1.1 d).1;have j:=i.drop (k:=k) (A:=own b o') (by simp[g]);simpa[nz]using j
theorem WL.unsafeString{d:Nat}{e p:TypeId}{l:Lu}{r:Lv}(f:Aa B w I N)(o:N[k]?=some (Ac b (Ao l++r) E))(hx:Ev n L x (ptr b 0))(z:Ev n L y (Ab l.length))(q:l≠[])(u:P.underlying e=some (.pointer E))(s:P.cellsOf E=1)(c:l.length<=9223372036854775807)(t:Nat.blt d n=true)
  (h:∀w',Aa B w' I (N.eraseIdx k)->WL P n ops K rest ((d,S l)::L) w'):WL P n ops K (⟨some d,.call ⟨.builtin .unsafeString,#[x,y],#[e,p]⟩,ty,pos,af,none⟩::rest) L w:=by
 have i:=f.block o;have v:=Go.Lib.run_unsafeString_row (P:=P) w e p ty E u s b (Ao l++r).length (wQ i) l q sz c (λj y m=>by
  rw[CY,Yk];refine Xz i ?_;rw[Ye (by have:=(Y1.1 m).1;simpa using this)];simp[m])
 refine .val (w':=w.freeze ⟨b,0,none⟩ l.length) (λa g=>?_) t (h _ (f.Jx o));simp[execOp,resolve,invoke,builtin,hx a g,z a g,v]
theorem Ex.Dp{l:Lu}(hx:Ev n L x (.slice (some (ad b o)) l.length cap))(e:Aa B w I N)(r:N[k]?=some (Ac b cs E))(s:P.underlying src=some (.slice E))(q:P.underlying E=some (.int .u8))(p:P.underlying dst=some .string)
  (m:∀j (c:j<l.length),cs[o+j]?=some (U8 (l[j].toNat:Int))):Ex P n L w ⟨d,.convert src dst x,ty,pos,af,g⟩ (S l) w:=λa f=>by
 have i:=e.block r;have h:=run_convert_bytes_back (P:=P) w src dst E (ad b o) cap l s q p (λj c=>by rw[CY];exact Xz i (m j c));simp[execOp,hx a f,h]
end
end Gk
open Go Gk
variable {L L' M:AB}{I J:Im}{N Bh Hs:La}{A:X1}{K K':Bk}
namespace Eg
open Ieee
def rg(b:Nat):Nat:=b%9223372036854775808
def sg(b:Nat):Bool:=b/9223372036854775808%2==1
def nan(b:Nat):Bool:=decide (9218868437227405312<rg b)
def Hp(r:Nat):Nat:=if r<4503599627370496 then r else(4503599627370496+r%4503599627370496)*2^(r/4503599627370496-1)
def sv(b:Nat):Int:=if sg b then -(Hp (rg b):Int)else(Hp (rg b):Int)
theorem LL{r s:Nat}(h:r<s):Hp r<Hp s:=by
 unfold Hp
 by_cases b:s<4503599627370496
 ·rw[Y9 b,Y9 om];exact h
 ·rw[Y3 b];have d:0<2^(s/4503599627370496-1):=K8 _
  by_cases c:r<4503599627370496
  ·rw[Y9 c]
   have:4503599627370496*1<=(4503599627370496+s%4503599627370496)*2^(s/4503599627370496-1):=uy om d
   omega
  ·rw[Y3 c];rcases Yt (r/4503599627370496) (s/4503599627370496)with e|e
   ·have j:(4503599627370496+r%4503599627370496)*2^(r/4503599627370496-1)<(2*4503599627370496)*2^(r/4503599627370496-1):=by
     apply jx om (K8 _)
    have k:(2*4503599627370496)*2^(r/4503599627370496-1)=4503599627370496*2^(r/4503599627370496):=by
     have:r/4503599627370496=(r/4503599627370496-1)+1:=by have:=(Nat.le_div_iff_mul_le (show 0<4503599627370496 by decide) (x:=1) (y:=r)).2 om;omega
     rw[this,T9,show r/4503599627370496-1+1-1=r/4503599627370496-1 by omega,FZ 2 4503599627370496,Jr,FZ 2]
    have g:2^(r/4503599627370496)<=2^(s/4503599627370496-1):=aV de om;have l:4503599627370496*2^(r/4503599627370496)<=(4503599627370496+s%4503599627370496)*2^(s/4503599627370496-1):=uy om g;omega
   ·have a:r/4503599627370496=s/4503599627370496:=Nat.le_antisymm (Nat.div_le_div_right (pR h)) e;rw[a];refine jx ?_ d;have f:=nL r 4503599627370496;have i:=nL s 4503599627370496;rw[a]at f;omega
theorem Xvx:Hp 0=0:=rfl
theorem dG{r:Nat}(h:0<r):0<Hp r:=by have:=LL h;rw[Xvx]at this;exact this
theorem kP{E:Nat}(e:k<=2*4503599627370496)(f:0<E->4503599627370496<=k):Hp (E*4503599627370496+k)=k*2^E:=by
 unfold Hp
 by_cases c:k<4503599627370496
 ·have:E=0:=om
  subst this;simp only[PT,Yk,Nat.pow_zero,Dm]
  rw[Y9 c]
 ·rw[Y3 om]
  by_cases d:k<2*4503599627370496
  ·have a:(E*4503599627370496+k)/4503599627370496=E+1:=by
    rw[show E*4503599627370496+k=(k-4503599627370496)+(E+1)*4503599627370496 by omega,Nat.add_mul_div_right _ _ de,pL om];omega
   have b:(E*4503599627370496+k)%4503599627370496=k-4503599627370496:=by
    rw[show E*4503599627370496+k=(k-4503599627370496)+(E+1)*4503599627370496 by omega,Y5y,jI om]
   rw[a,b,show 4503599627370496+(k-4503599627370496)=k by omega,show E+1-1=E by omega]
  ·have:k=2*4503599627370496:=om
   subst this;have a:(E*4503599627370496+2*4503599627370496)/4503599627370496=E+2:=by rw[<-F0,Nat.mul_div_cancel _ de]
   have b:(E*4503599627370496+2*4503599627370496)%4503599627370496=0:=by rw[<-F0,Nat.mul_mod_left]
   rw[a,b,show E+2-1=E+1 by omega,T9]
   have:4503599627370496*(2^E*2)=2*4503599627370496*2^E:=by rw[FZ (2^E) 2,<-Jr,FZ 4503599627370496 2]
   simpa using this
theorem sw:double.signWeight=9223372036854775808:=de
theorem bn:double.binade=4503599627370496:=de
theorem ir:double.infRung=9218868437227405312:=de
theorem lp:double.leastPlace=-1074:=de
theorem l_(h:rg b<9218868437227405312):∃m i,double.read b=.number (sg b) m i/\-1074<=i/\i<=971/\Hp (rg b)=m*2^(i+1074).toNat/\(m=0↔rg b=0):=by
 unfold Format.read;rw[sw,bn,ir,lp];show ∃m i,(if rg b<4503599627370496 then _ else _)=_/\_
 by_cases a:rg b<4503599627370496
 ·rw[Y9 a];refine⟨rg b,-1074,O,om,om,?_,Iff.rfl⟩;unfold Hp;rw[Y9 a];simp
 ·rw[Y3 a];show ∃m i,(if rg b<9218868437227405312 then _ else _)=_/\_
  rw[Y9 h];refine⟨4503599627370496+rg b%4503599627370496,-1074+(rg b/4503599627370496-1:Nat),O,om,?_,?_,?_⟩
  ·have:rg b/4503599627370496<=2046:=by
    have:=yj (m:=rg b) (n:=4503599627370496) (k:=2047) om
    omega
   omega
  ·unfold Hp;rw[Y3 a]
   congr 2
   omega
  ·omega
theorem sJ(h:rg b=9218868437227405312):double.read b=.infinity (sg b):=by
 unfold Format.read;rw[sw,bn,ir,lp];show(if rg b<4503599627370496 then _ else _)=_
 rw[Y3 om];show(if rg b<9218868437227405312 then _ else if rg b=9218868437227405312 then _ else _)=_
 rw[Y3 om,Y9 h];rfl
theorem sK(h:9218868437227405312<rg b):∃s t,double.read b=.nan s t:=by
 unfold Format.read;rw[sw,bn,ir,lp];refine⟨sg b,rg b-9218868437227405312,?_⟩;show(if rg b<4503599627370496 then _ else _)=_
 rw[Y3 om];show(if rg b<9218868437227405312 then _ else if rg b=9218868437227405312 then _ else _)=_
 rw[Y3 om,Y3 om];rfl
theorem sf(s:Bool)(m k:Nat):signed s m k=if s then -((m*2^k:Nat):Int)else((m*2^k:Nat):Int):=by
 unfold signed;rw[nK]
theorem Qf{a b c:Int}(h:0<c):compare (a*c) (b*c)=compare a b:=by
 have e:(a*c<b*c)↔a<b:=⟨λd=>yc d (uz h),λd=>Int.mul_lt_mul_of_pos_right d h⟩
 have f:(a*c=b*c)↔a=b:=⟨λd=>Int.eq_of_mul_eq_mul_right om d,λd=>by rw[d]⟩
 show compareOfLessAndEq _ _=compareOfLessAndEq _ _
 unfold compareOfLessAndEq;simp only[e,f]
theorem Xdc(s:Bool)(m k j:Nat):signed s m (k+j)=signed s m k*((2^j:Nat):Int):=by
 rw[sf,sf,M_,<-Jr];cases s<;>simp[Int.neg_mul]
theorem o5{a b:Int}(h:a<b):compare a b=.lt:=by
 show compareOfLessAndEq _ _=_
 unfold compareOfLessAndEq;rw[Y9 h]
theorem o4{a b:Int}(h:b<a):compare a b=.gt:=by
 show compareOfLessAndEq _ _=_
 unfold compareOfLessAndEq;rw[Y3 om,Y3 om]
theorem tE{a b:Int}(h:a=b):compare a b=.eq:=by
 show compareOfLessAndEq _ _=_
 unfold compareOfLessAndEq;rw[Y3 om,Y9 h]
theorem Xw6(x y:Nat):double.order x y=if nan x||nan y then none else some (compare (sv x) (sv y)):=by
 unfold Format.order nan
 by_cases hx:9218868437227405312<rg x
 ·obtain⟨s,t,e⟩:=sK hx;rw[e,decide_eq_true hx];simp[Datum.order]
 ·rw[decide_eq_false hx]
  by_cases l:9218868437227405312<rg y
  ·obtain⟨s,t,e⟩:=sK l;rw[e,decide_eq_true l];cases double.read x<;>simp[Datum.order]
  ·rw[decide_eq_false l];simp only[Bool.or_self,Sk,if_false]
   have M:∀{r},r<9218868437227405312->Hp r<Hp 9218868437227405312:=λh=>LL h
   rcases Yt (rg x) 9218868437227405312 with c|c
   ·obtain⟨m,i,e,w,_,p,_⟩:=l_ c;rcases Yt (rg y) 9218868437227405312 with a|a
    ·obtain⟨n,j,g,k,_,f,_⟩:=l_ a;rw[e,g];simp only[Datum.order,Option.some.injEq]
     have u:sv x=signed (sg x) m (i+1074).toNat:=by rw[sf,<-p];rfl
     have v:sv y=signed (sg y) n (j+1074).toNat:=by rw[sf,<-f];rfl
     rw[u,v,show(i+1074).toNat=(i-min i j).toNat+(min i j+1074).toNat by omega,show(j+1074).toNat=(j-min i j).toNat+(min i j+1074).toNat by omega,Xdc,Xdc];exact(Qf (jL.2 (K8 _))).symm
    ·have b:rg y=9218868437227405312:=om
     rw[e,sJ b];have o:=M c;simp only[Datum.order,Option.some.injEq]
     unfold sv;rw[b];cases q:sg y
     ·simp only[Sk,if_false]
      refine(o5 ?_).symm;split<;>omega
     ·simp only[if_true]
      refine(o4 ?_).symm;split<;>omega
   ·have d:rg x=9218868437227405312:=om
    rw[sJ d];rcases Yt (rg y) 9218868437227405312 with a|a
    ·obtain⟨n,j,g,k,_,f,_⟩:=l_ a;rw[g];have o:=M a;simp only[Datum.order,Option.some.injEq]
     unfold sv;rw[d];cases q:sg x
     ·simp only[Sk,if_false]
      refine(o4 ?_).symm;split<;>omega
     ·simp only[if_true]
      refine(o5 ?_).symm;split<;>omega
    ·have b:rg y=9218868437227405312:=om
     rw[sJ b];have o:0<Hp 9218868437227405312:=dG de;simp only[Datum.order,Option.some.injEq]
     unfold sv;rw[d,b];cases sg x<;>cases sg y<;>simp only[if_true,Sk,if_false]
     ·exact(tE O).symm
     ·exact(o4 om).symm
     ·exact(o5 om).symm
     ·exact(tE O).symm
theorem kA(x y:Nat):(double.order x y==some .gt)=(!nan x&&!nan y&&decide (sv y<sv x)):=by
 rw[Xw6];cases nan x<;>cases nan y<;>simp
 rcases Int.lt_trichotomy (sv x) (sv y)with h|h|h
 ·rw[o5 h];simp;omega
 ·rw[tE h];simp;omega
 ·rw[o4 h];simp[h]
theorem eq_iff(x y:Nat):(double.order x y==some .eq)=(!nan x&&!nan y&&decide (sv x=sv y)):=by
 rw[Xw6];cases nan x<;>cases nan y<;>simp
 rcases Int.lt_trichotomy (sv x) (sv y)with h|h|h
 ·rw[o5 h];simp;omega
 ·rw[tE h];simp[h]
 ·rw[o4 h];simp;omega
theorem xJ(n drop:Nat):(drop<=n.log2+2/\1 <<< min drop (n.log2+2)=2^drop)\/(2*n<1 <<< min drop (n.log2+2)/\2*n<2^drop/\1 <<< min drop (n.log2+2)=2^(n.log2+2)):=by
 have b:n<2^(n.log2+1):=Nat.lt_log2_self;rcases Yt (n.log2+2) drop with h|h
 ·right
  rw[Nat.min_eq_right (pR h),nK,pS];have e:2^(n.log2+2)=2*2^(n.log2+1):=by rw[T9,FZ]
  have a:2^(n.log2+2)<=2^drop:=aV de (pR h);exact⟨om,om,O⟩
 ·left
  rw[M8 h,nK,pS];exact⟨h,O⟩
theorem yI(a:Bool)(n drop:Nat):2*n<=(2*Toward.even.cut a n drop+1)*2^drop/\n/2^drop<=Toward.even.cut a n drop/\Toward.even.cut a n drop<=n/2^drop+1/\2*(Toward.even.cut a n drop*2^drop)<=2*n+2^drop:=by
 unfold Toward.cut;dsimp only
 rcases xJ n drop with⟨_,e⟩|⟨f,j,e⟩
 ·rw[e];generalize i:2^drop=g;have d:0<g:=by rw[<-i];exact K8 _
  have f:=nL n g;have k:=T_ n d;generalize n/g=low at *;generalize n%g=rest at *
  by_cases b:(decide (g<2*rest)||(g==2*rest&&low%2==1))=true
  ·rw[b];simp only[EC,dq1,Y8,beq_iff_eq]at b
   have:(2*(low+1)+1)*g=2*(g*low)+3*g:=by rw[F0,Jr,F0,FZ low g];omega
   have h:(low+1)*g=g*low+g:=by rw[F0,FZ low g];omega
   simp only[yx]
   exact⟨om,om,om,by rw[h];omega⟩
  ·have c:(decide (g<2*rest)||(g==2*rest&&low%2==1))=false:=su b
   rw[c];simp only[EB,dq2]at c
   have:(2*low+1)*g=2*(g*low)+g:=by rw[F0,Jr,FZ low g];omega
   simp only[yv,ER]
   exact⟨om,om,om,by rw[FZ low g];omega⟩
 ·rw[pL (by omega:n<1 <<< min drop (n.log2+2)),jI (by omega:n<1 <<< min drop (n.log2+2)),pL (by omega:n<2^drop)];have b:(decide (1 <<< min drop (n.log2+2)<2*n)||(1 <<< min drop (n.log2+2)==2*n&&0%2==1))=false:=by
   simp only[EB,dq2]
   exact⟨om,by simp⟩
  rw[b];simp only[yv,ER,Nat.mul_zero,Yk,pS,PT]
  exact⟨om,Ya _,om,om⟩
theorem p6(n drop:Nat):n<=Toward.up.cut false n drop*2^drop/\(Toward.up.cut false n drop*2^drop<n+2^drop):=by
 unfold Toward.cut;dsimp only
 rcases xJ n drop with⟨_,e⟩|⟨d,h,e⟩
 ·rw[e];generalize f:2^drop=g;have c:0<g:=by rw[<-f];exact K8 _
  have d:=nL n g;have i:=T_ n c;generalize n/g=low at *;generalize n%g=rest at *
  by_cases a:rest=0
  ·subst a
   simp
   rw[FZ];omega
  ·have b:(rest !=0)=true:=su a
   simp only[gp,Cv,b,yx]
   rw[F0,FZ low g];omega
 ·rw[pL (by omega:n<1 <<< min drop (n.log2+2)),jI (by omega:n<1 <<< min drop (n.log2+2))]
  by_cases a:n=0
  ·subst a
   simp
   exact K8 _
  ·have b:(n !=0)=true:=su a
   simp only[gp,Cv,b,yx]
   omega
theorem bV(s:Bool)(n drop:Nat):Toward.zero.cut s n drop*2^drop<=n/\n<(Toward.zero.cut s n drop+1)*2^drop:=by
 unfold Toward.cut;dsimp only
 rcases xJ n drop with⟨_,e⟩|⟨b,d,e⟩
 ·rw[e];generalize c:2^drop=g;have a:0<g:=by rw[<-c];exact K8 _
  have b:=nL n g;have f:=T_ n a;generalize n/g=low at *;generalize n%g=rest at *;simp only[yv,ER,F0,pS,FZ low g]
  omega
 ·rw[pL (by omega:n<1 <<< min drop (n.log2+2))]
  simp;omega
theorem qA(d:Bool){place:Int}(p:m≠0):∃E k:Nat,double.nearest d m place=double.word d (min (E*4503599627370496+k) 9218868437227405312)/\k<=2*4503599627370496/\(0<E->4503599627370496<=k)/\
  (∀a b:Nat,place+1074=(b:Int)-a->m*2^b<(k+1)*2^(E+a))/\(m<9007199254740992->-1074<=place->k*2^E=m*2^(place+1074).toNat/\(E:Int)<=max 0 (place+1075)):=by
 have h:2^m.log2<=m:=Nat.log2_self_le p;have i:m<2^(m.log2+1):=Nat.lt_log2_self;unfold Format.nearest;rw[Y3 p,ir,lp,bn];rw[show((double.fractionBits:Nat):Int)=52 from O];generalize n:max (place+(m.log2:Int)-52) (-1074)=last;refine⟨(last - -1074).toNat,Toward.even.cut d (m <<< (place-last).toNat) (last-place).toNat,O,?_⟩;have c:=yI d (m <<< (place-last).toNat) (last-place).toNat;generalize s:Toward.even.cut d (m <<< (place-last).toNat) (last-place).toNat=k at c ⊢;rw[nK]at c;rcases Int.lt_or_le place last with t|t
 ·have e0:(place-last).toNat=0:=om
  rw[e0,Nat.pow_zero,Dm]at c;generalize x:(last-place).toNat=drop at c;obtain⟨v,q,w,_⟩:=c;have g:0<2^drop:=K8 _;have up:m/2^drop<2^53:=by
   rw[Nat.div_lt_iff_lt_mul g,<-M_];exact uo i (aV de om)
  refine⟨om,λr=>?_,λa b l=>?_,λf o=>?_⟩
  ·refine Yq ?_ q;rw[Nat.le_div_iff_mul_le g,show(4503599627370496:Nat)=2^52 by decide,<-M_];exact Yq (aV de om) h
  ·have e:(last - -1074).toNat+a=drop+b:=om
   rw[e,M_,<-Jr];refine jx ?_ (K8 _)
   have:(2*k+1)*2^drop<2*((k+1)*2^drop):=by rw[<-Jr];exact jx om g
   omega
  ·exfalso
   have:m.log2<53:=by
    refine(Nat.pow_lt_pow_iff_right (a:=2) de).1 (yl h ?_);exact Nat.lt_of_lt_of_eq f de
   omega
 ·have e0:(last-place).toNat=0:=om
  rw[e0,Nat.pow_zero,Dm,Nat.div_one,Dm]at c;generalize y:(place-last).toNat=u at c s;have j:k=m*2^u:=om
  clear c;have up:m*2^u<2^53:=by
   refine uo (jx i (K8 _)) ?_;rw[<-M_];exact aV de om
  refine⟨om,λr=>?_,λa b l=>?_,λf o=>⟨?_,om⟩⟩
  ·rw[j,show(4503599627370496:Nat)=2^52 by decide];refine Yq ?_ (T4 _ h);rw[<-M_];exact aV de om
  ·have e:b=u+((last - -1074).toNat+a):=om
   rw[e,j,M_,<-Jr];exact jx om (K8 _)
  ·rw[j,Jr,<-M_]
   congr 2
   omega
theorem ei(s:Bool){r:Nat}(h:r<=9218868437227405312):rg (double.word s r)=r/\sg (double.word s r)=s:=by
 unfold Format.word rg sg;rw[sw];cases s
 ·simp;omega
 ·simp;omega
theorem xj(s:Bool){r:Nat}(h:r<=9218868437227405312):nan (double.word s r)=false:=by
 unfold nan;rw[(ei s h).1]
 simp;omega
theorem V7(s:Bool)(m:Nat)(p:Int):nan (double.nearest s m p)=false:=by
 by_cases a:m=0
 ·unfold Format.nearest;rw[Y9 a];exact xj s de
 ·obtain⟨E,k,e,_⟩:=qA s a (place:=p);rw[e];exact xj s om
def e0:Nat:=1074
def one:Nat:=2^e0
theorem one_pos:0<one:=K8 _
theorem Wk:one=2^e0:=rfl
theorem whole(h:c<=1099511627776):∃r,double.nearest false c 0=r/\r<9218868437227405312/\Hp r=c*one:=by
 by_cases a:c=0
 ·subst a;exact⟨0,de,de,by simp[Xvx]⟩
 ·obtain⟨E,k,e,b,d,_,f⟩:=qA false a (place:=0);obtain⟨g,j⟩:=f om om;have i:E*4503599627370496+k<9218868437227405312:=om
  refine⟨_,O,?_,?_⟩
  ·rw[e,M8 om];unfold Format.word;simp only[Sk,if_false]
   exact i
  ·rw[e,M8 om];unfold Format.word;simp only[Sk,if_false]
   rw[kP b d,g,show((0:Int)+1074).toNat=e0 from O,<-Wk]
theorem Xwz{r:Nat}(h:r<=9218868437227405312):sv r=Hp r/\nan r=false/\rg r=r/\sg r=false:=by
 have a:rg r=r:=by unfold rg;omega
 have b:sg r=false:=by unfold sg;simp;omega
 refine⟨by unfold sv;rw[a,b];simp,by unfold nan;rw[a];simp;omega,a,b⟩
def Sr(n:Int):Nat:=double.write (.number (decide (n<0)) n.natAbs 0)
theorem Wh{c:Int}(f:0<=c)(h:c<=1099511627776):nan (Sr c)=false/\sv (Sr c)=c*(one:Int):=by
 have e:Sr c=double.nearest false c.natAbs 0:=by
  unfold Sr Format.write;rw[decide_eq_false om]
 obtain⟨r,d,a,b⟩:=whole (c:=c.natAbs) om;rw[e,d]
 have:=Xwz (pR a)
 refine⟨this.2.1,?_⟩;rw[this.1,b,uw]
 congr 1
 omega
def fK(x:Nat):Nat:=double.write ((double.read x).integral .up)
theorem k5{x:Nat}(h:0<sv x):sg x=false:=by
 cases a:sg x
 ·rfl
 ·unfold sv at h;rw[a]at h;simp at h
  omega
theorem Xpc{i:Int}(a:-1074<=i):i.toNat+(1074-(-i).toNat)=(i+1074).toNat/\(-i).toNat+(1074-(-i).toNat)=e0:=by unfold e0;omega
theorem P7{x:Nat}(L:nan x=false)(D:0<sv x)(h:sv x<=1099511627776*(one:Int)):∃c:Nat,(double.read (fK x)).toInt .zero=some (c:Int)/\c<=1099511627776/\sv x<=(c:Int)*one/\((c:Int)-1)*one<sv x:=by
 have o:=k5 D;have H:(0:Int)<(one:Int):=jL.2 one_pos;have hx:rg x<9218868437227405312:=by
  obtain⟨r,y,j,E⟩:=whole (c:=1099511627776) om
  have:Hp (rg x)<=Hp r:=by
   rw[E];unfold sv at h;rw[o]at h;simp only[Sk,if_false]at h
   have C:(Hp (rg x):Int)<=((1099511627776*one:Nat):Int):=by rw[uw];exact h
   exact Int.ofNat_le.1 C
  rcases Yt (rg x) 9218868437227405312 with n|n
  ·exact n
  ·have:=LL (uo j n);omega
 obtain⟨m,i,e,j,_,F,_⟩:=l_ hx;have f:sv x=((m*2^(i+1074).toNat:Nat):Int):=by
  unfold sv;rw[o,<-F];simp
 obtain⟨q1,z⟩:=Xpc j;have g:=p6 (m <<< i.toNat) (-i).toNat;have v:fK x=double.nearest false (Toward.up.cut false (m <<< i.toNat) (-i).toNat) 0:=by
  unfold fK;rw[e,o];rfl
 generalize Toward.up.cut false (m <<< i.toNat) (-i).toNat=c at g v;rw[nK]at g;have I:0<2^(1074-(-i).toNat):=K8 _;have K:sv x<=(c:Int)*one:=by
  rw[f,<-uw];refine Int.ofNat_le.2 ?_
  have:=T4 (2^(1074-(-i).toNat)) g.1
  rw[Jr,Jr,<-M_,<-M_,q1,z]at this;exact this
 have B:((c:Int)-1)*one<sv x:=by
  have:=jx g.2 I
  rw[Jr,F0,Jr,<-M_,<-M_,q1,z,<-Wk]at this;rw[f,Int.sub_mul,<-uw,Int.one_mul]
  have:=jL.2 this
  rw[Int.natCast_add]at this;omega
 have w:c<=1099511627776:=by
  have:((c:Int)-1)*one<1099511627776*(one:Int):=Int.lt_of_lt_of_le B h
  have:=yc this (uz H)
  omega
 refine⟨c,?_,w,K,B⟩;obtain⟨r,y,A,J⟩:=whole w;rw[v,y];have t:=Xwz (pR A);obtain⟨p,a,u,l,_,d,_⟩:=l_ (by rw[t.2.2.1];exact A);rw[t.2.2.1,J]at d;rw[t.2.2.2]at u;unfold Datum.toInt;rw[u];simp only[Datum.integral]
 have b:=bV false (p <<< a.toNat) (-a).toNat;generalize Toward.zero.cut false (p <<< a.toNat) (-a).toNat=k at b;rw[nK]at b;obtain⟨q,s⟩:=Xpc l;have em:p*2^a.toNat=c*2^(-a).toNat:=by
  refine Nat.eq_of_mul_eq_mul_right (K8 (1074-(-a).toNat)) ?_;rw[Jr,Jr,<-M_,<-M_,q,s,<-d];rfl
 rw[em]at b;have G:0<2^(-a).toNat:=K8 _;have M:k<=c:=Nat.le_of_mul_le_mul_right b.1 G;have P:c<k+1:=Nat.lt_of_mul_lt_mul_right b.2
 have:k=c:=om
 subst this;simp[signed]
theorem dJ{x y r:Nat}(h:double.mul x y=some r):nan r=false:=by
 obtain⟨d,c,rfl⟩:=K5.1 h;cases d with
 | number s m p=>exact V7 s m p
 | infinity s=>exact xj s (Ya _)
 | nan s t =>
  exfalso
  generalize double.read x=a at c;generalize double.read y=b at c;cases a<;>cases b<;>simp[Datum.product]at c
theorem V6{x y:Nat}(h:nan x=true\/nan y=true):double.mul x y=none:=by
 unfold Format.mul;rcases h with h|h
 ·obtain⟨s,t,e⟩:=sK (by simpa[nan]using h);rw[e];simp[Datum.product]
 ·obtain⟨s,t,e⟩:=sK (by simpa[nan]using h);rw[e];cases double.read x<;>simp[Datum.product]
def lt(a b:Nat):Bool:=!nan a&&!nan b&&decide (sv a<sv b)
def uH(a b:Nat):Bool:=!nan a&&!nan b&&decide (sv a=sv b)
def nf(a:Nat):Option Nat:=if nan a then none else some a
end Eg
namespace Gk
open Go
abbrev AM(n:Nat):Va:=.float .f64 n
abbrev Bo(n:Int):Va:=.int .u64 n
section
variable {P:Program} {n:Nat} {K:Bk} {L:AB} {w w':Wo} {ops:Array Oper} {rest:List Oper}
variable {B:Wo} {I:Im} {N:La} {k:Nat} {ty:TypeId} {pos:String} {af:Array Edge} {g:Option (Nat×Bool)} {t t':TypeId} {x y:Operand}
theorem rA(op:BinOp)(k:FloatKind)(a b:Nat)(p q:Operand):(eqGuard op t p q (.float k a) (.float k b)).run P w=.ok () w:=by
 unfold eqGuard;split<;>simp
section
variable {d:Option Nat} {a b:Nat}
theorem Ex.Vc(hx:Ev n L x (AM a))(c:Ev n L y (AM b)):Ex P n L w ⟨d,.binOp .gtr t x y t',ty,pos,af,g⟩ (.bool (Eg.lt b a)) w :=
 CV hx c (rA _ _ _ _) (by
  rw[binOp_float_cmp_gtr];show Result.ok _ _=_;have e:(Ieee.double.order a b==some .gt)=Eg.lt b a:=by rw[Eg.kA];unfold Eg.lt;rw[Bool.and_comm (!Eg.nan a)]
  exact Yc (λz=>Result.ok (Value.bool z) w) e)
theorem Ex.yO(hx:Ev n L x (AM a))(c:Ev n L y (AM b)):Ex P n L w ⟨d,.binOp .neq t x y t',ty,pos,af,g⟩ (.bool (!Eg.uH a b)) w :=
 CV hx c (rA _ _ _ _) (by
  rw[binOp_float_cmp_neq];show Result.ok _ _=_;have e:(Ieee.double.order a b !=some .eq)=!Eg.uH a b:=by rw[bne,Eg.eq_iff];rfl
  exact Yc (λz=>Result.ok (Value.bool z) w) e)
theorem Ex.toF{q:IntKind}{i:Int}(hx:Ev n L x (.int q i))(c:(P.underlying src).isSome=true)(b:P.underlying dst=some (.float .f64)):Ex P n L w ⟨d,.convert src dst x,ty,pos,af,g⟩ (AM (Eg.Sr i)) w:=λe a=>by
 have h:=run_convert_int_float (P:=P) w src dst q .f64 i c b;simp only[execOp,hx e a,Sem.run_bind,h,Result.andThen_ok,Sem.run_pure]
 rfl
theorem Ex.ofF{i:Int}(hx:Ev n L x (AM a))(j:(P.underlying src).isSome=true)(f:P.underlying dst=some (.int .i64))(hi:(Ieee.double.read a).toInt .zero=some i)(k:0<=i)(l:i<=9223372036854775807):Ex P n L w ⟨d,.convert src dst x,ty,pos,af,g⟩ (Ab i) w:=λe b=>by
 have h:=run_convert_float_int (P:=P) w src dst .f64 .i64 a i j f (by
  unfold floatToIntVal
  have:(FloatKind.f64.decode a).toInt .zero=some i:=hi
  rw[this];have c:IntKind.i64.min<=i/\i<=IntKind.i64.max:=⟨by show(-9223372036854775808:Int)<=i;omega,by show i<=9223372036854775807;omega⟩
  simp only[c,and_self,if_true])
 simp only[execOp,hx e b,Sem.run_bind,h,Result.andThen_ok,Sem.run_pure]
end
theorem WL.yN{d a:Nat}(k:Aa B w I N)(hx:Ev n L x (AM a))(o:Ev n L y (AM b))(m:Nat.blt d n=true)
  (h:∀r w',r<18446744073709551616->Eg.nf r=Ieee.double.mul a b->Aa B w' I N->WL P n ops K rest ((d,AM r)::L) w'):WL P n ops K (⟨some d,.binOp .mul t x y t',ty,pos,af,none⟩::rest) L w:=by
 cases c:Ieee.double.mul a b with
 | some r =>
  have i:=Eg.dJ c;have j:r<18446744073709551616:=by have:=Ieee.Format.mul_lt _ c;exact this
  refine .val (w':=w) ?_ m (h r w j (by unfold Eg.nf;rw[i,c];rfl) k);exact CV hx o (rA _ _ _ _) (run_float_arith (P:=P) w .mul t .f64 a b r c)
 | none =>
  obtain⟨r,j,i,f⟩:∃r,r<18446744073709551616/\Eg.nan r=true/\(binOp .mul t (AM a) (AM b)).run P w=.ok (AM r) w.drew:=by
   generalize p:w.tape w.drawn (Question.nanBits .f64 a b)=T;refine⟨(T%2)*9223372036854775808+9218868437227405312+1+(T/2)%4503599627370495,om,?_,?_⟩
   ·unfold Eg.nan Eg.rg;simp only[dq1]
    have u:=T_ (T/2) (show 0<4503599627370495 by decide);have v:=T_ T (show 0<2 by decide);generalize (T/2)%4503599627370495=q at *;generalize T%2=s at *;rcases (show s=0\/s=1 by omega)with rfl|rfl<;>omega
   ·have g:FloatKind.f64.format.mul a b=none:=c;simp[binOp,Op.floatArith,g,Question.forced,Question.cut,p]
  refine .val (w':=w.drew) ?_ m (h r _ j (by unfold Eg.nf;rw[i,c];rfl) k.drew);exact λe l=>by simp[execOp,hx e l,o e l,rA,f]
section
variable {d:Option Nat} {i j:Int} {q:IntKind}
theorem oD{a:Nat}(h:a<18446744073709551616):(BitVec.ofInt IntKind.u64.bits (a:Int)).toNat=a:=by
 rw[BitVec.toNat_ofInt];show((a:Int)%((2^64:Nat):Int)).toNat=a
 omega
theorem xA{a:Nat}(h:a<18446744073709551616):IntKind.u64.wrap (a:Int)=(a:Int):=by rw[IntKind.wrap_u64];omega
theorem Ex.gr{a:Nat}(c:a<18446744073709551616)(h:b<18446744073709551616)(hx:Ev n L x (Bo a))(i:Ev n L y (Bo b)):Ex P n L w ⟨d,.binOp .and t x y t',ty,pos,af,g⟩ (Bo ((a&&& b:Nat):Int)) w :=
 CV hx i (Xj _ _ _ _) (by
  have f:a&&& b<18446744073709551616:=yl Nat.and_le_left c;have e:(BitVec.ofInt IntKind.u64.bits (a:Int)&&& BitVec.ofInt IntKind.u64.bits (b:Int)).toNat=a&&& b:=by rw[BitVec.toNat_and,oD c,oD h]
  show(Op.intBits .and .u64 a b).run P w=_
  unfold Op.intBits;simp only[e,xA f,Sem.run_pure])
theorem Ex.qJ{a:Nat}(c:a<18446744073709551616)(f:b<18446744073709551616)(hx:Ev n L x (Bo a))(i:Ev n L y (Bo b)):Ex P n L w ⟨d,.binOp .or t x y t',ty,pos,af,g⟩ (Bo ((a||| b:Nat):Int)) w :=
 CV hx i (Xj _ _ _ _) (by
  have h:a||| b<18446744073709551616:=yt (n:=64) c f;have e:(BitVec.ofInt IntKind.u64.bits (a:Int)||| BitVec.ofInt IntKind.u64.bits (b:Int)).toNat=a||| b:=by rw[BitVec.toNat_or,oD c,oD f]
  show(Op.intBits .or .u64 a b).run P w=_
  unfold Op.intBits;simp only[e,xA h,Sem.run_pure])
theorem Ex.qD{t:TypeId}{a:Nat}(i:a<18446744073709551616)(hx:Ev n L x (Bo a)):Ex P n L w ⟨d,.unOp .xor t x,ty,pos,af,g⟩ (Bo ((18446744073709551615-a:Nat):Int)) w:=λe j=>by
 have f:(BitVec.ofInt IntKind.u64.bits IntKind.u64.max^^^BitVec.ofInt IntKind.u64.bits (a:Int)).toNat=18446744073709551615-a:=by
  have b:BitVec.ofInt 64 18446744073709551615=BitVec.allOnes 64:=de
  have c:(BitVec.ofInt 64 (a:Int)).toNat=a:=oD i;change (BitVec.ofInt 64 18446744073709551615^^^BitVec.ofInt 64 (a:Int)).toNat=_;rw[b,BitVec.allOnes_xor,BitVec.toNat_not,c]
 have h:(Op.unary .xor (Bo a)).run P w=.ok (Bo ((18446744073709551615-a:Nat):Int)) w:=by
  show(Op.intBits .xor .u64 (if IntKind.u64.signed then -1 else IntKind.u64.max) a).run P w=_
  rw[Y3 de];unfold Op.intBits;simp only[f,xA (show 18446744073709551615-a<18446744073709551616 by omega),Sem.run_pure]
 simp only[execOp,hx e j,Sem.run_bind,h,Result.andThen_ok,Sem.run_pure]
theorem Ex.qY{q:IntKind}(hx:Ev n L x (.int q i))(a:Ev n L y (.int q j))(h:q.wrap (i-j)=i-j):Ex P n L w ⟨d,.binOp .sub t x y t',ty,pos,af,g⟩ (.int q (i-j)) w :=
 CV hx a (Xj _ _ _ _) (by simp[binOp,Op.intArith,h])
theorem Ex.pV{a:Nat}(b:a<18446744073709551616)(hx:Ev n L x (Bo a))(c:Ev n L y (Bo 9223372036854775808)):Ex P n L w ⟨d,.binOp .and t x y t',ty,pos,af,g⟩ (Bo ((a&&& 9223372036854775808:Nat):Int)) w :=
 Ex.gr b de hx c
theorem Ex.Ac7{a:Nat}(b:a<18446744073709551616)(hx:Ev n L x (Bo a))(c:Ev n L y (Bo 9223372036854775808)):Ex P n L w ⟨d,.binOp .or t x y t',ty,pos,af,g⟩ (Bo ((a||| 9223372036854775808:Nat):Int)) w :=
 Ex.qJ b de hx c
theorem Ex.quo{q:IntKind}(hx:Ev n L x (.int q i))(f:Ev n L y (.int q j))(a:0<=i)(h:0<j)(c:q.wrap (i/j)=i/j):Ex P n L w ⟨d,.binOp .quo t x y t',ty,pos,af,g⟩ (.int q (i/j)) w :=
 CV hx f (Xj _ _ _ _) (by
  have b:¬ j=0:=om
  have e:i.tdiv j=i/j:=Int.tdiv_eq_ediv_of_nonneg a;simp[binOp,Op.intDiv,b,e,c])
theorem Ex.rem{q:IntKind}(hx:Ev n L x (.int q i))(c:Ev n L y (.int q j))(a:0<=i)(f:0<j):Ex P n L w ⟨d,.binOp .rem t x y t',ty,pos,af,g⟩ (.int q (i%j)) w :=
 CV hx c (Xj _ _ _ _) (by
  have b:¬ j=0:=om
  have e:i.tmod j=i%j:=Int.tmod_eq_emod_of_nonneg a;simp[binOp,Op.intDiv,b,e])
theorem Ex.uF{q r:IntKind}(hx:Ev n L x (.int q i))(c:P.underlying src=some (.int q))(a:P.underlying dst=some (.int r))(f:r.wrap i=i):Ex P n L w ⟨d,.convert src dst x,ty,pos,af,g⟩ (.int r i) w:=λe b=>by
 simp[execOp,hx e b,convert,run_underlying c,run_underlying a,Conv.intToInt,f]
theorem Ex.makeFunc{f:Go.Fn}{b:List Operand}(hx:∀a,Ap n L a->b.map a.eval=vs):Ex P n L w ⟨d,.makeFunc f #[] b.toArray,ty,pos,af,g⟩ (.func f #[] vs.toArray) w:=λe c=>by
 have h:=hx e c;simp[execOp,Instr.makeFunc,<-h]
end
theorem Xcy{a:Act}(l:Ap n L a){c:Operand}{cap:Lv}{xs:List Operand}(m:P.funcs[f]?=some fn)(i:Xf fn=true)(o:Ev n L c (.func (.func f) #[] cap.toArray))(hx:xs.map a.eval=vs):(execOp a.eval (⟨d,.call ⟨.value c,xs.toArray,ts⟩,ty,pos,af,g⟩:Oper)).run P w=.ok (.enter f (vs++cap).toArray) w:=by
 unfold Xf at i;simp only[Y8]at i
 obtain⟨k,j⟩:=i;have b : ¬ fn.name = "runtime.NumGoroutine" := by simpa using k
 have h:¬ fn.body=none:=by intro e;rw[e]at j;cases j
 simp[execOp,resolve,o a l,Deferred.ofValue,invoke,callFunc,program,Sem.run,m,b,h,<-hx]
theorem WQ.kB{o:AB->Prop}{d j s:Nat}{b:Bool}{c:Operand}{cap:Lv}{xs:List Operand}(z:(ops[j]?).bind (·.dst)=some s)(E:Nat.blt s n=true)(r:look L s=some (.bool b))(y:P.funcs[f]?=some fn)(t:Xf fn=true)
  (A:b=want->Ev n L c (.func (.func f) #[] cap.toArray)) (hx:b=want->∀a,Ap n L a->xs.map a.eval=vs) (x:Nat.blt d n=true)
  (i:b=want->∀w,C w->Calls P f (vs++cap).toArray w (AY λu w'=>u=v/\C w')) (h:WQ P n ops C o rest ((d,gd b want v)::L)):WQ P n ops C o (⟨some d,.call ⟨.value c,xs.toArray,ts⟩,ty,pos,af,some (j,want)⟩::rest) L:=by
 intro a k;refine wpQuiet_step λK' l=>?_
 have g:=h _ (k.put x (gd b want v));have m:=wa k z r;unfold Gk.gd at g
 by_cases e:b=want
 ·rw[Y9 (by simp[Region.wanted,m,e])];subst e;refine⟨v,λw B=>?_,l _ (su g)⟩;unfold Oper.quietAt;rw[Xcy k y t (A O) (hx O a k)];refine⟨O,(i O w B).mono ?_⟩;rintro e D ⟨u,rfl,rfl,q⟩;exact⟨O,q⟩
 ·rw[Y3 (by simp[Region.wanted,m,e])];have p:(b==want)=false:=su e
  rw[p]at g;exact l _ (su g)
theorem Pu{args:Array Va}{w:Wo}(h:Calls P f args w (AY λu w'=>u=v/\w=w'))(a:C w):Calls P f args w (AY λu w'=>u=v/\C w') :=
 h.mono λe w' b=>by
  obtain⟨u,rfl,rfl,rfl⟩:=b;exact⟨_,O,O,a⟩
theorem WQ.Lx{H:AB->Prop}{d j t:Nat}{c:List (Bool×Bool)}{b:Bool}{xs:List Operand}
  (S:(ops[j]?).bind (·.dst)=some t) (U:Nat.blt t n=true) (K:look L t=some (CH c (.bool b))) (R:P.funcs[f]?=some fn) (D:Xf fn=true)
  (hx:(∀p∈c++[(b,want)],p.1=p.2)->∀a,Ap n L a->xs.map a.eval=vs) (M:Nat.blt d n=true)
  (l:(∀p∈c++[(b,want)],p.1=p.2)->∀w,C w->Calls P f vs.toArray w (AY λu w'=>u=v/\C w'))
  (h:WQ P n ops C H rest ((d,CH (c++[(b,want)]) v)::L)):WQ P n ops C H (⟨some d,.call ⟨.value (.func f),xs.toArray,ts⟩,ty,pos,af,some (j,want)⟩::rest) L:=by
 intro a z;refine wpQuiet_step λK' G=>?_
 have i:=h _ (z.put M (CH (c++[(b,want)]) v));have s:t<a.tmps.size:=by have:=Yx U;rw[z.size];omega
 have x:=z.get t _ K;have m:yielded ops a.tmps j=match CH c (.bool b)with|.bool b=>some b|_=>none:=by
  obtain⟨o,T,E⟩:=fW.1 S;rw[GF,Iv s]at x;simp only[gj]at x
  have y:a.tmps[t]?=some (CH c (.bool b)):=by rw[Iv s,x]
  simp only[yielded,T,E,gi,y]
  generalize CH c (.bool b)=g;cases g<;>rfl
 by_cases e:∀p∈c++[(b,want)],p.1=p.2
 ·have r:∀p∈c,p.1=p.2:=λp k=>e p (by simp[k])
  have q:b=want:=e (b,want) sz;rw[Ka r]at m;rw[Y9 (by simp[Region.wanted,m,q])];rw[Ka e]at i;refine⟨v,λw F=>?_,G _ i⟩;have Q:(execOp a.eval (⟨some d,.call ⟨.value (.func f),xs.toArray,ts⟩,ty,pos,af,some (j,want)⟩:Oper)).run P w=.ok (.enter f vs.toArray) w:=by
   unfold Xf at D;simp only[Y8]at D
   obtain⟨I,y⟩:=D;have A : ¬ fn.name = "runtime.NumGoroutine" := by simpa using I
   have B:¬ fn.body=none:=by intro e;rw[e]at y;cases y
   have x:=hx e a z;simp[execOp,resolve,Act.eval,Deferred.ofValue,invoke,callFunc,program,Sem.run,R,A,B,<-x]
  unfold Oper.quietAt;rw[Q];refine⟨O,(l e w F).mono ?_⟩;rintro W V ⟨u,rfl,rfl,J⟩;exact⟨O,J⟩
 ·have F:Region.wanted (⟨some d,.call ⟨.value (.func f),xs.toArray,ts⟩,ty,pos,af,some (j,want)⟩:Oper) (yielded ops a.tmps)=false:=by
   by_cases r:∀p∈c,p.1=p.2
   ·rw[Ka r]at m;have q:¬ b=want:=λq=>e λp k=>by
     rcases Ys.1 k with k|k
     ·exact r p k
     ·simp at k;subst k;exact q
    simp[Region.wanted,m,q]
   ·rw[TJ r]at m;simp[Region.wanted,m,undef]
  rw[Y3 (by simp[F])];rw[TJ e]at i;exact G _ i
theorem WQ.Au{i:AB->Prop}{d j t:Nat}{b:Bool}{xs:List Operand}
  (p:(ops[j]?).bind (·.dst)=some t) (q:Nat.blt t n=true) (k:look L t=some (.bool b)) (o:P.funcs[f]?=some fn) (l:Xf fn=true)
  (hx:b=want->∀a,Ap n L a->xs.map a.eval=vs) (m:Nat.blt d n=true)
  (g:b=want->∀w,C w->Calls P f vs.toArray w (AY λu w'=>u=v/\C w'))
  (h:WQ P n ops C i rest ((d,gd b want v)::L)):WQ P n ops C i (⟨some d,.call ⟨.value (.func f),xs.toArray,ts⟩,ty,pos,af,some (j,want)⟩::rest) L :=
 WQ.Lx (c:=[]) p q k o l (λe=>hx (e (b,want) sz)) m (λe=>g (e (b,want) sz)) h
theorem Aa.weaken(d:Aa B w J N)(c:Le I J):Aa B w I N:=by
 obtain⟨h,g,a⟩:=d;refine⟨h,g,a.os,a.tape,a.output,λb o e=>a.GN b o (c.h b o e),a.own,a.nodup,λb o f=>?_⟩
 have:=a.apart b o f
 cases hi:I b with
 | none=>rfl
 | some z=>rw[c.h b z hi]at this;cases this
end
section
variable {P:Program} {n:Nat} {K:Bk} {L:AB} {w w':Wo} {ops:Array Oper} {rest:List Oper}
variable {B:Wo} {I:Im} {N:La} {k:Nat} {ty:TypeId} {pos:String} {af:Array Edge} {g:Option (Nat×Bool)} {t t':TypeId} {x y:Operand}
theorem Ex.XI{c:Ui}{i:Int}(hx:Ev n L x (.slice (some (ad b 0)) 1 cap))(a:Aa B w I N)(m:N[k]?=some (Ac b [.int .u8 i] E))(hi:i=(c.toNat:Int))(o:P.underlying src=some (.slice E))(f:P.underlying E=some (.int .u8))(e:P.underlying dst=some .string):Ex P n L w ⟨d,.convert src dst x,ty,pos,af,g⟩ (S [c]) w:=by
 subst hi;exact Ex.Dp (l:=[c]) hx a m o f e (λj h=>by
  have:j=0:=by simp at h;omega
  subst this;rfl)
theorem Ex.LA{i:Int}{q:IntKind}{l:Lu}(hx:Ev n L x (S l))(k:Ev n L y (.int q i))(hi:0<=i)(m:i<(l.length:Int))(j:P.underlying t=some .string):Ex P n L w ⟨d,.index t x y,ty,pos,af,g⟩ (U8 (at_ l i).toNat) w :=
 λa b=>by
  have c:i.toNat<l.length:=om
  have e:0<=i/\i<((ByteArray.size ⟨l.toArray⟩:Nat):Int):=⟨hi,by show i<(l.length:Int);omega⟩
  have h:=run_index_string (P:=P) w t ⟨l.toArray⟩ q i j;rw[dif_pos e]at h;have f:(⟨l.toArray⟩:ByteArray)[i.toNat]'(by show i.toNat<l.length;omega)=at_ l i:=by
   rw[at_,Yf,Y2 c];rfl
  rw[f]at h;simp[execOp,hx a b,k a b,h]
theorem xb{t e:TypeId}(a:P.underlying t=some (.array m e)):P.elem t=e/\P.arrayLen t=m:=by
 simp[Program.elem,Program.arrayLen,a]
theorem Ex.Dn{s:Nat}{e:TypeId}{i:Int}{q:IntKind}(hx:Ev n L x (.pointer (some p)))(o:Ev n L y (.int q i))(hi:0<=i)(k:i<(m:Int))(j:P.underlying t=some (.array m e))(l:∀w,(Go.sizeOf e).run P w=.ok s w):Ex P n L w ⟨d,.indexAddr t x y,ty,pos,af,g⟩ (.pointer (some (p.add (i.toNat*s)))) w:=λa f=>by
 obtain⟨b,c⟩:=xb j;have h:=run_indexAt_array (P:=P) w t p q i (by rw[b,c];exact j);rw[c,Y9 ⟨hi,k⟩,b,l]at h;simp[execOp,hx a f,o a f,h,Result.andThen]
theorem Ex.Vx{e:TypeId}{i:Int}{q:IntKind}(hx:Ev n L x (.agg vs.toArray))(p:Ev n L y (.int q i))(hi:0<=i)(k:i<(m:Int))(o:P.underlying t=some (.array m e))(l:∀w,(Go.sizeOf e).run P w=.ok 1 w)(h:∀w,(isAgg e).run P w=.ok false w)(f:vs[i.toNat]?=some v):Ex P n L w ⟨d,.index t x y,ty,pos,af,g⟩ v w:=λb c=>by
 have a:i.toNat<vs.length:=(Y1.1 f).1;have j:=(Y1.1 f).2;simp[execOp,hx b c,p b c,Instr.index,run_underlying o,asIntOf,hi,k,l,h,a,j,part]
theorem Ex.F7{op:BinOp}{q:IntKind}{i j:Int}(a:op=.and\/op=.or\/op=.xor)(hx:Ev n L x (.int q i))(b:Ev n L y (.int q j)):Ex P n L w ⟨d,.binOp op t x y t',ty,pos,af,g⟩ (.int q (bits op q i j)) w :=
 CV hx b (Xj _ _ _ _) (by rcases a with rfl|rfl|rfl<;>simp[binOp,Op.intBits,bits])
theorem Ex.shl{q r:IntKind}{i j:Int}(hx:Ev n L x (.int q i))(f:Ev n L y (.int r j))(b:0<=j)(c:j<=q.bits):Ex P n L w ⟨d,.binOp .shl t x y t',ty,pos,af,g⟩ (.int q (q.wrap (i*2^j.toNat))) w:=λe a=>by
 have h:=shift_shl q r i j b c;simp[execOp,hx e a,f e a,binOp,h,eqGuard]
theorem Ex.shr{q r:IntKind}{i j:Int}(hx:Ev n L x (.int q i))(h:Ev n L y (.int r j))(k:0<=j)(l:j<=q.bits):Ex P n L w ⟨d,.binOp .shr t x y t',ty,pos,af,g⟩ (.int q (i/2^j.toNat)) w:=λe a=>by
 have c:min j.toNat q.bits=j.toNat:=om
 have f:¬ j<0:=om
 have b:i.fdiv (2^j.toNat)=i/2^j.toNat:=Int.fdiv_eq_ediv_of_nonneg _ (uz (Int.pow_pos de));simp[execOp,hx e a,h e a,binOp,Op.shift,c,f,b,eqGuard]
theorem Ex.ET{i:Int}{q r:IntKind}(hx:Ev n L x (.int q i))(c:P.underlying src=some (.int q))(a:P.underlying dst=some (.int r)):Ex P n L w ⟨d,.convert src dst x,ty,pos,af,g⟩ (.int r (r.wrap i)) w:=λe b=>by
 simp[execOp,hx e b,convert,run_underlying c,run_underlying a,Conv.intToInt]
theorem WL.Bv{d:Nat}{c:Operand}{cap:Lv}{xs:List Operand}{Q:Va->Wo->Prop}(o:P.funcs[f]?=some fn)(l:Xf fn=true)(i:Ev n L c (.func (.func f) #[] cap.toArray))(hx:∀a,Ap n L a->xs.map a.eval=vs)(m:Nat.blt d n=true)
  (b:Calls P f (vs++cap).toArray w (AY Q)) (h:∀v w',Q v w'->WL P n ops K rest ((d,v)::L) w'):WL P n ops K (⟨some d,.call ⟨.value c,xs.toArray,ts⟩,ty,pos,af,none⟩::rest) L w:=by
 intro a g;refine wpList_plain O λK' k=>?_
 unfold Oper.wp;rw[Xcy g o l i (hx a g)];refine b.mono λe j p=>?_
 obtain⟨v,rfl,i⟩:=p;exact k _ _ (h v j i _ (g.put m v))
open Go.RowKit in
theorem Aa.grown{N:La}(d:Aa B w I N)(h:Below w.heap.size w w'):Aa B w' I N:=by
 obtain⟨f,g,a⟩:=d;have c:∀b o,w.heap[b]?=some o->w'.heap[b]?=some o:=λb o e=>by
  rw[h.block b (Jo.1 e).1];exact e
 exact⟨f,g,h.os.trans a.os,h.tape.trans a.tape,h.output.trans a.output,λb o e=>c b o (a.GN b o e),λb o e=>c b o (a.own b o e),a.nodup,a.apart⟩
open Go.RowKit in
theorem Aa.Jy{E size m:Nat}{v:Va}{xs:Lv}(s:Aa B w I N)(h:Below w.heap.size w w')(F:w'.ownsRow w.heap.size E size v m xs):Aa B w' I (An E size v m xs::N):=by
 have l:=s.grown h;obtain⟨n,q|⟨g,cap,c,rfl,H,C,r,u,z,A⟩⟩:=F
 ·obtain⟨q,t⟩:=q;subst q;subst t;have hx:xs=[]:=Yi (by simpa using n);subst hx;exact l.Ai E size
 ·obtain⟨hh0,G,f⟩:=s;obtain⟨j,p,a⟩:∃h,Am N h/\Good B w' I h/\h=hh0:=by
   refine⟨hh0,G,?_,O⟩;have k:∀b o,w.heap[b]?=some o->w'.heap[b]?=some o:=λb o e=>by
    rw[h.block b (Jo.1 e).1];exact e
   exact⟨h.os.trans f.os,h.tape.trans f.tape,h.output.trans f.output,λb o e=>k b o (f.GN b o e),λb o e=>k b o (f.own b o e),f.nodup,f.apart⟩
  obtain⟨a,rfl⟩:=a;have cut:c=(xs++c.toList.drop (m*size)).toArray:=by
   apply Array.ext'
   simp only[List.toList_toArray]
   rw[<-A,Fw]
  have i:w'.heap[g]?=some (Xh (xs++c.toList.drop (m*size)) E):=by
   unfold Xh;rw[<-cut];exact C
  have D:∀b o,(b,o)∈j->b≠g:=λb o d e=>by
   subst e
   have:=(Jo.1 (f.own b o d)).1
   omega
  refine⟨(g,Xh (xs++c.toList.drop (m*size)) E)::j,⟨[(g,Xh (xs++c.toList.drop (m*size)) E)],j,O,⟨n,.inr ⟨g,cap,c.toList.drop (m*size),O,O,r,u,?_⟩⟩,p⟩,a.os,a.tape,a.output,a.GN,λb o d=>?_,?_,λb o d=>?_⟩
  ·rw[Y6,n,Sj,z]
   have:=T4 size r
   omega
  ·rcases Yp.1 d with e|d
   ·cases e;exact i
   ·exact a.own b o d
  ·simp only[Yu,T6]
   refine⟨λd=>?_,a.nodup⟩;obtain⟨⟨b,x⟩,d,e⟩:=Dt.1 d;exact D b x d e
  ·rcases Yp.1 d with e|d
   ·cases e
    cases hi:I g with
    | none=>rfl
    | some y=>have:=(Jo.1 (f.GN _ _ hi)).1;omega
   ·exact a.apart b o d
open Go.RowKit in
theorem Xhg{a:Option Nat}(h:w.grownBy w' a)(c:a=none):Below w.heap.size w w' :=
 ⟨h.os,h.tape,h.output,h.size,λk b=>h.block k b (by rw[c];simp)⟩
theorem vi(s:Lu):Lib.strCells ⟨s.toArray⟩=Ao s:=by simp[Lib.strCells]
theorem Xhq{t u ty:TypeId}{i:TypeInfo}(Y:Aa B w I N)(ht:P.underlying t=some (.slice E))(hu:P.underlying u=some .string)(hi:P.info? E=some i)(hz:i.zero=some (.int .u8 0))(d:i.size=1)(J:i.bytes=1)
  (Q:N[k]?=some (An E 1 v m xs)) (s:Lu) (hb:m+s.length<=140737488355328) :∃Z w',(Builtin.append_ #[t,u] ty #[v,S s]).run P w=.ok Z w'/\Aa B w' I (N.set k (An E 1 Z (m+s.length) (xs++Ao s))):=by
 have U:m+s.length<=maxLen:=by simp only[maxLen];omega
 have X:xs.length=m*1:=Y.CM Q λh ⟨hl,_⟩=>hl
 have T:k<N.length:=(Y1.1 Q).1;have a:ByteArray.size ⟨s.toArray⟩=s.length:=rfl;have z:(v=.slice none 0 0/\m=0)\/∃g cap rest,v=.slice (some ⟨g,0,none⟩) m cap/\m<=cap/\cap<=maxLen/\xs.length+rest.length=cap*1/\Aa B w I (N.set k (Ac g (xs++rest) E)):=by
  obtain⟨g,W,M⟩:=Y;obtain⟨h1,h2,V,⟨hl,ha⟩,c,_⟩:=W.at_ Q;rcases ha with⟨hv,h0,_⟩|⟨b,cap,rest,rfl,rfl,h3,h4,h5⟩
  ·exact .inl ⟨hv,h0⟩
  ·obtain⟨G,p,n⟩:=c (Ac b (xs++rest) E) _ O;exact .inr ⟨b,cap,rest,O,h3,h4,h5,G,p,M.perm (V.trans n.symm)⟩
 rcases z with⟨rfl,rfl⟩|⟨g,cap,rest,rfl,az,ab,ax,H⟩
 ·have hx:xs=[]:=Yi (su X);subst hx;obtain⟨Z,w',y,ho,ad,_⟩:=Go.Lib.run_append_own_string (P:=P) w w.heap.size t u ty E i ht hu hi hz d J (.slice none 0 0) 0 [] ⟨O,.inl ⟨O,O⟩⟩ ⟨s.toArray⟩ (by rw[a];exact U) (by rw[a];exact hb) (Ya _)
  rw[vi,a]at ho;have r:=Y.Jy (Xhg ad O) ho;refine⟨Z,w',y,?_⟩
  -- the new one stands at the old qF place
  obtain⟨h,W,M⟩:=r;obtain⟨q1,q2,rfl,C,D⟩:=W;obtain⟨f,e,V,_,c,_⟩:=Am.at_ Q D;obtain⟨G,p,n⟩:=c _ q1 C;have g2:Good B w' I (q1++e):=by
   have g:=M.perm (V.append_left q1)
   have:(q1++(f++e)).Perm ((q1++e)++f):=by
    rw[Yg];exact(T3).append_left q1
   exact(g.perm this).left
  exact⟨G,p,g2.perm n.symm⟩
 ·have R:(N.set k (Ac g (xs++rest) E))[k]?=some (Ac g (xs++rest) E):=by simp[T]
  have l:=H.block R
  by_cases o:m+s.length<=cap
  ·have L:m+ByteArray.size ⟨s.toArray⟩<=(xs++rest).toArray.size:=by
    simp only[nH,Y0,a];omega
   have y:=Go.Lib.run_append_room_string (P:=P) w t u ty E i ht hu hi d g m cap (xs++rest).toArray l ⟨s.toArray⟩ o L;rw[vi,a]at y;have e2:((xs++rest).toArray.toList.take m++Ao s++(xs++rest).toArray.toList.drop (m+s.length)).toArray=((xs++Ao s)++rest.drop s.length).toArray:=by
    have hm:m=xs.length:=om
    subst hm;simp only[List.toList_toArray,T8]
    rw[yw,Yb (by omega:xs.length<=xs.length+s.length)]
    simp
   rw[e2]at y;refine⟨_,_,y,?_⟩;have hw:=H.write (w':=w.setRow g ((xs++Ao s)++rest.drop s.length).toArray) (o':=Xh ((xs++Ao s)++rest.drop s.length) E) R O O O (setRow_heap w g _ _ E _ l) (λx hx=>setRow_other w g x _ hx);have ae:=hw.AR (k:=k) (g:=g) (E:=E) (size:=1) (cap:=cap) (xs:=xs++Ao s) (rest:=rest.drop s.length) (by simp[T,Ac]) o ab (by rw[Y0,Yj];omega) (by
    rw[Y0,Y6,Yj];omega)
   simpa using ae
  ·have A:∀j u,xs[j]?=some u->w.cell? ((⟨g,0,none⟩:Addr).add j)=some u:=by
    intro j u F;have hj:j<xs.length:=(Y1.1 F).1;rw[Addr.add_lit,Yk];have h9:w.heap[g]?=some (.cells (xs++rest).toArray E (0,0)):=l;simp only[World.cell?,h9,Option.isSome_none,Sk,if_false]
    simp[hj]at F ⊢
    simp[jA,hj,F]
   have y:=Go.Lib.run_append_grow_string (P:=P) w t u ty E i (.int .u8 0) ht hu hi hz ⟨g,0,none⟩ m cap xs (by rw[d];exact X) A ⟨s.toArray⟩ (by rw[a];omega) (by rw[a];omega) (growslice_fits (by rw[a];omega) (by rw[J,a];omega));rw[vi,a]at y;refine⟨_,_,y,?_⟩;have ac:=grownCap_ge w (m+s.length) cap E;have K:grownCap w (m+s.length) cap E<=maxLen:=grownCap_le_maxLen w (m+s.length) cap E U;have r:=Y.drew.alloc (.cells (xs.toArray++(Ao s).toArray++Builtin.zeroCells (Value.int .u8 0).cells (grownCap w (m+s.length) cap E-(m+s.length))) E);have e1:(own w.drew.heap.size (.cells (xs.toArray++(Ao s).toArray++Builtin.zeroCells (Value.int .u8 0).cells (grownCap w (m+s.length) cap E-(m+s.length))) E))=Ac w.heap.size ((xs++Ao s)++(Builtin.zeroCells (Value.int .u8 0).cells (grownCap w (m+s.length) cap E-(m+s.length))).toList) E:=by
    unfold Ac Xh
    congr 2
    apply Array.ext'
    simp
   rw[e1]at r;have aa:=r.AR (k:=0) (size:=1) (cap:=grownCap w (m+s.length) cap E) O ac K (by rw[Y0,Yj];omega) (by
    have ah:∀q,(Builtin.zeroCells (Value.int .u8 0).cells q).toList.length=q:=λq=>by rw[Sj,size_zeroCells];exact Dm q
    rw[Y0,Yj,ah];omega)
   obtain⟨h,W,M⟩:=aa;obtain⟨q1,q2,rfl,C,D⟩:=W;obtain⟨f,e,V,_,c,_⟩:=Am.at_ Q D;obtain⟨G,p,n⟩:=c _ q1 C;refine⟨G,p,Good.perm ?_ n.symm⟩;have g:=M.perm (V.append_left q1)
   have:(q1++(f++e)).Perm ((q1++e)++f):=by
    rw[Yg];exact(T3).append_left q1
   exact(g.perm this).left
theorem WL.Du{d:Nat}{t u:TypeId}{i:TypeInfo}{s:Lu}(j:Aa B w I N)(hx:Ev n L x v)(A:Ev n L y (S s))(p:N[k]?=some (An E 1 v m xs))(r:P.underlying t=some (.slice E))(z:P.underlying u=some .string)(hi:P.info? E=some i)(C:i.zero=some (.int .u8 0))(b:i.size=1)(e:i.bytes=1)
  (l:m+s.length<=140737488355328) (o:Nat.blt d n=true) (h:∀f w',Aa B w' I (N.set k (An E 1 f (m+s.length) (xs++Ao s)))->WL P n ops K rest ((d,f)::L) w') :WL P n ops K (⟨some d,.call ⟨.builtin .append,#[x,y],#[t,u]⟩,ty,pos,af,none⟩::rest) L w:=by
 obtain⟨f,w',q,c⟩:=Xhq (P:=P) (ty:=ty) j r z hi C b e p s l
 exact WL.val (w':=w') (λa g=>by simp[execOp,resolve,invoke,builtin,hx a g,A a g,q]) o (h _ _ c)
end
section
variable {P:Program} {n:Nat} {K:Bk} {L:AB} {w w':Wo} {ops:Array Oper} {rest:List Oper}
variable {B:Wo} {I:Im} {N:La} {k:Nat} {ty:TypeId} {pos:String} {af:Array Edge} {g:Option (Nat×Bool)} {t t':TypeId} {x y:Operand}
def Zc(cs:Lv)(E:TypeId):Obj:=.cells cs.toArray E (cs.length,cs.length+1)
def P4(b:Nat)(cs:Lv)(E:TypeId):X1:=own b (Zc cs E)
theorem Aa.HQ{o:Obj}(c:Aa B w I N)(e:N[k]?=some (own b o)):w.heap[b]?=some o:=by
 obtain⟨h,g,d⟩:=c;obtain⟨g1,g2,f,a,_,_⟩:=g.at_ e;rw[own]at a;subst a;exact d.own _ _ (f.mem_iff.2 sz)
theorem Lh(a:w.heap[b]?=some (Zc cs E))(c:cs[o]?=some v):w.cell? (ad b o)=some v:=by
 unfold Zc at a;simp[World.cell?,a,c]
theorem WL.XJ{d:Nat}{e:TypeId}{s:Lu}(j:Aa B w I N)(hx:Ev n L x (S s))(o:P.underlying src=some .string)(f:P.underlying dst=some (.slice e))(m:P.underlying e=some (.int .u8))(l:Nat.blt d n=true)
  (h:∀b cap r w',Aa B w' I (P4 b (Ao s++List.replicate r (.int .u8 0)) e::N)->WL P n ops K rest ((d,.slice (some (ad b 0)) s.length cap)::L) w') :WL P n ops K (⟨some d,.convert src dst x,ty,pos,af,none⟩::rest) L w:=by
 have i:=run_bytes_of_string (P:=P) w src dst e ⟨s.toArray⟩ o f m;have c:bytesRow ⟨s.toArray⟩ (grownCap w s.length 0 e)=(Ao s++List.replicate (grownCap w s.length 0 e-s.length) (Value.int .u8 0)).toArray:=by
  simp[bytesRow,Ao,U8]
  rfl
 refine .val (v:=.slice (some (ad w.heap.size 0)) s.length (grownCap w s.length 0 e)) (w':=w.drew.alloc (Zc (Ao s++List.replicate (grownCap w s.length 0 e-s.length) (Value.int .u8 0)) e)) (λa k=>?_) l (h _ _ _ _ (j.drew.alloc _));have p:ByteArray.size ⟨s.toArray⟩=s.length:=rfl;rw[p,c]at i;have g:=hx a k;simp[execOp,g,i,Zc]
theorem Ex.ldM(hx:Ev n L x (ptr b o))(c:Aa B w I N)(f:N[k]?=some (P4 b cs E))(i:∀w,(isAgg t).run P w=.ok false w)(j:cs[o]?=some v):Ex P n L w ⟨d,.load t x,ty,pos,af,g⟩ v w:=λa e=>by
 have h:=Lh (c.HQ f) j;simp[execOp,hx a e,Instr.loadAt,Instr.sureAddr,loadVar,i,load,Sem.run,h]
theorem Ex.P5{l:Lu}(hx:Ev n L x (.slice (some (ad b o)) l.length cap))(e:Aa B w I N)(r:N[k]?=some (P4 b cs E))(s:P.underlying src=some (.slice E))(q:P.underlying E=some (.int .u8))(p:P.underlying dst=some .string)
  (m:∀j (c:j<l.length),cs[o+j]?=some (U8 (l[j].toNat:Int))):Ex P n L w ⟨d,.convert src dst x,ty,pos,af,g⟩ (S l) w:=λa f=>by
 have i:=e.HQ r;have h:=run_convert_bytes_back (P:=P) w src dst E (ad b o) cap l s q p (λj c=>by rw[CY];exact Lh i (m j c));simp[execOp,hx a f,h]
theorem WL.Adh(s:Aa B w I N)(z:N[k]?=some (P4 b cs E))(hx:Ev n L x (ptr b o))(G:Ev n L y v)(p:v.oneCell'=true)(F:∀w,(Go.sizeOf t).run P w=.ok 1 w)(D:o<cs.length)
  (h:∀w',Aa B w' I (N.set k (P4 b (cs.set o v) E))->WL P n ops K rest L w'):WL P n ops K (⟨none,.store t x y,ty,pos,af,none⟩::rest) L w:=by
 have j:=s.HQ z;have f:=Lh j (Y2 D);have m:w.frozen? (ad b o)=false:=by
  unfold Zc at j;simp[World.frozen?,j]
  omega
 have q:v.cells=#[v]:=by cases v<;>first|rfl|cases p
 have r:b<w.heap.size:=(Jo.1 j).1;have g:=run_store P w (ad b o) v .plain p;rw[f]at g;simp only[m]at g
 have l:=j;unfold Zc at l;have d:(w.setCell (ad b o) v).heap=w.heap.setIfInBounds b (Zc (cs.set o v) E):=by
  apply Array.ext
  ·simp[World.setCell]
  ·intro i p A;simp only[World.setCell,Array.getElem_modify,Y5r,Zc]
   by_cases e:b=i
   ·subst e
    have:=(Jo.1 l).2
    simp[this]
   ·have C:i<w.heap.size:=su A
    simp[e,Y5r C]
 refine .st (w':=w.setCell (ad b o) v) (λa u=>?_) (h _ (s.write (o':=Zc (cs.set o v) E) z ?_ ?_ ?_ ?_ λc q=>?_))
 ·have e0:(ad b o).add 0=ad b o:=rfl;simp[execOp,hx a u,G a u,Instr.storeAt,Instr.sureAddr,storeVar,F,q,storeCells,e0,g]
 ·simp[World.setCell]
 ·simp[World.setCell]
 ·simp[World.setCell]
 ·rw[d];simp[r]
 ·rw[d];simp[pz,Ne.symm q]
theorem WL.range{d:Nat}{s:Lu}(e:Aa B w I N)(hx:Ev n L x (S s))(f:P.underlying t=some .string)(i:Nat.blt d n=true)
  (h:∀b w',Aa B w' I (own b (.stringIter ⟨s.toArray⟩ 0)::N)->WL P n ops K rest ((d,ptr b 0)::L) w') :WL P n ops K (⟨some d,.range t x,ty,pos,af,none⟩::rest) L w:=by
 refine .val (w':=w.iter ⟨s.toArray⟩ 0) (λa g=>?_) i (h _ _ (e.alloc _));have j:=run_range_string (P:=P) w t ⟨s.toArray⟩ f;have c:=hx a g;simp[execOp,c,j]
theorem WL.next{d:Nat}{s:Lu}(j:Aa B w I N)(m:N[k]?=some (own b (.stringIter ⟨s.toArray⟩ i)))(hx:Ev n L x (ptr b 0))(l:Nat.blt d n=true)
  (o:¬ i<s.length->WL P n ops K rest ((d,.tuple #[.bool false])::L) w)
  (p:i<s.length->∀w',Aa B w' I (N.set k (own b (.stringIter ⟨s.toArray⟩ (i+(Utf8.decode ⟨s.toArray⟩ i).2))))->WL P n ops K rest ((d,.tuple #[.bool true,Ab (i:Nat),.int .i32 (Utf8.decode ⟨s.toArray⟩ i).1])::L) w') :WL P n ops K (⟨some d,.next x true,ty,pos,af,none⟩::rest) L w:=by
 have g:=j.HQ m;have h:b<w.heap.size:=(Jo.1 g).1
 by_cases hi:i<s.length
 ·have e:i<ByteArray.size ⟨s.toArray⟩:=hi;refine .val (w':={ w with heap:=w.heap.setIfInBounds b (.stringIter ⟨s.toArray⟩ (i+(Utf8.decode ⟨s.toArray⟩ i).2)) }) (λa f=>?_) l (p hi _ (j.write m O O O ?_ λc q=>?_))
  ·simp only[execOp,hx a f]
   simp[Instr.next,getObj,setObj,Sem.run,g,e,goInt,Result.andThen]
  ·simp[h]
  ·simp[pz,Ne.symm q]
 ·have e:¬ i<ByteArray.size ⟨s.toArray⟩:=hi;refine .val (w':=w) (λa f=>?_) l (o hi);simp only[execOp,hx a f]
  simp[Instr.next,getObj,Sem.run,g,e]
theorem wx(s:Lu)(i:Nat)(h:i<s.length)(a:(at_ s i).toNat<128):Utf8.decode ⟨s.toArray⟩ i=((at_ s i).toNat,1):=by
 have h':i<ByteArray.size ⟨s.toArray⟩:=h;have e:(⟨s.toArray⟩:ByteArray)[i]'h'=at_ s i:=by
  rw[at_,Yd,Yf,Y2 h];rfl
 rw[decode_ascii _ i h' (by rw[e];exact a),e]
theorem sZ(s:Lu)(i:Nat):(ByteArray.get! ⟨s.toArray⟩ i)=at_ s i:=by
 show s.toArray[i]! = _
 simp[at_,Yf]
 try rfl
theorem Xnw(s:Lu)(i:Nat)(h:i<s.length)(x:128<=(at_ s i).toNat):128<=(Utf8.decode ⟨s.toArray⟩ i).1/\(Utf8.decode ⟨s.toArray⟩ i).1<=1114111/\1<=(Utf8.decode ⟨s.toArray⟩ i).2/\i+(Utf8.decode ⟨s.toArray⟩ i).2<=s.length/\∀j,i<=j->j<i+(Utf8.decode ⟨s.toArray⟩ i).2->128<=(at_ s j).toNat:=by
 have u:ByteArray.size ⟨s.toArray⟩=s.length:=rfl;rw[Go.Lib.decode_at,u,sZ,sZ,sZ,sZ];generalize p:(at_ s i).toNat=l at *;generalize q:(at_ s (i+1:Nat)).toNat=b1 at *;generalize r:(at_ s (i+2:Nat)).toNat=m at *;generalize t:(at_ s (i+3:Nat)).toNat=n at *;rcases Go.Lib.decodeN_shape (s.length-i) l b1 m n with⟨c,e⟩|⟨d,f,g,k,e⟩|⟨d,f,g,o,k,cs,e⟩|⟨d,f,g,o,v,k,w,e⟩|e
 ·omega
 all_goals rw[e];dsimp only
 ·refine⟨om,om,om,om,λj a b=>?_⟩;obtain rfl|rfl:j=i\/j=i+1:=om
  ·omega
  ·omega
 ·refine⟨om,om,om,om,λj a b=>?_⟩;obtain rfl|rfl|rfl:j=i\/j=i+1\/j=i+2:=om
  all_goals omega
 ·refine⟨om,om,om,om,λj a b=>?_⟩;obtain rfl|rfl|rfl|rfl:j=i\/j=i+1\/j=i+2\/j=i+3:=om
  all_goals omega
 ·refine⟨om,om,om,om,λj a b=>?_⟩;obtain rfl:j=i:=om
  omega
theorem bK(x:ByteArray)(i:Nat)(h:i<x.size):x.data.toList.getD i 0=x[i]'h:=by
 rw[Yf,Y2 h];rfl
def It(r:Int):Lu:=(Utf8.encode r).data.toList
theorem Ex.ey{q:IntKind}{r:Int}(hx:Ev n L x (.int q r))(f:(P.underlying src).isSome=true)(e:P.underlying dst=some .string):Ex P n L w ⟨d,.convert src dst x,ty,pos,af,g⟩ (S (It r)) w:=λa c=>by
 have h:=run_convert_int_string (P:=P) w src dst q r f e;have b:=hx a c;simp[execOp,b,h,It]
theorem Qu(r:Int)(c:Utf8.valid r=true)(a:128<=r):2<=(It r).length/\(It r).length<=4/\128<=(at_ (It r) ((It r).length-1:Int)).toNat:=by
 obtain⟨d,f,b⟩:=encode_facts r c a;have g:(It r).length=(Utf8.encode r).size:=by unfold It;generalize Utf8.encode r=x;rfl
 have hlt:(Utf8.encode r).size-1<(Utf8.encode r).size:=om
 refine⟨om,om,?_⟩;have e:at_ (It r) ((It r).length-1:Int)=(Utf8.encode r)[(Utf8.encode r).size-1]'hlt:=by
  rw[at_,show((It r).length-1:Int).toNat=(Utf8.encode r).size-1 by omega];exact bK _ _ hlt
 rw[e];exact b hlt
theorem YK(r:Int)(h:Go.Lib.validRune r=true):Utf8.valid r=true:=by
 simp only[Go.Lib.validRune,dq1]at h
 simp only[Utf8.valid,EC,Y8,dq1]
 omega
theorem Ex.QT{s:Nat}(hx:Ev n L x (ptr b 0))(a:Aa B w I N)(c:N[k]?=some (Ac b cs E))(i:∀w,(isAgg t).run P w=.ok true w)(f:∀w,(Go.sizeOf t).run P w=.ok s w)
  (e:cs.length=s):Ex P n L w ⟨d,.load t x,ty,pos,af,g⟩ (.agg cs.toArray) w:=Ex.DY hx a c i f e (λj v h=>by rw[Yk];exact h)
theorem vy(p:Addr)(m c s:Nat):sliced (some p) 0 m c s=.slice (some p) m c:=by
 simp only[sliced,PT,nM,gn]
 congr 1
 split<;>rfl
section k9
variable {fn:Func} {R:Ending->Wo->Prop}
theorem gW{t s:Nat}{ty:TypeId}{x:Va}(h:fn.results=#[.cell t ty,.tmp u])(i:Aa B w I N)(p:N[k]?=some (Ac b cs E))(y:∀w,(isAgg ty).run P w=.ok true w)(r:∀w,(Go.sizeOf ty).run P w=.ok s w)(q:cs.length=s)
  (z:look L t=some (ptr b 0)) (hx:look L u=some x) (g:R (.returned (.tuple #[.agg cs.toArray,x])) w) (m:dl L=[]:=by rfl):MN P n fn R .ret L w:=⟨m,λa f=>by
 have l:=i.block p;have c:=run_loadCells_list (P:=P) w (ad b 0) cs (λj v o=>by rw[CY];exact Xz l (su o));rw[q]at c;have d:=f.get t _ z;have e:=f.get u x hx;simp only[GF]at d e
 exact⟨_,by simp[results,h,d,e,loadVar,y,r];simp[asAddr,c],g⟩⟩
theorem qN{t s:Nat}{ty:TypeId}(h:fn.results=#[.cell t ty])(f:Aa B w I N)(o:N[k]?=some (Ac b cs E))(r:∀w,(isAgg ty).run P w=.ok true w)(q:∀w,(Go.sizeOf ty).run P w=.ok s w)(p:cs.length=s)
  (u:look L t=some (ptr b 0)) (e:R (.returned (.agg cs.toArray)) w) (l:dl L=[]:=by rfl):MN P n fn R .ret L w:=⟨l,λa g=>by
 have i:=f.block o;have c:=run_loadCells_list (P:=P) w (ad b 0) cs (λj v m=>by rw[CY];exact Xz i (su m));rw[p]at c;have d:=g.get t _ u;simp only[GF]at d
 exact⟨_,by simp[results,h,d,loadVar,r,q];simp[asAddr,c],e⟩⟩
theorem Om{t r s:Nat}{ty:TypeId}{x y:Va}(h:fn.results=#[.cell t ty,.tmp u,.tmp r])(l:Aa B w I N)(q:N[k]?=some (Ac b cs E))(C:∀w,(isAgg ty).run P w=.ok true w)(A:∀w,(Go.sizeOf ty).run P w=.ok s w)(z:cs.length=s)
  (D:look L t=some (ptr b 0)) (hx:look L u=some x) (F:look L r=some y) (i:R (.returned (.tuple #[.agg cs.toArray,x,y])) w) (o:dl L=[]:=by rfl):MN P n fn R .ret L w:=⟨o,λa d=>by
 have m:=l.block q;have c:=run_loadCells_list (P:=P) w (ad b 0) cs (λj v p=>by rw[CY];exact Xz m (su p));rw[z]at c;have e:=d.get t _ D;have f:=d.get u x hx;have g:=d.get r y F;simp only[GF]at e f g
 exact⟨_,by simp[results,h,e,f,g,loadVar,C,A];simp[asAddr,c],i⟩⟩
end k9
end
@[reducible] def lk:AB->Nat->Option Value
 | [],_=>none
 | (k,v)::L,t=>match Nat.beq k t with
  | true=>some v
  | false=>lk L t
@[reducible] def yM (L:AB):Operand->Option Value
 | .tmp t=>match Nat.beq t DK with
  | true=>none
  | false=>lk L t
 | .const v=>some v
 | .global g=>some (.pointer (some ⟨g,0,none⟩))
 | .func f=>some (.func (.func f) #[] #[])
@[reducible] def nth:List Value->Nat->Option Value
 | [],_=>none
 | v::_,0=>some v
 | _::l,i+1=>nth l i
@[reducible] def nb (i j:Nat):Bool:=match Nat.beq i j with
 | true=>true
 | false=>false
theorem gK:∀(L:AB) (t:Nat),lk L t=A5 L t
 | [],_=>rfl
 | (k,v)::L,t=>by
  unfold lk A5;cases Nat.beq k t
  ·exact gK L t
  ·rfl
theorem kk(L:AB)(x:Operand):yM L x=ev L x:=by
 cases x with
 | tmp t =>
  simp only[yM,ev,look,gK]
  cases h:Nat.beq t DK<;>simp only[h,cond]
 | const v=>rfl
 | global g=>rfl
 | func f=>rfl
theorem tO:∀(l:Lv) (i:Nat),nth l i=l[i]?
 | [],_=>by simp[nth]
 | v::l,0=>by simp[nth]
 | v::l,i+1=>by simpa[nth]using tO l i
theorem qy(i j:Nat):nb i j=Nat.beq i j:=by unfold nb;cases Nat.beq i j<;>rfl
@[reducible] def isLen:List Value->Nat->Bool
 | [],0=>true
 | _::l,n+1=>isLen l n
 | [],_+1=>false
 | _::_,0=>false
theorem Z1:∀{l:Lv} {n:Nat},isLen l n=true->l.length=n
 | [],0,_=>rfl
 | _::l,n+1,h=>by simp[Z1 (l:=l) (by simpa[isLen]using h)]
 | [],_+1,h=>by simp[isLen]at h
 | _::_,0,h=>by simp[isLen]at h
@[reducible] def JM:List Value->Nat->Bool
 | [],_=>true
 | _::l,n+1=>JM l n
 | _::_,0=>false
theorem Xvq:∀{l:Lv} {n:Nat},JM l n=true->l.length<=n
 | [],_,_=>Y4 _
 | _::l,n+1,h=>Nat.succ_le_succ (Xvq (l:=l) (by simpa[JM]using h))
 | _::_,0,h=>by simp[JM]at h
@[reducible] def LP:List Value->Nat->Value->Option (List Value)
 | [],_,_=>none
 | _::l,0,u=>some (u::l)
 | v::l,i+1,u=>match LP l i u with
  | some m=>some (v::m)
  | none=>none
theorem x0:∀(l:Lv) (i:Nat) (u:Va) (m:Lv),LP l i u=some m->i<l.length/\m=l.set i u
 | [],_,_,_,h=>by simp[LP]at h
 | v::l,0,u,m,h=>by simp[LP]at h;simp[h]
 | v::l,i+1,u,m,h=>by
  simp only[LP]at h
  cases e:LP l i u with
  | none=>rw[e]at h;cases h
  | some a =>
   rw[e]at h;cases h
   have:=x0 l i u a e
   simp[this.1,this.2]
@[reducible] def laid:List Value->List Value->Option (List Value)
 | cs,[]=>some cs
 | [],_::_=>none
 | _::cs,v::vs=>match laid cs vs with
  | some m=>some (v::m)
  | none=>none
@[reducible] def GY:List Value->Nat->List Value->Option (List Value)
 | cs,0,vs=>laid cs vs
 | [],_+1,_=>none
 | c::cs,o+1,vs=>match GY cs o vs with
  | some m=>some (c::m)
  | none=>none
theorem NV:∀(cs vs m:Lv),laid cs vs=some m->vs.length<=cs.length/\m=vs++cs.drop vs.length
 | cs,[],m,h=>by cases cs<;>(simp[laid]at h;simp[h])
 | [],_::_,m,h=>by simp[laid]at h
 | c::cs,v::vs,m,h=>by
  simp only[laid]at h
  cases e:laid cs vs with
  | none=>rw[e]at h;cases h
  | some a =>
   rw[e]at h;cases h
   have:=NV cs vs a e
   simp[this.1,this.2]
theorem tr:∀(cs:Lv) (o:Nat) (vs m:Lv),GY cs o vs=some m->o+vs.length<=cs.length/\m=cs.take o++vs++cs.drop (o+vs.length)
 | cs,0,vs,m,h=>by
  have a:laid cs vs=some m:=by cases cs<;>simpa only [GY]using h
  have:=NV cs vs m a
  simp[this.1,this.2]
 | [],_+1,_,m,h=>by simp[GY]at h
 | c::cs,o+1,vs,m,h=>by
  simp only[GY]at h
  cases e:GY cs o vs with
  | none=>rw[e]at h;cases h
  | some b =>
   rw[e]at h;cases h
   have:=tr cs o vs b e
   rw[show o+1+vs.length=(o+vs.length)+1 by omega];simp[this.1,this.2]
class One(v:Va):Prop where h:v.oneCell'=true
instance {k:IntKind}{i:Int}:One (.int k i):=⟨O⟩
instance {b:Bool}:One (.bool b):=⟨O⟩
instance {s:ByteArray}:One (.string s):=⟨O⟩
instance {p:Oa}:One (.pointer p):=⟨O⟩
instance {p:Oa}:One (.slice p m c):=⟨O⟩
instance {f:Go.Fn}{a b:Array Va}:One (.func f a b):=⟨O⟩
instance {m:Option Nat}:One (.map m):=⟨O⟩
instance {j s:Nat}:One (sliced a i j c s):=⟨O⟩
instance:One .nilFunc:=⟨O⟩
instance {k:FloatKind}:One (.float k m):=⟨O⟩
@[reducible] def Ac9:Nat->Bool
 | 0=>false
 | _+1=>true
class SU(l:Lv):Prop where h:l.all Value.oneCell'=true
instance:SU []:=⟨O⟩
instance {l:Lv}[a:One v][b:SU l]:SU (v::l):=⟨by simp[a.h,b.h]⟩
class Cells(v:Va)(l:outParam Lv):Prop where h:v.cells.toList=l
instance {l:Lv}:Cells (.agg l.toArray) l:=⟨O⟩
instance (priority:=low)[a:One v]:Cells v [v]:=⟨by have h:=a.h;cases v<;>first|rfl|cases h⟩
class Is{α:Type}(o:Option α)(v:outParam α):Prop where h:o=some v
instance (v:α):Is (some v) v:=⟨O⟩
class Ff(b:Bool):Prop where h:b=false
instance:Ff false:=⟨O⟩
class ZJ(J:Im)(p:Addr)(vs:outParam Lv):Prop where h:At J p vs
instance [a:At J p vs]:ZJ J p vs:=⟨a⟩
instance (priority:=low)[l:Le I J][a:ZJ I p vs]:ZJ J p vs:=⟨a.h.mono l⟩
@[reducible] def EU:List Value->Nat->Option (List Value)
 | l,0=>some l
 | [],_+1=>none
 | _::l,i+1=>EU l i
theorem w9:∀{l m:Lv} {i:Nat},EU l i=some m->l.drop i=m
 | l,m,0,h=>by cases l<;>(simp[EU]at h;simp[h])
 | [],_,_+1,h=>by simp[EU]at h
 | _::l,m,i+1,h=>by simpa[EU]using w9 (l:=l) (m:=m) (i:=i) (by simpa[EU]using h)
@[reducible] def Ga:List Value->Nat->Option (List Value)
 | _,0=>some []
 | [],_+1=>none
 | v::l,i+1=>match Ga l i with
  | some m=>some (v::m)
  | none=>none
theorem xv:∀{l m:Lv} {i:Nat},Ga l i=some m->m.length=i/\∀(j:Nat) (v:Va),m[j]?=some v->l[j]?=some v
 | l,m,0,h=>by cases l<;>(simp[Ga]at h;subst h;simp)
 | [],_,_+1,h=>by simp[Ga]at h
 | v::l,m,i+1,h=>by
  simp only[Ga]at h
  cases e:Ga l i with
  | none=>rw[e]at h;cases h
  | some b =>
   rw[e]at h;cases h
   have:=xv e
   refine⟨by simp[this.1],λj u a=>?_⟩;cases j with
   | zero=>simpa using a
   | succ j=>simpa using this.2 j u (su a)
class Eqt{α:Sort _}(a b:α):Prop where h:a=b
instance {α:Sort _}(a:α):Eqt a a:=⟨O⟩
class uY(l:Lv)(m:outParam Lv):Prop where h:l=m
instance:uY [] []:=⟨O⟩
instance {l m:Lv}[h:uY l m]:uY (v::l) (v::m):=⟨by rw[h.h]⟩
class Fl(L:AB)(x:Operand)(v:outParam Va):Prop where h:ev L x=some v
instance {x:Operand}[h:Is (yM L x) v]:Fl L x v:=⟨by rw[<-kk];exact h.h⟩
abbrev eX(G:List (Bool×Bool)):Prop:=∀p∈G,p.1=p.2
class MH(G:List (Bool×Bool))(u:Va)(v:outParam Va):Prop where h:eX G->u=v
instance (priority:=low)(G:List (Bool×Bool))(u:Va):MH G u u:=⟨λ_=>rfl⟩
instance {b w:Bool}{u:Va}[h:MH G u v]:MH ((b,w)::G) (gd b w u) v:=⟨λa=>by
 have e:b=w:=a (b,w) sz;subst e;rw[<-h.h λp c=>a p (Si _ c)];simp[gd]⟩
class AW(G:List (Bool×Bool))(L:AB)(x:Operand)(v:outParam Va):Prop where h:eX G->∀n,Ev n L x v
instance {x:Operand}{u:Va}[a:Fl L x u][b:MH G u v]:AW G L x v:=⟨λc n=>by rw[<-b.h c];exact .of a.h⟩
class OS(G:List (Bool×Bool))(L:AB)(xs:List Operand)(vs:outParam Lv):Prop where h:eX G->∀n a,Ap n L a->xs.map a.eval=vs
instance :OS G L [] []:=⟨λ_ _ _ _=>rfl⟩
instance {x:Operand}{xs:List Operand}[a:AW G L x v][b:OS G L xs vs]:OS G L (x::xs) (v::vs):=⟨λc n=>X6 (a.h c n) (b.h c n)⟩
class nV(G:List (Bool×Bool))(L:AB)(ps:List (Nat×Operand))(vs:outParam (List (Nat×Va))):Prop where h:eX G->∀n a,Ap n L a->ps.toArray.toList.map (λp=>(p.1,a.eval p.2))=vs
instance :nV G L [] []:=⟨λ_ n=>TC (n:=n)⟩
instance {x:Operand}{ps:List (Nat×Operand)}{vs:List (Nat×Va)}[a:AW G L x v][b:nV G L ps vs]:nV G L ((i,x)::ps) ((i,v)::vs):=⟨λc n=>Xiu (a.h c n) (b.h c n)⟩
@[reducible] def Q5:List (Nat×Nat)->Nat->Option (Nat×Nat)
 | [],_=>none
 | v::_,0=>some v
 | _::l,i+1=>Q5 l i
theorem N5:∀(l:List (Nat×Nat)) (i:Nat),Q5 l i=l[i]?
 | [],_=>by simp[Q5]
 | v::l,0=>by simp[Q5]
 | v::l,i+1=>by simpa[Q5]using N5 l i
class Tt(b:Bool):Prop where h:b=true
instance:Tt true:=⟨O⟩
class ri(pl:List (Nat×Nat))(cs:Lv)(vs:List (Nat×Va))(ds:outParam Lv):Prop where h:MS (λi:Nat=>pl[i]?) cs vs=some ds
instance :ri pl cs [] cs:=⟨O⟩
theorem Xo1{pl:Nat->Option (Nat×Nat)}{es l:Lv}{vs:List (Nat×Va)}(a:pl i=some (off,size))(b:v.cells.toList=l)(c:l.length=size)(d:GY cs off l=some ds)(e:MS pl ds vs=some es):MS pl cs ((i,v)::vs)=some es:=by
 have h:=tr _ _ _ _ d;subst c;have f:Nat.beq v.cells.toList.length l.length=true:=by rw[b];exact Nat.beq_refl _
 have g:Nat.ble (off+l.length) cs.length=true:=ud h.1;unfold MS;rw[a];simp only[f,g,Bool.and_self,cond_true]
 rw[show jv cs off v.cells.toList=ds by rw[b,h.2];rfl];exact e
instance {es l:Lv}{vs:List (Nat×Va)}[a:Is (Q5 pl i) (off,size)][b:Cells v l][c:Tt (isLen l size)][d:Is (GY cs off l) ds][e:ri pl ds vs es]:ri pl cs ((i,v)::vs) es :=
 ⟨Xo1 (by rw[<-N5];exact a.h) b.h (Z1 c.h) d.h e.h⟩
class ZN(s:Nat)(cs:Lv)(vs:List (Nat×Va))(ds:outParam Lv):Prop where h:MS (λi=>some (i*s,s)) cs vs=some ds
instance {s:Nat}:ZN s cs [] cs:=⟨O⟩
instance {s:Nat}{es l:Lv}{vs:List (Nat×Va)}[b:Cells v l][c:Tt (isLen l s)][d:Is (GY cs (i*s) l) ds][e:ZN s ds vs es]:ZN s cs ((i,v)::vs) es :=
 ⟨Xo1 O b.h (Z1 c.h) d.h e.h⟩
@[reducible] def bA:List Value->List Value->List Value
 | [],m=>m
 | v::l,m=>v::bA l m
theorem Nc:∀l m:Lv,bA l m=l++m
 | [],_=>rfl
 | v::l,m=>by simp[bA,Nc l m]
@[reducible] def eh:Nat->List Value->List Value
 | 0,_=>[]
 | n+1,z=>bA z (eh n z)
theorem Ol:∀(n:Nat) (z:Lv),eh n z=(List.replicate n z).flatten
 | 0,_=>rfl
 | n+1,z=>by rw[eh,Nc,Ol n z,List.replicate_succ,Fx]
class Nf(l:Lv)(m:outParam Lv):Prop where h:l=m
instance:Nf [] []:=⟨O⟩
instance {l m:Lv}[a:Nf l m]:Nf (v::l) (v::m):=⟨by rw[a.h]⟩
class Bd(P:Program)(t:TypeId)(pl:outParam (List (Nat×Nat)))(zs:outParam Lv):Prop where h:rf P t pl zs
class Mp(P:Program)(t:TypeId)(z:outParam Va)(size bytes:outParam Nat):Prop where h:∃i,P.info? t=some i/\i.zero=some z/\i.size=size/\i.bytes=bytes/\z.cells.size=size
class Fo(P:Program)(t:TypeId)(f:Nat)(off:outParam Nat):Prop where h:∃fs fd s,P.underlying t=some (.struct fs)/\fs[f]?=some fd/\fd.offset=off/\(∀w,(Go.sizeOf fd.type).run P w=.ok s w)/\Nat.beq s 0=false
theorem fo{t f s:Nat}(a:P.underlying t=some (.struct fs))(b:fs[f]?=some fd)(c:∀w,(Go.sizeOf fd.type).run P w=.ok s w)(d:fd.offset=off:=by rfl)(e:Nat.beq s 0=false:=by rfl):Fo P t f off:=⟨fs,fd,s,a,b,d,c,e⟩
class Un(P:Program)(t:TypeId)(u:outParam TypeDesc):Prop where h:P.underlying t=some u
class Sz(P:Program)(t:TypeId)(s:outParam Nat):Prop where h:∀w,(Go.sizeOf t).run P w=.ok s w
class Ag(P:Program)(t:TypeId)(b:outParam Bool):Prop where h:∀w,(isAgg t).run P w=.ok b w
class Zv(P:Program)(t:TypeId)(v:outParam Va):Prop where h:∀w,(zeroValue t).run P w=.ok v w
class Fn(P:Program)(f:FuncId):Prop where h:∃fn,P.funcs[f]?=some fn/\Xf fn=true
class KC(N:La)(b:Nat)(k:outParam Nat)(cs:outParam Lv)(E:outParam TypeId):Prop where h:N[k]?=some (Ac b cs E)
instance :KC (Ac b cs E::N) b 0 cs E:=⟨O⟩
instance (priority:=low)[h:KC N b k cs E]:KC (A::N) b (k+1) cs E:=⟨h.h⟩
section
variable {P:Program} {n:Nat} {L:AB} {G:List (Bool×Bool)} {B:Wo} {I:Im} {N:La}
class V0(P:Program)(L:AB)(G:List (Bool×Bool))(op:Op)(S:outParam Prop)(v:outParam Va):Prop where
 h:S->eX G->∀{n:Nat} {w:Wo} {d:Option Nat} {ty:TypeId} {pos:String} {af:Array Edge} {g:Option (Nat×Bool)},Ex P n L w ⟨d,op,ty,pos,af,g⟩ v w
class V1(P:Program)(L:AB)(G:List (Bool×Bool))(B:Wo)(I:Im)(N:La)(op:Op)(S:outParam Prop)(v:outParam Va):Prop where
 h:S->eX G->∀{w:Wo},Aa B w I N->∀{n:Nat} {d:Option Nat} {ty:TypeId} {pos:String} {af:Array Edge} {g:Option (Nat×Bool)},Ex P n L w ⟨d,op,ty,pos,af,g⟩ v w
instance (priority:=low){S:Prop}[a:V0 P L G op S v]:V1 P L G B I N op S v:=⟨λs g _ _=>a.h s g⟩
section
variable {x y z c:Operand} {u v:Va} {k q:IntKind} {i j:Int} {t t' e:TypeId} {l m:Lu} {b r:Bool}
instance [a:AW G L x v]:V0 P L G (.move x) True v:=⟨λ_ g=>.move (a.h g _)⟩
instance [a:AW G L x v]:V0 P L G (.assign x) True v:=⟨λ_ g=>.assign (a.h g _)⟩
instance [a:AW G L c (.bool b)][hx:AW G L x (.bool true)][d:AW G L y (gd b false (.bool r))]:V0 P L G (.pick c x y) True (.bool (b||r)):=⟨λ_ g=>.por (a.h g _) (hx.h g _) (d.h g _)⟩
instance [a:AW G L c (.bool b)][hx:AW G L x (gd b true (.bool r))][d:AW G L y (.bool false)]:V0 P L G (.pick c x y) True (.bool (b&&r)):=⟨λ_ g=>.k3 (a.h g _) (hx.h g _) (d.h g _)⟩
instance {n:Nat}[a:AW G L x (.tuple vs.toArray)][h:Is (nth vs n) v]:V0 P L G (.extract x n) True v:=⟨λ_ g=>.extract (a.h g _) (by simpa[tO]using h.h)⟩
instance [a:AW G L x (.bool b)]:V0 P L G (.unOp .not t x) True (.bool (!b)):=⟨λ_ g=>.not (a.h g _)⟩
instance [a:AW G L x (.pointer (some p))]:V0 P L G (.nilCheck x) True (.pointer (some p)):=⟨λ_ g=>.nilCheck (a.h g _)⟩
instance [a:AW G L x (.int k i)][h:AW G L y (.int k j)]:V0 P L G (.binOp .lss t x y t') True (.bool (decide (i<j))):=⟨λ_ g=>.lss (a.h g _) (h.h g _)⟩
instance [a:AW G L x (.int k i)][h:AW G L y (.int k j)]:V0 P L G (.binOp .leq t x y t') True (.bool (decide (i<=j))):=⟨λ_ g=>.leq (a.h g _) (h.h g _)⟩
instance [a:AW G L x (.int k i)][h:AW G L y (.int k j)]:V0 P L G (.binOp .gtr t x y t') True (.bool (decide (j<i))):=⟨λ_ g=>.gtr (a.h g _) (h.h g _)⟩
instance [a:AW G L x (.int k i)][h:AW G L y (.int k j)]:V0 P L G (.binOp .geq t x y t') True (.bool (decide (j<=i))):=⟨λ_ g=>.geq (a.h g _) (h.h g _)⟩
instance [a:AW G L x (.int k i)][h:AW G L y (.int k j)]:V0 P L G (.binOp .eql t x y t') True (.bool (i==j)):=⟨λ_ g=>.eql (a.h g _) (h.h g _)⟩
instance [a:AW G L x (.int k i)][h:AW G L y (.int k j)]:V0 P L G (.binOp .neq t x y t') True (.bool (i !=j)):=⟨λ_ g=>.neq (a.h g _) (h.h g _)⟩
instance (priority:=low)[a:AW G L x (.int k i)][h:AW G L y (.int k j)]:V0 P L G (.binOp .add t x y t') True (.int k (k.wrap (i+j))):=⟨λ_ g=>.jO (a.h g _) (h.h g _)⟩
instance (priority:=low)[a:AW G L x (.int k i)][h:AW G L y (.int k j)]:V0 P L G (.binOp .sub t x y t') True (.int k (k.wrap (i-j))):=⟨λ_ g=>.Adi (a.h g _) (h.h g _)⟩
instance (priority:=low)[a:AW G L x (.int k i)][h:AW G L y (.int k j)]:V0 P L G (.binOp .mul t x y t') True (.int k (k.wrap (i*j))):=⟨λ_ g=>.kS (a.h g _) (h.h g _)⟩
instance [a:AW G L x (Ab i)][h:AW G L y (Ab j)]:V0 P L G (.binOp .add t x y t') (FG (i+j)) (Ab (i+j)):=⟨λs g=>.add (a.h g _) (h.h g _) s⟩
instance [a:AW G L x (Ab i)][h:AW G L y (Ab j)]:V0 P L G (.binOp .sub t x y t') (FG (i-j)) (Ab (i-j)):=⟨λs g=>.sub (a.h g _) (h.h g _) s⟩
instance [a:AW G L x (Ab i)][h:AW G L y (Ab j)]:V0 P L G (.binOp .mul t x y t') (FG (i*j)) (Ab (i*j)):=⟨λs g=>.mul (a.h g _) (h.h g _) s⟩
instance [a:AW G L x (.int k i)][h:AW G L y (.int k j)]:V0 P L G (.binOp .quo t x y t') (0<=i/\0<j/\k.wrap (i/j)=i/j) (.int k (i/j)):=⟨λs g=>.quo (a.h g _) (h.h g _) s.1 s.2.1 s.2.2⟩
instance [a:AW G L x (.int k i)][h:AW G L y (.int k j)]:V0 P L G (.binOp .rem t x y t') (0<=i/\0<j) (.int k (i%j)):=⟨λs g=>.rem (a.h g _) (h.h g _) s.1 s.2⟩
instance [a:AW G L x (.int k i)][h:AW G L y (.int k j)]:V0 P L G (.binOp .and t x y t') True (.int k (bits .and k i j)):=⟨λ_ g=>.F7 (.inl O) (a.h g _) (h.h g _)⟩
instance [a:AW G L x (.int k i)][h:AW G L y (.int k j)]:V0 P L G (.binOp .or t x y t') True (.int k (bits .or k i j)):=⟨λ_ g=>.F7 (.inr (.inl O)) (a.h g _) (h.h g _)⟩
instance [a:AW G L x (.int k i)][h:AW G L y (.int k j)]:V0 P L G (.binOp .xor t x y t') True (.int k (bits .xor k i j)):=⟨λ_ g=>.F7 (.inr (.inr O)) (a.h g _) (h.h g _)⟩
instance (priority:=low)[a:AW G L x (.int k i)][h:AW G L y (.int q j)]:V0 P L G (.binOp .shr t x y t') (0<=j/\j<=k.bits) (.int k (i/2^j.toNat)):=⟨λs g=>.shr (a.h g _) (h.h g _) s.1 s.2⟩
instance [a:AW G L x (.int k i)][h:AW G L y (.int q j)]:V0 P L G (.binOp .shl t x y t') (0<=j/\j<=k.bits) (.int k (k.wrap (i*2^j.toNat))):=⟨λs g=>.shl (a.h g _) (h.h g _) s.1 s.2⟩
instance {p:Oa}[a:AW G L x (.pointer p)][h:AW G L y (.pointer none)][b:Un P t (.pointer e)]:V0 P L G (.binOp .eql t x y t') True (.bool p.isNone):=⟨λ_ g=>.eqp (a.h g _) (h.h g _) b.h⟩
instance {p:Oa}[a:AW G L x (.pointer p)][h:AW G L y (.pointer none)][b:Un P t (.pointer e)]:V0 P L G (.binOp .neq t x y t') True (.bool (!p.isNone)):=⟨λ_ g=>.nep (a.h g _) (h.h g _) b.h⟩
instance [a:AW G L x (S l)][h:AW G L y (S m)]:V0 P L G (.binOp .eql t x y t') True (.bool (l==m)):=⟨λ_ g=>.eqs (a.h g _) (h.h g _)⟩
instance [a:AW G L x (S l)][h:AW G L y (S m)]:V0 P L G (.binOp .neq t x y t') True (.bool (!(l==m))):=⟨λ_ g=>.uL (a.h g _) (h.h g _)⟩
instance [a:AW G L x (S l)][h:AW G L y (S m)]:V0 P L G (.binOp .add t x y t') (((l.length+m.length:Nat):Int)<=9223372036854775807) (S (l++m)):=⟨λs g=>.cat (a.h g _) (h.h g _) s⟩
instance [a:AW G L x (S l)][b:Un P t .string]:V0 P L G (.call ⟨.builtin .len,#[x],#[t]⟩) True (Ab l.length):=⟨λ_ g=>.len (a.h g _) b.h⟩
instance {p:Oa}{n:Nat}[a:AW G L x (.slice p n cap)][b:Un P t (.slice e)]:V0 P L G (.call ⟨.builtin .len,#[x],#[t]⟩) True (Ab n):=⟨λ_ g=>.CK (a.h g _) b.h⟩
instance [a:AW G L x (.int k i)][h:AW G L y (.int k j)]:V0 P L G (.call ⟨.builtin .min,#[x,y],ts⟩) True (.int k (min i j)):=⟨λ_ g=>.min2 (a.h g _) (h.h g _)⟩
instance [a:AW G L x (.int k i)][h:AW G L y (.int k j)]:V0 P L G (.call ⟨.builtin .max,#[x,y],ts⟩) True (.int k (max i j)):=⟨λ_ g=>.max2 (a.h g _) (h.h g _)⟩
instance [a:AW G L x (S l)][h:AW G L y (Ab i)][b:Un P t .string]:V0 P L G (.index t x y) (0<=i/\i<(l.length:Int)) (U8 (at_ l i).toNat):=⟨λs g=>.index (a.h g _) (h.h g _) s.1 s.2 b.h⟩
instance [a:AW G L x (S l)][h:AW G L y (Ab i)][b:AW G L z (Ab j)][c:Un P t .string]:V0 P L G (.slice t x (some y) (some z) none) (0<=i/\i<=j/\j<=(l.length:Int)) (S ((l.drop i.toNat).take (j.toNat-i.toNat))):=⟨λs g=>.H7 (a.h g _) (h.h g _) (b.h g _) s.1 s.2.1 s.2.2 c.h⟩
instance [a:AW G L x (S l)][h:AW G L y (Ab i)][b:Un P t .string]:V0 P L G (.slice t x (some y) none none) (0<=i/\i<=(l.length:Int)) (S (l.drop i.toNat)):=⟨λs g=>.Ee (a.h g _) (h.h g _) s.1 s.2 b.h⟩
instance [a:AW G L x (S l)][h:AW G L y (Ab i)][b:Un P t .string]:V0 P L G (.slice t x none (some y) none) (0<=i/\i<=(l.length:Int)) (S (l.take i.toNat)):=⟨λs g=>.gZ (a.h g _) (h.h g _) s.1 s.2 b.h⟩
instance {p:Oa}{n s:Nat}[a:AW G L x (.slice p n cap)][h:AW G L y (Ab i)][b:Un P t (.slice e)][c:Sz P e s]:V0 P L G (.slice t x (some y) none none) (0<=i/\i<=n) (sliced p i.toNat n cap s):=⟨λs g=>.FD (a.h g _) (h.h g _) s.1 s.2 b.h c.h⟩
instance {p:Oa}{n s:Nat}[a:AW G L x (.slice p n cap)][h:AW G L y (Ab i)][b:Un P t (.slice e)][c:Sz P e s]:V0 P L G (.slice t x none (some y) none) (0<=i/\i<=cap) (sliced p 0 i.toNat cap s):=⟨λs g=>.JR (a.h g _) (h.h g _) s.1 s.2 b.h c.h⟩
instance {b f:Nat}[a:AW G L x (ptr b o)][h:Fo P t f off]:V0 P L G (.fieldAddr t x f) True (ptr b (o+off)):=⟨λ_ g=>by
 obtain⟨fs,fd,s,c,d,e,i,j⟩:=h.h;exact .fieldAddr off (a.h g _) c d e i j⟩
instance (priority:=low){f:Nat}[a:AW G L x (.pointer (some p))][h:Fo P t f off]:V0 P L G (.fieldAddr t x f) True (.pointer (some (p.add off))):=⟨λ_ g=>by
 obtain⟨fs,fd,s,b,c,d,e,i⟩:=h.h;exact .Bq off (a.h g _) b c d e i⟩
instance {b n s:Nat}[a:AW G L x (.slice (some (ad b o)) n cap)][h:AW G L y (Ab i)][c:Un P t (.slice e)][d:Sz P e s]:V0 P L G (.indexAddr t x y) (0<=i/\i<n) (ptr b (o+i.toNat*s)):=⟨λs g=>.indexAddr (a.h g _) (h.h g _) s.1 s.2 c.h d.h⟩
instance (priority:=low){n s:Nat}[a:AW G L x (.slice (some p) n cap)][h:AW G L y (Ab i)][b:Un P t (.slice e)][c:Sz P e s]:V0 P L G (.indexAddr t x y) (0<=i/\i<n) (.pointer (some (p.add (i.toNat*s)))):=⟨λs g=>.AD (a.h g _) (h.h g _) s.1 s.2 b.h c.h⟩
instance (priority:=high){b n s j:Nat}[a:AW G L x (.slice (some (ad b o)) n cap)][h:AW G L y (Ab (j:Int))][c:Un P t (.slice e)][d:Sz P e s]:V0 P L G (.indexAddr t x y) (j<n) (ptr b (o+j*s)):=⟨λs g=>.indexAddr (a.h g _) (h.h g _) (uk j) (jL.2 s) c.h d.h⟩
instance {n s j:Nat}[a:AW G L x (.slice (some p) n cap)][h:AW G L y (Ab (j:Int))][b:Un P t (.slice e)][c:Sz P e s]:V0 P L G (.indexAddr t x y) (j<n) (.pointer (some (p.add (j*s)))):=⟨λs g=>.AD (a.h g _) (h.h g _) (uk j) (jL.2 s) b.h c.h⟩
instance {xs:List Operand}{f:Go.Fn}[a:OS G L xs vs]:V0 P L G (.makeFunc f #[] xs.toArray) True (.func f #[] vs.toArray):=⟨λ_ g=>.makeFunc (a.h g _)⟩
instance [a:AW G L x (.int k i)][b:Un P src (.int k)][c:Un P dst (.int q)]:V0 P L G (.convert src dst x) (q.wrap i=i) (.int q i):=⟨λs g=>.uF (a.h g _) b.h c.h s⟩
instance {ps:List (Nat×Operand)}{vs:List (Nat×Va)}[a:nV G L ps vs][b:Bd P t pl zs][f:ri pl zs vs cs]:V0 P L G (.build t ps.toArray) True (.agg cs.toArray):=⟨λ_ g=>.build (a.h g _) b.h f.h⟩
instance {i:Nat}{us:Lv}[a:ZJ J p vs][d:Is (EU vs i) us]:ZJ J (p.add i) us:=⟨w9 d.h▸a.h.add i⟩
instance (priority:=low){b:Nat}{us:Lv}[z:Tt (Ac9 o)][a:ZJ J (ad b 0) vs][d:Is (EU vs o) us]:ZJ J (ad b o) us:=⟨by
 have h:=a.h.add o;rw[CY,Yk]at h;exact w9 d.h▸h⟩
instance (priority:=low)[a:AW G L x (.pointer (some p))][at_:ZJ I p vs][c:Ag P t false][d:Is (nth vs 0) v]:V1 P L G B I N (.load t x) True v:=⟨λ_ g _ b=>.BS (a.h g _) b at_.h c.h (by rw[<-tO];exact d.h)⟩
instance (priority:=low){us:Lv}{s:Nat}[a:AW G L x (.pointer (some p))][at_:ZJ I p vs][d:Ag P t true][e:Sz P t s][b:Is (Ga vs s) us]:V1 P L G B I N (.load t x) True (.agg us.toArray):=⟨λ_ g _ c=>.B5 (a.h g _) c at_.h d.h e.h (xv b.h).1 (xv b.h).2⟩
instance {b n:Nat}[a:AW G L x (ptr b o)][d:KC N b n cs E][e:Ag P t false][f:Is (nth cs o) v]:V1 P L G B I N (.load t x) True v:=⟨λ_ g _ c=>.ld (a.h g _) c d.h e.h (by rw[<-tO];exact f.h)⟩
instance {b n s:Nat}[a:AW G L x (ptr b 0)][d:KC N b n cs E][e:Ag P t true][i:Sz P t s][f:Tt (isLen cs s)]:V1 P L G B I N (.load t x) True (.agg cs.toArray):=⟨λ_ g _ c=>.QT (a.h g _) c d.h e.h i.h (Z1 f.h)⟩
end
end
structure Kr(b:Bool):Prop where h:b=true
structure Sd(S:Prop):Prop where h:S
theorem sd{S:Prop}(s:S:=by
 first
 | exact trivial
 | (repeat' apply And.intro)<;>first
  | exact trivial
  | exact Kr.mk (by kernel_rfl)
  | omega
  | (unfold maxLen;omega)
  | (simp only[Y0,Y5,Yh];omega)
  | (simp only[IntKind.wrap_i64,IntKind.wrap_u64,IntKind.wrap_u8,IntKind.wrap_u16,IntKind.wrap_u32,IntKind.wrap_i32];omega)
  | decide
  | kernel_rfl
  | (intro a;simp only[jy]at a;omega)):Sd S:=⟨s⟩
def ZD:AB->AB->Option AB
 | [],M=>match A5 M DK with
  | none=>some []
  | some _=>none
 | (t,_)::L,M=>match look M t,ZD L M with
  | some v,some r=>some ((t,v)::r)
  | _,_=>none
theorem mH:∀{L M:AB},ZD L M=some L->Sub L M
 | [],M,h=>by
  unfold ZD at h;unfold Sub;cases e:A5 M DK<;>simp_all
 | (t,v)::L,M,h=>by
  unfold ZD at h;cases a:look M t with
  | none=>rw[a]at h;simp at h
  | some u =>
   cases b:ZD L M with
   | none=>rw[a,b]at h;simp at h
   | some r =>
    rw[a,b]at h;simp only[Option.some.injEq,List.cons.injEq,Prod.mk.injEq,true_and]at h
    obtain⟨rfl,rfl⟩:=h;exact⟨a,mH b⟩
theorem rd{E:σ->AB}{A M:σ->Prop}(s:σ)(h:A s)(m:M s:=by first|(dsimp only;omega)|omega)(b:ZD (E s) L=some (E s):=by rfl):∃s,Sub (E s) L/\A s/\M s:=⟨s,mH b,h,m⟩
theorem A_{σ:Type}{E:σ->AB}{L:AB}{A M:σ->Prop}(s:σ)(b:ZD (E s) L=some (E s))(h:A s)(m:M s:=by first|(dsimp only;omega)|omega):∃s,Sub (E s) L/\A s/\M s:=⟨s,mH b,h,m⟩
theorem cd{E:σ->AB}{A:σ->Prop}(s:σ)(h:A s)(b:ZD (E s) L=some (E s):=by rfl):∃s,Sub (E s) L/\A s:=⟨s,mH b,h⟩
theorem En{σ:Type}{E:σ->AB}{L:AB}{A:σ->Prop}(s:σ)(b:ZD (E s) L=some (E s))(h:A s):∃s,Sub (E s) L/\A s:=⟨s,mH b,h⟩
class nW(L:AB)(ks:List Nat)(M:outParam AB):Prop where h:True
instance :nW L [] []:=⟨trivial⟩
instance {c:List Nat}[a:Fl L (.tmp k) v][b:nW L c M]:nW L (k::c) ((k,v)::M):=⟨trivial⟩
theorem WC.lk{c:Code}(g:List Nat)[k:nW L g M](E:σ->AB->AB)(a:σ->Wo->Prop)(μ:σ->Nat)(b:σ)(e:a b w)
  (round:∀s w,a s w->WC P n c (Ft (λL' w'=>∃d,Sub (E d M) L'/\a d w'/\μ d<μ s) K) (E s M) w) (f:ZD (E b M) L=some (E b M):=by rfl):WC P n (.loop c) K L w:=WC.loop (λs=>E s M) a μ b (mH f) e round
theorem WC.ck{c b:Code}(e:List Nat)[k:nW L e M](E:σ->AB->AB)(a:σ->Wo->Prop)(h:WC P n c (Ft (λL w=>∃s,Sub (E s M) L/\a s w) K) L w)(d:∀s w,a s w->WC P n b K (E s M) w):WC P n (.seq c b) K L w:=WC.p5 (λs=>E s M) a h d
class Cj(a b:Prop)(c:outParam Prop):Prop where h:c->a/\b
instance (priority:=low){a b:Prop}:Cj a b (a/\b):=⟨id⟩
instance {a:Prop}:Cj a True a:=⟨λh=>⟨h,trivial⟩⟩
instance {b:Prop}:Cj True b b:=⟨λh=>⟨trivial,h⟩⟩
class Gs(G:List (Bool×Bool))(s:Prop)(s':outParam Prop):Prop where h:s'->eX G->s
instance {s:Prop}:Gs [] s s:=⟨λh _=>h⟩
instance {b w:Bool}{s c:Prop}[a:Gs G s c]:Gs ((b,w)::G) s (b=w->c):=⟨λh g=>a.h (h (g (b,w) sz)) λp d=>g p (Si _ d)⟩
instance (priority:=high):Gs G True True:=⟨λh _=>h⟩
@[reducible] def nP (d n:Nat):Bool:=match Nat.ble (d+1) n with
 | true=>true
 | false=>false
@[reducible] def leR (d n:Nat):Bool:=match Nat.ble d n with
 | true=>true
 | false=>false
class Lt(d n:Nat):Prop where h:Nat.blt d n=true
instance {d:Nat}[a:Tt (nP d n)]:Lt d n:=⟨by have h:=a.h;unfold nP at h;unfold Nat.blt;cases e:Nat.ble (d+1) n<;>simp_all⟩
@[reducible] def F4:List Oper->Nat->Option Nat
 | [],_=>none
 | o::_,0=>o.dst
 | _::l,j+1=>F4 l j
theorem w_:∀(l:List Oper) (j:Nat),F4 l j=(l[j]?).bind (·.dst)
 | [],_=>by simp[F4]
 | o::l,0=>by simp[F4]
 | o::l,j+1=>by simpa[F4]using w_ l j
class q_(u:Va)(want:Bool)(c:outParam (List (Bool×Bool)))(b:outParam Bool)(G:outParam (List (Bool×Bool))):Prop where h:u=CH c (.bool b)/\G=c++[(b,want)]
instance {b:Bool}:q_ (.bool b) want [] b [(b,want)]:=⟨O,O⟩
instance {b1 b:Bool}{u:Va}{c:List (Bool×Bool)}[a:q_ u want c b G]:q_ (gd b1 w1 u) want ((b1,w1)::c) b ((b1,w1)::G):=⟨by rw[a.h.1];rfl,by rw[a.h.2];rfl⟩
class lM(G:List (Bool×Bool))(v:Va)(u:outParam Va):Prop where h:CH G v=u
instance :lM [] v v:=⟨O⟩
instance {b w:Bool}{u:Va}[a:lM G v u]:lM ((b,w)::G) v (gd b w u):=⟨by rw[<-a.h];rfl⟩
class rj(ops:Array Oper)(j:Nat)(L:AB)(n:Nat)(want:Bool)(c:outParam (List (Bool×Bool)))(b:outParam Bool)(G:outParam (List (Bool×Bool))):Prop where
 h:∃t,(ops[j]?).bind (·.dst)=some t/\Nat.blt t n=true/\look L t=some (CH c (.bool b))/\G=c++[(b,want)]
instance {l:List Oper}{j t:Nat}{b:Bool}{u:Va}{c:List (Bool×Bool)}[a:Is (F4 l j) t][lt:Lt t n][e:Fl L (.tmp t) u][g:q_ u want c b G]:rj l.toArray j L n want c b G :=
 ⟨t,by have:=a.h;rw[w_]at this;simpa using this,lt.h,by have:=e.h;rw[<-g.h.1];exact this,g.h.2⟩
class ry(N:La)(b o:Nat)(v:Va)(Bh:outParam La):Prop where h:∃k cs E,N[k]?=some (Ac b cs E)/\o<cs.length/\Bh=N.set k (Ac b (cs.set o v) E)
instance [a:Is (LP cs o v) ds]:ry (Ac b cs E::N) b o v (Ac b ds E::N) :=
 ⟨0,cs,E,O,(x0 _ _ _ _ a.h).1,by rw[(x0 _ _ _ _ a.h).2];rfl⟩
instance (priority:=low)[a:ry N b o v Bh]:ry (A::N) b o v (A::Bh):=⟨by
 obtain⟨k,cs,E,c,d,e⟩:=a.h;exact⟨k+1,cs,E,c,d,by rw[e];rfl⟩⟩
class ru(N:La)(b o:Nat)(vs:Lv)(Bh:outParam La):Prop where h:∃k cs E,N[k]?=some (Ac b cs E)/\o+vs.length<=cs.length/\Bh=N.set k (Ac b (cs.take o++vs++cs.drop (o+vs.length)) E)
instance [a:Is (GY cs o vs) ds]:ru (Ac b cs E::N) b o vs (Ac b ds E::N) :=
 ⟨0,cs,E,O,(tr _ _ _ _ a.h).1,by rw[(tr _ _ _ _ a.h).2];rfl⟩
instance (priority:=low)[a:ru N b o vs Bh]:ru (A::N) b o vs (A::Bh):=⟨by
 obtain⟨k,cs,E,c,d,e⟩:=a.h;exact⟨k+1,cs,E,c,d,by rw[e];rfl⟩⟩
class rr(N:La)(b:Nat)(cs:outParam Lv)(E:outParam TypeId)(Bh:outParam La):Prop where h:∃k,N[k]?=some (Ac b cs E)/\Bh=N.eraseIdx k
instance :rr (Ac b cs E::N) b cs E N:=⟨0,O,O⟩
instance (priority:=low)[a:rr N b cs E Bh]:rr (A::N) b cs E (A::Bh):=⟨by
 obtain⟨k,c,d⟩:=a.h;exact⟨k+1,c,by rw[d];rfl⟩⟩
class rz(N:La)(v:Va)(E size nn:outParam Nat)(xs:outParam Lv)(f:outParam (Va->Nat->Lv->La)):Prop where h:∃k,N[k]?=some (An E size v nn xs)/\∀v' n' xs',f v' n' xs'=N.set k (An E size v' n' xs')
instance {E:Nat}:rz (An E size v nn xs::N) v E size nn xs (λc b a=>An E size c b a::N):=⟨0,O,λ_ _ _=>rfl⟩
instance (priority:=low){E:Nat}{f:Va->Nat->Lv->La}[a:rz N v E size nn xs f]:rz (A::N) v E size nn xs (λg e b=>A::f g e b):=⟨by
 obtain⟨k,c,d⟩:=a.h;exact⟨k+1,c,λ_ _ _=>by rw[d];rfl⟩⟩
class Bp(b:Bool)(p q:outParam Prop):Prop where
 t:b=true->p
 f:b=false->q
instance (priority:=low){b:Bool}:Bp b (b=true) (b=false):=⟨id,id⟩
instance {i j:Int}:Bp (decide (i<j)) (i<j) (j<=i):=⟨λh=>by simpa using h,λh=>by simpa using h⟩
instance {i j:Int}:Bp (decide (i<=j)) (i<=j) (j<i):=⟨λh=>by simpa using h,λh=>by simpa using h⟩
instance {i j:Int}:Bp (i==j) (i=j) (¬ i=j):=⟨λh=>by simpa using h,λh=>by simpa using h⟩
instance {i j:Int}:Bp (i !=j) (¬ i=j) (i=j):=⟨λh=>by simpa using h,λh=>by simpa using h⟩
instance {l m:Lu}:Bp (l==m) (l=m) (¬ l=m):=⟨λh=>by simpa using h,λh=>by simpa using h⟩
instance {b:Bool}{p q:Prop}[a:Bp b p q]:Bp (!b) q p:=⟨λh=>a.f (su h),λh=>a.t (su h)⟩
instance {b c:Bool}{p q r s:Prop}[x:Bp b p q][y:Bp c r s]:Bp (b&&c) (p/\r) (q\/s):=⟨λh=>by simp at h;exact⟨x.t h.1,y.t h.2⟩,λh=>by cases b with
 | false=>exact .inl (x.f O)
 | true=>exact .inr (y.f (su h))⟩
instance {b c:Bool}{p q r s:Prop}[x:Bp b p q][y:Bp c r s]:Bp (b||c) (p\/r) (q/\s):=⟨λh=>by cases b with
 | true=>exact .inl (x.t O)
 | false=>exact .inr (y.t (su h)),λh=>by simp at h;exact⟨x.f h.1,y.f h.2⟩⟩
class Bn(g:Prop)(q:outParam Prop):Prop where h:q->g
instance (priority:=low){g:Prop}:Bn g g:=⟨id⟩
instance {f q:Wo->Prop}[r:∀w [Aa B w I N],Bn (f w) (q w)]:Bn (∀w,Aa B w I N->f w) (∀w,Aa B w I N->q w):=⟨λh w a=>(r w).h (h w a)⟩
instance {f q:Nat->Prop}[r:∀a,Bn (f a) (q a)]:Bn (∀a,f a) (∀a,q a):=⟨λh a=>(r a).h (h a)⟩
instance {f q:Oa->Prop}[r:∀a,Bn (f a) (q a)]:Bn (∀a,f a) (∀a,q a):=⟨λh a=>(r a).h (h a)⟩
instance {j:Nat}{f q:Prop}[r:Bn f q]:Bn (i<=j->f) (i<=j->q):=⟨λh a=>r.h (h a)⟩
@[reducible] def GU:AB->Bool
 | []=>true
 | (k,_)::L=>match Nat.beq k DK with
  | true=>false
  | false=>GU L
theorem jm:∀{L:AB},GU L=true->dl L=[]:=by
 intro L h
 have:A5 L DK=none:=by
  induction L with
  | nil=>rfl
  | cons a L b =>
   obtain⟨k,v⟩:=a;unfold GU at h;unfold A5;cases e:Nat.beq k DK with
   | true=>rw[e]at h;cases h
   | false=>rw[e]at h;exact b h
 unfold dl;rw[this]
def Z5(P:Program)(n:Nat)(a:Array ResultVar)(R:Ending->Wo->Prop):Bk:=λe L w=>∀fn:Func,fn.results=a->MN P n fn R e L w
section
variable {P:Program} {n id i:Nat} {ops:Array Oper} {K:Bk} {l:List Oper} {L:AB} {w:Wo} {q:Prop} {x y:Code} {nx:AB->Wo->Prop} {e:Exit}
instance [r:Bn (K .normal L w) q]:Bn (WL P n ops K [] L w) q:=⟨λh=>.nil (r.h h)⟩
instance [r:Bn (nx L w) q]:Bn (Ft nx K .normal L w) q:=⟨r.h⟩
instance [r:Bn (K (.exit i) L w) q]:Bn (Ft nx K (.exit i) L w) q:=⟨r.h⟩
instance [r:Bn (K .ret L w) q]:Bn (Ft nx K .ret L w) q:=⟨r.h⟩
instance [r:Bn (K .normal L w) q]:Bn (Wa K .normal L w) q:=⟨r.h⟩
instance [r:Bn (K .ret L w) q]:Bn (Wa K .ret L w) q:=⟨r.h⟩
instance [r:Bn (K (.exit i) L w) q]:Bn (Wa K (.exit i) L w) q:=⟨r.h⟩
instance [r:Bn (K .normal L w) q]:Bn (aJ id K .normal L w) q:=⟨r.h⟩
instance [r:Bn (K .ret L w) q]:Bn (aJ id K .ret L w) q:=⟨r.h⟩
instance [r:Bn (K .normal L w) q]:Bn (aJ id K (.exit id) L w) q:=⟨λh=>by simp only[aJ,Nat.beq_refl,cond_true];exact r.h h⟩
instance (priority:=900)[a:Ff (nb i id)][r:Bn (K (.exit i) L w) q]:Bn (aJ id K (.exit i) L w) q:=⟨λh=>by have e:=a.h;rw[qy]at e;simp only[aJ,e,cond_false];exact r.h h⟩
instance [r:Bn (WC P n x (Ft (λL w=>WC P n y K L w) K) L w) q]:Bn (WC P n (.seq x y) K L w) q:=⟨λh=>.seq (r.h h)⟩
instance [r:Bn (K .normal L w) q]:Bn (WC P n .skip K L w) q:=⟨λh=>.skip (r.h h)⟩
instance [r:Bn (K .normal L w) q]:Bn (WC P n (.label i) K L w) q:=⟨λh=>.label (r.h h)⟩
instance [r:Bn (K (.exit i) L w) q]:Bn (WC P n (.exit i) K L w) q:=⟨λh=>.exit (r.h h)⟩
instance [r:Bn (K .ret L w) q]:Bn (WC P n .ret K L w) q:=⟨λh=>.ret (r.h h)⟩
instance [r:Bn (WC P n x (aJ id K) L w) q]:Bn (WC P n (.block id x) K L w) q:=⟨λh=>.block (r.h h)⟩
instance [r:Bn (WC P n x (Wa K) L w) q]:Bn (WC P n (.scope x) K L w) q:=⟨λh=>.scope (r.h h)⟩
instance [r:Bn (WL P n l.toArray K l L w) q]:Bn (WC P n (.region id l.toArray false) K L w) q:=⟨λh=>.region (r.h h)⟩
instance {R:Va->Wo->Prop}[d:Tt (GU L)]:Bn (Z5 P n #[] (AY R) .ret L w) (R (.tuple #[]) w):=⟨λh _ a=>Ac_ a ⟨_,O,h⟩ (jm d.h)⟩
instance {R:Va->Wo->Prop}[d:Tt (GU L)]:Bn (Z5 P n #[] (AY R) .normal L w) (R (.tuple #[]) w):=⟨λh _ a=>cE a ⟨_,O,h⟩ (jm d.h)⟩
instance {R:Va->Wo->Prop}{t:Nat}[e:Fl L (.tmp t) v][d:Tt (GU L)]:Bn (Z5 P n #[.tmp t] (AY R) .ret L w) (R v w):=⟨λh _ a=>GD a e.h ⟨_,O,h⟩ (jm d.h)⟩
instance {R:Va->Wo->Prop}{t:Nat}{z:Va}[e:Fl L (.tmp t) v][g:Fl L (.tmp u) z][d:Tt (GU L)]:Bn (Z5 P n #[.tmp t,.tmp u] (AY R) .ret L w) (R (.tuple #[v,z]) w):=⟨λh _ a=>qO a e.h g.h ⟨_,O,h⟩ (jm d.h)⟩
instance {R:Va->Wo->Prop}{t s:Nat}{z o:Va}[e:Fl L (.tmp t) v][g:Fl L (.tmp u) z][k:Fl L (.tmp s) o][d:Tt (GU L)]:Bn (Z5 P n #[.tmp t,.tmp u,.tmp s] (AY R) .ret L w) (R (.tuple #[v,z,o]) w):=⟨λh _ a=>k8 a e.h g.h k.h ⟨_,O,h⟩ (jm d.h)⟩
end
section
variable {P:Program} {n k d:Nat} {ops:Array Oper} {K:Bk} {rest l:List Oper} {L:AB} {w:Wo} {B:Wo} {I:Im} {N Bh:La} {S S1 S2 S3 Q:Prop} {op:Op} {v u:Va} {ty:TypeId} {pos:String} {af:Array Edge} {j:Nat} {want b:Bool} {c G:List (Bool×Bool)} {x y:Operand} {t:TypeId}
@[reducible] def Hn:Nat->List Oper->List Oper
 | 0,l=>l
 | _+1,[]=>[]
 | i+1,_::l=>Hn i l
theorem Xuy:∀(i:Nat) (l:List Oper),Hn i l=l.drop i
 | 0,_=>by simp[Hn]
 | _+1,[]=>by simp[Hn]
 | i+1,_::l=>by simp[Hn,Xuy i l]
theorem WL.dr(h:WL P n ops K (Hn i l) L w):WL P n ops K (l.drop i) L w:=Xuy i l▸h
class Ce(P:Program)(n:Nat)(ops:Array Oper)(K:Bk)(k:Nat)(l:List Oper)(L:AB)(B:Wo)(I:Im)(N:La)(S Q:outParam Prop):Prop where
 h:S->Q->∀w,Aa B w I N->WL P n ops K l L w
instance:Ce P n ops K 0 l L B I N True (∀w,Aa B w I N->WL P n ops K l L w):=⟨λ_ q=>q⟩
instance [s:∀w,Bn (K .normal L w) (WL P n Ed K' l L' w)][r:Ce P n Ed K' (k+1) l L' B I N S Q]:Ce P n ops K (k+1) [] L B I N S Q:=⟨λb q w a=>.nil ((s w).h (r.h b q w a))⟩
instance [a:V1 P L [] B I N op S1 v][lt:Lt d n][r:Ce P n ops K k rest ((d,v)::L) B I N S2 Q][j:Cj S1 S2 S]:Ce P n ops K (k+1) (⟨some d,op,ty,pos,af,none⟩::rest) L B I N S Q :=
 ⟨λs q w b=>.val (a.h (j.h s).1 (λ_ h=>by cases h) b) lt.h (r.h (j.h s).2 q w b)⟩
instance [g:rj ops j L n want c b G][a:V1 P L G B I N op S1 v][i:Gs G S1 S3][l:lM G v u][lt:Lt d n][r:Ce P n ops K k rest ((d,u)::L) B I N S2 Q][e:Cj S3 S2 S]:Ce P n ops K (k+1) (⟨some d,op,ty,pos,af,some (j,want)⟩::rest) L B I N S Q :=
 ⟨λs q w f=>by
  obtain⟨t,m,o,p,rfl⟩:=g.h;exact .F6 m o p (λok=>a.h (i.h (e.h s).1 ok) ok f) lt.h (by rw[l.h];exact r.h (e.h s).2 q w f)⟩
instance {a:Nat}[hx:Fl L x (ptr a o)][j:Fl L y v][c:One v][i:Sz P t 1][st:ry N a o v Bh][r:Ce P n ops K k rest L B I Bh S Q]:Ce P n ops K (k+1) (⟨none,.store t x y,ty,pos,af,none⟩::rest) L B I N S Q :=
 ⟨λs q w g=>by
  obtain⟨m,cs,E,d,e,f⟩:=st.h;exact .st1 g d (.of hx.h) (.of j.h) c.h i.h e λw' b=>r.h s q w' (f▸b)⟩
instance {Q:Nat->Prop}[hx:Fl L x v][c:One v][lt:Lt d n][r:∀a,Ce P n ops K k rest ((d,ptr a 0)::L) B I (Ac a [v] t::N) S (Q a)]:Ce P n ops K (k+1) (⟨some d,.box t x,ty,pos,af,none⟩::rest) L B I N S (∀a,Q a) :=
 ⟨λs q w e=>.yH e (.of hx.h) c.h lt.h λa w' b=>(r a).h s (q a) w' b⟩
instance {Q:Nat->Prop}[hx:Fl L x (.agg cs.toArray)][lt:Lt d n][r:∀a,Ce P n ops K k rest ((d,ptr a 0)::L) B I (Ac a cs t::N) S (Q a)]:Ce P n ops K (k+1) (⟨some d,.box t x,ty,pos,af,none⟩::rest) L B I N S (∀a,Q a) :=
 ⟨λs q w c=>.GJ c (.of hx.h) lt.h λa w' b=>(r a).h s (q a) w' b⟩
instance {Q:Nat->Prop}[f:Zv P t v][c:One v][lt:Lt d n][r:∀a,Ce P n ops K k rest ((d,ptr a 0)::L) B I (Ac a [v] t::N) S (Q a)]:Ce P n ops K (k+1) (⟨some d,.alloc t,ty,pos,af,none⟩::rest) L B I N S (∀a,Q a) :=
 ⟨λs q w e=>.K_ e f.h c.h lt.h λa w' b=>(r a).h s (q a) w' b⟩
instance {Q:Nat->Prop}[e:Zv P t (.agg cs.toArray)][lt:Lt d n][r:∀a,Ce P n ops K k rest ((d,ptr a 0)::L) B I (Ac a cs t::N) S (Q a)]:Ce P n ops K (k+1) (⟨some d,.alloc t,ty,pos,af,none⟩::rest) L B I N S (∀a,Q a) :=
 ⟨λs q w c=>.EE c e.h lt.h λa w' b=>(r a).h s (q a) w' b⟩
instance {a s:Nat}[hx:Fl L x (ptr a o)][p:Fl L y (.agg vs.toArray)][c:SU vs][l:Sz P t s][j:Tt (isLen vs s)][st:ru N a o vs Bh][r:Ce P n ops K k rest L B I Bh S Q]:Ce P n ops K (k+1) (⟨none,.store t x y,ty,pos,af,none⟩::rest) L B I N S Q :=
 ⟨λu q w i=>by
  obtain⟨m,cs,E,d,f,g⟩:=st.h;have e:vs.length=s:=Z1 j.h;subst e;exact .BG i d (.of hx.h) (.of p.h) c.h l.h O f λw' b=>r.h u q w' (g▸b)⟩
instance {Q:Nat->Prop}{len s:Nat}{e:TypeId}{ps:List (Nat×Operand)}{vs:List (Nat×Va)}{z:Va}[l:nV [] L ps vs][o:Un P t (.slice e)][m:Sz P e s][p:Zv P e z][g:Cells z zs][j:Tt (isLen zs s)][b:Tt (nP (len*s) 16777217)][f:ZN s (eh len zs) vs cs][lt:Lt d n]
  [r:∀a,Ce P n ops K k rest ((d,.slice (some (ad a 0)) len len)::L) B I (Ac a cs e::N) S (Q a)]:Ce P n ops K (k+1) (⟨some d,.buildSlice t len ps.toArray,ty,pos,af,none⟩::rest) L B I N S (∀a,Q a) :=
 ⟨λu q w i=>.buildSlice i (l.h (λ_ h=>by cases h) n) o.h m.h p.h (by
  have:=b.h
  unfold nP at this;cases e:Nat.ble (len*s+1) 16777217 with
  | false=>rw[e]at this;cases this
  | true=>exact ud (oh (Yx e))) (by
  have:=Z1 j.h;rw[<-g.h]at this
  simpa using this) (by have:=f.h;rw[Ol,<-g.h]at this;exact this) lt.h λa w' c=>(r a).h u (q a) w' c⟩
instance {Q:Oa->Nat->Prop}{a c E D:Nat}{f:Va->Nat->Lv->La}{z:Va}[hx:Fl L x v][Y:Fl L y (.slice (some (ad a 0)) m c)][rm:rr N a news D Bh][vc:rz Bh v E size nn xs f][X:Un P t (.slice E)][hi:Mp P E z size bytes][W:SU news][V:Tt (isLen news (m*size))][G:Tt (nP 0 m)][lt:Lt d n]
  [r:∀g b,Ce P n ops K k rest ((d,.slice g (nn+m) b)::L) B I (f (.slice g (nn+m) b) (nn+m) (xs++news)) S (Q g b)] [F:Cj ((nn+m)*bytes<=140737488355328/\nn+m<=maxLen) S S1]:Ce P n ops K (k+1) (⟨some d,.call ⟨.builtin .append,#[x,y],#[t,t]⟩,ty,pos,af,none⟩::rest) L B I N S1 (∀g b,nn+m<=b->Q g b) :=
 ⟨λs' q w T=>by
  obtain⟨k1,H,J⟩:=rm.h;obtain⟨k2,C,M⟩:=vc.h;obtain⟨⟨o,p⟩,s2⟩:=F.h s';obtain⟨i,hi,Z,u,s,A⟩:=hi.h;have R:news.length=m*size:=Z1 V.h;have l:=T.pick k1 H;rw[<-J]at l;refine .append l (.of hx.h) (.of Y.h) C X.h hi Z u s A R ?_ W.h ⟨o,p⟩ lt.h λv' w' j=>?_
  ·have:=G.h
   unfold nP at this;unfold Nat.blt;cases e:Nat.ble (0+1) m with
   | true=>rfl
   | false=>rw[e]at this;cases this
  ·obtain⟨g,b,rfl,U,_⟩:=j.AG (k:=k2) (pD (Y1.1 C).1);refine(r g b).h s2 (q g b U) w' ?_;rw[M];exact j⟩
class Ch(P:Program)(n:Nat)(ops:Array Oper)(K:Bk)(k:Nat)(l:List Oper)(L:AB)(w:Wo)(S Q:outParam Prop):Prop where
 h:S->Q->WL P n ops K l L w
instance:Ch P n ops K 0 l L w True (WL P n ops K l L w):=⟨λ_ q=>q⟩
instance [s:Bn (K .normal L w) (WL P n Ed K' l L' w)][r:Ch P n Ed K' (k+1) l L' w S Q]:Ch P n ops K (k+1) [] L w S Q:=⟨λa q=>.nil (s.h (r.h a q))⟩
instance [a:V0 P L [] op S1 v][lt:Lt d n][r:Ch P n ops K k rest ((d,v)::L) w S2 Q][j:Cj S1 S2 S]:Ch P n ops K (k+1) (⟨some d,op,ty,pos,af,none⟩::rest) L w S Q :=
 ⟨λs q=>.val (a.h (j.h s).1 (λ_ h=>by cases h)) lt.h (r.h (j.h s).2 q)⟩
instance [b:Aa B w I N][a:V1 P L [] B I N (.load t x) S1 v][lt:Lt d n][r:Ch P n ops K k rest ((d,v)::L) w S2 Q][j:Cj S1 S2 S]:Ch P n ops K (k+1) (⟨some d,.load t x,ty,pos,af,none⟩::rest) L w S Q :=
 ⟨λs q=>.val (a.h (j.h s).1 (λ_ h=>by cases h) b) lt.h (r.h (j.h s).2 q)⟩
instance [g:rj ops j L n want c b G][a:V0 P L G op S1 v][f:Gs G S1 S3][i:lM G v u][lt:Lt d n][r:Ch P n ops K k rest ((d,u)::L) w S2 Q][e:Cj S3 S2 S]:Ch P n ops K (k+1) (⟨some d,op,ty,pos,af,some (j,want)⟩::rest) L w S Q :=
 ⟨λs q=>by
  obtain⟨t,l,m,o,rfl⟩:=g.h;exact .F6 l m o (λok=>a.h (f.h (e.h s).1 ok) ok) lt.h (by rw[i.h];exact r.h (e.h s).2 q)⟩
instance [p:Aa B w I N][g:rj ops j L n want c b G][a:V1 P L G B I N (.load t x) S1 v][f:Gs G S1 S3][i:lM G v u][lt:Lt d n][r:Ch P n ops K k rest ((d,u)::L) w S2 Q][e:Cj S3 S2 S]:Ch P n ops K (k+1) (⟨some d,.load t x,ty,pos,af,some (j,want)⟩::rest) L w S Q :=
 ⟨λs q=>by
  obtain⟨t,l,m,o,rfl⟩:=g.h;exact .F6 l m o (λok=>a.h (f.h (e.h s).1 ok) ok p) lt.h (by rw[i.h];exact r.h (e.h s).2 q)⟩
instance [a:Aa B w I N][r:Ce P n ops K (k+1) (⟨none,.store t x y,ty,pos,af,none⟩::rest) L B I N S Q]:Ch P n ops K (k+1) (⟨none,.store t x y,ty,pos,af,none⟩::rest) L w S Q:=⟨λs q=>r.h s q w a⟩
instance [a:Aa B w I N][r:Ce P n ops K (k+1) (⟨some d,.box t x,ty,pos,af,none⟩::rest) L B I N S Q]:Ch P n ops K (k+1) (⟨some d,.box t x,ty,pos,af,none⟩::rest) L w S Q:=⟨λs q=>r.h s q w a⟩
instance {ps:Array (Nat×Operand)}[a:Aa B w I N][r:Ce P n ops K (k+1) (⟨some d,.buildSlice t m ps,ty,pos,af,none⟩::rest) L B I N S Q]:Ch P n ops K (k+1) (⟨some d,.buildSlice t m ps,ty,pos,af,none⟩::rest) L w S Q:=⟨λs q=>r.h s q w a⟩
instance {xs:Array Operand}[a:Aa B w I N][r:Ce P n ops K (k+1) (⟨some d,.call ⟨.builtin .append,xs,ts⟩,ty,pos,af,none⟩::rest) L B I N S Q]:Ch P n ops K (k+1) (⟨some d,.call ⟨.builtin .append,xs,ts⟩,ty,pos,af,none⟩::rest) L w S Q:=⟨λs q=>r.h s q w a⟩
instance [a:Aa B w I N][r:Ce P n ops K (k+1) (⟨some d,.alloc t,ty,pos,af,none⟩::rest) L B I N S Q]:Ch P n ops K (k+1) (⟨some d,.alloc t,ty,pos,af,none⟩::rest) L w S Q:=⟨λs q=>r.h s q w a⟩
section
variable {B:Wo} {I:Im} {N:La} {R:Va->Wo->Prop} {t u s b k:Nat} {ty E:TypeId} {cs:Lv} {v z:Va}
instance [c:Aa B w I N][e:Fl L (.tmp t) (ptr b 0)][f:KC N b k cs E][j:Ag P ty true][i:Sz P ty s][g:Tt (isLen cs s)][d:Tt (GU L)]:Bn (Z5 P n #[.cell t ty] (AY R) .ret L w) (R (.agg cs.toArray) w) :=
 ⟨λh _ a=>qN a c f.h j.h i.h (Z1 g.h) e.h ⟨_,O,h⟩ (jm d.h)⟩
instance [c:Aa B w I N][e:Fl L (.tmp t) (ptr b 0)][x:Fl L (.tmp u) v][f:KC N b k cs E][j:Ag P ty true][i:Sz P ty s][g:Tt (isLen cs s)][d:Tt (GU L)]:Bn (Z5 P n #[.cell t ty,.tmp u] (AY R) .ret L w) (R (.tuple #[.agg cs.toArray,v]) w) :=
 ⟨λh _ a=>gW a c f.h j.h i.h (Z1 g.h) e.h x.h ⟨_,O,h⟩ (jm d.h)⟩
end
end
section
variable {P:Program} {n id i:Nat} {ops:Array Oper} {K:Bk} {l:List Oper} {L:AB} {w:Wo} {q:Prop} {x y:Code} {nx:AB->Wo->Prop} {e:Exit}
class Cn(g:Prop)(p q g1 g2:outParam Prop):Prop where h:(p->g1)->(q->g2)->g
instance {c:Operand}{b:Bool}{p r:Prop}[a:Fl L c (.bool b)][d:Bp b p r]:Cn (WC P n (.cond c x y) K L w) p r (WC P n x K L w) (WC P n y K L w):=⟨λg i=>.cond a.h (λe=>g (d.t e)) (λe=>i (d.f e))⟩
class Cm(g:Prop)(p q g1 g2:outParam Prop)(b:outParam Bool):Prop where h:(b=true->p->g1)->(b=false->q->g2)->g
instance {c:Operand}{b:Bool}{p r:Prop}[a:Fl L c (.bool b)][d:Bp b p r]:Cm (WC P n (.cond c x y) K L w) p r (WC P n x K L w) (WC P n y K L w) b:=⟨λg i=>.cond a.h (λe=>g e (d.t e)) (λe=>i e (d.f e))⟩
class Cl(g:Prop)(s:outParam Prop)(f:outParam ((Va->Wo->Prop)->Prop))(k:outParam (Va->Wo->Prop)):Prop where h:s->∀R,f R->(∀v w',R v w'->k v w')->g
instance {d f:Nat}{xs:List Operand}[g:Fn P f][hx:OS [] L xs vs][lt:Lt d n]:
  Cl (WL P n ops K (⟨some d,.call ⟨.value (.func f),xs.toArray,ts⟩,ty,pos,af,none⟩::l) L w) True (λR=>Calls P f vs.toArray w (AY R)) (λv w'=>WL P n ops K l ((d,v)::L) w') :=
 ⟨λ_ R a b=>by
  obtain⟨fn,c,e⟩:=g.h;exact .call c e (hx.h (λ_ h=>by cases h) n) lt.h a b⟩
class YU(args:Lv)(L:outParam AB):Prop where h:PE 0 args=L
instance:YU [] []:=⟨O⟩
instance {a:Va}:YU [a] [(0,a)]:=⟨O⟩
instance {a b:Va}:YU [a,b] [(0,a),(1,b)]:=⟨O⟩
instance {a b c:Va}:YU [a,b,c] [(0,a),(1,b),(2,c)]:=⟨O⟩
instance {a b c d:Va}:YU [a,b,c,d] [(0,a),(1,b),(2,c),(3,d)]:=⟨O⟩
instance {a b c d e:Va}:YU [a,b,c,d,e] [(0,a),(1,b),(2,c),(3,d),(4,e)]:=⟨O⟩
instance {a b c d e f:Va}:YU [a,b,c,d,e,f] [(0,a),(1,b),(2,c),(3,d),(4,e),(5,f)]:=⟨O⟩
instance {a b c d e f g:Va}:YU [a,b,c,d,e,f,g] [(0,a),(1,b),(2,c),(3,d),(4,e),(5,f),(6,g)]:=⟨O⟩
instance {a b c d e f g h:Va}:YU [a,b,c,d,e,f,g,h] [(0,a),(1,b),(2,c),(3,d),(4,e),(5,f),(6,g),(7,h)]:=⟨O⟩
class Fb(P:Program)(f:FuncId)(c:outParam Code)(n:outParam Nat)(rs:outParam (Array ResultVar)):Prop where h:∃fn,P.funcs[f]?=some fn/\fn.body=some c/\fn.ntmps=n/\fn.results=rs/\Xf fn=true
theorem fb{P:Program}{c:Code}{n:Nat}{rs:Array ResultVar}(a:P.funcs[f]?=some fn)(d:fn.ntmps=n)(e:fn.results=rs)(b:fn.body=some c:=by rfl)(g:Xf fn=true:=by rfl):Fb P f c n rs:=⟨fn,a,b,d,e,g⟩
instance {c:Code}{e:Array ResultVar}[a:Fb P f c n e]:Fn P f:=⟨let⟨fn,b,_,_,_,d⟩:=a.h;⟨fn,b,d⟩⟩
class Ws(k:Nat)(g:Prop)(S q:outParam Prop):Prop where h:S->q->g
instance {S Q:Prop}[a:Ch P n ops K k l L w S Q]:Ws k (WL P n ops K l L w) S Q:=⟨a.h⟩
instance (priority:=low){g:Prop}{S Q:Prop}[r:Bn g (WL P n ops K l L w)][a:Ch P n ops K (k+1) l L w S Q]:Ws (k+1) g S Q:=⟨λs h=>r.h (a.h s h)⟩
instance (priority:=low){g:Prop}[r:Bn g q]:Ws 0 g True q:=⟨λ_=>r.h⟩
instance {f:Nat}{c:Code}{i:Array ResultVar}{S Q:Prop}[b:Fb P f c n i][e:YU args L][g:Tt (JM args n)][d:Tt (leR n DK)][a:Ws k (WC P n c (Z5 P n i R) L w) S Q]:Ws k (Calls P f args.toArray w R) S Q :=
 ⟨λs q=>by
  obtain⟨fn,j,l,m,o,_⟩:=b.h;refine calls j l m ?_ ((e.h▸a.h s q:WC P n c (Z5 P n i R) (PE 0 args) w).mono λ_ _ _ h=>h fn o);have p:=d.h;unfold leR at p;have t:=ud (Xvq g.h);cases r:Nat.ble n DK<;>simp_all⟩
theorem gG{g S Q R:Prop}(k:Nat)[a:Ws k g S Q][b:Bn Q R](q:R)(s:Sd S:=by exact sd):g:=a.h s.h (b.h q)
theorem gH{g S Q:Prop}(k:Nat)[a:Ws k g S Q](q:Q)(s:Sd S:=by exact sd):g:=a.h s.h q
theorem gC{g S Q R:Prop}{f:(Va->Wo->Prop)->Prop}{m:Va->Wo->Prop}(k:Nat)[a:Ws k g S Q][b:Bn Q R][c:Cl R S1 f m][j:Cj S S1 S2]{X:Va->Wo->Prop}(d:f X)(q:∀v w,X v w->m v w)(s:Sd S2:=by exact sd):g:=a.h (j.h s.h).1 (b.h (c.h (j.h s.h).2 X d q))
theorem gM{g S Q R p r:Prop}{e:Bool}(k:Nat)[a:Ws k g S Q][b:Bn Q R][c:Cm R p r g1 g2 e](d:e=true->p->g1)(f:e=false->r->g2)(s:Sd S:=by exact sd):g:=a.h s.h (b.h (c.h d f))
theorem gT{g S Q R p r:Prop}{e:Bool}(k:Nat)[a:Ws k g S Q][b:Bn Q R][c:Cm R p r g1 g2 e](d:e=true->p->g1)(f:r->False:=by intro i;omega)(s:Sd S:=by exact sd):g:=a.h s.h (b.h (c.h d λ_ h=>(f h).elim))
theorem gU{g S Q R p r:Prop}{e:Bool}(k:Nat)[a:Ws k g S Q][b:Bn Q R][c:Cm R p r g1 g2 e](d:e=false->r->g2)(f:p->False:=by intro i;omega)(s:Sd S:=by exact sd):g:=a.h s.h (b.h (c.h (λ_ h=>(f h).elim) d))
theorem gN{g S Q R p r:Prop}(k:Nat)[a:Ws k g S Q][b:Bn Q R][c:Cn R p r g1 g2](d:p->g1)(e:r->g2)(s:Sd S:=by exact sd):g:=a.h s.h (b.h (c.h d e))
end
section
variable {P:Program} {n:Nat} {K:Bk} {L:AB} {w:Wo} {ops:Array Oper} {rest:List Oper}
theorem WL.later{x:Operand}{f:Go.Fn}{cap:Lv}(hx:Ev n L x (.func f #[] cap.toArray))(e:dl L=[])(h:WL P n ops K rest ((DK,.func f #[] cap.toArray)::L) w):WL P n ops K (⟨none,.defer ⟨.value x,#[],#[]⟩,ty,pos,af,none⟩::rest) L w:=by
 intro a b;refine wpList_plain O λK' g=>?_
 unfold Oper.wp;have i:(execOp a.eval (⟨none,.defer ⟨.value x,#[],#[]⟩,ty,pos,af,none⟩:Oper)).run P w=.ok (.defer { target:=.fn f cap.toArray,args:=#[] }) w:=by
  simp[execOp,resolve,hx a b,Deferred.ofValue]
 rw[i];refine g _ _ (h _ ⟨b.size,b.small,?_,λt v j=>?_⟩)
 ·have:=b.defers
  rw[e]at this;simp[Act.put,this,dl,A5]
 ·obtain⟨c,d⟩:=ml j;rw[A5,Js (Ne.symm c)]at d;exact b.get t v (xV c d)
theorem jY{c:Code}{u:FrameMode}(j:P.funcs[f]?=some fn)(i:fn.body=some c)(k:fn.ntmps=n)(d:(Nat.ble args.length n&&Nat.ble n DK)=true)
  (h:WC P n c (MN P n fn R) (PE 0 args) w):CallsD P f args.toArray u w λe l w'=>l=u/\R e w':=by
 refine callsD_of_wp j i (wp_mono (h _ (rE k d)) ?_);rintro e g w' ⟨L',b,a⟩;cases e with
 | normal=>exact⟨b.defers.trans a.1,a.2 g b⟩
 | ret=>exact⟨b.defers.trans a.1,a.2 g b⟩
 | _=>exact a.elim
def sX(P:Program)(n:Nat)(fn:Func)(R:Ending->World->Prop):Bk
 | .normal,L,w|.ret,L,w=>∀a,Ap n L a->Leaves P fn a.tmps R a.defers .returning w
 | _,_,_=>False
theorem jZ{c:Code}(j:P.funcs[f]?=some fn)(i:fn.body=some c)(k:fn.ntmps=n)(b:(Nat.ble args.length n&&Nat.ble n DK)=true)
  (h:WC P n c (sX P n fn R) (PE 0 args) w):Calls P f args.toArray w R:=by
 refine calls_of_wp_defers j i (wp_mono (h _ (rE k b)) ?_);rintro e d w' ⟨L',g,a⟩;cases e with
 | normal=>exact a d g
 | ret=>exact a d g
 | _=>exact a.elim
theorem Ada(h:MN P n fn R .ret L w):sX P n fn R .ret L w:=λa b=>by
 rw[b.defers,h.1];exact h.2 a b
theorem qQ{c:Func}{g:FuncId}{cap:Lv}{Q:Wo->Prop}(r:P.funcs[g]?=some c)(j:Xf c=true)(q:dl L=[{ target:=.fn (.func g) cap.toArray,args:=#[] }])
  (b:∀u,CallsD P g cap.toArray u w λe m w'=>m=u/\∃v,e=.returned v/\Q w') (h:∀w',Q w'->∀a,Ap n L a->∃v,(results fn a.tmps).run P w'=.ok v w'/\R (.returned v) w'):sX P n fn R .ret L w:=λa l=>by
 rw[l.defers,q];unfold Xf at j;simp only[Y8]at j
 obtain⟨o,k⟩:=j;have d : ¬ c.name = "runtime.NumGoroutine" := by simpa using o
 have i:¬ c.body=none:=by intro e;rw[e]at k;cases k
 refine leaves_cons sz (f:=g) (args:=cap.toArray) (by simp[invoke,callFunc,program,Sem.run,r,d,i]) ((b .returning).mono ?_);rintro e m w' ⟨rfl,v,rfl,p⟩;exact h w' p a l
theorem o2{t s j:Nat}{e q:TypeId}{x:Va}(h:fn.results=#[.cell t ty,.cell u e])(o:Aa B w I N)(z:N[k]?=some (Ac b cs E))(f:N[j]?=some (Ac c [x] q))(D:∀w,(isAgg ty).run P w=.ok true w)(C:∀w,(Go.sizeOf ty).run P w=.ok s w)(i:∀w,(isAgg e).run P w=.ok false w)
  (A:cs.length=s) (F:look L t=some (ptr b 0)) (hx:look L u=some (ptr c 0)):∀a,Ap n L a->(results fn a.tmps).run P w=.ok (.tuple #[.agg cs.toArray,x]) w:=λa p=>by
 have r:=o.block z;have y:=o.block f;have d:=run_loadCells_list (P:=P) w (ad b 0) cs (λj v f=>by rw[CY];exact Xz r (su f));have g:w.cell? (ad c 0)=some x:=Xz y sz;rw[A]at d;have l:=p.get t _ F;have m:=p.get u _ hx;simp only[GF]at l m
 simp[results,h,l,m,loadVar,D,C,i,asAddr,d,load,Sem.run,g]
theorem WS(d:dl L=[])(h:∀a,Ap n L a->(results fn a.tmps).run P w=.ok v w)(b:R (.returned v) w):sX P n fn R .ret L w :=
 Ada ⟨d,λa c=>⟨v,h a c,b⟩⟩
end
section
variable {P:Program} {n:Nat} {K:Bk} {L:AB} {w:Wo} {ops:Array Oper} {rest:List Oper}
theorem WL.C3{j t:Nat}(l:(ops[j]?).bind (·.dst)=some t)(p:Nat.blt t n=true)(k:look L t=some (.bool want))
  (h:WL P n ops K (⟨d,op,ty,pos,af,none⟩::rest) L w):WL P n ops K (⟨d,op,ty,pos,af,some (j,want)⟩::rest) L w:=by
 intro a e;have c:=h a e;have b:t<a.tmps.size:=by have:=Yx p;rw[e.size];omega
 have g:=e.get t _ k;have q:yielded ops a.tmps j=some want:=by
  obtain⟨o,m,f⟩:=fW.1 l;rw[GF,Iv b]at g;simp only[gj]at g
  have i:a.tmps[t]?=some (.bool want):=by rw[Iv b,g]
  simp only[yielded,m,f,gi,i]
 unfold wpList at c ⊢;rw[Y9 (by simp[Region.wanted])]at c;rw[Y9 (by simp[Region.wanted,q])];exact c
end
open Go.Lib
section
variable {P:Program} {n:Nat} {K:Bk} {L:AB} {w:Wo} {ops:Array Oper} {rest:List Oper}
end
theorem Ex.F9{g:Option (Nat×Bool)}{t e:TypeId}{x y:Operand}(hx:Ev n L x (.slice a m c))(f:Ev n L y (.slice none 0 0))(b:P.underlying t=some (.slice e)):Ex P n L w ⟨d,.binOp .eql t x y t',ty,pos,af,g⟩ (.bool a.isNone) w :=
 CV hx f (λ_ _=>by unfold eqGuard;split<;>simp) (run_eql_slice_nil w t e a m c b)
theorem WL.clear{s:Nat}{e t:TypeId}{x:Operand}{z:Va}(p:Aa B w I N)(r:N[k]?=some (Ac b cs E))(hx:Ev n L x (.slice (some (ad b o)) m cap))(A:P.underlying t=some (.slice e))(Q:∀w,(zeroValue e).run P w=.ok z w)(M:z.cells.size=s)(D:∀v∈z.cells,v.oneCell'=true)(H:o+m*s<=cs.length)
  (h:∀w' d,d.length=cs.length->d.take o=cs.take o->Aa B w' I (N.set k (Ac b d E))->WL P n ops K rest L w'):WL P n ops K (⟨none,.call ⟨.builtin .clear,#[x],#[t]⟩,ty,pos,af,none⟩::rest) L w:=by
 subst M;have u:∀w' v,(∀a,Ap n L a->(execOp a.eval (⟨none,.call ⟨.builtin .clear,#[x],#[t]⟩,ty,pos,af,none⟩:Oper)).run P w=.ok (.value v) w')->WL P n ops K rest L w'->WL P n ops K (⟨none,.call ⟨.builtin .clear,#[x],#[t]⟩,ty,pos,af,none⟩::rest) L w:=by
  intro w' v hx h a g;refine wpList_plain O λK' F=>?_
  unfold Oper.wp;rw[hx a g];exact F _ _ (h _ (g.skip v))
 have y:=p.block r;have l:(Builtin.zeroCells z.cells m).toList.length=m*z.cells.size:=by rw[Sj,size_zeroCells]
 have j:=run_storeCells_at P b o E (Builtin.zeroCells z.cells m).toList 0 cs.toArray w y (by simp only[ER,l,nH];exact H) (λv C=>by
  rw[Array.mem_toList_iff]at C;obtain⟨i,hi,rfl⟩:=Array.mem_map.1 C;have q:i<m*z.cells.size:=su hi
  have J:0<z.cells.size:=ym λe=>by rw[e]at q;omega
  have f:=T_ i J;rw[getElem!_pos z.cells (i%z.cells.size) f];exact D _ (Array.getElem_mem f))
 simp only[ER]at j
 cases m with
 | zero =>
  refine u w (.tuple #[]) (λa g=>?_) (h w cs O O ?_)
  ·simp[execOp,resolve,invoke,builtin,hx a g,Builtin.clear_,run_underlying A]
  ·have e:N.set k (Ac b cs E)=N:=by
    apply PS
    intro i;rw[nG];split
    ·rename_i e;subst e
     split
     ·exact r.symm
     ·rename_i f;rw[Zy om]
    ·rfl
   rw[e];exact p
 | succ m =>
  refine u (w.setRow b _) (.tuple #[]) (λa g=>?_) (h _ _ ?_ ?_ (p.write (o':=Xh (cs.take o++(Builtin.zeroCells z.cells (m+1)).toList++cs.drop (o+(Builtin.zeroCells z.cells (m+1)).toList.length)) E) r O O O (setRow_heap w b _ _ E _ y) λc G=>setRow_other w b c _ G))
  ·simp[execOp,resolve,invoke,builtin,hx a g,Builtin.clear_,run_underlying A,Q,j]
  ·simp only[Y0,Yl,Y6,l];omega
  ·rw[Yg,nt (by rw[Yl];omega),yz,Nat.min_self]
theorem Ex.Adg{g:Option (Nat×Bool)}{t e:TypeId}{x y z u:Operand}{len s:Nat}{lo b:Int}(hx:Ev n L x (.slice a0 len cap))(q:Ev n L y (Ab lo))(r:Ev n L z (Ab hi))(p:Ev n L u (Ab b))(j:0<=lo)(k:lo<=hi)(l:hi<=b)(m:b<=cap)(f:P.underlying t=some (.slice e))(o:∀w,(Go.sizeOf e).run P w=.ok s w):Ex P n L w ⟨d,.slice t x (some y) (some z) (some u),ty,pos,af,g⟩ (sliced a0 lo.toNat hi.toNat b.toNat s) w:=λa c=>by
 have i:P.underlying t=some (.slice (P.elem t)):=by rw[KQ f];exact f
 have h:=run_slice_lhm (P:=P) w t a0 len cap i .i64 .i64 .i64 lo hi b j k l m;rw[KQ f,o]at h;simp[execOp,hx a c,q a c,r a c,p a c,run_sliceAt_slice w t _ _ _ _ i,h,Result.andThen]
theorem WL.Ld{d len:Nat}{t:TypeId}{x y:Operand}{i:TypeInfo}(A:Aa B w I N)(F:N[k]?=some (Ac b cs E))(hx:Ev n L x (.slice (some (ad b 0)) len cap))(S:Ev n L y (.slice (some p) m c))(Q:0<m->p=ad b o)(R:P.underlying t=some (.slice E))(hi:P.info? E=some i)(g:i.size=size)
  (T:o+m*size<=cs.length) (G:∀v∈(cs.drop o).take (m*size),v.oneCell'=true) (f:len+m<=cap) (l:len*size+m*size<=cs.length) (J:Nat.blt d n=true)
  (h:∀w',Aa B w' I (N.set k (Ac b (cs.take (len*size)++(cs.drop o).take (m*size)++cs.drop (len*size+m*size)) E))->WL P n ops K rest ((d,.slice (some (ad b 0)) (len+m) cap)::L) w') :WL P n ops K (⟨some d,.call ⟨.builtin .append,#[x,y],#[t,t]⟩,ty,pos,af,none⟩::rest) L w:=by
 subst g;have q:=A.block F;have r:((cs.drop o).take (m*i.size)).length=m*i.size:=by rw[Yl,Y6];omega
 have s:=run_append_room (P:=P) w t ty E i R hi b len cap cs.toArray q p m c ((cs.drop o).take (m*i.size)) r (λj u z=>by
  have D:j<m*i.size:=by have:=(Y1.1 z).1;omega
  have M:0<m:=ym λe=>by rw[e]at D;omega
  rw[Q M,CY];refine Xz q ?_;rw[PO,Y9 D,Hk]at z;exact z) G f (by rw[r];simpa using l)
 rw[r]at s;simp only[]at s
 refine .val (w':=w.setRow b _) (λa C=>?_) J (h _ (A.write (o':=Xh (cs.take (len*i.size)++(cs.drop o).take (m*i.size)++cs.drop (len*i.size+m*i.size)) E) F O O O (setRow_heap w b _ _ E _ q) λc H=>setRow_other w b c _ H));simp[execOp,resolve,invoke,builtin,hx a C,S a C,s]
section
variable {P:Program} {n:Nat} {K:Bk} {L:AB} {w B:Wo} {I:Im} {N:La} {ops:Array Oper} {rest:List Oper} {ty t t' E:TypeId} {x y:Operand} {pos:String} {af:Array Edge} {g:Option (Nat×Bool)}
theorem L3{b:Frame}{a:Act}{k:List Item}{cs:List Frame}{m:Operand}{ps:Array Tmp}{assign e:Code}{l:Nat}{c:List Deferred}{n j o:Wo}{d:Deferred}{args:Array Va}
  (p:(Instr.enterLoop b.fn a.tmps ps assign e none).run P w=.ok (l,c) n)
  (i:(resolve ({ tmps:=a.tmps,defers:=c++a.defers }:Act).eval { callee:=.value m,args:=#[.const (.func (.yield l) #[] #[])],argTypes:=#[] } 0).run P n=.ok d j) (h:(invoke d.target d.args).run P j=.ok (.enter f args) o) :step P (lone (b.at a (.code (.rangeFunc m ps assign e)::k)) cs w)=.next (lone (Frame.enter P f args .normal) (b.at { a with defers:=c++a.defers } (.inRangeFunc l::k)::cs) o) :=
 step_lone_go (by
  have g:=funext (Frame.eval_at b { a with defers:=c++a.defers } (.inRangeFunc l::k));simp only[Frame.at]at g
  simp[stepG,stepG.exec,Frame.at,Sem.runT_eq,p,GStep.bare_after,stepG.apply,g,Sem.run_bind,i,h,Result.andThen])
theorem Xlx{b:Frame}{a:Act}{k:List Item}{cs:List Frame}{l:Nat}{c:Option Code}{w':Wo}(h:(Instr.endLoop l).run P w=.ok c w'):step P (lone (b.at a (.endRangeFunc l::k)) cs w)=.next (lone (b.at a ((c.map Item.code).toList++k)) cs w') :=
 step_lone_go (by simp[stepG,stepG.exec,Frame.at,Sem.runT_eq,h,GStep.bare_after])
theorem N6{l:Nat}{o o':Obj}(h:w.heap[l]?=some o):(w.heap.setIfInBounds l o')[l]?=some o':=by
 have a:l<w.heap.size:=(Jo.1 h).1;simp[pz,a]
theorem WC.Rp{q:Operand}{ps:Array Tmp}{assign body:Code}{cap:Lv}(hS:Aa B w I N)(hg:Ev n L q (.func (.func f) #[] cap.toArray))(hf:P.funcs[f]?=some fn)(z:Xf fn=true)(h0:dl L=[])
  (m:∀l D r w',Aa B w' I (own l (.loop r)::own D (.deferred (some []))::N)->Calls P f (.func (.yield l) #[] #[]::cap).toArray w' (AY λv V=>Aa B V I (own l (.loop r)::own D (.deferred (some []))::N)))
  (h:∀D w',Aa B w' I (own D (.deferred (some []))::N)->K .normal ((DK,.map (some D))::L) w'):WC P n (.rangeFunc q ps assign body) K L w:=by
 intro a y b k cs;unfold Xf at z;simp only[Y8]at z
 obtain⟨Z,W⟩:=z;have H : ¬ fn.name = "runtime.NumGoroutine" := by simpa using Z
 have J:¬ fn.body=none:=by intro e;rw[e]at W;cases W
 obtain⟨r0,p⟩:∃r:Loop,r={ state:=.ready,pending:=none,fn:=b.fn,tmps:=a.tmps,params:=ps,assign:=assign,body:=body,defers:=w.heap.size }:=⟨_,O⟩
 have E:r0.state=.ready:=by rw[p]
 have R:r0.pending=none:=by rw[p]
 have he:(Instr.enterLoop b.fn a.tmps ps assign body none).run P w=.ok (w.heap.size+1,[{ target:=.collected w.heap.size,args:=#[] }]) ((w.alloc (.deferred (some []))).alloc (.loop r0)):=by
  rw[p];unfold Instr.enterLoop;simp only[Sem.run_bind,run_newObj_alloc,Result.andThen,Sem.run_pure,World.size_alloc]
 have s:=(hS.alloc (.deferred (some []))).alloc (.loop r0);rw[World.size_alloc]at s;have F:∀(G:List Deferred) u,(resolve ({ tmps:=a.tmps,defers:=G }:Act).eval { callee:=.value q,args:=#[.const (.func (.yield (w.heap.size+1)) #[] #[])],argTypes:=#[] } 0).run P u =
   .ok { target:=.fn (.func f) cap.toArray,args:=#[.func (.yield (w.heap.size+1)) #[] #[]] } u:=λG u=>by
  have S:=hg a y;have T:({ tmps:=a.tmps,defers:=G }:Act).eval q=.func (.func f) #[] cap.toArray:=by
   rw[<-S];cases q<;>rfl
  have U:∀v,({ tmps:=a.tmps,defers:=G }:Act).eval (.const v)=v:=λv=>rfl
  simp[resolve,T,U,Deferred.ofValue]
 have C:∀u,(invoke (.fn (.func f) cap.toArray) #[.func (.yield (w.heap.size+1)) #[] #[]]).run P u=.ok (.enter f (.func (.yield (w.heap.size+1)) #[] #[]::cap).toArray) u:=λu=>by
  simp[invoke,callFunc,program,Sem.run,hf,H,J]
 have h1:=L3 (P:=P) (cs:=cs) (k:=k) (a:=a) he (F _ _) (C _);obtain⟨e,w3,fr,hR,g,ak,i⟩:=m _ _ _ _ s (b.at { a with defers:=[{ target:=.collected w.heap.size,args:=#[] }]++a.defers } (.inRangeFunc (w.heap.size+1)::k)::cs);obtain⟨v,rfl,x⟩:=hR;have Q:=x.block (k:=0) O;have A:(Instr.endLoop (w.heap.size+1)).run P w3=.ok none { w3 with heap:=w3.heap.setIfInBounds (w.heap.size+1) (.loop { r0 with state:=.exhausted }) }:=by
  have e1:(getObj (w.heap.size+1)).run P w3=.ok (.loop r0) w3:=by simp[getObj,Sem.run,Q]
  have e2:∀o,(setObj (w.heap.size+1) o).run P w3=.ok () { w3 with heap:=w3.heap.setIfInBounds (w.heap.size+1) o }:=λo=>by simp[setObj,Sem.run,Q]
  have e3:(r0.state==LoopState.busy)=false:=by rw[E];rfl
  simp[Instr.endLoop,Instr.getLoop,Sem.run_bind,e1,e2,e3,R,Result.andThen]
  intro d;rw[E]at d;cases d
 have M:=(x.write (k:=0) O (o':=.loop { r0 with state:=.exhausted })
  (w':={ w3 with heap:=w3.heap.setIfInBounds (w.heap.size+1) (.loop { r0 with state:=.exhausted }) }) O O O (N6 Q)
  (λc z=>by simp[x_ (Ne.symm z)])).drop (k:=0) O
 refine⟨.normal,{ a with defers:=[{ target:=.collected w.heap.size,args:=#[] }]++a.defers },_,⟨_,⟨y.size,y.small,?_,λt v S=>?_⟩,h _ _ M⟩,?_⟩
 ·have:=y.defers
  rw[h0]at this;simp[this,dl,A5]
 ·obtain⟨q1,Y⟩:=ml S;rw[A5,Js (Ne.symm q1)]at Y;exact y.get t v (xV q1 Y)
 ·have j:(b.at { a with defers:=[{ target:=.collected w.heap.size,args:=#[] }]++a.defers } (.inRangeFunc (w.heap.size+1)::k)).finish v=b.at { a with defers:=[{ target:=.collected w.heap.size,args:=#[] }]++a.defers } (.endRangeFunc (w.heap.size+1)::k):=by
   simp[Frame.finish,Frame.at]
  have X:=step_leave_returned (cs:=cs) (c:=b.at { a with defers:=[{ target:=.collected w.heap.size,args:=#[] }]++a.defers } (.inRangeFunc (w.heap.size+1)::k)) i;rw[j]at X;have h3:=Xlx (P:=P) (b:=b) (a:={ a with defers:=[{ target:=.collected w.heap.size,args:=#[] }]++a.defers }) (k:=k) (cs:=cs) A;exact Steps.trans (.one h1) (Steps.trans g (Steps.trans (.one X) (.one h3)))
theorem Xqd{fr:Frame}{cs:List Frame}{w':Wo}{d:Deferred}{r:Nat}{ds calls:List Deferred}
  (f:fr.mode=.returning) (c:fr.defers=d::ds) (b:d.target=.collected r) (e:(Instr.takeDeferred r).run P w=.ok calls w') :step P (lone fr cs w)=.next (lone { fr with defers:=calls++ds } cs w'):=by
 obtain⟨t,a⟩:=d;simp only at b
 subst b;exact step_lone_go (by simp[stepG,unwind,f,c,Sem.runT_eq,e,GStep.bare_after])
def NC(P:Program)(n:Nat)(fn:Func)(R:Ending->World->Prop):Bk
 | .normal,L,w|.ret,L,w=>∃D w',dl L=[{ target:=.collected D,args:=#[] }]/\(Instr.takeDeferred D).run P w=.ok [] w'/\∀a,Ap n L a->∃v,(results fn a.tmps).run P w'=.ok v w'/\R (.returned v) w'
 | _,_,_=>False
theorem j_{c:Code}(o:P.funcs[f]?=some fn)(x:fn.body=some c)(y:fn.ntmps=n)(p:(Nat.ble args.length n&&Nat.ble n DK)=true)
  (h:WC P n c (NC P n fn R) (PE 0 args) w):Calls P f args.toArray w R:=by
 intro cs
 let b:Frame:={ (default:Frame)with fn:=f,kind:=.normal }
 have d:Frame.enter P f args.toArray .normal=b.at { tmps:=args.toArray++Array.replicate (fn.ntmps-args.toArray.size) undef,defers:=[] } [.code c]:=by
  simp[Frame.enter,Frame.at,o,x,b]
 obtain⟨e,i,w',⟨L',j,k⟩,a⟩:=h _ (rE y p) b [] cs;rw[<-d]at a;cases e with
 | normal =>
  obtain⟨D,u,m,r,q⟩:=k;obtain⟨v,s,l⟩:=q i j;have t:=Xqd (P:=P) (fr:={ b.at i []with mode:=.returning }) (cs:=cs) (w:=w') O (j.defers.trans m) O r;exact⟨.returned v,u,_,l,Steps.trans a (Steps.trans (.one step_end) (.one t)),O,O,O,O,fn,o,s⟩
 | ret =>
  obtain⟨D,u,m,r,q⟩:=k;obtain⟨v,s,l⟩:=q i j;obtain⟨g,z⟩:=a;have t:=Xqd (P:=P) (fr:={ b.at i g with mode:=.returning }) (cs:=cs) (w:=w') O (j.defers.trans m) O r;exact⟨.returned v,u,_,l,Steps.trans z (.one t),O,O,O,O,fn,o,s⟩
 | _=>exact k.elim
theorem qR{a D:Nat}{u:Va}(h:fn.results=#[.tmp a,.tmp b])(l:Aa B w I N)(f:N[k]?=some (own D (.deferred (some []))))(s:look L a=some v)(hx:look L b=some u)(r:dl L=[{ target:=.collected D,args:=#[] }])
  (p:∀w',Aa B w' I (N.eraseIdx k)->R (.returned (.tuple #[v,u])) w'):NC P n fn R .ret L w:=by
 have m:=l.block f;have g:k<N.length:=(Y1.1 f).1;have d:=(l.write f (o':=.deferred none) (w':={ w with heap:=w.heap.setIfInBounds D (.deferred none) }) O O O (N6 m) (λc q=>by simp[x_ (Ne.symm q)])).drop (k:=k) (A:=own D (.deferred none)) (by simp[g]);rw[nz]at d;refine⟨D,{ w with heap:=w.heap.setIfInBounds D (.deferred none) },r,by simp[Instr.takeDeferred,Sem.run_bind,getObj,setObj,Sem.run,m,Result.andThen],λe o=>⟨_,?_,p _ d⟩⟩;have i:=o.get a _ s;have j:=o.get b _ hx;simp only[GF]at i j
 simp[results,h,i,j]
def WI(P:Program)(n:Nat)(c:Code)(K:Bk)(L:AB)(w:Wo):Prop:=∀a,Ap n L a->∀(b:Frame) (k:List Item) (cs:List Frame),∃e d w',K2 n K e d w'/\Arrives P (lone (b.at a (.code c::.inLoop c::k)) cs w) b k cs e d w'
theorem WC.EI{c:Code}(h:WI P n c K L w):WC P n (.loop c) K L w:=λa g b k cs=>by
 obtain⟨e,f,w',i,d⟩:=h a g b k cs;exact⟨e,f,w',i,.of_steps (.one step_loop) d⟩
theorem WI.round{c:Code}(h:WC P n c (Ft (λL w=>WI P n c K L w) K) L w):WI P n c K L w:=λa r b k cs=>by
 obtain⟨e,g,w1,⟨m,i,j⟩,d⟩:=h a r b (.inLoop c::k) cs;cases e with
 | normal =>
  obtain⟨q,p,s,o,f⟩:=j g i b k cs;exact⟨q,p,s,o,.of_steps (Steps.trans d (.one step_inLoop)) f⟩
 | exit u=>exact⟨_,g,w1,⟨m,i,j⟩,.pass (x:=.inLoop c) O (λ_ _=>.inl sz) d⟩
 | goto l=>exact⟨_,g,w1,⟨m,i,j⟩,.pass (x:=.inLoop c) O (λ_ _=>.inl sz) d⟩
 | ret=>exact⟨_,g,w1,⟨m,i,j⟩,.pass (x:=.inLoop c) O (λ_ _=>.inl sz) d⟩
 | panic t=>exact⟨_,g,w1,⟨m,i,j⟩,.pass (x:=.inLoop c) O (λ_ _=>.inl sz) d⟩
 | outgrown=>exact⟨_,g,w1,⟨m,i,j⟩,.pass (x:=.inLoop c) O (λ_ _=>.inl sz) d⟩
theorem Ex.Hq{f:Go.Fn}{c b:List Operand}{h:Lv}(l:∀a,Ap n L a->c.map a.eval=h)(hx:∀a,Ap n L a->b.map a.eval=vs):Ex P n L w ⟨d,.makeFunc f c.toArray b.toArray,ty,pos,af,g⟩ (.func f h.toArray vs.toArray) w:=λe i=>by
 have j:=l e i;have k:=hx e i;simp[execOp,Instr.makeFunc,<-j,<-k]
theorem WL.lH{d:Nat}{c:Operand}{bs cap:Lv}{xs:List Operand}{Q:Va->Wo->Prop}(u:P.funcs[f]?=some fn)(k:Xf fn=true)(l:Ev n L c (.func (.func f) bs.toArray cap.toArray))(hx:∀a,Ap n L a->xs.map a.eval=vs)(s:Nat.blt d n=true)
  (b:Calls P f (bs++vs++cap).toArray w (AY Q)) (h:∀v w',Q v w'->WL P n ops K rest ((d,v)::L) w'):WL P n ops K (⟨some d,.call ⟨.value c,xs.toArray,ts⟩,ty,pos,af,none⟩::rest) L w:=by
 intro a j;refine wpList_plain O λK' r=>?_
 unfold Xf at k;simp only[Y8]at k
 obtain⟨q,p⟩:=k;have g : ¬ fn.name = "runtime.NumGoroutine" := by simpa using q
 have i:¬ fn.body=none:=by intro e;rw[e]at p;cases p
 have t:(execOp a.eval (⟨some d,.call ⟨.value c,xs.toArray,ts⟩,ty,pos,af,none⟩:Oper)).run P w=.ok (.enter f (bs++vs++cap).toArray) w:=by
  have m:=hx a j;simp[execOp,resolve,l a j,Deferred.ofValue,invoke,callFunc,program,Sem.run,u,g,i,<-m]
 unfold Oper.wp;rw[t];refine b.mono λe o x=>?_
 obtain⟨v,rfl,l⟩:=x;exact r _ _ (h v o l _ (j.put s v))
theorem WL.p4{d sl W:Nat}{T:TypeId}(r:Aa B w I N)(u:N[k]?=some (Ac b cs T))(hx:Ev n L x (.slice (some (ad b o)) m c))(H:Ev n L y (.slice a sl W))(D:RS I a 1 sl vs)(G:P.underlying t=some (.slice E))(F:∀w,(Go.sizeOf E).run P w=.ok 1 w)
  (J:vs.all Value.oneCell'=true) (U:sl<=m) (V:o+sl<=cs.length) (C:Nat.blt d n=true)
  (h:∀w',Aa B w' I (N.set k (Ac b (cs.take o++vs++cs.drop (o+sl)) T))->WL P n ops K rest ((d,Ab (sl:Nat))::L) w'):WL P n ops K (⟨some d,.call ⟨.builtin .copy,#[x,y],#[t,t']⟩,ty,pos,af,none⟩::rest) L w:=by
 have f:vs.length=sl:=su D.1
 have A:=r.block u;have g:Nat.min sl m=sl:=M8 U;rcases Ix sl with s|s
 ·subst s;have z:vs=[]:=Yi f;subst z;have M:=h w (by
   have:N.set k (Ac b (cs.take o++[]++cs.drop (o+0)) T)=N:=by
    rw[Yy,ER,Fw]
    have:=(Y1.1 u).2
    rw[<-this,jz]
   rw[this];exact r)
  refine .val (w':=w) (λe i=>?_) C M;cases a<;>simp[execOp,resolve,invoke,builtin,hx e i,H e i,Builtin.copy_,run_underlying G,Builtin.lenOf,Builtin.firstCells,F,g,loadCells,loadCellsFrom,storeCells,goInt]
 ·obtain⟨p,rfl,Q⟩:=D.2 s;have l:=run_loadCells_list (P:=P) w p vs (λj v S=>Xv r Q S);rw[f]at l;have q:=run_storeCells_at P b o T vs 0 cs.toArray w A (by simp only[ER,f,nH];exact V) (Dj.1 J);simp only[ER,f]at q
  refine .val (w':=w.setRow b (cs.take o++vs++cs.drop (o+sl)).toArray) (λe i=>?_) C (h _ (r.write (o':=Xh _ T) u O O O (setRow_heap w b _ _ T _ A) λc R=>setRow_other w b c _ R));simp[execOp,resolve,invoke,builtin,hx e i,H e i,Builtin.copy_,run_underlying G,Builtin.lenOf,Builtin.firstCells,F,g,l,q,goInt]
theorem Ex.gR{i:Int}(hx:Ev n L x (.int .u32 i)):Ex P n L w ⟨d,.unOp .xor t x,ty,pos,af,g⟩ (.int .u32 (bits .xor .u32 IntKind.u32.max i)) w:=λe b=>by
 have a:(Op.unary .xor (.int .u32 i)).run P w=.ok (.int .u32 (bits .xor .u32 IntKind.u32.max i)) w:=by
  show(Op.intBits .xor .u32 (if IntKind.u32.signed then -1 else IntKind.u32.max) i).run P w=_
  rw[Y3 de];simp[Op.intBits,bits]
 simp only[execOp,hx e b,Sem.run_bind,a,Result.andThen_ok,Sem.run_pure]
theorem jP(i:Int):0<=bits .and .u32 i 15/\bits .and .u32 i 15<16:=by
 have a:(BitVec.ofInt IntKind.u32.bits i&&& BitVec.ofInt IntKind.u32.bits 15).toNat<=15:=by
  rw[BitVec.toNat_and];exact Yq Nat.and_le_right de
 show 0<=IntKind.u32.wrap ((BitVec.ofInt IntKind.u32.bits i&&& BitVec.ofInt IntKind.u32.bits 15).toNat:Int)/\IntKind.u32.wrap ((BitVec.ofInt IntKind.u32.bits i&&& BitVec.ofInt IntKind.u32.bits 15).toNat:Int)<16
 rw[IntKind.wrap_u32];omega
theorem Lf{l:Lu}{i:Int}(b:0<=i)(c:i<(l.length:Int)):((Ao l).drop (i.toNat*1))[0]?=some (U8 (l.getD i.toNat 0).toNat):=by
 have a:i.toNat<l.length:=om
 rw[Hk,Dm,ER];simp[Ao,Yf,a]
theorem HD(l:Lu):(Ao l).all Value.oneCell'=true:=by simp[Ao,Value.oneCell']
theorem RS.of{s:Nat}(h:At J p xs)(a:xs.length=m*s):RS J (some p) s m xs:=⟨a,λ_=>⟨p,O,h⟩⟩
theorem Aa.HS{l:Lu}(a:Aa B w I (Ac b (Ao l) E::N))(c:l.length<=1000000):∃J,Le I J/\RS J (some (ad b 0)) 1 l.length (Ao l)/\Aa B w J N:=by
 have h:=a.A2 (size:=1) (n:=l.length) (k:=0) O sz (by unfold maxLen;omega);exact h.fV 0
theorem Ex.Adf{e:TypeId}(hx:Ev n L x (.slice a m c))(f:Ev n L y (.slice none 0 0))(b:P.underlying t=some (.slice e)):Ex P n L w ⟨d,.binOp .neq t x y t',ty,pos,af,g⟩ (.bool a.isSome) w :=
 CV hx f (λ_ _=>by unfold eqGuard;split<;>simp) (by
  have h:=run_neq_slice_nil (P:=P) w t e a m c b;rw[h];cases a<;>rfl)
theorem Ex.as{o:Oper}{a:Va}(h:Ex P n L w o v w)(e:v=a):Ex P n L w o a w:=e▸h
theorem WL.qw{d l s:Nat}{e:TypeId}{i:TypeInfo}{z z0:Va}(p:Aa B w I N)(hx:Ev n L x (Ab l))(D:Ev n L y (Ab l))(C:P.underlying t=some (.slice e))(hi:P.info? e=some i)(E:i.zero=some z)(q:(i.bytes:Int)*l<=281474976710656)(u:(l:Int)<=9223372036854775807)
  (c:z.cells=(List.replicate s z0).toArray) (o:0<s) (A:i.size=s) (r:Nat.blt d n=true)
  (h:∀b w',Aa B w' I (Ac b (List.replicate (l*s) z0) e::N)->WL P n ops K rest ((d,.slice (some (ad b 0)) l l)::L) w'):WL P n ops K (⟨some d,.makeSlice t x y,ty,pos,af,none⟩::rest) L w:=by
 have g:=run_make (P:=P) w t e i z C hi E .i64 .i64 l l om om q u;have v:madeCells z.cells ((l:Int).toNat*i.size)=(List.replicate (l*s) z0).toArray:=by
  rw[c,A]
  apply Array.ext'
  simp only[madeCells,Yd,yu,Array.toList_range]
  apply PS
  intro j
  by_cases m:j<l*s
  ·have f:j%s<s:=T_ _ o;simp[m,f]
  ·simp[m]
 rw[v]at g;refine .val (w':=w.alloc (Xh (List.replicate (l*s) z0) e)) (λa k=>?_) r (h _ _ (p.alloc _));simp only[Yd]at g
 simp[execOp,hx a k,D a k,g,Xh]
theorem At.pre{ys:Lv}(h:At J p xs)(e:∀(j:Nat) (v:Va),ys[j]?=some v->xs[j]?=some v):At J p ys:=by
 obtain⟨c,a,E,b,hi,f⟩:=h;exact⟨c,a,E,b,hi,λj v d=>f j v (e j v d)⟩
theorem Ex.B8{e:TypeId}{s:Nat}(hx:Ev n L x (.pointer (some p)))(l:0<m)(i:P.underlying t=some (.array m e))(k:∀w,(Go.sizeOf e).run P w=.ok s w):Ex P n L w ⟨d,.slice t x none none none,ty,pos,af,g⟩ (.slice (some p) m m) w:=λa j=>by
 obtain⟨c,f⟩:=xb i;have h:=run_sliceAt_array_all (P:=P) (w:=w) (t:=t) (a:=p) (by rw[c,f];exact i);rw[c,f,k]at h;have b:m≠0:=om
 have e0:p.add 0=p:=by cases p;simp[Addr.add]
 simp[execOp,hx a j,h,slicedAt,b,e0]
end
section
variable {P:Program} {n:Nat} {K:Bk} {L:AB} {w B:Wo} {I:Im} {N:La} {ops:Array Oper} {rest:List Oper} {ty t t' E:TypeId} {x y:Operand} {pos:String} {af:Array Edge} {g:Option (Nat×Bool)}
theorem Aa.ky{z:Va}(h:Aa B w I N)(f:z.cells.size=size)(d:nn+m<=cap)(c:cap<=maxLen)(e:xs.length=nn*size)(i:news.length=m*size):Aa B (w.drew.alloc (.cells (xs.toArray++news.toArray++Builtin.zeroCells z.cells (cap-(nn+m))) E)) I (An E size (.slice (some ⟨w.heap.size,0,none⟩) (nn+m) cap) (nn+m) (xs++news)::N):=by
 have a:(xs++news).length=(nn+m)*size:=by rw[Y0,e,i,F0]
 have b:=h.drew.alloc (.cells (xs.toArray++news.toArray++Builtin.zeroCells z.cells (cap-(nn+m))) E);have g:(own w.drew.heap.size (.cells (xs.toArray++news.toArray++Builtin.zeroCells z.cells (cap-(nn+m))) E))=Ac w.heap.size ((xs++news)++(Builtin.zeroCells z.cells (cap-(nn+m))).toList) E:=by
  unfold Ac Xh
  congr 2
  apply Array.ext'
  simp
 rw[g]at b;exact b.AR (k:=0) (cap:=cap) O d c a (by
  rw[a,Sj,size_zeroCells,f,<-F0]
  congr 1
  omega)
theorem WL.bC{d:Nat}{i:TypeInfo}{z:Va}{E':TypeId}(J:Aa B w I (Ac b news E'::N))(hx:Ev n L x (.slice a nn nn))(hy:Ev n L y (.slice (some (ad b 0)) m c))(C:RS I a size nn xs)
  (Y:P.underlying t=some (.slice E)) (hi:P.info? E=some i) (Z:i.zero=some z) (s:i.size=size) (R:i.bytes=bytes) (V:z.cells.size=size)
  (S:news.length=m*size) (hm:Nat.blt 0 m=true) (l:(nn+m)*bytes<=140737488355328/\nn+m<=maxLen) (hd:Nat.blt d n=true)
  (h:∀A w',Aa B w' I (An E size A (nn+m) (xs++news)::N)->WL P n ops K rest ((d,A)::L) w') :WL P n ops K (⟨some d,.call ⟨.builtin .append,#[x,y],#[t,t]⟩,ty,pos,af,none⟩::rest) L w:=by
 subst s;subst R;have T:0<m:=Yx hm;have Q:=J.block (k:=0) O;have f:∀j u,news[j]?=some u->w.cell? ((ad b 0).add j)=some u:=λj u G=>by rw[CY,Yk];exact Xz Q G
 have ab:nn+m<=9223372036854775807:=by have:=l.2;simp only[maxLen]at this;omega
 have D:=λv=>(J.drop (k:=0) O).ky (E:=E) (nn:=nn) (m:=m) (cap:=grownCap w (nn+m) v E) (xs:=xs) (news:=news) (z:=z) V (grownCap_ge w (nn+m) v E) (grownCap_le_maxLen w (nn+m) v E l.2) C.1 S
 have key:∃A w',(Builtin.append_ #[t,t] ty #[.slice a nn nn,.slice (some (ad b 0)) m c]).run P w=.ok A w'/\Aa B w' I (An E i.size A (nn+m) (xs++news)::N):=by
  cases a with
  | none =>
   have g:nn=0:=by
    rcases Ix nn with g|g
    ·exact g
    ·obtain⟨p,H,_⟩:=C.2 g;cases H
   subst g;have U:xs=[]:=Yi (su C.1);subst U;have r:=run_append_nil (P:=P) w t ty E i z Y hi Z (ad b 0) m c news S f T om (by have Q:=l.1;simp only[Yk]at Q;omega);have X:=D 0;simp only[Yk,Db,uj]at X ⊢
   exact⟨_,_,r,X⟩
  | some p =>
   have o:∀j u,xs[j]?=some u->w.cell? (p.add j)=some u:=λj u G=>by
    rcases Ix nn with g|g
    ·have:xs=[]:=Yi (by rw[C.1,g,PT])
     rw[this]at G;simp at G
    ·obtain⟨q,H,hA⟩:=C.2 g;cases H
     exact Xv J hA G
   have r:=run_append_grow (P:=P) w t ty E i z Y hi Z p nn nn xs C.1 o (ad b 0) m c news S f om om (growslice_fits om l.1);exact⟨_,_,r,D nn⟩
 obtain⟨A,w',F,M⟩:=key;refine .val (w':=w') (λe W=>?_) hd (h A w' M);simp[execOp,resolve,invoke,builtin,hx e W,hy e W,F]
end
section
variable {P:Program} {ops:Array Oper} {Q:Exit->Act->Wo->Prop} {md:Region.Mode} {S:Wo->Prop} {nd:Nat->Bool}
def mi(a:Region.Mode)(ops:Array Oper)(listed:Array Bool):Bool :=
 (List.range ops.size).all λj=>!listed.getD j true||match ops[j]? with
  | some b=>b.after.all λe=>!Region.binds a e||listed.getD e.on true
  | none=>true
def tX(a:Region.Mode)(ops:Array Oper)(i:Nat):Nat->Nat->Bool
 | 0,_=>false
 | f+1,j=>match ops[j]? with
  | some b=>b.after.any λe=>Region.binds a e&&(e.on==i||tX a ops i f e.on)
  | none=>false
def mf(a:Region.Mode)(ops:Array Oper)(nd:Nat->Bool)(i:Nat):Bool :=
 (List.range ops.size).all λj=>nd j||j==i||tX a ops i 8 j
theorem Xf3(h:mi md ops listed=true):∀j a,ops[j]?=some a->listed.getD j true=true->∀e∈a.after,Region.binds md e=true->listed.getD e.on true=true:=by
 intro j a c i e g f;have b:=(Dj.1 h) j (gq.2 (Jo.1 c).1);simp only[c,i,jK,K9]at b
 have d:=(Array.all_eq_true_iff_forall_mem.1 b) e g;simpa[f]using d
theorem YO(n:∀j a,ops[j]?=some a->listed.getD j true=true->∀e∈a.after,Region.binds md e=true->listed.getD e.on true=true)(hi:listed.getD i true=false):∀(f j:Nat),tX md ops i f j=true->∃a,ops[j]?=some a/\∃e∈a.after,Region.binds md e=true/\listed.getD e.on true=false:=by
 intro f
 induction f with
 | zero=>intro j h;cases h
 | succ f r =>
  intro j h;unfold tX at h;cases l:ops[j]? with
  | none=>rw[l]at h;cases h
  | some a =>
   rw[l]at h;obtain⟨e,o,c⟩:=Array.any_eq_true'.1 h;simp only[Y8,EC,beq_iff_eq]at c
   refine⟨a,O,e,o,c.1,?_⟩;rcases c.2 with b|b
   ·rw[b];exact hi
   ·obtain⟨ok,p,m,g,d,k⟩:=r e.on b;cases q:listed.getD e.on true with
    | false=>rfl
    | true=>have:=n e.on ok p q m g d;rw[k]at this;cases this
theorem Xba{B:Oper}(hi:ops[i]?=some B)(z:∀(j:Nat) (o:Oper) cs b,ops[j]?=some o->o.op≠.select cs b)
  (hQ:∀c a w,Q (.panic c) (a.put B.dst v) w->Q (.panic c) a w) (W:mf md ops nd i=true) :∀(fuel:Nat) (listed:Array Bool) (a:Act) (w:Wo),
   (∀j n,ops[j]?=some n->j≠i->listed.getD j true=false->(∀e∈n.after,Region.binds md e=true->e.on≠i)->B.apart ops n=true)->
   (∀j n,ops[j]?=some n->listed.getD j true=true->∀e∈n.after,Region.binds md e=true->listed.getD e.on true=true)->
   i∈Region.ready md ops listed->YieldsIf P ops S B v a->S w->
   Zj P md ops Q S nd fuel (listed.setIfInBounds i true) (a.put B.dst v) w->Zj P md ops Q S nd (fuel+1) listed a w:=by
 intro fuel
 induction fuel with
 | zero =>
  intro listed a w _ _ y R D H;refine⟨λh=>(by rw[h]at y;cases y),λj M=>?_⟩
  by_cases d:j=i
  ·subst d;exact R.wpOp hi D ⟨λ_ h=>h,H⟩
  ·have:=ready_mono M d
   rw[H.1]at this;cases this
 | succ fuel ih =>
  intro listed a w l F y R D H;refine⟨λh=>(by rw[h]at y;cases y),λj M=>?_⟩
  by_cases d:j=i
  ·subst d;exact R.wpOp hi D ⟨λ_ h=>h,H⟩
  ·have q:=H.2 j (ready_mono M d);obtain⟨t,n,f,E⟩:=mem_ready.1 M;have g:∀e∈n.after,Region.binds md e=true->listed.getD e.on true=true:=λe s r=>by
    have q:=E e s r;rcases Yt e.on listed.size with A|A
    ·simp[A]at q ⊢;exact q
    ·simp[tZ A]at q
   have J:∀e∈n.after,Region.binds md e=true->e.on≠i:=λe s r T=>by
    have q:=g e s r;rw[T,(mem_ready.1 y).1]at q;cases q
   have x:nd j=true:=by
    have V:j<ops.size:=(Jo.1 f).1;have C:=(Dj.1 W) j (gq.2 V);simp only[EC,beq_iff_eq,d,or_false]at C
    rcases C with C|C
    ·exact C
    ·obtain⟨ok,u,e,s,r,hu⟩:=YO F (mem_ready.1 y).1 8 j C;rw[f]at u;cases u
     have:=g e s r;rw[hu]at this;cases this
   have h2:=wpOp_putIf f (l j n f d t J) (λcs b=>z i B cs b hi) (λcs b=>z j n cs b f) hQ R q;have p:∀k ok,ops[k]?=some ok->k≠i->(listed.setIfInBounds j true).getD k true=false->
     (∀e∈ok.after,Region.binds md e=true->e.on≠i)->B.apart ops ok=true:=λk ok u U K X=>by
    refine l k ok u U ?_ X
    by_cases m:j=k
    ·subst m;exact t
    ·rw[getD_set_ne true m]at K;exact K
   have G:∀k ok,ops[k]?=some ok->(listed.setIfInBounds j true).getD k true=true->∀e∈ok.after,Region.binds md e=true->(listed.setIfInBounds j true).getD e.on true=true:=λk ok u Y e s r=>by
    have h0:listed.getD e.on true=true:=by
     by_cases m:j=k
     ·subst m;rw[f]at u;cases u;exact g e s r
     ·rw[getD_set_ne true m]at Y;exact F k ok u Y e s r
    by_cases I:j=e.on
    ·rw[<-I];rcases Yt j listed.size with A|A
     ·simp[A]
     ·simp[A]
    ·rw[getD_set_ne true I];exact h0
   refine wpOp_mono (λZ w' L=>⟨λ_ _=>L.2.1 x D,ih (listed.setIfInBounds j true) Z w' p G (ready_mono y (Ne.symm d)) L.1 (L.2.1 x D) ?_⟩) h2;rw[ye _ _ d];exact L.2.2
end
section
variable {P:Program} {n:Nat} {K:Bk} {L:AB} {w:Wo} {ops:Array Oper} {S:Wo->Prop} {nd:Nat->Bool} {fuel:Nat} {listed:Array Bool}
theorem WD.DL{d:Nat}(hi:ops[i]?=some ⟨some d,op,ty,pos,af,none⟩)(l:Region.noSelect ops=true)(g:Region.free .any ops listed i=true)(k:(Region.ready .any ops listed).contains i=true)
  (b:(mf .any ops nd i&&mi .any ops listed)=true) (e:S w) (hx:∀w,S w->Ex P n L w ⟨some d,op,ty,pos,af,none⟩ v w) (f:Nat.blt d n=true)
  (h:WD P n ops S nd K fuel (listed.setIfInBounds i true) ((d,v)::L) w):WD P n ops S nd K (fuel+1) listed L w:=λa c=>by
 simp only[Y8]at b
 exact Xba hi (Region.noSelect_spec l) (λ_ _ _ ⟨_,_,j⟩=>j.elim) b.1 fuel listed a w (Region.free_spec hi g) (Xf3 b.2) (su k)
  (.inl ⟨lU O _,λw m=>hx w m a c⟩) e (h _ (c.put f v))
theorem WD.Cu{d j t:Nat}{b:Bool}(hi:ops[i]?=some ⟨some d,op,ty,pos,af,some (j,want)⟩)(x:Region.noSelect ops=true)(q:Region.free .any ops listed i=true)(u:(Region.ready .any ops listed).contains i=true)
  (c:(mf .any ops nd i&&mi .any ops listed)=true) (m:S w) (r:(ops[j]?).bind (·.dst)=some t) (o:look L t=some (.bool b)) (hx:b=want->∀w,S w->Ex P n L w ⟨some d,op,ty,pos,af,some (j,want)⟩ v w) (p:Nat.blt d n=true)
  (h:WD P n ops S nd K fuel (listed.setIfInBounds i true) ((d,gd b want v)::L) w):WD P n ops S nd K (fuel+1) listed L w:=λa g=>by
 simp only[Y8]at c
 have k:=wa g r o;have f:=h _ (g.put p (gd b want v));refine Xba hi (Region.noSelect_spec x) (λ_ _ _ ⟨_,_,s⟩=>s.elim) c.1 fuel listed a w (Region.free_spec hi q) (Xf3 c.2) (su u) ?_ m f
 by_cases e:b=want
 ·left
  refine⟨by simp[Region.wanted,k,e],λw y=>?_⟩
  have:=hx e w y a g
  subst e;simpa[gd]using this
 ·right
  have l:(b==want)=false:=su e
  refine⟨by simp[Region.wanted,k,e],?_⟩;simp only[gd,l,cond_false]
end
class nX(I J:Im):Prop where h:Le I J
instance :nX I I:=⟨.refl I⟩
instance (priority:=low){c:Im}[a:Le c J][b:nX I c]:nX I J:=⟨b.h.trans a⟩
abbrev SG(B:Wo)(I:Im)(Hs:La):Wo->Prop:=λw=>∃J R,Le I J/\Aa B w J (Um Hs R)
class ij(A:X1)(N:La)(Bh:outParam La):Prop where h:∃k,N[k]?=some A/\Bh=N.eraseIdx k
instance :ij A (A::N) N:=⟨0,O,O⟩
instance (priority:=low){C:X1}[a:ij A N Bh]:ij A (C::N) (C::Bh):=⟨by
 obtain⟨k,b,c⟩:=a.h;exact⟨k+1,b,by rw[c];rfl⟩⟩
@[reducible] def H2:List X1->Nat->Option (X1×List X1)
 | [],_=>none
 | A::l,0=>some (A,l)
 | A::l,i+1=>match H2 l i with
  | some (C,m)=>some (C,A::m)
  | none=>none
theorem tj:∀{N:La} {k:Nat} {A:X1} {Bh:La},H2 N k=some (A,Bh)->N[k]?=some A/\Bh=N.eraseIdx k
 | [],_,_,_,h=>by simp[H2]at h
 | A::l,0,_,_,h=>by simp[H2]at h;simp[h]
 | A::l,i+1,C,m,h=>by
  simp only[H2]at h
  cases e:H2 l i with
  | none=>rw[e]at h;cases h
  | some p =>
   obtain⟨a,b⟩:=p;rw[e]at h;cases h
   have:=tj e
   simp[this.1,this.2]
def Gb(N Hs:La):Prop:=∀g,Am N g->∃a r,Am Hs a/\g.Perm (a++r)
theorem Gb.refl(N:La):Gb N N:=λg h=>⟨g,[],h,by simp⟩
theorem Gb.pick(e:N[k]?=some A)(a:Bh=N.eraseIdx k)(r:Gb Bh Hs):Gb N (A::Hs):=λg j=>by
 subst a;obtain⟨g1,g2,l,h,_,d,i,b⟩:=j.at_ e;obtain⟨c,s,a,f⟩:=r d i;exact⟨g1++c,s,⟨g1,c,O,h,a⟩,by rw[Yg];exact l.trans ((b.symm.trans f).append_left g1)⟩
theorem Gb.drop(r:Gb N Hs):Gb (A::N) Hs:=λg ⟨g1,g2,e,_,h⟩=>by
 obtain⟨a,s,b,c⟩:=r g2 h;subst e;exact⟨a,s++g1,b,by rw[<-Yg];exact T3.trans (c.append_right g1)⟩
theorem Gb.trans{c Cs:La}(a:Gb N c)(b:Gb c Cs):Gb N Cs:=λg h=>by
 obtain⟨g1,d,e,i⟩:=a g h;obtain⟨g2,k,f,j⟩:=b g1 e;exact⟨g2,k++d,f,i.trans (by rw[<-Yg];exact j.append_right d)⟩
theorem Gb.sat(e:Gb N Hs)(d:Aa B w I N):Aa B w I Hs:=by
 obtain⟨g,h,f⟩:=d;obtain⟨a,r,b,c⟩:=e g h;exact⟨a,b,(f.perm c).left⟩
class Pm(N Hs:La):Prop where h:Gb N Hs
instance (priority:=high):Pm N N:=⟨.refl N⟩
instance [p:ij A N Bh][r:Pm Bh Hs]:Pm N (A::Hs):=⟨let⟨_,a,b⟩:=p.h;.pick a b r.h⟩
instance (priority:=low)[r:Pm N Hs]:Pm (A::N) Hs:=⟨r.h.drop⟩
theorem Aa.s[e:Pm N Hs](a:Aa B w I N):Aa B w I Hs:=e.h.sat a
class Pk(N:La)(ks:List Nat)(Bh:outParam La):Prop where h:Gb N Bh
instance :Pk N [] N:=⟨.refl N⟩
instance {a:La}{b:List Nat}[p:Is (H2 N k) (A,a)][r:Pk (A::a) b Bh]:Pk N (k::b) Bh:=⟨Gb.trans (let⟨c,d⟩:=tj p.h;.pick c d (.refl a)) r.h⟩
class Dr(N:La)(ks:List Nat)(Bh:outParam La):Prop where h:Gb N Bh
instance :Dr N [] N:=⟨.refl N⟩
instance {a:La}{b:List Nat}[p:Is (H2 N k) (A,a)][r:Dr a b Bh]:Dr N (k::b) Bh:=⟨Gb.trans (let⟨c,d⟩:=tj p.h;(Gb.pick c d (.refl a)).trans (Gb.drop (.refl a))) r.h⟩
theorem Aa.px(a:Aa B w I N)(b:List Nat)[e:Pk N b Bh]:Aa B w I Bh:=e.h.sat a
theorem Aa.py(a:Aa B w I N)(b:List Nat)[e:Dr N b Bh]:Aa B w I Bh:=e.h.sat a
class lL(N:La)(T:La->La)(R:outParam La):Prop where h:Gb N (T R)
instance {R:La}:lL R (λR=>R) R:=⟨.refl R⟩
instance [p:ij A N Bh]:lL N (List.cons A) Bh:=⟨let⟨_,a,b⟩:=p.h;.pick a b (.refl Bh)⟩
instance {R:La}{T:La->La}[p:ij A N Bh][r:lL Bh T R]:lL N (λR=>A::T R) R:=⟨let⟨_,a,b⟩:=p.h;.pick a b r.h⟩
def FH(N Hs:La):Prop:=∀g,Am N g->∃R a,Am (Um Hs R) a/\g.Perm a
theorem FH.cons(e:N[k]?=some A)(a:Bh=N.eraseIdx k)(r:FH Bh Hs):FH N (A::Hs):=λg j=>by
 subst a;obtain⟨g1,g2,l,h,_,d,i,b⟩:=j.at_ e;obtain⟨R,c,a,f⟩:=r d i;exact⟨R,g1++c,⟨g1,c,O,h,a⟩,l.trans ((b.symm.trans f).append_left g1)⟩
class rp(Hs N:La):Prop where h:FH N Hs
instance :rp [] N:=⟨λg h=>⟨N,g,h,.refl _⟩⟩
instance [p:ij A N Bh][r:rp Hs Bh]:rp (A::Hs) N:=⟨let⟨_,a,b⟩:=p.h;.cons a b r.h⟩
class Hd(N:La)(ks:List Nat)(Hs:outParam La):Prop where h:FH N Hs
instance :Hd N [] []:=⟨λg h=>⟨N,g,h,.refl _⟩⟩
instance {a:List Nat}[p:Is (H2 N k) (A,Bh)][r:Hd Bh a Hs]:Hd N (k::a) (A::Hs):=⟨let⟨b,c⟩:=tj p.h;.cons b c r.h⟩
theorem FH.sat(a:FH N Hs)(l:nX I J)(e:Aa B w J N):SG B I Hs w:=by
 obtain⟨h,g,f⟩:=e;obtain⟨R,b,c,d⟩:=a h g;exact⟨J,R,l.h,b,c,f.perm d⟩
@[reducible] def qz:List Nat->Nat->Bool
 | [],_=>true
 | a::l,i=>match Nat.beq a i with
  | true=>false
  | false=>qz l i
@[reducible] def yK:Builtin->Bool
 | .len=>false
 | .min=>false
 | .max=>false
 | _=>true
@[reducible] def GL:Op->Bool
 | .store _ _ _=>true
 | .alloc _=>true
 | .box _ _=>true
 | .buildSlice _ _ _=>true
 | .makeSlice _ _ _=>true
 | .makeMap _ _=>true
 | .insert _ _ _ _=>true
 | .mapUpdate _ _ _ _=>true
 | .call c=>match c.callee with
  | .builtin b=>yK b
  | _=>true
 | _=>false
@[reducible] def IA:Op->Bool
 | .load _ _=>true
 | _=>false
def GX(ops:Array Oper)(nd:Nat->Bool):Nat->List Nat->Array Bool->Bool
 | 0,[],listed=>(Region.ready .any ops listed).isEmpty
 | _+1,[],_=>true
 | 0,_::_,_=>false
 | m+1,i::r,listed=>(match ops[i]? with
  | none=>false
  | some o=>bif GL o.op then Region.ready .any ops listed==[i]
   else Region.noSelect ops&&Region.free .any ops listed i&&(Region.ready .any ops listed).contains i&&(bif IA o.op||o.guard.isSome then mf .any ops nd i&&mi .any ops listed else true))&&GX ops nd m r (listed.setIfInBounds i true)
@[reducible] def DB:List Oper->Nat->Option Oper
 | [],_=>none
 | v::_,0=>some v
 | _::l,i+1=>DB l i
theorem N4:∀(l:List Oper) (i:Nat),DB l i=l[i]?
 | [],_=>by simp[DB]
 | v::l,0=>by simp[DB]
 | v::l,i+1=>by simpa[DB]using N4 l i
class SO(l:List Oper)(m:outParam Nat):Prop where h:l.length=m
instance:SO [] 0:=⟨O⟩
instance {o:Oper}{l:List Oper}[a:SO l m]:SO (o::l) (m+1):=⟨by simp[a.h]⟩
section
variable {P:Program} {n k d i m:Nat} {l:List Oper} {K:Bk} {L:AB} {w w0:Wo} {B:Wo} {I J:Im} {N Bh Hs:La} {S S1 S2 S3 Q q:Prop} {op:Op} {v u:Va} {ty:TypeId} {pos:String} {af:Array Edge} {nd:Nat->Bool} {SP:Wo->Prop} {pl:List Nat} {listed:Array Bool} {o:Oper} {hold:Bool}
def A1(P:Program)(n:Nat)(ops:Array Oper)(SP:Wo->Prop)(nd:Nat->Bool)(K:Bk)(a:Bool)(m:Nat)(pl:List Nat)(listed:Array Bool)(L:AB)(w:Wo):Prop:=(a=true->SP w)->WD P n ops SP nd K m listed L w
def YS(P:Program)(n:Nat)(ops:Array Oper)(SP:Wo->Prop)(nd:Nat->Bool)(K:Bk)(i m:Nat)(pl:List Nat)(listed:Array Bool)(w0:Wo)(L:AB)(w:Wo):Prop:=(nd i=true->SP w0->SP w)/\WD P n ops SP nd K m (listed.setIfInBounds i true) L w
theorem oP{r:List Nat}(h:GX ops nd (m+1) (i::r) listed=true)(j:ops[i]?=some o)(f:GL o.op=false):Region.noSelect ops=true/\Region.free .any ops listed i=true/\(Region.ready .any ops listed).contains i=true/\(IA o.op=true\/o.guard.isSome=true->(mf .any ops nd i&&mi .any ops listed)=true)/\GX ops nd m r (listed.setIfInBounds i true)=true:=by
 unfold GX at h;rw[j]at h;simp only[f,cond_false,Y8]at h
 obtain⟨⟨⟨⟨b,c⟩,d⟩,a⟩,e⟩:=h;refine⟨b,c,d,λg=>?_,e⟩
 have:(IA o.op||o.guard.isSome)=true:=su g
 rw[this]at a;simpa using a
theorem kY{r:List Nat}(h:GX ops nd (m+1) (i::r) listed=true)(b:ops[i]?=some o)(a:GL o.op=true):Region.ready .any ops listed=[i]:=by
 unfold GX at h;rw[b]at h;simp only[a,cond_true,Y8]at h
 simpa using h.1
theorem A1.yJ{r:List Nat}(ok:GX ops nd (m+1) (i::r) listed=true)(a:ops[i]?=some o)(b:GL o.op=true)(h:WL P n ops (Ft (YS P n ops SP nd K i m r listed w) (N3 K)) [o] L w):A1 P n ops SP nd K hold (m+1) (i::r) listed L w :=
 λ_=>WD.branch [i] (kY ok a b) O (WO.cons a h WO.nil)
class Cd(P:Program)(n:Nat)(ops:Array Oper)(SP:Wo->Prop)(nd:Nat->Bool)(K:Bk)(hold:Bool)(k m:Nat)(pl:List Nat)(listed:Array Bool)(L:AB)(w:Wo)(S Q:outParam Prop):Prop where
 h:GX ops nd m pl listed=true->S->Q->A1 P n ops SP nd K hold m pl listed L w
instance :Cd P n ops SP nd K hold 0 m pl listed L w True (A1 P n ops SP nd K hold m pl listed L w):=⟨λ_ _ q=>q⟩
instance (priority:=high)[r:Bn (K .normal L w) q]:Cd P n ops SP nd K hold 0 0 [] listed L w True q:=⟨λok _ h _=>WD.done (by unfold GX at ok;simpa using ok) (r.h h)⟩
instance {c:Nat}{b:List Oper}[r:Bn (K .normal L w) (WL P c Ed K' b L' w)][a:Ch P c Ed K' (k+1) b L' w S Q]:Cd P n ops SP nd K hold (k+1) 0 [] listed L w S Q:=⟨λok s q _=>WD.done (by unfold GX at ok;simpa using ok) (r.h (a.h s q))⟩
theorem KZ{l:List Oper}{i:Nat}{o:Oper}(a:Is (DB l i) o):l.toArray[i]?=some o:=by rw[pG,<-N4];exact a.h
instance {r:List Nat}[o:Is (DB l i) ⟨some d,op,ty,pos,af,none⟩][e:Ff (GL op)][f:Ff (IA op)][a:V0 P L [] op S1 v][lt:Lt d n][c:Cd P n l.toArray SP nd K hold k m r (listed.setIfInBounds i true) ((d,v)::L) w S2 Q][j:Cj S1 S2 S]:Cd P n l.toArray SP nd K hold (k+1) (m+1) (i::r) listed L w S Q :=
 ⟨λok s q u=>by
  obtain⟨b,g,p,_,t⟩:=oP ok (KZ o) e.h;exact WD.XT (i:=i) (KZ o) b g p (λw=>a.h (j.h s).1 (λ_ h=>by cases h)) lt.h (c.h t (j.h s).2 q u)⟩
instance {r:List Nat}{t:TypeId}{x:Operand}[o:Is (DB l i) ⟨some d,.load t x,ty,pos,af,none⟩][a:∀J R [Le I J],V1 P L [] B J (Um Hs R) (.load t x) S1 v][lt:Lt d n][c:Cd P n l.toArray (SG B I Hs) nd K true k m r (listed.setIfInBounds i true) ((d,v)::L) w S2 Q][j:Cj S1 S2 S]:Cd P n l.toArray (SG B I Hs) nd K true (k+1) (m+1) (i::r) listed L w S Q :=
 ⟨λok s q b=>by
  obtain⟨e,f,g,p,u⟩:=oP ok (KZ o) O;exact WD.DL (i:=i) (KZ o) e f g (p (.inl O)) (b O) (λw ⟨J,R,y,z⟩=>(@a J R y).h (j.h s).1 (λ_ h=>by cases h) z) lt.h (c.h u (j.h s).2 q b)⟩
class Gd1(ops:Array Oper)(j:Nat)(L:AB)(b:outParam Bool):Prop where h:∃t,(ops[j]?).bind (·.dst)=some t/\look L t=some (.bool b)
instance {j t:Nat}{b:Bool}[a:Is (F4 l j) t][e:Fl L (.tmp t) (.bool b)]:Gd1 l.toArray j L b:=⟨t,by have:=a.h;rw[w_]at this;simpa using this,e.h⟩
instance {r:List Nat}{y:Nat}{b:Bool}[o:Is (DB l i) ⟨some d,op,ty,pos,af,some (y,want)⟩][e:Ff (GL op)][g:Gd1 l.toArray y L b][a:∀J R [Le I J],V1 P L [(b,want)] B J (Um Hs R) op S1 v][z:Gs [(b,want)] S1 S3][lt:Lt d n][c:Cd P n l.toArray (SG B I Hs) nd K true k m r (listed.setIfInBounds i true) ((d,gd b want v)::L) w S2 Q][j:Cj S3 S2 S]:Cd P n l.toArray (SG B I Hs) nd K true (k+1) (m+1) (i::r) listed L w S Q :=
 ⟨λok s q u=>by
  obtain⟨A,C,D,E,F⟩:=oP ok (KZ o) e.h;obtain⟨t,g1,g2⟩:=g.h;have f:b=want->eX [(b,want)]:=λh p x=>by simp at x;subst x;exact h
  exact WD.Cu (i:=i) (KZ o) A C D (E (.inr O)) (u O) g1 g2 (λh w ⟨J,R,G,H⟩=>(@a J R G).h (z.h (j.h s).1 (f h)) (f h) H) lt.h (c.h F (j.h s).2 q u)⟩
instance {r:List Nat}[a:Is (DB l i) o][e:Tt (GL o.op)][c:Ch P n l.toArray (Ft (YS P n l.toArray SP nd K i m r listed w) (N3 K)) (k+1) [o] L w S Q]:Cd P n l.toArray SP nd K hold (k+1) (m+1) (i::r) listed L w S Q :=
 ⟨λok s q=>A1.yJ ok (KZ a) e.h (c.h s q)⟩
instance [c:Cd P n ops SP nd K hold (k+1) m pl listed L w S1 Q][j:Cj (Kr (GX ops nd m pl listed)) S1 S]:Ws (k+1) (A1 P n ops SP nd K hold m pl listed L w) S Q:=⟨λs q=>c.h (j.h s).1.h (j.h s).2 q⟩
instance [r:Bn (K .normal L w) q]:Ws 0 (A1 P n ops SP nd K hold 0 [] listed L w) (Kr (GX ops nd 0 [] listed)) q:=⟨λs h _=>WD.done (by have:=s.h;unfold GX at this;simpa using this) (r.h h)⟩
instance :Ws 0 (A1 P n ops SP nd K hold (m+1) pl listed L w) True (A1 P n ops SP nd K hold (m+1) pl listed L w):=⟨λ_=>id⟩
instance {c:Nat}{b:List Oper}[r:Bn (K .normal L w) (WL P c Ed K' b L' w)][a:Ch P c Ed K' (k+1) b L' w S1 Q][j:Cj (Kr (GX ops nd 0 [] listed)) S1 S]:Ws (k+1) (A1 P n ops SP nd K hold 0 [] listed L w) S Q:=⟨λs q _=>WD.done (by have:=(j.h s).1.h;unfold GX at this;simpa using this) (r.h (a.h (j.h s).2 q))⟩
instance [f:Tt (nd i)][a:Aa B w J N][le:nX I J][b:rp Hs N][c:Ws k (A1 P n ops (SG B I Hs) nd K true m pl (listed.setIfInBounds i true) L w) S Q]:Ws k (YS P n ops (SG B I Hs) nd K i m pl listed w0 L w) S Q :=
 ⟨λs q=>⟨λ_ _=>b.h.sat le a,c.h s q λ_=>b.h.sat le a⟩⟩
instance [f:Ff (nd i)][c:Ws k (A1 P n ops SP nd K false m pl (listed.setIfInBounds i true) L w) S Q]:Ws k (YS P n ops SP nd K i m pl listed w0 L w) S Q:=⟨λs q=>⟨λh=>(by rw[f.h]at h;cases h),c.h s q (by intro h;cases h)⟩⟩
instance {a:Nat}{K0:Bk}[c:Ws k (YS P n ops SP nd K i m pl listed w0 L w) S Q]:Ws k (WL P a Ed (Ft (YS P n ops SP nd K i m pl listed w0) K0) [] L w) S Q:=⟨λs q=>.nil (c.h s q)⟩
theorem gD(g off pl:List Nat){f:Nat}[d:Aa B w I N][a:Hd N g Hs][b:SO l m](h:∀w,Aa B w I N->A1 P n l.toArray (SG B I Hs) (qz off) K true m pl (Array.replicate m false) L w)(e:P.follows .mixedOrders=true:=by kernel_rfl):WC P n (.region f l.toArray true) K L w :=
 WC.drawn (SG B I Hs) (qz off) e (by
  have c:=h _ d.drew λ_=>a.h.sat ⟨.refl I⟩ d.drew
  rw[<-b.h]at c;simpa using c)
theorem A1.dn(h:K .normal L w)(ok:Kr (GX ops nd 0 [] listed):=by exact⟨by kernel_rfl⟩):A1 P n ops SP nd K hold 0 [] listed L w:=λ_=>WD.done (by have:=ok.h;unfold GX at this;simpa using this) h
theorem gF{g S1 S2 S3 d i:Prop}{f:(Va->Wo->Prop)->Prop}{l:Va->Wo->Prop}(k:Nat)[a:Ws k g S1 d][b:Bn d i][c:Cl i S2 f l][j:Cj S1 S2 S3]{w1:Wo}{T:La->La}{R:La}{X:La->Va->Wo->Prop}(n:∀R,Aa B w1 I (T R)->f (X R))[m:Aa B w1 I N][e:lL N T R]
  (q:∀v w',X R v w'->l v w') (s:Sd S3:=by exact sd):g:=a.h (j.h s.h).1 (b.h (c.h (j.h s.h).2 (X R) (n R (e.h.sat m)) q))
theorem gE{g S1 S2 S3 l m:Prop}{f:(Va->Wo->Prop)->Prop}{o:Va->Wo->Prop}(k:Nat)[a:Ws k g S1 l][b:Bn l m][c:Cl m S2 f o][j:Cj S1 S2 S3]{w1 d:Wo}{i:Im}{E:Va}{T n:La->La}{R:La}(r:∀R,Aa B w1 I (T R)->f (λv w'=>v=E/\Aa d w' i (n R)))[p:Aa B w1 I N][e:lL N T R]
  (q:∀w',Aa d w' i (n R)->o E w') (s:Sd S3:=by exact sd):g:=a.h (j.h s.h).1 (b.h (c.h (j.h s.h).2 _ (r R (e.h.sat p)) λv w' h=>by obtain⟨rfl,h⟩:=h;exact q w' h))
theorem gP{g S1 S2 S3 d i:Prop}{f:(Va->Wo->Prop)->Prop}{l:Va->Wo->Prop}(k:Nat)(o:List Nat)[a:Ws k g S1 d][b:Bn d i][c:Cl i S2 f l][j:Cj S1 S2 S3]{w1:Wo}{X:Va->Wo->Prop}[m:Aa B w1 I N][e:Pk N o Bh](n:Aa B w1 I Bh->f X)
  (q:∀v w',X v w'->l v w') (s:Sd S3:=by exact sd):g:=a.h (j.h s.h).1 (b.h (c.h (j.h s.h).2 X (n (e.h.sat m)) q))
class ZH(N:La)(Hs R:outParam La):Prop where h:N=Um Hs R
instance {N Hs R:La}[a:ZH N Hs R]:ZH (A::N) (A::Hs) R:=⟨by rw[a.h]⟩
instance (priority:=low){N:La}:ZH N [] N:=⟨O⟩
@[reducible] def rgR:Nat->List Nat->List Nat
 | 0,l=>l
 | n+1,l=>rgR n (n::l)
class rh(a:List Nat)(b:outParam (List Nat)):Prop where h:a=b
instance:rh [] []:=⟨O⟩
instance {x:Nat}{l r:List Nat}[a:rh l r]:rh (x::l) (x::r):=⟨by rw[a.h]⟩
theorem gQ{g:Nat}[d:Aa B w I N][a:ZH N Hs Bh][b:SO l m][c:rh (rgR m []) pl](h:∀w,Aa B w I N->A1 P n l.toArray (SG B I Hs) (qz []) K true m pl (Array.replicate m false) L w)(f:P.follows .mixedOrders=true:=by kernel_rfl):WC P n (.region g l.toArray true) K L w :=
 have i:∀w,Aa B w I N->SG B I Hs w:=λw d=>⟨I,Bh,.refl I,a.h▸d⟩
 WC.drawn (SG B I Hs) (qz []) f (by
  have e:=h _ d.drew λ_=>i _ d.drew
  rw[<-b.h]at e;simpa using e)
theorem gB(i j:Nat)(p q:List Nat){o o':Oper}[a:Is (DB l i) o][b:Is (DB l j) o'](c:WL P n l.toArray (Ft (YS P n l.toArray SP nd K i m p listed w) (N3 K)) [o] L w)(d:WL P n l.toArray (Ft (YS P n l.toArray SP nd K j m q listed w) (N3 K)) [o'] L w)
  (ok:Region.ready .any l.toArray listed=[i,j]:=by kernel_rfl):A1 P n l.toArray SP nd K hold (m+1) [] listed L w:=λ_=>WD.branch [i,j] ok O (WO.cons (KZ a) c (WO.cons (KZ b) d WO.nil))
instance {r:List Nat}{f:Nat}{xs:List Operand}[a:Is (DB l i) ⟨some d,.call ⟨.value (.func f),xs.toArray,ts⟩,ty,pos,af,none⟩][j:Fn P f][hx:OS [] L xs vs][lt:Lt d n]:
  Cl (A1 P n l.toArray SP nd K hold (m+1) (i::r) listed L w) (Kr (GX l.toArray nd (m+1) (i::r) listed)) (λR=>Calls P f vs.toArray w (AY R)) (λv w'=>YS P n l.toArray SP nd K i m r listed w ((d,v)::L) w') :=
 ⟨λok R b c=>by
  obtain⟨fn,e,g⟩:=j.h;refine A1.yJ ok.h (KZ a) O ?_;exact .call e g (hx.h (λ_ h=>by cases h) n) lt.h b λv w' k=>.nil (c v w' k)⟩
end
section
variable {P:Program} {n k d i m:Nat} {l:List Oper} {K:Bk} {L:AB} {w w0:Wo} {B:Wo} {I J:Im} {N Bh Hs:La} {S S1 S2 S3 Q q:Prop} {op:Op} {v u:Va} {ty:TypeId} {pos:String} {af:Array Edge} {nd:Nat->Bool} {SP:Wo->Prop} {pl:List Nat} {listed:Array Bool} {o:Oper} {hold:Bool}
theorem A1.y(i:Nat){r:List Nat}{v:Va}{d:Nat}[o:Is (DB l i) ⟨some d,op,ty,pos,af,none⟩](hx:∀w J R,Le I J->Aa B w J (Um Hs R)->Ex P n L w ⟨some d,op,ty,pos,af,none⟩ v w)(c:A1 P n l.toArray (SG B I Hs) nd K true m r (listed.setIfInBounds i true) ((d,v)::L) w)
  (ok:Kr (GX l.toArray nd (m+1) (i::r) listed&&(!GL op&&(mf .any l.toArray nd i&&mi .any l.toArray listed))):=by exact⟨by kernel_rfl⟩) (p:Nat.blt d n=true:=by rfl):A1 P n l.toArray (SG B I Hs) nd K true (m+1) (i::r) listed L w:=λa=>by
 have h:=ok.h;rw[Y8,Y8]at h;obtain⟨b,q,s⟩:=h;obtain⟨e,f,g,_,_⟩:=oP b (KZ o) (su q);exact WD.DL (i:=i) (KZ o) e f g s (a O) (λw ⟨J,R,j,k⟩=>hx w J R j k) p (c a)
theorem A1.j(i:Nat){r:List Nat}{v:Va}{d:Nat}[o:Is (DB l i) ⟨some d,op,ty,pos,af,none⟩](hx:∀w,Ex P n L w ⟨some d,op,ty,pos,af,none⟩ v w)(c:A1 P n l.toArray SP nd K hold m r (listed.setIfInBounds i true) ((d,v)::L) w)
  (ok:Kr (GX l.toArray nd (m+1) (i::r) listed&&!GL op):=by exact⟨by kernel_rfl⟩) (f:Nat.blt d n=true:=by rfl):A1 P n l.toArray SP nd K hold (m+1) (i::r) listed L w:=λg=>by
 have h:=ok.h;rw[Y8]at h;obtain⟨a,b,e,_,_⟩:=oP h.1 (KZ o) (su h.2);exact WD.XT (i:=i) (KZ o) a b e hx f (c g)
theorem A1.e{r:List Nat}{o:Oper}[a:Is (DB l i) o](h:WL P n l.toArray (Ft (YS P n l.toArray SP nd K i m r listed w) (N3 K)) [o] L w)(ok:Kr (GX l.toArray nd (m+1) (i::r) listed&&GL o.op):=by exact⟨by kernel_rfl⟩):A1 P n l.toArray SP nd K hold (m+1) (i::r) listed L w :=
 have b:=ok.h
 A1.yJ (by rw[Y8]at b;exact b.1) (KZ a) (by rw[Y8]at b;exact b.2) h
end
end Gk
section
open Go Go.Proofs Gk
abbrev Cz(f : FuncId)(l : Lv)(w : Wo)(Q : Va->Wo->Prop): Prop := Calls Tryz.prog f l.toArray w (AY Q)
abbrev Ce(B : Wo)(I : Im)(N : La)(f : FuncId)(l : Lv)(w : Wo)(E : Va): Prop := Cz f l w λv w' => v = E/\Aa B w' I N
theorem Cz.mono{l : Lv}{Q : Va->Wo->Prop}(h : Cz f l w Q)(k : ∀e w', AY Q e w'->R e w'): Calls Tryz.prog f l.toArray w R := Calls.mono h k
end
section
open Go.Proofs
abbrev IG:=@Tryz.func139
abbrev IH:=@Tryz.func234
abbrev II:=@Tryz.func265
abbrev FJ:=@Tryz.func331
abbrev G1:=@Tryz.func332
abbrev G2:=@Tryz.func333
abbrev FK:=@Tryz.func412
abbrev FL:=@Tryz.func453
abbrev IJ:=@Tryz.func467
abbrev ik:=@Tryz.isAgg0
abbrev Mr:=@Tryz.isAgg121
abbrev Zk:=@Tryz.isAgg124
abbrev R9:=@Tryz.isAgg126
abbrev mI:=@Tryz.isAgg128
abbrev mJ:=@Tryz.isAgg133
abbrev aB:=@Tryz.isAgg135
abbrev mK:=@Tryz.isAgg140
abbrev O4:=@Tryz.isAgg21
abbrev mL:=@Tryz.isAgg211
abbrev Ms:=@Tryz.isAgg257
abbrev O5:=@Tryz.isAgg26
abbrev O6:=@Tryz.isAgg27
abbrev aC:=@Tryz.isAgg271
abbrev IK:=@Tryz.isAgg29
abbrev ja:=@Tryz.isAgg291
abbrev BJ:=@Tryz.isAgg3
abbrev mM:=@Tryz.isAgg368
abbrev mN:=@Tryz.isAgg384
abbrev SY:=@Tryz.isAgg39
abbrev IL:=@Tryz.isAgg4
abbrev IM:=@Tryz.isAgg450
abbrev E1:=@Tryz.isAgg46
abbrev SZ:=@Tryz.isAgg49
abbrev IP:=@Tryz.isAgg498
abbrev Gc:=@Tryz.isAgg5
abbrev O7:=@Tryz.isAgg62
abbrev S0:=@Tryz.isAgg80
abbrev Bg:=@Tryz.isAgg9
abbrev mO:=@Tryz.results256
abbrev il:=@Tryz.sizeOf0
abbrev mP:=@Tryz.sizeOf121
abbrev Ij:=@Tryz.sizeOf124
abbrev Jf:=@Tryz.sizeOf126
abbrev R_:=@Tryz.sizeOf128
abbrev HF:=@Tryz.sizeOf133
abbrev aD:=@Tryz.sizeOf135
abbrev mQ:=@Tryz.sizeOf140
abbrev O8:=@Tryz.sizeOf21
abbrev mR:=@Tryz.sizeOf211
abbrev O9:=@Tryz.sizeOf24
abbrev mS:=@Tryz.sizeOf257
abbrev HA:=@Tryz.sizeOf26
abbrev E2:=@Tryz.sizeOf27
abbrev IQ:=@Tryz.sizeOf29
abbrev jb:=@Tryz.sizeOf291
abbrev Bl:=@Tryz.sizeOf3
abbrev Mt:=@Tryz.sizeOf307
abbrev Ik:=@Tryz.sizeOf368
abbrev S4:=@Tryz.sizeOf37
abbrev IU:=@Tryz.sizeOf374
abbrev jc:=@Tryz.sizeOf378
abbrev IV:=@Tryz.sizeOf39
abbrev DO:=@Tryz.sizeOf4
abbrev IW:=@Tryz.sizeOf450
abbrev Gz:=@Tryz.sizeOf46
abbrev fE:=@Tryz.sizeOf467
abbrev Gr:=@Tryz.sizeOf49
abbrev DT:=@Tryz.sizeOf5
abbrev Mu:=@Tryz.sizeOf522
abbrev ZP:=@Tryz.sizeOf61
abbrev O_:=@Tryz.sizeOf80
abbrev S5:=@Tryz.sizeOf87
abbrev S6:=@Tryz.sizeOf88
abbrev AQ:=@Tryz.sizeOf9
abbrev Gt:=@Tryz.sizeOf96
abbrev im:=@Tryz.underlying0
abbrev TV:=@Tryz.underlying110
abbrev Zl:=@Tryz.underlying117
abbrev aE:=@Tryz.underlying121
abbrev Zm:=@Tryz.underlying124
abbrev FP:=@Tryz.underlying126
abbrev aF:=@Tryz.underlying128
abbrev G9:=@Tryz.underlying133
abbrev fF:=@Tryz.underlying135
abbrev Zn:=@Tryz.underlying140
abbrev Mv:=@Tryz.underlying147
abbrev S7:=@Tryz.underlying156
abbrev jd:=@Tryz.underlying159
abbrev Mw:=@Tryz.underlying182
abbrev iq:=@Tryz.underlying20
abbrev KF:=@Tryz.underlying21
abbrev Mx:=@Tryz.underlying211
abbrev MW:=@Tryz.underlying22
abbrev fG:=@Tryz.underlying224
abbrev je:=@Tryz.underlying234
abbrev KG:=@Tryz.underlying24
abbrev IX:=@Tryz.underlying246
abbrev mT:=@Tryz.underlying257
abbrev KH:=@Tryz.underlying26
abbrev IY:=@Tryz.underlying269
abbrev S8:=@Tryz.underlying27
abbrev S9:=@Tryz.underlying273
abbrev IZ:=@Tryz.underlying276
abbrev Gu:=@Tryz.underlying29
abbrev jf:=@Tryz.underlying291
abbrev B1:=@Tryz.underlying3
abbrev ZQ:=@Tryz.underlying30
abbrev jg:=@Tryz.underlying302
abbrev mU:=@Tryz.underlying307
abbrev fH:=@Tryz.underlying309
abbrev S_:=@Tryz.underlying33
abbrev Pb:=@Tryz.underlying34
abbrev jh:=@Tryz.underlying349
abbrev I0:=@Tryz.underlying352
abbrev KI:=@Tryz.underlying36
abbrev fI:=@Tryz.underlying368
abbrev Sa:=@Tryz.underlying370
abbrev I3:=@Tryz.underlying374
abbrev I4:=@Tryz.underlying375
abbrev I5:=@Tryz.underlying378
abbrev I6:=@Tryz.underlying382
abbrev My:=@Tryz.underlying384
abbrev Mz:=@Tryz.underlying386
abbrev D6:=@Tryz.underlying39
abbrev KJ:=@Tryz.underlying4
abbrev MA:=@Tryz.underlying410
abbrev Ta:=@Tryz.underlying411
abbrev KK:=@Tryz.underlying42
abbrev Tb:=@Tryz.underlying431
abbrev fJ:=@Tryz.underlying439
abbrev FM:=@Tryz.underlying44
abbrev MP:=@Tryz.underlying450
abbrev MB:=@Tryz.underlying453
abbrev BV:=@Tryz.underlying46
abbrev Tc:=@Tryz.underlying467
abbrev MC:=@Tryz.underlying475
abbrev Td:=@Tryz.underlying485
abbrev Iq:=@Tryz.underlying49
abbrev BP:=@Tryz.underlying5
abbrev MD:=@Tryz.underlying501
abbrev Te:=@Tryz.underlying504
abbrev Pd:=@Tryz.underlying51
abbrev mV:=@Tryz.underlying516
abbrev ME:=@Tryz.underlying522
abbrev Tf:=@Tryz.underlying526
abbrev Tg:=@Tryz.underlying528
abbrev Th:=@Tryz.underlying529
abbrev iu:=@Tryz.underlying58
abbrev ZR:=@Tryz.underlying61
abbrev I7:=@Tryz.underlying62
abbrev Ti:=@Tryz.underlying73
abbrev E3:=@Tryz.underlying85
abbrev A8:=@Tryz.underlying9
abbrev Pe:=@Tryz.underlying90
abbrev iv:=@Tryz.underlying92
abbrev Pf:=@Tryz.underlying94
abbrev iw:=@Tryz.underlying96
abbrev ix:=@Tryz.zeroValue0
abbrev Tj:=@Tryz.zeroValue124
abbrev Tl:=@Tryz.zeroValue126
abbrev Tm:=@Tryz.zeroValue128
abbrev I8:=@Tryz.zeroValue135
abbrev iy:=@Tryz.zeroValue20
abbrev Pg:=@Tryz.zeroValue21
abbrev ji:=@Tryz.zeroValue291
abbrev Ph:=@Tryz.zeroValue3
abbrev Tn:=@Tryz.zeroValue309
abbrev To:=@Tryz.zeroValue378
abbrev ZS:=@Tryz.zeroValue39
abbrev Tp:=@Tryz.zeroValue4
abbrev Tq:=@Tryz.zeroValue431
abbrev MF:=@Tryz.zeroValue450
abbrev ZT:=@Tryz.zeroValue46
abbrev I9:=@Tryz.zeroValue467
abbrev Ts:=@Tryz.zeroValue485
abbrev MG:=@Tryz.zeroValue5
abbrev iz:=@Tryz.zeroValue51
abbrev Tu:=@Tryz.zeroValue528
abbrev Tv:=@Tryz.zeroValue529
abbrev KL:=@Tryz.zeroValue9
end
namespace Go.Proofs.W9
open Gk Go
open Tryz
instance:Ag prog 3 false:=⟨BJ⟩
instance:Ag prog 4 false:=⟨IL⟩
instance:Ag prog 5 false:=⟨Gc⟩
instance:Ag prog 9 false:=⟨Bg⟩
instance:Ag prog 22 false:=⟨isAgg22⟩
instance:Ag prog 23 false:=⟨isAgg23⟩
instance:Ag prog 27 false:=⟨O6⟩
instance:Ag prog 29 true:=⟨IK⟩
instance:Ag prog 33 false:=⟨isAgg33⟩
instance:Ag prog 34 false:=⟨isAgg34⟩
instance:Ag prog 36 true:=⟨isAgg36⟩
instance:Ag prog 37 false:=⟨isAgg37⟩
instance:Ag prog 39 false:=⟨SY⟩
instance:Ag prog 42 false:=⟨isAgg42⟩
instance:Ag prog 44 false:=⟨isAgg44⟩
instance:Ag prog 46 false:=⟨E1⟩
instance:Ag prog 49 false:=⟨SZ⟩
instance:Ag prog 51 true:=⟨isAgg51⟩
instance:Ag prog 58 true:=⟨isAgg58⟩
instance:Ag prog 61 true:=⟨isAgg61⟩
instance:Ag prog 62 false:=⟨O7⟩
instance:Ag prog 80 false:=⟨S0⟩
instance:Ag prog 81 false:=⟨isAgg81⟩
instance:Ag prog 82 false:=⟨isAgg82⟩
instance:Ag prog 83 false:=⟨isAgg83⟩
instance:Ag prog 86 false:=⟨isAgg86⟩
instance:Ag prog 87 false:=⟨isAgg87⟩
instance:Ag prog 88 false:=⟨isAgg88⟩
instance:Ag prog 91 false:=⟨isAgg91⟩
instance:Ag prog 92 false:=⟨isAgg92⟩
instance:Ag prog 121 false:=⟨Mr⟩
instance:Ag prog 124 true:=⟨Zk⟩
instance:Ag prog 126 true:=⟨R9⟩
instance:Ag prog 128 true:=⟨mI⟩
instance:Ag prog 133 true:=⟨mJ⟩
instance:Ag prog 135 true:=⟨aB⟩
instance:Ag prog 136 false:=⟨isAgg136⟩
instance:Ag prog 140 true:=⟨mK⟩
instance:Ag prog 147 true:=⟨isAgg147⟩
instance:Ag prog 159 true:=⟨isAgg159⟩
instance:Ag prog 211 true:=⟨mL⟩
instance:Ag prog 234 true:=⟨isAgg234⟩
instance:Ag prog 246 true:=⟨isAgg246⟩
instance:Ag prog 257 true:=⟨Ms⟩
instance:Ag prog 269 false:=⟨isAgg269⟩
instance:Ag prog 271 false:=⟨aC⟩
instance:Ag prog 302 true:=⟨isAgg302⟩
instance:Ag prog 307 false:=⟨isAgg307⟩
instance:Ag prog 349 true:=⟨isAgg349⟩
instance:Ag prog 352 true:=⟨isAgg352⟩
instance:Ag prog 368 true:=⟨mM⟩
instance:Ag prog 374 false:=⟨isAgg374⟩
instance:Ag prog 375 false:=⟨isAgg375⟩
instance:Ag prog 376 false:=⟨isAgg376⟩
instance:Ag prog 378 true:=⟨isAgg378⟩
instance:Ag prog 384 false:=⟨mN⟩
instance:Ag prog 422 false:=⟨isAgg422⟩
instance:Ag prog 498 false:=⟨IP⟩
instance:Ag prog 499 false:=⟨isAgg499⟩
instance:Bd prog 29 [(0,1),(1,1),(2,21),(23,1),(24,1),(25,1),(26,1),(27,1)] [.slice none 0 0,.slice none 0 0,Ab 0,Ab 0,Ab 0,Ab 0,Ab 0,Ab 0,Ab 0,Ab 0,Ab 0,Ab 0,Ab 0,Ab 0,Ab 0,Ab 0,Ab 0,Ab 0,Ab 0,Ab 0,Ab 0,Ab 0,Ab 0,Ab 0,.float .f64 0,.float .f64 0,.float .f64 0,Ab 0]:=⟨CZ Gu zeroValue29 (λw=>by simp[go_sem])⟩
instance:Bd prog 36 [(0,1),(1,1),(2,1),(3,1),(4,1)] [Ab 0,S [],Ab 0,.slice none 0 0,.slice none 0 0]:=⟨CZ KI zeroValue36 (λw=>by simp[go_sem])⟩
instance:Bd prog 51 [(0,1),(1,1),(2,1),(3,1)] [S [],S [],.slice none 0 0,S []]:=⟨CZ Pd iz (λw=>by simp[go_sem])⟩
instance:Bd prog 58 [(0,1),(1,1)] [S [],S []]:=⟨CZ iu zeroValue58 (λw=>by simp[go_sem])⟩
instance:Bd prog 61 [(0,1),(1,1),(2,1)] [Ab 0,.slice none 0 0,S []]:=⟨CZ ZR zeroValue61 (λw=>by simp[go_sem])⟩
instance:Bd prog 85 [(0,1),(1,1),(2,1),(3,1),(4,21),(25,1)] [.pointer none,.pointer none,.pointer none,.pointer none,Ab 0,Ab 0,Ab 0,Ab 0,Ab 0,Ab 0,Ab 0,Ab 0,Ab 0,Ab 0,Ab 0,Ab 0,Ab 0,Ab 0,Ab 0,Ab 0,Ab 0,Ab 0,Ab 0,Ab 0,Ab 0,Ab 0]:=⟨CZ E3 zeroValue85 (λw=>by simp[go_sem])⟩
instance:Bd prog 90 [(0,1),(1,1),(2,1)] [.pointer none,.pointer none,.pointer none]:=⟨CZ Pe zeroValue90 (λw=>by simp[go_sem])⟩
instance:Bd prog 94 [(0,1),(1,1),(2,1),(3,1),(4,1)] [.slice none 0 0,.slice none 0 0,.slice none 0 0,.bool false,Ab 0]:=⟨CZ Pf zeroValue94 (λw=>by simp[go_sem])⟩
instance:Bd prog 117 [(0,1),(1,1),(2,1),(3,1),(4,3),(7,1),(8,1)] [.pointer none,.pointer none,.slice none 0 0,S [],Ab 0,.slice none 0 0,S [],S [],.bool false]:=⟨CZ Zl zeroValue117 (λw=>by simp[go_sem])⟩
instance:Bd prog 124 [(0,1),(1,1)] [S [],S []]:=⟨CZ Zm Tj (λw=>by simp[go_sem])⟩
instance:Bd prog 126 [(0,1),(1,1),(2,1),(3,1),(4,1),(5,1),(6,1),(7,1),(8,1),(9,1)] [Ab 0,S [],S [],S [],S [],S [],Ab 0,Ab 0,Ab 0,.bool false]:=⟨CZ FP Tl (λw=>by simp[go_sem])⟩
instance:Bd prog 128 [(0,1),(1,1),(2,1),(3,1)] [S [],S [],Ab 0,Ab 0]:=⟨CZ aF Tm (λw=>by simp[go_sem])⟩
instance:Bd prog 133 [(0,1),(1,1),(2,1),(3,1),(4,1),(5,1),(6,1),(7,1)] [Ab 0,.float .f64 0,S [],.bool false,.bool false,.bool false,S [],.slice none 0 0]:=⟨CZ G9 zeroValue133 (λw=>by simp[go_sem])⟩
instance:Bd prog 135 [(0,1),(1,1),(2,1)] [S [],S [],.slice none 0 0]:=⟨CZ fF I8 (λw=>by simp[go_sem])⟩
instance:Bd prog 140 [(0,1),(1,1),(2,1),(3,1)] [S [],.slice none 0 0,S [],.slice none 0 0]:=⟨CZ Zn zeroValue140 (λw=>by simp[go_sem])⟩
instance:Bd prog 147 [(0,1),(1,1),(2,1)] [S [],S [],S []]:=⟨CZ Mv zeroValue147 (λw=>by simp[go_sem])⟩
instance:Bd prog 156 [(0,1),(1,1)] [Ab 0,.slice none 0 0]:=⟨CZ S7 zeroValue156 (λw=>by simp[go_sem])⟩
instance:Bd prog 159 [(0,1),(1,1),(2,1),(3,1),(4,1)] [Ab 0,.float .f64 0,.float .f64 0,.float .f64 0,.slice none 0 0]:=⟨CZ jd zeroValue159 (λw=>by simp[go_sem])⟩
instance:Bd prog 161 [(0,1)] [.slice none 0 0]:=⟨CZ underlying161 zeroValue161 (λw=>by simp[go_sem])⟩
instance:Bd prog 172 [(0,1)] [S []]:=⟨CZ underlying172 zeroValue172 (λw=>by simp[go_sem])⟩
instance:Bd prog 211 [(0,1),(1,1),(2,1)] [S [],S [],S []]:=⟨CZ Mx zeroValue211 (λw=>by simp[go_sem])⟩
instance:Bd prog 234 [(0,1),(1,1),(2,1),(3,1),(4,1),(5,1)] [S [],S [],.bool false,.bool false,.bool false,.bool false]:=⟨CZ je zeroValue234 (λw=>by simp[go_sem])⟩
instance:Bd prog 246 [(0,1),(1,1),(2,1),(3,1)] [S [],.slice none 0 0,.slice none 0 0,S []]:=⟨CZ IX zeroValue246 (λw=>by simp[go_sem])⟩
instance:Bd prog 257 [(0,1),(1,1),(2,1)] [S [],S [],.bool false]:=⟨CZ mT zeroValue257 (λw=>by simp[go_sem])⟩
instance:Bd prog 273 [(0,1),(1,1)] [.pointer none,.map none]:=⟨CZ S9 zeroValue273 (λw=>by simp[go_sem])⟩
instance:Bd prog 302 [(0,1),(1,1),(2,1),(3,1),(4,1),(5,1)] [S [],S [],Ab 0,S [],S [],.bool false]:=⟨CZ jg zeroValue302 (λw=>by simp[go_sem])⟩
instance:Bd prog 349 [(0,1),(1,1),(2,1),(3,1),(4,1),(5,1)] [S [],S [],S [],Ab 0,.bool false,.bool false]:=⟨CZ jh zeroValue349 (λw=>by simp[go_sem])⟩
instance:Bd prog 352 [(0,1),(1,1),(2,1),(3,1)] [S [],S [],.bool false,.bool false]:=⟨CZ I0 zeroValue352 (λw=>by simp[go_sem])⟩
instance:Bd prog 368 [(0,1),(1,1),(2,1)] [Ab 0,Ab 0,Ab 0]:=⟨CZ fI zeroValue368 (λw=>by simp[go_sem])⟩
instance:Bd prog 370 [(0,1),(1,3),(4,1)] [.pointer none,Ab 0,Ab 0,Ab 0,.slice none 0 0]:=⟨CZ Sa zeroValue370 (λw=>by simp[go_sem])⟩
instance:Bd prog 378 [(0,8),(8,1),(9,1)] [Ab 0,.float .f64 0,S [],.bool false,.bool false,.bool false,S [],.slice none 0 0,.pointer none,.pointer none]:=⟨CZ I5 To (λw=>by simp[go_sem])⟩
instance:Bd prog 382 [(0,1)] [.slice none 0 0]:=⟨CZ I6 zeroValue382 (λw=>by simp[go_sem])⟩
instance:Bd prog 386 [(0,1)] [.map none]:=⟨CZ Mz zeroValue386 (λw=>by simp[go_sem])⟩
instance:Bd prog 467 [(0,1),(1,32)] [Ab 0,.int .u8 0,.int .u8 0,.int .u8 0,.int .u8 0,.int .u8 0,.int .u8 0,.int .u8 0,.int .u8 0,.int .u8 0,.int .u8 0,.int .u8 0,.int .u8 0,.int .u8 0,.int .u8 0,.int .u8 0,.int .u8 0,.int .u8 0,.int .u8 0,.int .u8 0,.int .u8 0,.int .u8 0,.int .u8 0,.int .u8 0,.int .u8 0,.int .u8 0,.int .u8 0,.int .u8 0,.int .u8 0,.int .u8 0,.int .u8 0,.int .u8 0,.int .u8 0]:=⟨CZ Tc I9 (λw=>by simp[go_sem])⟩
instance:Bd prog 501 [(0,1),(1,1),(2,1)] [.slice none 0 0,.slice none 0 0,.slice none 0 0]:=⟨CZ MD zeroValue501 (λw=>by simp[go_sem])⟩
instance:Bd prog 504 [(0,1),(1,1)] [.slice none 0 0,Ab 0]:=⟨CZ Te zeroValue504 (λw=>by simp[go_sem])⟩
instance:Bd prog 522 [(0,1),(1,1),(2,1)] [.int .u8 0,.int .u8 0,.slice none 0 0]:=⟨CZ ME zeroValue522 (λw=>by simp[go_sem])⟩
abbrev i3:=fb func3 ntmps3 results3
abbrev i4:=fb func4 ntmps4 results4
abbrev i5:=fb func5 ntmps5 results5
abbrev i6:=fb func6 ntmps6 results6
abbrev i7:=fb func7 ntmps7 results7
abbrev i8:=fb func8 ntmps8 results8
abbrev i9:=fb func9 ntmps9 results9
abbrev i10:=fb func10 ntmps10 results10
abbrev i11:=fb func11 ntmps11 results11
abbrev i12:=fb func12 ntmps12 results12
abbrev i13:=fb func13 ntmps13 results13
abbrev i14:=fb func14 ntmps14 results14
abbrev i15:=fb func15 ntmps15 results15
abbrev i16:=fb func16 ntmps16 results16
abbrev i17:=fb func17 ntmps17 results17
abbrev i18:=fb func18 ntmps18 results18
abbrev i19:=fb func19 ntmps19 results19
abbrev i20:=fb func20 ntmps20 results20
abbrev i21:=fb func21 ntmps21 results21
abbrev i22:=fb func22 ntmps22 results22
abbrev i23:=fb func23 ntmps23 results23
abbrev i24:=fb func24 ntmps24 results24
abbrev i25:=fb func25 ntmps25 results25
abbrev i26:=fb func26 ntmps26 results26
abbrev i27:=fb func27 ntmps27 results27
abbrev i28:=fb func28 ntmps28 results28
abbrev i29:=fb func29 ntmps29 results29
abbrev i30:=fb func30 ntmps30 results30
abbrev i31:=fb func31 ntmps31 results31
abbrev i32:=fb func32 ntmps32 results32
abbrev i33:=fb func33 ntmps33 results33
abbrev i34:=fb func34 ntmps34 results34
abbrev i35:=fb func35 ntmps35 results35
abbrev i36:=fb func36 ntmps36 results36
abbrev i37:=fb func37 ntmps37 results37
abbrev i38:=fb func38 ntmps38 results38
abbrev i39:=fb func39 ntmps39 results39
abbrev i40:=fb func40 ntmps40 results40
abbrev i41:=fb func41 ntmps41 results41
abbrev i42:=fb func42 ntmps42 results42
abbrev i43:=fb func43 ntmps43 results43
abbrev i44:=fb func44 ntmps44 results44
abbrev i45:=fb func45 ntmps45 results45
abbrev i46:=fb func46 ntmps46 results46
abbrev i47:=fb func47 ntmps47 results47
abbrev i48:=fb func48 ntmps48 results48
abbrev i49:=fb func49 ntmps49 results49
abbrev i50:=fb func50 ntmps50 results50
abbrev i51:=fb func51 ntmps51 results51
abbrev i52:=fb func52 ntmps52 results52
abbrev i53:=fb func53 ntmps53 results53
abbrev i54:=fb func54 ntmps54 results54
abbrev i55:=fb func55 ntmps55 results55
abbrev i56:=fb func56 ntmps56 results56
abbrev i57:=fb func57 ntmps57 results57
abbrev i58:=fb func58 ntmps58 results58
abbrev i59:=fb func59 ntmps59 results59
abbrev i60:=fb func60 ntmps60 results60
abbrev i61:=fb func61 ntmps61 results61
abbrev i62:=fb func62 ntmps62 results62
abbrev i64:=fb func64 ntmps64 results64
abbrev i65:=fb func65 ntmps65 results65
abbrev i66:=fb func66 ntmps66 results66
abbrev i67:=fb func67 ntmps67 results67
abbrev i68:=fb func68 ntmps68 results68
abbrev i69:=fb func69 ntmps69 results69
abbrev i70:=fb func70 ntmps70 results70
abbrev i71:=fb func71 ntmps71 results71
abbrev i72:=fb func72 ntmps72 results72
abbrev i73:=fb func73 ntmps73 results73
abbrev i74:=fb func74 ntmps74 results74
abbrev i75:=fb func75 ntmps75 results75
abbrev i76:=fb func76 ntmps76 results76
abbrev i77:=fb func77 ntmps77 results77
abbrev i78:=fb func78 ntmps78 results78
abbrev i79:=fb func79 ntmps79 results79
abbrev i80:=fb func80 ntmps80 results80
abbrev i81:=fb func81 ntmps81 results81
abbrev i82:=fb func82 ntmps82 results82
abbrev i83:=fb func83 ntmps83 results83
abbrev i84:=fb func84 ntmps84 results84
abbrev i85:=fb func85 ntmps85 results85
abbrev i86:=fb func86 ntmps86 results86
abbrev i87:=fb func87 ntmps87 results87
abbrev i88:=fb func88 ntmps88 results88
abbrev i89:=fb func89 ntmps89 results89
abbrev i90:=fb func90 ntmps90 results90
abbrev i91:=fb func91 ntmps91 results91
abbrev i92:=fb func92 ntmps92 results92
abbrev i93:=fb func93 ntmps93 results93
abbrev i94:=fb func94 ntmps94 results94
abbrev i95:=fb func95 ntmps95 results95
abbrev i96:=fb func96 ntmps96 results96
abbrev i97:=fb func97 ntmps97 results97
abbrev i98:=fb func98 ntmps98 results98
abbrev i99:=fb func99 ntmps99 results99
abbrev yQ:=fb func100 ntmps100 results100
end Go.Proofs.W9
