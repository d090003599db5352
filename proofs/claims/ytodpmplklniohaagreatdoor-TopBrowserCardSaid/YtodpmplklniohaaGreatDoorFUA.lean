/- Part 1 of what the proof stands on. -/
import Derived.Test.YtodpmplklniohaaGreatDoorProg
import Derived.StillTail
import Derived.OrdersHeld
import Derived.Laws.FloatArith
import Derived.Lib.MapLaws
import Derived.Lib.LazyBuf
import Derived.Shelf.Strings.OnBuilder
import Derived.Shelf.Small.Utf8
import Derived.Shelf.Small.Wraps
import Derived.Shelf.Utf8.RuneCount
import Derived.Shelf.Strconv.Itoa3
import Derived.Shelf.Strconv.ErrVarAll
import Derived.Shelf.Strings.Shaped
import Derived.Shelf.Strings.SplitShaped
import Derived.Shelf.Unicode.Decode
import Derived.Shelf.Strings.RuneCount
import Derived.Shelf.Unicode.DecodeAny
import Derived.Shelf.Slices.Clone
import Derived.Shelf.SlSortCmp.NoneTotal
import Derived.WideMake
import Derived.Deep.Strs
import Derived.Shelf.Strings.SlTrimAscii
import Derived.RangeFuncSeq
import Derived.OrdersIn
import Derived.Lib.ItoaLen
import Derived.Lib.LaidU8
import Derived.Lay
import Derived.HandedShaped
import Derived.OpenShut
set_option linter.unusedVariables false
set_option linter.unusedSimpArgs false
set_option maxHeartbeats 2000000
set_option maxRecDepth 20000
set_option synthInstance.maxHeartbeats 400000
set_option synthInstance.maxSize 10000
open Go in
abbrev Lu:=List UInt8
open Go in
abbrev Lv:=List Value
open Go in
abbrev Oa:=Option Addr
open Go in
abbrev Wo:=World
abbrev Ui:=UInt8
open Go in
abbrev Va:=Value
theorem dq2{p:Prop}[Decidable p]:(decide p=false)<->Not p:=decide_eq_false_iff_not
theorem dq1{p:Prop}[Decidable p]:(decide p=true)=p:=decide_eq_true_eq
theorem om{p:Prop}(h:p:=by omega):p:=h
theorem de{p:Prop}(h:p:=by decide):p:=h
theorem kr{p:Prop}(h:p:=by kernel_rfl):p:=h
theorem sz{p:Prop}(h:p:=by simp):p:=h
theorem su{p q:Prop}(h:p)(k:p->q:=by intro h;simpa using h):q:=k h
theorem oh{p q:Prop}(h:p)(k:p->q:=by intro h;omega):q:=k h
theorem od{p:Prop}(h:p:=by(try dsimp only);omega):p:=h
theorem nB{α:Type}{a b:α}{q:Prop}(h:a=b)(k:a=b->q:=by intro h;rw[h];decide):q:=k h
theorem dk{p:Prop}(h:p:=by decide+kernel):p:=h
theorem lz{p:Prop}(h:p:=by first|(simp;done)|exact Nat.le_of_ble_eq_true rfl):p:=h
theorem O{α:Sort _}{a:α}:a=a:=rfl
open Go
variable {p:Addr}{Ad:Array Bool}{af:Array Edge}{fs:Array Field}{ops GJ:Array Oper}{ts:Array TypeId}{held want:Bool}{R:Ending->Wo->Prop}{fd:Field}{fn:Func}{f:FuncId}{Fx FA kind FH:Int}{G:List (Bool×Bool)}{pl:List (Nat×Nat)}{T:List Int}{D ks:List Nat}{rest:List Oper}{Ay Bi key nm pw Ap u:Lu}{args cs ds news vs xs zs:Lv}{b bytes c cap d d0 d1 db fuel i k kb lg m n n0 nn o size:Nat}{nd sp:Nat->Bool}{ps:Nat->Int}{a a0 ka:Oa}{op:Op}{P:Program}{S1 S2 g1 g2:Prop}{pos:String}{H X α β σ:Type}{E dst src t' ty:TypeId}{us v v0:Va}{B w:Wo}{C:Wo->Prop}
namespace Gk
theorem cs0: (∀(p : Prop) [Decidable p], (decide p = true) = p) ∧ (∀(p : Prop) [Decidable p], (decide p = false)↔¬ p) ∧ (∀{α : Type} [BEq α] [LawfulBEq α] {a b : α}, (a==b) = true↔a = b) ∧ (∀{α : Type} [BEq α] [LawfulBEq α] {a b : α}, (a==b) = false↔a≠b) ∧ (∀{α : Type} [BEq α] [LawfulBEq α] {a b : α}, (a !=b) = true↔a≠b) ∧ (∀(b : Bool), ((!b) = true) = (b = false)) ∧ (∀(b : Bool), ((!b) = false) = (b = true)) ∧ (∀(a b : Bool), ((a||b) = true) = (a = true ∨ b = true)) ∧ (∀(a b : Bool), ((a&&b) = true) = (a = true ∧ b = true)) ∧ (∀(a b : Bool), ((a||b) = false) = (a = false ∧ b = false)) ∧ (∀(a b : Bool), ((a&&b) = false) = (a = false ∨ b = false)) ∧ (∀{α : Type} (a b : α), (a≠b) = ¬ (a = b)) ∧ (∀{a b : Int}, ¬ a<b↔b ≤ a) ∧ (∀{a b : Int}, ¬ a ≤ b↔b<a) ∧ (∀{α : Type} [BEq α] [LawfulBEq α] {a b : α}, (a !=b) = false↔a = b) ∧ (∀(b : Bool), (¬ (b = true)) = (b = false)) ∧ (∀(b : Bool), (¬ (b = false)) = (b = true)) :=
 ⟨λp _ => dq1, λp _ => dq2, beq_iff_eq, beq_eq_false_iff_ne, bne_iff_ne, (by intro b;cases b<;>decide), (by intro b;cases b<;>decide), (by intro a b;cases a<;>cases b<;>decide), (by intro a b;cases a<;>cases b<;>decide), (by intro a b;cases a<;>cases b<;>decide), (by intro a b;cases a<;>cases b<;>decide), λ_ _ => ne_eq _ _, Int.not_lt, Int.not_le, bne_eq_false_iff_eq, (by intro b;cases b<;>decide), (by intro b;cases b<;>decide)⟩
theorem ot{p q:Prop}(h:p)(k:p->q:=by intro h;(try simp only[Gk.cs0]at h);omega):q:=k h
end Gk
abbrev Y0:=@List.length_append
abbrev Y1:=@List.getElem?_eq_some_iff
abbrev Y2:=@List.getElem?_eq_getElem
abbrev Y3:=@if_neg
abbrev Y4:=@Nat.zero_le
abbrev Y5:=@congrArg
abbrev Y6:=@List.mem_of_getElem?
abbrev Y7:=@if_pos
abbrev Y8:=@Int.toNat_natCast
abbrev Y9:=@List.getElem?_append_left
abbrev Ya:=@List.getD_eq_getElem?_getD
abbrev Yb:=@Bool.and_eq_true
abbrev Yc:=@List.append_assoc
abbrev Yd:=@Nat.le_refl
abbrev Ye:=@List.length_drop
abbrev Yf:=@List.eq_nil_of_length_eq_zero
abbrev Yg:=@List.take_of_length_le
abbrev Yh:=@List.length_map
abbrev Yi:=@List.mem_cons
abbrev Yj:=@Nat.zero_add
abbrev Yk:=@List.drop_of_length_le
abbrev Yl:=@List.length_take
abbrev Ym:=@List.map_append
abbrev Yn:=@List.mem_append
abbrev Yo:=@List.take_add_one
abbrev Yp:=@List.drop_eq_getElem_cons
abbrev Yq:=@List.getElem?_append_right
abbrev Yr:=@List.append_nil
abbrev Ys:=@List.getElem?_map
abbrev Yt:=@List.map_cons
abbrev Yu:=@Option.toList_some
abbrev Yv:=@List.all_eq_true
abbrev Yw:=@List.length_filter_le
abbrev Yx:=@Nat.le_trans
abbrev Yy:=@absurd
abbrev Yz:=@List.cons_append
abbrev Lk:=@Array.getD_eq_getD_getElem?
abbrev Ez:=@List.nil_append
abbrev C5:=@Nat.lt_or_ge
abbrev Ll:=@Array.getElem?_eq_some_iff
abbrev H5:=@Nat.le_of_ble_eq_true
abbrev Fw:=@List.not_mem_nil
abbrev HH:=@List.mem_singleton
abbrev O2:=@Array.getElem?_eq_getElem
abbrev Mv:=@List.take_append_drop
abbrev Kw:=@List.drop_succ_cons
abbrev Mw:=@Bool.or_eq_false_iff
abbrev Fg:=@List.mem_map
abbrev JG:=@List.flatten_cons
abbrev O3:=@List.mem_iff_getElem?
abbrev Jm:=@List.take_length
abbrev Lm:=@List.foldl_append
abbrev Nx:=@Nat.eq_zero_or_pos
abbrev JH:=@UInt8.toNat_inj
abbrev Ln:=@List.filter_cons
abbrev Ky:=@List.foldl_cons
abbrev Hm:=@List.map_nil
abbrev Hn:=@Nat.add_zero
abbrev Gv:=@Nat.mul_one
abbrev RR:=@List.flatMap_append
abbrev U4:=@Nat.mul_le_mul_right
abbrev RT:=@List.filter_append
abbrev a_:=@List.find?_cons_of_neg
abbrev qD:=@List.drop_append_of_le_length
abbrev U5:=@List.length_pos_iff
abbrev Zt:=@List.getElem?_modify
abbrev bd:=@List.perm_append_comm
abbrev U6:=@List.getElem?_drop
abbrev Zu:=@Array.length_toList
abbrev O4:=@List.mem_filter
abbrev U7:=@List.ext_getElem?
abbrev PM:=@Bool.or_eq_true
abbrev jr:=@List.getElem?_eq_none
abbrev js:=@List.length_replicate
abbrev jt:=@List.length_singleton
abbrev O5:=@List.drop_zero
abbrev lr:=@Option.map_eq_some_iff
abbrev Ny:=@List.all_cons
abbrev bf:=@List.pairwise_cons
abbrev lu:=@Array.getElem?_toList
abbrev ju:=@List.flatten_append
abbrev Zw:=@List.getElem_mem
abbrev yp:=@List.take_append_of_le_length
abbrev RU:=@List.take_zero
abbrev lx:=@List.mem_cons_of_mem
abbrev qE:=@List.find?_cons_of_pos
abbrev jw:=@List.getElem?_take
abbrev PN:=@List.sum_cons
abbrev qF:=@Bool.and_eq_false_iff
abbrev U9:=@List.take_left
abbrev yq:=@List.isPrefixOf_iff_prefix
abbrev Zx:=@List.drop_left
abbrev yr:=@List.mem_of_find?_eq_some
abbrev Zy:=@UInt8.toNat_lt
abbrev U_:=@Bool.true_and
abbrev qG:=@List.take_succ_cons
abbrev ly:=@Bool.not_eq_true'
abbrev lA:=@List.flatMap_cons
abbrev sT:=@List.mem_append_right
abbrev sU:=@List.set_getElem_self
abbrev Y2s:=@Array.getElem?_setIfInBounds
abbrev jx:=@Nat.min_eq_left
abbrev yt:=@Option.bind_eq_some_iff
abbrev sV:=@List.getElem?_append
abbrev sW:=@List.mem_append_left
abbrev sX:=@List.mem_of_mem_take
abbrev Y2y:=@Gk.cs0
abbrev sY:=@List.mem_map_of_mem
abbrev RV:=@Nat.add_mul
abbrev jy:=@Bool.and_false
abbrev Y32:=@List.isPrefixOf_cons_cons
abbrev yu:=@List.set_append_right
abbrev Zz:=@Nat.add_comm
abbrev yv:=@UInt8.le_iff_toNat_le
abbrev sZ:=@Bool.not_eq_false'
abbrev qH:=@Option.bind_some
abbrev yw:=@List.pairwise_append
abbrev Y39:=@List.getElem?_cons_succ
abbrev bg:=@Nat.pow_succ
abbrev bh:=@Nat.succ_mul
abbrev yx:=@Int.toNat_of_nonneg
abbrev yy:=@List.filter_eq_self
abbrev qI:=@List.nodup_cons
abbrev yz:=@List.takeWhile_cons
abbrev Y3g:=@List.dropWhile_cons_of_neg
abbrev s5:=@List.drop_length
abbrev s6:=@List.mem_flatMap
abbrev Y3j:=@Array.getElem?_modify
abbrev lB:=@Bool.false_or
abbrev jz:=@Nat.zero_mul
abbrev Y3m:=@List.mem_or_eq_of_mem_set
abbrev Y3n:=@List.pairwise_iff_getElem
abbrev Y3o:=@List.eraseIdx_set_eq
abbrev Y3p:=@Array.getElem?_setIfInBounds_ne
abbrev yA:=@Array.toList_push
abbrev yB:=@List.getElem?_set
abbrev yC:=@List.size_toArray
abbrev s7:=@Option.map_some
abbrev lC:=@List.set_set
abbrev lD:=@Nat.mul_comm
abbrev Y3w:=@List.dropWhile_cons
abbrev Y3x:=@List.getElem_of_mem
abbrev Y3y:=@Nat.add_sub_cancel_left
abbrev yD:=@Bool.not_eq_true
abbrev yE:=@List.getElem_map
abbrev yF:=@Nat.le_add_right
abbrev yG:=@Option.getD_some
abbrev Y43:=@Array.getElem?_eq_none
abbrev Y44:=@List.getElem?_set_self
abbrev Y45:=@Bool.false_eq_true
abbrev Y46:=@List.set_cons_succ
abbrev yH:=@Bool.eq_iff_iff
abbrev yI:=@List.find?_cons
abbrev Y49:=@List.getElem?_toArray
abbrev Y4a:=@List.take_length_add_append
abbrev Y4b:=@Nat.ble_eq_true_of_le
abbrev qJ:=@Nat.sub_self
abbrev Y4d:=@Nat.two_pow_add_eq_or_of_lt
abbrev Y4e:=@Nat.pow_le_pow_right
abbrev yJ:=@Bool.false_and
abbrev yK:=@List.drop_drop
abbrev yL:=@List.mem_range
abbrev Y4i:=@List.any_eq_true
abbrev Y4j:=@Bool.or_eq_true_iff
abbrev Y4k:=@List.filter_sublist
abbrev Y4l:=@List.length_reverse
abbrev Y4m:=@Array.setIfInBounds_comm
abbrev s8:=@List.map_map
abbrev s9:=@List.sum_nil
abbrev Y4p:=@Array.empty_append
abbrev Y4q:=@Int.natCast_nonneg
abbrev Y4r:=@List.all_append
abbrev Y4s:=@List.cons_beq_cons
abbrev Y4t:=@List.contains_cons
abbrev Y4u:=@List.filter_nil
abbrev Y4v:=@List.mem_cons_self
abbrev Y4w:=@List.any_eq_false
abbrev Y4x:=@Bool.not_false
abbrev Y4y:=@List.contains_iff_mem
abbrev yM:=@Nat.sub_zero
abbrev Y50:=@List.drop_append
abbrev Y51:=@List.perm_middle
abbrev Y52:=@Nat.mod_eq_of_lt
abbrev Y53:=@Nat.succ_ne_zero
abbrev Y54:=@List.reverse_reverse
abbrev Y55:=@List.set_append_left
abbrev Y56:=@List.dropLast_concat_getLast
abbrev Y57:=@List.drop_nil
abbrev Y58:=@Array.getElem_setIfInBounds
abbrev Y59:=@List.drop_length_add_append
abbrev Y5a:=@List.length_set
abbrev Y5b:=@Nat.testBit_two_pow
abbrev Y5c:=@List.prefix_append
abbrev Y5d:=@UInt8.toNat_ofNat'
abbrev Y5e:=@List.getLast?_eq_getElem?
abbrev Y5f:=@List.getLastD_eq_getLast?
abbrev Y5g:=@Nat.mul_le_mul
abbrev Y5h:=@Bool.eq_false_iff
abbrev Y5i:=@Bool.not_eq_false
abbrev Y5j:=@List.all_eq_false
abbrev Y5k:=@List.mem_of_mem_eraseIdx
abbrev Y5l:=@List.nodup_append
abbrev Y5m:=@List.pairwise_map
abbrev yN:=@Nat.mod_lt
abbrev Y5o:=@Nat.or_lt_two_pow
abbrev Y5p:=@Bool.and_true
abbrev Y5q:=@Bool.not_true
abbrev Y5r:=@Int.eq_ofNat_of_zero_le
abbrev Y5s:=@List.any_cons
abbrev Y5t:=@List.eraseIdx_cons_zero
abbrev Y5u:=@List.getElem?_replicate
abbrev Y5v:=@Nat.add_assoc
abbrev Y5w:=@Array.toList_map
abbrev Y5x:=@List.flatten_nil
abbrev Y5y:=@List.append_eq_nil_iff
abbrev Y5z:=@List.dropWhile_sublist
abbrev Y60:=@List.length_pos_of_mem
abbrev Y61:=@List.map_set
abbrev Y62:=@Nat.le_of_lt
abbrev Y63:=@UInt8.not_lt
abbrev Y64:=@List.take_take
abbrev Y65:=@Nat.le_succ
abbrev Y66:=@List.map_take
abbrev Y67:=@Nat.mul_assoc
namespace Gk
open Go
abbrev AK:=List (Nat×Va)
abbrev S(l:Lu):Va:=.string ⟨l.toArray⟩
abbrev Ab(n:Int):Va:=.int .i64 n
abbrev U8(n:Int):Va:=.int .u8 n
theorem NA{a:Nat}(h:¬ a=b):Nat.beq a b=false:=by
 cases hb:Nat.beq a b
 ·rfl
 ·exact Yy (Nat.eq_of_beq_eq_true hb) h
def Bj:AK->Nat->Option Value
 | [],_=>none
 | (k,v)::L,t=>bif Nat.beq k t then some v else Bj L t
abbrev DK:Nat:=1099511627776
def look(L:AK)(t:Nat):Option Va:=bif Nat.beq t DK then none else Bj L t
def dl(L:AK):List Deferred:=match Bj L DK with
 | some (.func f _ cap)=>[{ target:=.fn f cap,args:=#[] }]
 | some (.map (some r))=>[{ target:=.collected r,args:=#[] }]
 | _=>[]
theorem xF{L:AK}{t:Nat}(h:look L t=some v):t≠DK/\Bj L t=some v:=by
 unfold look at h;cases hb:Nat.beq t DK with
 | true=>rw[hb]at h;cases h
 | false=>rw[hb]at h;exact⟨λe=>by subst e;simp at hb,h⟩
theorem Xs5{L:AK}{t:Nat}(ht:t≠DK)(h:Bj L t=some v):look L t=some v:=by
 unfold look;rw[NA ht];exact h
structure Aw(n:Nat)(L:AK)(a:Act):Prop where
 size:a.tmps.size=n
 small:n<=DK
 defers:a.defers=dl L
 get:∀t v,look L t=some v->a.tmps.getD t undef=v
def ev(L:AK):Operand->Option Value
 | .tmp t=>look L t
 | .const v=>some v
 | .global g=>some (.pointer (some ⟨g,0,none⟩))
 | .func f=>some (.func (.func f) #[] #[])
theorem Xr9{L:AK}{a:Act}(h:Aw n L a){x:Operand}(hx:ev L x=some v):a.eval x=v:=by
 cases x with
 | tmp t=>exact h.get t v hx
 | const u=>simpa[ev,Act.eval]using hx
 | global g=>simpa[ev,Act.eval]using hx
 | func f=>simpa[ev,Act.eval]using hx
theorem Aw.put{L:AK}{a:Act}(h:Aw n L a)(hd:Nat.blt d n=true)(v:Va):Aw n ((d,v)::L) (a.put (some d) v):=by
 have hd':d<n:=by have:=H5 hd;omega
 have hk:¬ d=DK:=λe=>by have:=h.small;omega
 refine⟨by simp[Act.put,h.size],h.small,?_,λt u hu=>?_⟩
 ·have:dl ((d,v)::L)=dl L:=by unfold dl;rw[Bj,NA hk];rfl
  rw[this];exact h.defers
 obtain⟨h1,hu⟩:=xF hu;unfold Bj at hu
 by_cases e:d=t
 ·subst e;simp at hu
  subst hu;simp[Act.put,h.size,hd',Lk]
 ·have hb:=NA e;rw[hb]at hu
  have:=h.get t u (Xs5 h1 hu)
  simpa[Act.put,Lk,Y2s,e]using this
theorem Aw.skip{L:AK}{a:Act}(h:Aw n L a)(v:Va):Aw n L (a.put none v):=h
def Sub:AK->AK->Prop
 | [],M=>match Bj M DK with
  | none=>True
  | some _=>False
 | (t,v)::L,M=>look M t=some v/\Sub L M
theorem Sub.Bj:∀{L M:AK},Sub L M->∀{t v},Bj L t=some v->look M t=some v
 | [],_,_,_,_,h=>by cases h
 | (k,u)::L,M,hs,t,v,h=>by
  unfold Gk.Bj at h
  by_cases e:k=t
  ·subst e;simp at h
   subst h;exact hs.1
  ·have hb:=NA e;rw[hb]at h;exact hs.2.Bj h
theorem Sub.none:∀{L M:AK},Sub L M->Gk.Bj M DK=.none
 | [],M,h=>by
  unfold Sub at h;cases e:Gk.Bj M DK with
  | none=>rfl
  | some v=>rw[e]at h;exact h.elim
 | (k,u)::L,M,h=>h.2.none
theorem Sub.look{L M:AK}(hs:Sub L M){t v}(h:look L t=some v):look M t=some v:=hs.Bj (xF h).2
theorem Sub.dl{L M:AK}(hs:Sub L M):dl M=dl L:=by
 unfold Gk.dl;rw[hs.none];cases e:Gk.Bj L DK with
 | none=>rfl
 | some v=>have:=(xF (hs.Bj e)).1;exact Yy O this
theorem Aw.sub{L M:AK}{a:Act}(h:Aw n M a)(hs:Sub L M):Aw n L a:=⟨h.size,h.small,h.defers.trans hs.dl,λt v hv=>h.get t v (hs.look hv)⟩
abbrev BK:=Exit->AK->Wo->Prop
def UX(n:Nat)(K:BK):Exit->Act->Wo->Prop:=λe a w=>∃L,Aw n L a/\K e L w
def WL(P:Program)(n:Nat)(ops:Array Oper)(K:BK)(l:List Oper)(L:AK)(w:Wo):Prop:=∀a,Aw n L a->wpList P ops (UX n K) l a w
def WC(P:Program)(n:Nat)(c:Code)(K:BK)(L:AK)(w:Wo):Prop:=∀a,Aw n L a->c.wp P (UX n K) a w
def HZ(next:AK->World->Prop)(K:BK):BK
 | .normal,L,w=>next L w
 | e,L,w=>K e L w
def k8(id:Nat)(K:BK):BK
 | .exit i,L,w=>bif Nat.beq i id then K .normal L w else K (.exit i) L w
 | e,L,w=>K e L w
section
variable {P:Program} {n:Nat} {K:BK} {L:AK} {w:Wo}
theorem WC.mono{c:Code}{K':BK}(h:WC P n c K L w)(hk:∀e L w,K e L w->K' e L w):WC P n c K' L w:=λa ha=>wp_mono (h a ha) λ_ _ _ ⟨L',h1,h2⟩=>⟨L',h1,hk _ _ _ h2⟩
theorem WC.sub{c:Code}{M:AK}(h:WC P n c K M w)(hs:Sub M L):WC P n c K L w:=λa ha=>h a (ha.sub hs)
theorem WC.seq{x y:Code}(h:WC P n x (HZ (λL w=>WC P n y K L w) K) L w):WC P n (.seq x y) K L w:=by
 intro a ha;refine wp_seq (wp_mono (h a ha) ?_);rintro e a' w' ⟨L',h1,h2⟩;cases e with
 | normal=>exact h2 a' h1
 | _=>exact⟨L',h1,h2⟩
theorem WC.cut{x y:Code}(J:AK->Wo->Prop)(h:WC P n x (HZ J K) L w)(h2:∀L w,J L w->WC P n y K L w):WC P n (.seq x y) K L w :=
 WC.seq (h.mono λe L w he=>by cases e<;>first|exact h2 _ _ he|exact he)
theorem WC.skip(h:K .normal L w):WC P n .skip K L w:=λ_ ha=>wp_skip ⟨L,ha,h⟩
theorem WC.label{l:Nat}(h:K .normal L w):WC P n (.label l) K L w:=λ_ ha=>wp_label ⟨L,ha,h⟩
theorem WC.exit{id:Nat}(h:K (.exit id) L w):WC P n (.exit id) K L w:=λ_ ha=>wp_exit ⟨L,ha,h⟩
theorem WC.ret(h:K .ret L w):WC P n .ret K L w:=λ_ ha=>wp_ret ⟨L,ha,h⟩
theorem WC.block{id:Nat}{c:Code}(h:WC P n c (k8 id K) L w):WC P n (.block id c) K L w:=by
 intro a ha;refine wp_block (wp_mono (h a ha) ?_);rintro e a' w' ⟨L',h1,h2⟩;cases e with
 | exit i =>
  unfold Exit.inBlock;unfold k8 at h2
  by_cases e:i=id
  ·subst e;simp only[if_true]
   simp at h2
   exact⟨L',h1,h2⟩
  ·simp only[e,if_false]
   have hb:=NA e;exact⟨L',h1,by simpa[hb]using h2⟩
 | _=>exact⟨L',h1,h2⟩
theorem WC.cond{c:Operand}{x y:Code}{b:Bool}(hc:ev L c=some (.bool b))(ht:b=true->WC P n x K L w)(hf:b=false->WC P n y K L w):WC P n (.cond c x y) K L w:=by
 intro a ha;have he:=Xr9 ha hc;cases b with
 | true=>exact wp_cond_true he (ht O a ha)
 | false=>exact wp_cond_false he (hf O a ha)
theorem WC.E1{c:Operand}{x y:Code}(hc:ev L c=some (.bool true))(h:WC P n x K L w):WC P n (.cond c x y) K L w:=WC.cond hc (λ_=>h) (λe=>by cases e)
theorem WC.AF{c:Operand}{x y:Code}(hc:ev L c=some (.bool false))(h:WC P n y K L w):WC P n (.cond c x y) K L w:=WC.cond hc (λe=>by cases e) (λ_=>h)
theorem WC.loop{c:Code}(E:σ->AK)(inv:σ->Wo->Prop)(μ:σ->Nat)(s0:σ)(hs:Sub (E s0) L)(h0:inv s0 w)
  (round:∀s w,inv s w->WC P n c (HZ (λL' w'=>∃s',Sub (E s') L'/\inv s' w'/\μ s'<μ s) K) (E s) w):WC P n (.loop c) K L w:=by
 intro a ha b k cs;have key:∀m s a w,μ s=m->Aw n (E s) a->inv s w->
   ∃e a' w',UX n K e a' w'/\Arrives P (lone (b.at a (.code c::.inLoop c::k)) cs w) b k cs e a' w':=by
  intro m
  induction m using Nat.strongRecOn with
  | _ m ih =>
   intro s a w hm ha hi;obtain⟨e,a1,w1,⟨L1,hL,hq⟩,DM⟩:=round s w hi a ha b (.inLoop c::k) cs;cases e with
   | normal =>
    obtain⟨s',Qt,hi',BO⟩:=hq;obtain⟨e2,a2,w2,E8,dD⟩:=ih (μ s') (hm▸BO) s' a1 w1 O (hL.sub Qt) hi';exact⟨e2,a2,w2,E8,.of_steps (Steps.trans DM (.one step_inLoop)) dD⟩
   | exit id=>exact⟨_,a1,w1,⟨L1,hL,hq⟩,.pass (x:=.inLoop c) O (λ_ _=>.inl sz) DM⟩
   | goto l=>exact⟨_,a1,w1,⟨L1,hL,hq⟩,.pass (x:=.inLoop c) O (λ_ _=>.inl sz) DM⟩
   | ret=>exact⟨_,a1,w1,⟨L1,hL,hq⟩,.pass (x:=.inLoop c) O (λ_ _=>.inl sz) DM⟩
   | panic ch=>exact⟨_,a1,w1,⟨L1,hL,hq⟩,.pass (x:=.inLoop c) O (λ_ _=>.inl sz) DM⟩
   | outgrown=>exact⟨_,a1,w1,⟨L1,hL,hq⟩,.pass (x:=.inLoop c) O (λ_ _=>.inl sz) DM⟩
 obtain⟨e,a',w',hq,DM⟩:=key _ s0 a w O (ha.sub hs) h0;exact⟨e,a',w',hq,.of_steps (.one step_loop) DM⟩
theorem WC.region{id:Nat}{l:List Oper}(h:WL P n l.toArray K l L w):WC P n (.region id l.toArray false) K L w:=λa ha=>wp_region_lit (h a ha)
def UG(P:Program)(n:Nat)(fn:Func)(R:Ending->World->Prop):BK
 | .normal,L,w|.ret,L,w=>dl L=[]/\∀a,Aw n L a->∃v,(results fn a.tmps).run P w=.ok v w/\R (.returned v) w
 | _,_,_=>False
def UK:Nat->List Value->AK
 | _,[]=>[]
 | i,v::l=>(i,v)::UK (i+1) l
theorem Xc5:∀(l:Lv) (i t:Nat) (v:Va),Bj (UK i l) t=some v->i<=t/\l[t-i]?=some v
 | [],_,_,_,h=>by cases h
 | u::l,i,t,v,h=>by
  unfold UK Bj at h
  by_cases e:i=t
  ·subst e;simp at h
   exact⟨Yd _,by simp[h]⟩
  ·have hb:=NA e;rw[hb]at h;obtain⟨h1,h2⟩:=Xc5 l (i+1) t v h;exact⟨om,by rw[show t-i=(t-(i+1))+1 by omega];simpa using h2⟩
theorem X6o(hn:fn.ntmps=n)(hle:(Nat.ble args.length n&&Nat.ble n DK)=true):Aw n (UK 0 args) { tmps:=args.toArray++Array.replicate (fn.ntmps-args.toArray.size) undef,defers:=[] }:=by
 have Ac6:args.length<=n/\n<=DK:=su hle
 refine⟨by simp[hn];omega,Ac6.2,?_,λt v hv=>?_⟩
 ·unfold dl;cases e:Bj (UK 0 args) DK with
  | none=>rfl
  | some v =>
   obtain⟨_,h2⟩:=Xc5 args 0 DK v e
   have:=(Y1.1 h2).1
   simp only[yM]at this
   omega
 obtain⟨_,h2⟩:=Xc5 args 0 t v (xF hv).2;simp only[yM]at h2
 have ht:t<args.length:=(Y1.1 h2).1;rw[Y2 ht]at h2;simpa[Lk,Array.getElem?_append,ht]using h2
theorem calls{c:Code}(hf:P.funcs[f]?=some fn)(hb:fn.body=some c)(hn:fn.ntmps=n)(hle:(Nat.ble args.length n&&Nat.ble n DK)=true)
  (h:WC P n c (UG P n fn R) (UK 0 args) w):Calls P f args.toArray w R:=by
 refine calls_of_wp hf hb (wp_mono (h _ (X6o hn hle)) ?_);rintro e a' w' ⟨L',h1,h2⟩;cases e with
 | normal=>exact⟨h1.defers.trans h2.1,h2.2 a' h1⟩
 | ret=>exact⟨h1.defers.trans h2.1,h2.2 a' h1⟩
 | _=>exact h2.elim
section wj
variable {fn:Func} {R:Ending->Wo->Prop}
theorem Ag5(h:fn.results=#[])(hR:R (.returned (.tuple #[])) w)(hd:dl L=[]:=by rfl):UG P n fn R .ret L w:=⟨hd,λa _=>⟨_,by simp[results,h],hR⟩⟩
theorem mf(h:fn.results=#[])(hR:R (.returned (.tuple #[])) w)(hd:dl L=[]:=by rfl):UG P n fn R .normal L w:=⟨hd,λa _=>⟨_,by simp[results,h],hR⟩⟩
theorem RN{t:Nat}(h:fn.results=#[.tmp t])(hv:look L t=some v)(hR:R (.returned v) w)(hd:dl L=[]:=by rfl):UG P n fn R .ret L w :=
 ⟨hd,λa ha=>⟨v,by have:=ha.get t v hv;simp[results,h];simpa[Lk]using this,hR⟩⟩
theorem fX{t u:Nat}{x:Va}(h:fn.results=#[.tmp t,.tmp u])(hv:look L t=some v)(hx:look L u=some x)(hR:R (.returned (.tuple #[v,x])) w)(hd:dl L=[]:=by rfl):UG P n fn R .ret L w :=
 ⟨hd,λa ha=>⟨_,by have h1:=ha.get t v hv;have h2:=ha.get u x hx;simp only[Lk]at h1 h2;simp[results,h,h1,h2],hR⟩⟩
theorem wi{t u r:Nat}{x y:Va}(h:fn.results=#[.tmp t,.tmp u,.tmp r])(hv:look L t=some v)(hx:look L u=some x)(hy:look L r=some y)(hR:R (.returned (.tuple #[v,x,y])) w)(hd:dl L=[]:=by rfl):UG P n fn R .ret L w :=
 ⟨hd,λa ha=>⟨_,by have h1:=ha.get t v hv;have h2:=ha.get u x hx;have h3:=ha.get r y hy;simp only[Lk]at h1 h2 h3;simp[results,h,h1,h2,h3],hR⟩⟩
end wj
end
def Ev(n:Nat)(L:AK)(x:Operand)(v:Va):Prop:=∀a,Aw n L a->a.eval x=v
def gd(b want:Bool)(v:Va):Va:=bif b==want then v else undef
def Ex(P:Program)(n:Nat)(L:AK)(w:Wo)(o:Oper)(v:Va)(w':Wo):Prop:=∀a,Aw n L a->(execOp a.eval o).run P w=.ok (.value v) w'
def Es(P:Program)(n:Nat)(L:AK)(w:Wo)(o:Oper)(w':Wo):Prop:=∀a,Aw n L a->(execOp a.eval o).run P w=.ok .skip w'
section
variable {P:Program} {n:Nat} {K:BK} {L:AK} {w w':Wo} {ops:Array Oper} {rest:List Oper}
theorem Ev.of{x:Operand}(h:ev L x=some v):Ev n L x v:=λ_ ha=>Xr9 ha h
theorem Ev.gd{x:Operand}{b:Bool}(hb:b=want)(h:ev L x=some (gd b want v)):Ev n L x v:=λa ha=>by
 rw[Xr9 ha h,hb];cases want<;>rfl
theorem wQ{o:Oper}(hg:o.guard=none)(y:Nat->Option Bool):Region.wanted o y=true:=by simp[Region.wanted,hg]
theorem WL.nil(h:K .normal L w):WL P n ops K [] L w:=λa ha=>wpList_nil ⟨L,ha,h⟩
theorem WL.val(hx:Ex P n L w ⟨some d,op,ty,pos,af,none⟩ v w')(hd:Nat.blt d n=true)
  (h:WL P n ops K rest ((d,v)::L) w'):WL P n ops K (⟨some d,op,ty,pos,af,none⟩::rest) L w:=by
 intro a ha;refine wpList_plain O λK' hK=>?_
 unfold Oper.wp;rw[hx a ha];exact hK _ _ (h _ (ha.put hd v))
theorem WL.st(hx:Es P n L w ⟨none,op,ty,pos,af,none⟩ w')
  (h:WL P n ops K rest L w'):WL P n ops K (⟨none,op,ty,pos,af,none⟩::rest) L w:=by
 intro a ha;refine wpList_plain O λK' hK=>?_
 unfold Oper.wp;rw[hx a ha];exact hK _ _ (h _ ha)
theorem zL{a:Act}{L:AK}(ha:Aw n L a){j t:Nat}{b:Bool}(hj:(ops[j]?).bind (·.dst)=some t)(hb:look L t=some (.bool b)):yielded ops a.tmps j=some b:=by
 have h1:=ha.get t _ hb;have BO:t<a.tmps.size:=by
  apply Classical.byContradiction
  intro hn;rw[Lk,Y43 om]at h1;cases h1
 rw[Lk,O2 BO]at h1;simp only[yG]at h1
 have h2:a.tmps[t]?=some (.bool b):=by rw[O2 BO,h1]
 obtain⟨o,ho,hd⟩:=yt.1 hj;simp[yielded,ho,hd,h2]
theorem WL.AA{j t:Nat}{b:Bool}
  (hj:(ops[j]?).bind (·.dst)=some t) (hb:look L t=some (.bool b)) (hx:b=want->Ex P n L w ⟨some d,op,ty,pos,af,some (j,want)⟩ v w) (hd:Nat.blt d n=true)
  (h:WL P n ops K rest ((d,gd b want v)::L) w):WL P n ops K (⟨some d,op,ty,pos,af,some (j,want)⟩::rest) L w:=by
 intro a ha;refine wpList_step λK' hK=>?_
 have hy:=zL ha hj hb;have BM:=h _ (ha.put hd (Gk.gd b want v));unfold Gk.gd at BM
 by_cases e:b=want
 ·rw[Y7 (by simp[Region.wanted,hy,e])];unfold Oper.wp;rw[hx e a ha];subst e;exact hK _ _ (su BM)
 ·rw[Y3 (by simp[Region.wanted,hy,e])];have e':(b==want)=false:=su e
  rw[e']at BM;exact hK _ _ (su BM)
def Fi:List (Bool×Bool)->Value->Value
 | [],v=>v
 | (b,want)::r,v=>gd b want (Fi r v)
theorem UA:∀{c:List (Bool×Bool)} {v:Va},(∀p∈c,p.1=p.2)->Fi c v=v
 | [],_,_=>rfl
 | (b,want)::r,v,h=>by
  have h1:b=want:=h (b,want) sz;subst h1;simp only[Fi,Gk.gd,beq_self_eq_true,cond_true]
  exact UA λp hp=>h p (lx _ hp)
theorem kN:∀{c:List (Bool×Bool)} {v:Va},¬ (∀p∈c,p.1=p.2)->Fi c v=undef
 | [],_,h=>Yy (λ_ hp=>by cases hp) h
 | (b,want)::r,v,h=>by
  by_cases e:b=want
  ·subst e;simp only[Fi,Gk.gd,beq_self_eq_true,cond_true]
   exact kN λhr=>h λp hp=>by
    rcases Yi.1 hp with rfl|hp
    ·rfl
    ·exact hr p hp
  ·have e':(b==want)=false:=su e
   simp only[Fi,Gk.gd,e',cond_false]
theorem WL.NK{j t:Nat}{c:List (Bool×Bool)}{b:Bool}
  (hj:(ops[j]?).bind (·.dst)=some t) (ht:Nat.blt t n=true) (hb:look L t=some (Fi c (.bool b))) (hx:(∀p∈c++[(b,want)],p.1=p.2)->Ex P n L w ⟨some d,op,ty,pos,af,some (j,want)⟩ v w) (hd:Nat.blt d n=true)
  (h:WL P n ops K rest ((d,Fi (c++[(b,want)]) v)::L) w):WL P n ops K (⟨some d,op,ty,pos,af,some (j,want)⟩::rest) L w:=by
 intro a ha;refine wpList_step λK' hK=>?_
 have BM:=h _ (ha.put hd (Fi (c++[(b,want)]) v));have BO:t<a.tmps.size:=by have:=H5 ht;rw[ha.size];omega
 have hv:=ha.get t _ hb;have hy:yielded ops a.tmps j=match Fi c (.bool b)with|.bool b=>some b|_=>none:=by
  obtain⟨o,ho,mP⟩:=yt.1 hj;rw[Lk,O2 BO]at hv;simp only[yG]at hv
  have h2:a.tmps[t]?=some (Fi c (.bool b)):=by rw[O2 BO,hv]
  simp only[yielded,ho,mP,qH,h2]
  generalize Fi c (.bool b)=g;cases g<;>rfl
 by_cases e:∀p∈c++[(b,want)],p.1=p.2
 ·have ec:∀p∈c,p.1=p.2:=λp hp=>e p (by simp[hp])
  have eb:b=want:=e (b,want) sz;rw[UA ec]at hy;rw[Y7 (by simp[Region.wanted,hy,eb])];unfold Oper.wp;rw[hx e a ha];rw[UA e]at BM;exact hK _ _ BM
 ·have hw:Region.wanted (⟨some d,op,ty,pos,af,some (j,want)⟩:Oper) (yielded ops a.tmps)=false:=by
   by_cases ec:∀p∈c,p.1=p.2
   ·rw[UA ec]at hy;have eb:¬ b=want:=λeb=>e λp hp=>by
     rcases Yn.1 hp with hp|hp
     ·exact ec p hp
     ·simp at hp;subst hp;exact eb
    simp[Region.wanted,hy,eb]
   ·rw[kN ec]at hy;simp[Region.wanted,hy,undef]
  rw[Y3 (by simp[hw])];rw[kN e]at BM;exact hK _ _ BM
theorem Ev.gd2{x:Operand}{b1 w1 b2 w2:Bool}(h1:b1=w1)(h2:b2=w2)(h:ev L x=some (Gk.gd b1 w1 (Gk.gd b2 w2 v))):Ev n L x v:=by
 subst h1;subst h2;refine Ev.of (h.trans ?_);simp[Gk.gd]
section pure
variable {d:Option Nat} {ty:TypeId} {pos:String} {af:Array Edge} {g:Option (Nat×Bool)}
theorem Ex.move{x:Operand}(hx:Ev n L x v):Ex P n L w ⟨d,.move x,ty,pos,af,g⟩ v w:=λa ha=>by simp[execOp,hx a ha]
theorem Ex.assign{x:Operand}(hx:Ev n L x v):Ex P n L w ⟨d,.assign x,ty,pos,af,g⟩ v w:=λa ha=>by simp[execOp,hx a ha]
theorem Ex.pick{c x y:Operand}{b:Bool}{u:Va}(hc:Ev n L c (.bool b))(hx:Ev n L x u)(hy:Ev n L y v):Ex P n L w ⟨d,.pick c x y,ty,pos,af,g⟩ (bif b then u else v) w :=
 λa ha=>by cases b<;>simp[execOp,hx a ha,hy a ha,hc a ha,asBool]
theorem Ex.por{c x y:Operand}{b r:Bool}(hc:Ev n L c (.bool b))(hx:Ev n L x (.bool true))(hy:Ev n L y (Gk.gd b false (.bool r))):Ex P n L w ⟨d,.pick c x y,ty,pos,af,g⟩ (.bool (b||r)) w :=
 λa ha=>by cases b<;>simp[execOp,hx a ha,hy a ha,hc a ha,asBool,Gk.gd]
theorem Ex.AbA{c x y:Operand}{b r:Bool}(hc:Ev n L c (.bool b))(hx:Ev n L x (Gk.gd b true (.bool r)))(hy:Ev n L y (.bool false)):Ex P n L w ⟨d,.pick c x y,ty,pos,af,g⟩ (.bool (b&&r)) w :=
 λa ha=>by cases b<;>simp[execOp,hx a ha,hy a ha,hc a ha,asBool,Gk.gd]
theorem Ex.extract{x:Operand}{vs:Array Va}(hx:Ev n L x (.tuple vs))(hi:vs[i]?=some v):Ex P n L w ⟨d,.extract x i,ty,pos,af,g⟩ v w :=
 λa ha=>by simp[execOp,hx a ha,Instr.extract,hi]
theorem Ex.not{x:Operand}{b:Bool}{t:TypeId}(hx:Ev n L x (.bool b)):Ex P n L w ⟨d,.unOp .not t x,ty,pos,af,g⟩ (.bool (!b)) w :=
 λa ha=>by simp[execOp,hx a ha,Op.unary]
theorem Ex.nilCheck{x:Operand}(hx:Ev n L x (.pointer (some p))):Ex P n L w ⟨d,.nilCheck x,ty,pos,af,g⟩ (.pointer (some p)) w :=
 λa ha=>by simp[execOp,hx a ha]
variable {t t':TypeId} {x y:Operand}
theorem Fa{op:BinOp}{u r:Va}(hx:Ev n L x u)(hy:Ev n L y v)(he:∀p q,(eqGuard op t p q u v).run P w=.ok () w)(hr:(binOp op t u v).run P w=.ok r w):Ex P n L w ⟨d,.binOp op t x y t',ty,pos,af,g⟩ r w :=
 λa ha=>by simp[execOp,hx a ha,hy a ha,he,hr]
theorem Xj(op:BinOp)(k:IntKind)(a b:Int)(p q:Operand):(eqGuard op t p q (.int k a) (.int k b)).run P w=.ok () w:=by
 unfold eqGuard;split<;>simp
theorem X9f(op:BinOp)(a b:ByteArray)(p q:Operand):(eqGuard op t p q (.string a) (.string b)).run P w=.ok () w:=by
 unfold eqGuard;split<;>simp
variable {k:IntKind} {i j:Int}
theorem Ex.lss(hx:Ev n L x (.int k i))(hy:Ev n L y (.int k j)):Ex P n L w ⟨d,.binOp .lss t x y t',ty,pos,af,g⟩ (.bool (decide (i<j))) w :=
 Fa hx hy (Xj _ _ _ _) (by simp[binOp,Op.intCmp])
theorem Ex.leq(hx:Ev n L x (.int k i))(hy:Ev n L y (.int k j)):Ex P n L w ⟨d,.binOp .leq t x y t',ty,pos,af,g⟩ (.bool (decide (i<=j))) w :=
 Fa hx hy (Xj _ _ _ _) (by simp[binOp,Op.intCmp])
theorem Ex.gtr(hx:Ev n L x (.int k i))(hy:Ev n L y (.int k j)):Ex P n L w ⟨d,.binOp .gtr t x y t',ty,pos,af,g⟩ (.bool (decide (j<i))) w :=
 Fa hx hy (Xj _ _ _ _) (by simp[binOp,Op.intCmp])
theorem Ex.geq(hx:Ev n L x (.int k i))(hy:Ev n L y (.int k j)):Ex P n L w ⟨d,.binOp .geq t x y t',ty,pos,af,g⟩ (.bool (decide (j<=i))) w :=
 Fa hx hy (Xj _ _ _ _) (by simp[binOp,Op.intCmp])
theorem Ex.eql(hx:Ev n L x (.int k i))(hy:Ev n L y (.int k j)):Ex P n L w ⟨d,.binOp .eql t x y t',ty,pos,af,g⟩ (.bool (i==j)) w :=
 Fa hx hy (Xj _ _ _ _) (by simp[binOp,Op.intCmp])
theorem Ex.neq(hx:Ev n L x (.int k i))(hy:Ev n L y (.int k j)):Ex P n L w ⟨d,.binOp .neq t x y t',ty,pos,af,g⟩ (.bool (i !=j)) w :=
 Fa hx hy (Xj _ _ _ _) (by simp[binOp,Op.intCmp])
theorem Ex.Aaa(hx:Ev n L x (.int k i))(hy:Ev n L y (.int k j)):Ex P n L w ⟨d,.binOp .add t x y t',ty,pos,af,g⟩ (.int k (k.wrap (i+j))) w :=
 Fa hx hy (Xj _ _ _ _) (by simp[binOp,Op.intArith])
theorem Ex.Ahd(hx:Ev n L x (.int k i))(hy:Ev n L y (.int k j)):Ex P n L w ⟨d,.binOp .sub t x y t',ty,pos,af,g⟩ (.int k (k.wrap (i-j))) w :=
 Fa hx hy (Xj _ _ _ _) (by simp[binOp,Op.intArith])
theorem Ex.AgZ(hx:Ev n L x (.int k i))(hy:Ev n L y (.int k j)):Ex P n L w ⟨d,.binOp .mul t x y t',ty,pos,af,g⟩ (.int k (k.wrap (i*j))) w :=
 Fa hx hy (Xj _ _ _ _) (by simp[binOp,Op.intArith])
abbrev Ic(i:Int):Prop:=-9223372036854775808<=i/\i<=9223372036854775807
theorem Xt5{i:Int}(h:Ic i):IntKind.i64.wrap i=i:=by
 obtain⟨h1,h2⟩:=h;rw[IntKind.wrap_i64];omega
theorem Ex.add(hx:Ev n L x (Ab i))(hy:Ev n L y (Ab j))(h:Ic (i+j)):Ex P n L w ⟨d,.binOp .add t x y t',ty,pos,af,g⟩ (Ab (i+j)) w :=
 Fa hx hy (Xj _ _ _ _) (by simp[binOp,Op.intArith,Xt5 h])
theorem Ex.sub(hx:Ev n L x (Ab i))(hy:Ev n L y (Ab j))(h:Ic (i-j)):Ex P n L w ⟨d,.binOp .sub t x y t',ty,pos,af,g⟩ (Ab (i-j)) w :=
 Fa hx hy (Xj _ _ _ _) (by simp[binOp,Op.intArith,Xt5 h])
theorem Ex.mul(hx:Ev n L x (Ab i))(hy:Ev n L y (Ab j))(h:Ic (i*j)):Ex P n L w ⟨d,.binOp .mul t x y t',ty,pos,af,g⟩ (Ab (i*j)) w :=
 Fa hx hy (Xj _ _ _ _) (by simp[binOp,Op.intArith,Xt5 h])
theorem Ex.eqp{p:Oa}{e:TypeId}(hx:Ev n L x (.pointer p))(hy:Ev n L y (.pointer none))(hT:P.underlying t=some (.pointer e)):Ex P n L w ⟨d,.binOp .eql t x y t',ty,pos,af,g⟩ (.bool p.isNone) w :=
 Fa hx hy (λ_ _=>by unfold eqGuard;split<;>simp) (run_eql_pointer_nil w t p (by simp[Program.pointee,hT]))
variable {l m:Lu}
theorem Ex.eqs(hx:Ev n L x (S l))(hy:Ev n L y (S m)):Ex P n L w ⟨d,.binOp .eql t x y t',ty,pos,af,g⟩ (.bool (l==m)) w :=
 Fa hx hy (X9f _ _ _) (by simp[binOp,Op.stringOp])
theorem Ex.nes(hx:Ev n L x (S l))(hy:Ev n L y (S m)):Ex P n L w ⟨d,.binOp .neq t x y t',ty,pos,af,g⟩ (.bool (!(l==m))) w :=
 Fa hx hy (X9f _ _ _) (by simp[binOp,Op.stringOp])
theorem Ex.cat(hx:Ev n L x (S l))(hy:Ev n L y (S m))(h:((l.length+m.length:Nat):Int)<=9223372036854775807):Ex P n L w ⟨d,.binOp .add t x y t',ty,pos,af,g⟩ (S (l++m)) w :=
 Fa hx hy (X9f _ _ _) (by
  have h1:((ByteArray.size ⟨l.toArray⟩+ByteArray.size ⟨m.toArray⟩:Nat):Int)=((l.length+m.length:Nat):Int):=rfl;have h2:¬ (((l.length+m.length:Nat):Int) > IntKind.i64.max):=by show ¬ ((l.length+m.length:Nat):Int) > 9223372036854775807;omega
  have h3:(⟨l.toArray⟩++⟨m.toArray⟩:ByteArray)=⟨(l++m).toArray⟩:=by
   apply ByteArray.ext
   simp
  simp only[binOp,Op.stringOp,h1,Y3 h2,h3,Sem.run_pure])
theorem Uz{t e:TypeId}(hT:P.underlying t=some (.slice e)):P.elem t=e:=by simp[Program.elem,hT]
theorem Ex.len(hx:Ev n L x (S l))(hT:P.underlying t=some .string):Ex P n L w ⟨d,.call ⟨.builtin .len,#[x],#[t]⟩,ty,pos,af,g⟩ (Ab l.length) w :=
 λa ha=>by
  have h:=run_len_string (P:=P) w t ty ⟨l.toArray⟩ hT;simp[execOp,resolve,invoke,builtin,hx a ha,h,goInt,ByteArray.size]
theorem Ex.D4{p:Oa}{k:Nat}{e:TypeId}(hx:Ev n L x (.slice p k c))(hT:P.underlying t=some (.slice e)):Ex P n L w ⟨d,.call ⟨.builtin .len,#[x],#[t]⟩,ty,pos,af,g⟩ (Ab k) w :=
 λa ha=>by
  have h:=run_len_slice (P:=P) w t ty p k c (by rw[Uz hT];exact hT);simp[execOp,resolve,invoke,builtin,hx a ha,h,goInt]
def at_(l:Lu)(i:Int):Ui:=l.getD i.toNat 0
theorem Ex.vA{c:Ui}(hx:Ev n L x (S l))(hy:Ev n L y (Ab i))(hi:0<=i)(hc:l[i.toNat]?=some c)(hT:P.underlying t=some .string):Ex P n L w ⟨d,.index t x y,ty,pos,af,g⟩ (U8 c.toNat) w :=
 λa ha=>by
  have h1:i.toNat<l.length:=(Y1.1 hc).1;have h2:=(Y1.1 hc).2;have h3:0<=i/\i<((ByteArray.size ⟨l.toArray⟩:Nat):Int):=⟨hi,by show i<(l.length:Int);omega⟩
  have h:=run_index_string (P:=P) w t ⟨l.toArray⟩ .i64 i hT;rw[dif_pos h3]at h;have h4:(⟨l.toArray⟩:ByteArray)[i.toNat]'(by show i.toNat<l.length;omega)=c:=h2;rw[h4]at h;simp[execOp,hx a ha,hy a ha,h]
theorem Ex.index(hx:Ev n L x (S l))(hy:Ev n L y (Ab i))(hi:0<=i)(hl:i<(l.length:Int))(hT:P.underlying t=some .string):Ex P n L w ⟨d,.index t x y,ty,pos,af,g⟩ (U8 (at_ l i).toNat) w:=by
 have h1:i.toNat<l.length:=om
 refine Ex.vA hx hy hi ?_ hT;rw[at_,Ya,Y2 h1];rfl
theorem TN(l:Lu)(a b:Nat):(Value.string ((⟨l.toArray⟩:ByteArray).extract a b))=S ((l.drop a).take (b-a)):=by
 rw[S,Lib.extract_eq]
theorem Ex.L9(hx:Ev n L x (S l))(hy:Ev n L y (Ab i))(h0:0<=i)(h1:i<=(l.length:Int))(hT:P.underlying t=some .string):Ex P n L w ⟨d,.slice t x (some y) none none,ty,pos,af,g⟩ (S (l.drop i.toNat)) w:=λa ha=>by
 have h:=run_slice_string_l (P:=P) w t ⟨l.toArray⟩ hT .i64 i h0 h1;rw[TN]at h;have e:(l.drop i.toNat).take ((⟨l.toArray⟩:ByteArray).size-i.toNat)=l.drop i.toNat:=Yg (by simp[ByteArray.size]);rw[e]at h;simp[execOp,hx a ha,hy a ha,run_sliceAt_string w t _ _ _ _ hT,h]
theorem Ex.AbN{z:Operand}(hx:Ev n L x (S l))(hz:Ev n L z (Ab j))(h1:0<=j)(h2:j<=(l.length:Int))(hT:P.underlying t=some .string):Ex P n L w ⟨d,.slice t x none (some z) none,ty,pos,af,g⟩ (S (l.take j.toNat)) w:=λa ha=>by
 have h:=run_slice_string_h (P:=P) w t ⟨l.toArray⟩ hT .i64 j h1 h2;rw[TN]at h;simp only[O5,yM]at h
 simp[execOp,hx a ha,hz a ha,run_sliceAt_string w t _ _ _ _ hT,h]
theorem Ex.min2{z:Operand}(hx:Ev n L x (.int k i))(hz:Ev n L z (.int k j)):Ex P n L w ⟨d,.call ⟨.builtin .min,#[x,z],ts⟩,ty,pos,af,g⟩ (.int k (min i j)) w:=λa ha=>by
 have e:(if j<i then j else i)=min i j:=by split<;>omega
 simp[execOp,resolve,invoke,builtin,hx a ha,hz a ha,Builtin.min_,Builtin.min2,e]
theorem Ex.max2{z:Operand}(hx:Ev n L x (.int k i))(hz:Ev n L z (.int k j)):Ex P n L w ⟨d,.call ⟨.builtin .max,#[x,z],ts⟩,ty,pos,af,g⟩ (.int k (max i j)) w:=λa ha=>by
 have e:(if i<j then j else i)=max i j:=by split<;>omega
 simp[execOp,resolve,invoke,builtin,hx a ha,hz a ha,Builtin.max_,Builtin.max2,e]
end pure
end
def tz:BinOp->Value->Value->Option (Value×Option Prop)
 | .lss,.int k a,.int k' b=>if k=k' then some (.bool (decide (a<b)),none)else none
 | .leq,.int k a,.int k' b=>if k=k' then some (.bool (decide (a<=b)),none)else none
 | .gtr,.int k a,.int k' b=>if k=k' then some (.bool (decide (b<a)),none)else none
 | .geq,.int k a,.int k' b=>if k=k' then some (.bool (decide (b<=a)),none)else none
 | .eql,.int k a,.int k' b=>if k=k' then some (.bool (a==b),none)else none
 | .neq,.int k a,.int k' b=>if k=k' then some (.bool (a !=b),none)else none
 | .eql,.string ⟨⟨a⟩⟩,.string ⟨⟨b⟩⟩=>some (.bool (a==b),none)
 | .neq,.string ⟨⟨a⟩⟩,.string ⟨⟨b⟩⟩=>some (.bool (!(a==b)),none)
 | .add,.int .i64 a,.int .i64 b=>some (.int .i64 (a+b),some (Ic (a+b)))
 | .sub,.int .i64 a,.int .i64 b=>some (.int .i64 (a-b),some (Ic (a-b)))
 | .mul,.int .i64 a,.int .i64 b=>some (.int .i64 (a*b),some (Ic (a*b)))
 | .add,.string ⟨⟨a⟩⟩,.string ⟨⟨b⟩⟩=>some (.string ⟨⟨a++b⟩⟩,some (((a.length+b.length:Nat):Int)<=9223372036854775807))
 | _,_,_=>none
def Xs9(P:Program)(L:AK):Op->Option (Value×Option Prop)
 | .move x=>match ev L x with
  | some v=>some (v,none)
  | none=>none
 | .assign x=>match ev L x with
  | some v=>some (v,none)
  | none=>none
 | .extract x i=>match ev L x with
  | some (.tuple vs)=>match vs[i]? with
   | some v=>some (v,none)
   | none=>none
  | _=>none
 | .nilCheck x=>match ev L x with
  | some (.pointer (some p))=>some (.pointer (some p),none)
  | _=>none
 | .unOp .not _ x=>match ev L x with
  | some (.bool b)=>some (.bool (!b),none)
  | _=>none
 | .binOp op _ x y _=>match ev L x with
  | some u=>match ev L y with
   | some v=>tz op u v
   | none=>none
  | none=>none
 | .call ⟨.builtin .len,⟨[x]⟩,⟨[t]⟩⟩=>match ev L x with
  | some (.string ⟨⟨l⟩⟩)=>some (.int .i64 (l.length:Nat),some (P.underlying t=some .string))
  | some (.slice _ k _)=>some (.int .i64 (k:Nat),some (∃e,P.underlying t=some (.slice e)))
  | _=>none
 | .index t x y=>match ev L x with
  | some (.string ⟨⟨l⟩⟩)=>match ev L y with
   | some (.int .i64 i)=>some (U8 (at_ l i).toNat,some ((0<=i/\i<(l.length:Int))/\P.underlying t=some .string))
   | _=>none
  | _=>none
 | _=>none
def Xsz(P:Program)(n:Nat)(L:AK)(o:Oper):Option (Nat×Value×Option Prop) :=
 match o.dst,o.guard with
 | some d,none=>match Nat.blt d n with
  | true=>match Xs9 P L o.op with
   | some (v,c)=>some (d,v,c)
   | none=>none
  | false=>none
 | _,_=>none
def runs(P:Program)(n:Nat):Nat->List Oper->AK->List Oper×AK×Prop
 | 0,l,L=>(l,L,True)
 | _+1,[],L=>([],L,True)
 | k+1,o::r,L=>match Xsz P n L o with
  | some (d,v,none)=>runs P n k r ((d,v)::L)
  | some (d,v,some c)=>match runs P n k r ((d,v)::L)with
   | (r',L',C)=>(r',L',c/\C)
  | none=>(o::r,L,True)
section
variable {P:Program} {n:Nat} {K:BK} {L:AK} {w:Wo} {ops:Array Oper}
def Holds?:Option Prop->Prop
 | none=>True
 | some c=>c
theorem lQ{d:Option Nat}{t:TypeId}{g:Option (Nat×Bool)}{x y:Operand}{op:BinOp}{u r:Va}{c:Option Prop}(hx:Ev n L x u)(hy:Ev n L y v)(h:tz op u v=some (r,c))(hc:Holds? c):Ex P n L w ⟨d,.binOp op t x y t',ty,pos,af,g⟩ r w:=by
 unfold tz at h;split at h
 ·split at h
  ·rename_i e;subst e;cases h;exact .lss hx hy
  ·cases h
 ·split at h
  ·rename_i e;subst e;cases h;exact .leq hx hy
  ·cases h
 ·split at h
  ·rename_i e;subst e;cases h;exact .gtr hx hy
  ·cases h
 ·split at h
  ·rename_i e;subst e;cases h;exact .geq hx hy
  ·cases h
 ·split at h
  ·rename_i e;subst e;cases h;exact .eql hx hy
  ·cases h
 ·split at h
  ·rename_i e;subst e;cases h;exact .neq hx hy
  ·cases h
 ·cases h;exact .eqs hx hy
 ·cases h;exact .nes hx hy
 ·cases h;exact .add hx hy hc
 ·cases h;exact .sub hx hy hc
 ·cases h;exact .mul hx hy hc
 ·cases h;exact .cat hx hy hc
 ·cases h
theorem Xyg{d:Option Nat}{g:Option (Nat×Bool)}{c:Option Prop}(h:Xs9 P L op=some (v,c))(hc:Holds? c):Ex P n L w ⟨d,op,ty,pos,af,g⟩ v w:=by
 unfold Xs9 at h;split at h
 ·split at h
  ·rename_i hx;cases h;exact .move (.of hx)
  ·cases h
 ·split at h
  ·rename_i hx;cases h;exact .assign (.of hx)
  ·cases h
 ·split at h
  ·rename_i hx
   split at h
   ·rename_i hi;cases h;exact .extract (.of hx) hi
   ·cases h
  ·cases h
 ·split at h
  ·rename_i hx;cases h;exact .nilCheck (.of hx)
  ·cases h
 ·split at h
  ·rename_i hx;cases h;exact .not (.of hx)
  ·cases h
 ·split at h
  ·rename_i hx
   split at h
   ·rename_i hy;exact lQ (.of hx) (.of hy) h hc
   ·cases h
  ·cases h
 ·split at h
  ·rename_i hx;cases h;exact .len (.of hx) hc
  ·rename_i hx;cases h
   obtain⟨e,he⟩:=hc;exact .D4 (.of hx) he
  ·cases h
 ·split at h
  ·rename_i hx
   split at h
   ·rename_i hy;cases h;exact .index (.of hx) (.of hy) hc.1.1 hc.1.2 hc.2
   ·cases h
  ·cases h
 ·cases h
theorem WL.TM{o:Oper}{r:List Oper}{c:Option Prop}(h1:Xsz P n L o=some (d,v,c))(hc:Holds? c)(h:WL P n ops K r ((d,v)::L) w):WL P n ops K (o::r) L w:=by
 obtain⟨dst,op,ty,pos,af,g⟩:=o;unfold Xsz at h1;cases dst with
 | none=>cases h1
 | some d =>
  cases g with
  | some g=>cases h1
  | none =>
   simp only at h1
   split at h1
   ·rename_i hd
    split at h1
    ·rename_i v c hv
     cases h1
     exact WL.val (Xyg hv hc) hd h
    ·cases h1
   ·cases h1
theorem WL.L5:∀(k:Nat) (l:List Oper) (L:AK),(runs P n k l L).2.2->WL P n ops K (runs P n k l L).1 (runs P n k l L).2.1 w->WL P n ops K l L w
 | 0,_,_,_,h=>h
 | _+1,[],_,_,h=>h
 | k+1,o::r,L,hc,h=>by
  unfold runs at h hc;split at h
  ·rename_i d v he
   rw[he]at hc;exact WL.TM he trivial (WL.L5 k r ((d,v)::L) hc h)
  ·rename_i d v c he
   rw[he]at hc;simp only at hc h
   exact WL.TM he hc.1 (WL.L5 k r ((d,v)::L) hc.2 h)
  ·exact h
theorem WL.run(k:Nat){l r:List Oper}{M:AK}{C:Prop}(hr:runs P n k l L=(r,M,C))(hc:C)(h:WL P n ops K r M w):WL P n ops K l L w:=by
 refine .L5 k l L ?_ ?_
 ·rw[hr];exact hc
 ·rw[hr];exact h
end
theorem WL.q{K:BK}{L:AK}(k:Nat){l r:List Oper}{M:AK}(hr:runs P n k l L=(r,M,True))(h:WL P n ops K r M w):WL P n ops K l L w:=WL.run k hr trivial h
theorem WC.q{K:BK}{L:AK}(k:Nat){id:Nat}{l:List Oper}{M:AK}(hr:runs P n k l L=([],M,True))(h:K .normal M w):WC P n (.region id l.toArray false) K L w:=WC.region (WL.run k hr trivial (WL.nil h))
theorem WC.t{K:BK}{L:AK}(k:Nat){id:Nat}{l r:List Oper}{M:AK}(hr:runs P n k l L=(r,M,True))(h:WL P n l.toArray K r M w):WC P n (.region id l.toArray false) K L w:=WC.region (WL.run k hr trivial h)
abbrev aT:=List (Nat×Obj)
abbrev X1:=aT->Prop
abbrev La:=List X1
abbrev Im:=Nat->Option Obj
def own(b:Nat)(o:Obj):X1:=λh=>h=[(b,o)]
def Xi(cs:Lv)(E:TypeId):Obj:=.cells cs.toArray E (0,0)
def Ae(b:Nat)(cs:Lv)(E:TypeId):X1:=own b (Xi cs E)
abbrev ptr(b o:Nat):Va:=.pointer (some ⟨b,o,none⟩)
def Ao:List X1->X1
 | [],h=>h=[]
 | A::As,h=>∃h1 h2,h=h1++h2/\A h1/\Ao As h2
@[reducible] def bD:List X1->List X1->List X1
 | [],R=>R
 | A::l,R=>A::bD l R
theorem PQ:∀l R:La,bD l R=l++R
 | [],_=>rfl
 | A::l,R=>by simp[bD,PQ l R]
structure Good(B w:Wo)(I:Im)(h:aT):Prop where
 os:w.os=B.os
 tape:w.tape=B.tape
 output:w.output=B.output
 MB:∀b o,I b=some o->w.heap[b]?=some o
 own:∀b o,(b,o)∈h->w.heap[b]?=some o
 nodup:(h.map (·.1)).Nodup
 apart:∀b o,(b,o)∈h->I b=none
class inductive Aa (B:outParam World) (w:World) (I:outParam Im) (As:outParam (List X1)):Prop where
 | mk (h:aT) (s:Ao As h) (g:Good B w I h):Aa B w I As
class Le(I:outParam Im)(J:Im):Prop where
 h:∀b o,I b=some o->J b=some o
theorem Le.refl(I:Im):Le I I:=⟨λ_ _ h=>h⟩
theorem Le.trans{I J M:Im}(h:Le I J)(k:Le J M):Le I M:=⟨λb o e=>k.h b o (h.h b o e)⟩
theorem Good.perm{I:Im}{h h':aT}(g:Good B w I h)(p:h.Perm h'):Good B w I h' :=
 ⟨g.os,g.tape,g.output,g.MB,λb o hm=>g.own b o (p.mem_iff.2 hm),(p.map _).nodup_iff.1 g.nodup,λb o hm=>g.apart b o (p.mem_iff.2 hm)⟩
theorem Good.left{I:Im}{h h':aT}(g:Good B w I (h++h')):Good B w I h :=
 ⟨g.os,g.tape,g.output,g.MB,λb o hm=>g.own b o (sW _ hm),by have:=g.nodup;rw[Ym]at this;exact(Y5l.1 this).1,λb o hm=>g.apart b o (sW _ hm)⟩
theorem Good.right{I:Im}{h h':aT}(g:Good B w I (h++h')):Good B w I h' :=
 (g.perm bd).left
theorem Ao.at_:∀{As:La} {k:Nat} {A:X1} {h:aT},As[k]?=some A->Ao As h->
  ∃h1 h2,h.Perm (h1++h2)/\A h1/\(∀(A':X1) (Fj:aT),A' Fj->∃h',Ao (As.set k A') h'/\h'.Perm (Fj++h2))/\(∃h',Ao (As.eraseIdx k) h'/\h'.Perm h2)
 | [],_,_,_,hk,_=>by simp at hk
 | A0::As,0,A,h,hk,hs=>by
  obtain⟨h1,h2,rfl,ha,hr⟩:=hs;simp at hk
  subst hk;exact⟨h1,h2,.refl _,ha,λA' Fj ha'=>⟨Fj++h2,⟨Fj,h2,O,ha',hr⟩,.refl _⟩,⟨h2,hr,.refl _⟩⟩
 | A0::As,k+1,A,h,hk,hs=>by
  obtain⟨g1,g2,rfl,ha0,hr⟩:=hs;obtain⟨h1,h2,hp,ha,BA,h3,he,GC⟩:=Ao.at_ (As:=As) (k:=k) (su hk) hr;refine⟨h1,g1++h2,?_,ha,λA' Fj ha'=>?_,⟨g1++h3,⟨g1,h3,O,ha0,he⟩,GC.append_left g1⟩⟩
  ·refine(hp.append_left g1).trans ?_;rw[<-Yc,<-Yc];exact bd.append_right _
  ·obtain⟨h',F6,F0⟩:=BA A' Fj ha';refine⟨g1++h',⟨g1,h',O,ha0,F6⟩,(F0.append_left g1).trans ?_⟩;rw[<-Yc,<-Yc];exact bd.append_right _
section
variable {B w w':Wo} {I:Im} {As:La} {k:Nat} {A A':X1} {b:Nat} {o o':Obj}
theorem Aa.block(hS:Aa B w I As)(hk:As[k]?=some (own b o)):w.heap[b]?=some o:=by
 obtain⟨h,hs,hg⟩:=hS;obtain⟨h1,h2,hp,ha,_⟩:=hs.at_ hk;rw[own]at ha;subst ha;exact(hg.perm hp).own b o sz
theorem Aa.say(hS:Aa B w I As)(hk:As[k]?=some A)(h:∀h,A h->A' h):Aa B w I (As.set k A'):=by
 obtain⟨g,hs,hg⟩:=hS;obtain⟨h1,h2,hp,ha,BA,_⟩:=hs.at_ hk;obtain⟨h',F6,F0⟩:=BA A' h1 (h h1 ha);exact⟨h',F6,hg.perm (hp.trans F0.symm)⟩
theorem Aa.opened(hS:Aa B w I As)(hk:As[k]?=some A){T:X->X1}(h:∀h,A h->∃x,T x h):∃x,Aa B w I (As.set k (T x)):=by
 obtain⟨g,hs,hg⟩:=hS;obtain⟨h1,h2,hp,ha,BA,_⟩:=hs.at_ hk;obtain⟨x,hx⟩:=h h1 ha;obtain⟨h',F6,F0⟩:=BA (T x) h1 hx;exact⟨x,h',F6,hg.perm (hp.trans F0.symm)⟩
theorem Aa.D5(hS:Aa B w I As)(hk:As[k]?=some A){p:Prop}(h:∀h,A h->p):p:=by
 obtain⟨g,hs,hg⟩:=hS;obtain⟨h1,h2,hp,ha,_⟩:=hs.at_ hk;exact h h1 ha
theorem Aa.drop(hS:Aa B w I As)(hk:As[k]?=some A):Aa B w I (As.eraseIdx k):=by
 obtain⟨h,hs,hg⟩:=hS;obtain⟨h1,h2,hp,_,_,h3,he,GC⟩:=hs.at_ hk;exact⟨h3,he,(hg.perm hp).right.perm GC.symm⟩
theorem Aa.freeze(hS:Aa B w I As)(hk:As[k]?=some (own b o)):∃J,Le I J/\J b=some o/\Aa B w J (As.eraseIdx k):=by
 obtain⟨h,hs,hg⟩:=hS;obtain⟨h1,h2,hp,ha,_,h3,he,GC⟩:=hs.at_ hk;rw[own]at ha;subst ha;have g:=hg.perm hp;have hb:I b=none:=g.apart b o sz;refine⟨λx=>if x=b then some o else I x,⟨λx y hx=>?_⟩,by simp,h3,he,Good.perm ?_ GC.symm⟩
 ·by_cases e:x=b
  ·subst e;rw[hb]at hx;cases hx
  ·simpa[e]using hx
 ·have hn:b ∉ h2.map (·.1):=by
   have:=g.nodup
   simp only[Yz,Ez,Yt,qI]at this
   exact this.1
  refine⟨g.os,g.tape,g.output,λx y hx=>?_,g.right.own,g.right.nodup,λx y hm=>?_⟩
  ·by_cases e:x=b
   ·subst e;simp at hx
    subst hx;exact g.own _ _ sz
   ·simp[e]at hx
    exact g.MB x y hx
  ·have e:x≠b:=λe=>hn (e▸sY hm)
   simpa[e]using g.right.apart x y hm
abbrev Aa.fZ{B w:Wo}{I:Im}{As:La}(hS:Aa B w I As)(k:Nat){b:Nat}{o:Obj}(hk:As[k]?=some (own b o):=by rfl):=hS.freeze hk
theorem Aa.world(hS:Aa B w I As)(h1:w'.os=w.os)(h2:w'.tape=w.tape)(h3:w'.output=w.output)(h4:w'.heap=w.heap):Aa B w' I As:=by
 obtain⟨h,hs,hg⟩:=hS;exact⟨h,hs,h1.trans hg.os,h2.trans hg.tape,h3.trans hg.output,λb o e=>by rw[h4];exact hg.MB b o e,λb o e=>by rw[h4];exact hg.own b o e,hg.nodup,hg.apart⟩
theorem Aa.drew(hS:Aa B w I As):Aa B w.drew I As:=hS.world O O O O
theorem Aa.alloc(hS:Aa B w I As)(o:Obj):Aa B (w.alloc o) I (own w.heap.size o::As):=by
 obtain⟨h,hs,hg⟩:=hS;have DG:∀b x,w.heap[b]?=some x->b<w.heap.size:=λb x e=>(Ll.1 e).1
 have CO:∀b x,w.heap[b]?=some x->(w.alloc o).heap[b]?=some x:=λb x e=>by
  rw[heap_alloc_old w o (DG b x e)];exact e
 refine⟨(w.heap.size,o)::h,⟨[(w.heap.size,o)],h,O,O,hs⟩,hg.os,hg.tape,hg.output,λb x e=>CO b x (hg.MB b x e),λb x hm=>?_,?_,λb x hm=>?_⟩
 ·rcases Yi.1 hm with e|hm
  ·cases e
   exact heap_alloc_new w o
  ·exact CO b x (hg.own b x hm)
 ·simp only[Yt,qI]
  refine⟨λhm=>?_,hg.nodup⟩;obtain⟨⟨b,x⟩,hm,e⟩:=Fg.1 hm
  have:=DG b x (hg.own b x hm)
  simp at e
  omega
 ·rcases Yi.1 hm with e|hm
  ·cases e
   cases hi:I w.heap.size with
   | none=>rfl
   | some y=>have:=DG _ _ (hg.MB _ _ hi);omega
  ·exact hg.apart b x hm
theorem Aa.write(hS:Aa B w I As)(hk:As[k]?=some (own b o))(h1:w'.os=w.os)(h2:w'.tape=w.tape)(h3:w'.output=w.output)(hb:w'.heap[b]?=some o')(A8:∀c,c≠b->w'.heap[c]?=w.heap[c]?):Aa B w' I (As.set k (own b o')):=by
 obtain⟨h,hs,hg⟩:=hS;obtain⟨g1,g2,hp,ha,BA,_⟩:=hs.at_ hk;rw[own]at ha;subst ha;obtain⟨h',F6,F0⟩:=BA (own b o') [(b,o')] O;have g:=hg.perm hp;have hn:b ∉ g2.map (·.1):=by
  have:=g.nodup
  simp only[Yz,Ez,Yt,qI]at this
  exact this.1
 refine⟨h',F6,Good.perm ?_ F0.symm⟩;refine⟨h1.trans g.os,h2.trans g.tape,h3.trans g.output,λx y e=>?_,λx y hm=>?_,su g.nodup,λx y hm=>?_⟩
 ·have e':x≠b:=λe'=>by have:=g.apart b o sz;rw[<-e',e]at this;cases this
  rw[A8 x e'];exact g.MB x y e
 ·rcases Yi.1 hm with e|hm
  ·cases e;exact hb
  ·have e':x≠b:=λe'=>hn (e'▸sY hm)
   rw[A8 x e'];exact g.own x y (lx _ hm)
 ·rcases Yi.1 hm with e|hm
  ·cases e;exact g.apart b o sz
  ·exact g.apart x y (lx _ hm)
end
def Ar(E size:Nat)(v:Va)(n:Nat)(xs:Lv):X1:=λh =>
 xs.length=n*size/\((v=.slice none 0 0/\n=0/\h=[])\/
  ∃g cap rest,v=.slice (some ⟨g,0,none⟩) n cap/\h=[(g,Xi (xs++rest) E)]/\n<=cap/\cap<=maxLen/\xs.length+rest.length=cap*size)
section
variable {B w w':Wo} {I:Im} {As:La} {k:Nat} {A A':X1} {b:Nat} {o o':Obj} {E size n:Nat} {v:Va} {xs:Lv}
theorem Aa.An(hS:Aa B w I As)(E size:Nat):Aa B w I (Ar E size (.slice none 0 0) 0 []::As):=by
 obtain⟨h,hs,hg⟩:=hS;exact⟨h,⟨[],h,O,⟨by simp,.inl ⟨O,O,O⟩⟩,hs⟩,hg⟩
theorem Aa.Bw(hS:Aa B w I As){g:Nat}(hk:As[k]?=some (Ae g cs E))(hn:cs.length=n*size)(hm:n<=maxLen):Aa B w I (As.set k (Ar E size (.slice (some ⟨g,0,none⟩) n n) n cs)) :=
 hS.say hk λ_ hh=>⟨hn,.inr ⟨g,n,[],O,by rw[Yr];exact hh,Yd _,hm,su hn⟩⟩
theorem Aa.AP(hS:Aa B w I As)(hk:As[k]?=some (Ar E size v n xs))(hn:0<n):∃(b cap:Nat) (r:Lv),v=.slice (some ⟨b,0,none⟩) n cap/\n<=cap/\cap<=maxLen/\xs.length=n*size/\xs.length+r.length=cap*size/\Aa B w I (As.set k (Ae b (xs++r) E)):=by
 obtain⟨g,hs,hg⟩:=hS;obtain⟨h1,h2,hp,⟨hl,ha⟩,BA,_⟩:=hs.at_ hk;rcases ha with⟨_,h0,_⟩|⟨b,cap,rest,rfl,rfl,h3,h4,h5⟩
 ·omega
 ·obtain⟨h',F6,F0⟩:=BA (Ae b (xs++rest) E) _ O;exact⟨b,cap,rest,O,h3,h4,hl,h5,h',F6,hg.perm (hp.trans F0.symm)⟩
theorem Aa.Bm(hS:Aa B w I As){g:Nat}{rest:Lv}(hk:As[k]?=some (Ae g (xs++rest) E))(h3:n<=cap)(h4:cap<=maxLen)(hl:xs.length=n*size)(h5:xs.length+rest.length=cap*size):Aa B w I (As.set k (Ar E size (.slice (some ⟨g,0,none⟩) n cap) n xs)) :=
 hS.say hk λ_ hh=>⟨hl,.inr ⟨g,cap,rest,O,hh,h3,h4,h5⟩⟩
theorem Aa.Av(hS:Aa B w I As)(hk:As[k]?=some (Ar E size v n xs)):∃a c,v=.slice a n c/\n<=c/\xs.length=n*size :=
 hS.D5 hk λ_ ⟨hl,hh⟩=>by
  rcases hh with⟨rfl,rfl,_⟩|⟨g,cap,rest,rfl,_,h3,_⟩
  ·exact⟨none,0,O,Yd _,hl⟩
  ·exact⟨_,_,O,h3,hl⟩
abbrev Aa.vS{B w:Wo}{I:Im}{As:La}(hS:Aa B w I As)(k:Nat){E n1 n:Nat}{v:Va}{xs:Lv}(hk:As[k]?=some (Ar E n1 v n xs):=by rfl):=hS.Av hk
theorem X5p(hS:Aa B w I As){t:TypeId}{i:TypeInfo}{z:Va}(ht:P.underlying t=some (.slice E))(hi:P.info? E=some i)(hz:i.zero=some z)
  (Bv:i.size=size) (KH:i.bytes=bytes) (N5:z.cells.size=size) (hk:As[k]?=some (Ar E size v n xs))    (hl:news.length=m*size) (hm:0<m)
  (D1:∀j u,news[j]?=some u->w.cell? (p.add j)=some u) (h1:∀u∈news,u.oneCell'=true) (FB:n+m<=maxLen) (G7:(n+m)*bytes<=140737488355328) :∃v' w',(Builtin.append_ #[t,t] ty #[v,.slice (some p) m c]).run P w=.ok v' w'/\Aa B w' I (As.set k (Ar E size v' (n+m) (xs++news))):=by
 subst Bv;subst KH;have Qs:n+m<=9223372036854775807:=by simp only[maxLen]at FB;omega
 have CW:xs.length=n*i.size:=hS.D5 hk λh ⟨hl,_⟩=>hl
 have hlen:(xs++news).length=(n+m)*i.size:=by rw[Y0,CW,hl,RV]
 have grown:∀(DG:Nat),Aa B (w.drew.alloc (.cells (xs.toArray++news.toArray++Builtin.zeroCells z.cells (grownCap w (n+m) DG E-(n+m))) E)) I
   (As.set k (Ar E i.size (.slice (some ⟨w.heap.size,0,none⟩) (n+m) (grownCap w (n+m) DG E)) (n+m) (xs++news))):=by
  intro DG;have IQ:=grownCap_ge w (n+m) DG E;have Wv:grownCap w (n+m) DG E<=maxLen:=grownCap_le_maxLen w (n+m) DG E FB;have Bo:=hS.drew.alloc (.cells (xs.toArray++news.toArray++Builtin.zeroCells z.cells (grownCap w (n+m) DG E-(n+m))) E);have e1:(own w.drew.heap.size (.cells (xs.toArray++news.toArray++Builtin.zeroCells z.cells (grownCap w (n+m) DG E-(n+m))) E))=Ae w.heap.size ((xs++news)++(Builtin.zeroCells z.cells (grownCap w (n+m) DG E-(n+m))).toList) E:=by
   unfold Ae Xi
   congr 2
   apply Array.ext'
   simp
  rw[e1]at Bo;have LD:=Bo.Bm (k:=0) (n:=n+m) (size:=i.size) (cap:=grownCap w (n+m) DG E) O IQ Wv hlen (by
   rw[hlen,Zu,size_zeroCells,N5,<-RV]
   congr 1
   omega)
  -- the new one stands at the DG Abw place
  obtain⟨h,hs,hg⟩:=LD;obtain⟨q1,q2,rfl,Hv,E8⟩:=hs;obtain⟨Fj,Ge,hp,_,BA,_⟩:=Ao.at_ hk E8;obtain⟨h',F6,F0⟩:=BA _ q1 Hv;have g2:Good B (w.drew.alloc (.cells (xs.toArray++news.toArray++Builtin.zeroCells z.cells (grownCap w (n+m) DG E-(n+m))) E)) I (q1++Ge):=by
   have g:=hg.perm (hp.append_left q1)
   have:(q1++(Fj++Ge)).Perm ((q1++Ge)++Fj):=by
    rw[Yc];exact(bd).append_left q1
   exact(g.perm this).left
  exact⟨h',F6,g2.perm F0.symm⟩
 have IK:(v=.slice none 0 0/\n=0)\/∃g cap rest,v=.slice (some ⟨g,0,none⟩) n cap/\n<=cap/\cap<=maxLen/\xs.length+rest.length=cap*i.size/\Aa B w I (As.set k (Ae g (xs++rest) E)):=by
  by_cases hn:0<n
  ·obtain⟨g,cap,rest,h1,h2,h3,_,h5,h6⟩:=hS.AP hk hn;exact .inr ⟨g,cap,rest,h1,h2,h3,h5,h6⟩
  ·obtain⟨g,hs,hg⟩:=hS;obtain⟨h1,h2,hp,⟨hl,ha⟩,BA,_⟩:=hs.at_ hk;rcases ha with⟨hv,h0,_⟩|⟨b,cap,rest,rfl,rfl,h3,h4,h5⟩
   ·exact .inl ⟨hv,h0⟩
   ·obtain⟨h',F6,F0⟩:=BA (Ae b (xs++rest) E) _ O;exact .inr ⟨b,cap,rest,O,h3,h4,h5,h',F6,hg.perm (hp.trans F0.symm)⟩
 rcases IK with⟨rfl,rfl⟩|⟨g,cap,rest,rfl,Dc,Wv,G_,Jq⟩
 ·have hx:xs=[]:=Yf (su CW);subst hx;have hr:=run_append_nil (P:=P) w t ty E i z ht hi hz p m c news hl D1 hm om (by have hb:=G7;simp only[Yj]at hb;omega);have Wx:=grown 0;simp only[Yj,Ez,Y4p]at Wx ⊢
  exact⟨_,_,hr,Wx⟩
 ·have E6:k<As.length:=(Y1.1 hk).1;have qZ:(As.set k (Ae g (xs++rest) E))[k]?=some (Ae g (xs++rest) E):=by simp[E6]
  have hblk:=Jq.block qZ
  by_cases EC:n+m<=cap
  ·have EI:n*i.size+news.length<=(xs++rest).toArray.size:=by
    simp only[yC,Y0]
    rw[G_,hl,<-RV];exact U4 _ EC
   have hr:=run_append_room (P:=P) w t ty E i ht hi g n cap (xs++rest).toArray hblk p m c news hl D1 h1 EC EI;have e2:((xs++rest).take (n*i.size)++news++(xs++rest).drop (n*i.size+news.length)).toArray=((xs++news)++rest.drop news.length).toArray:=by
    rw[<-CW,U9,Y50,Yk (by omega:xs.length<=xs.length+news.length)]
    simp
   rw[e2]at hr;refine⟨_,_,hr,?_⟩;have hw:=Jq.write (w':=w.setRow g ((xs++news)++rest.drop news.length).toArray) (o':=Xi ((xs++news)++rest.drop news.length) E) qZ O O O (setRow_heap w g _ _ E _ hblk) (λx hx=>setRow_other w g x _ hx);have Hw:=hw.Bm (k:=k) (g:=g) (E:=E) (n:=n+m) (size:=i.size) (cap:=cap) (xs:=xs++news) (rest:=rest.drop news.length) (by simp[E6,Ae]) EC Wv hlen (by
    have h7:news.length<=rest.length:=by
     have h8:n*i.size+news.length<=(xs++rest).length:=EI;rw[Y0]at h8;omega
    rw[Y0,Ye,<-G_];omega)
   simpa using Hw
  ·have holds:∀j u,xs[j]?=some u->w.cell? ((⟨g,0,none⟩:Addr).add j)=some u:=by
    intro j u hu;have hj:j<xs.length:=(Y1.1 hu).1;rw[Addr.add_lit,Yj];have h9:w.heap[g]?=some (.cells (xs++rest).toArray E (0,0)):=hblk;simp only[World.cell?,h9,Option.isSome_none,Y45,if_false]
    simp[hj]at hu ⊢
    simp[sV,hj,hu]
   have hr:=run_append_grow (P:=P) w t ty E i z ht hi hz ⟨g,0,none⟩ n cap xs CW holds p m c news hl D1 om om (growslice_fits om G7);exact⟨_,_,hr,grown cap⟩
end
@[reducible] def apV:List Value->List Value->List Value
 | [],m=>m
 | v::l,m=>v::apV l m
@[reducible] def mpI:List Int->List Value
 | []=>[]
 | i::l=>.int .i64 i::mpI l
def A4(Q:Va->Wo->Prop):Ending->Wo->Prop:=λe w=>∃v,e=.returned v/\Q v w
class At(I:Im)(p:Addr)(vs:outParam Lv):Prop where
 spot:p.spot=none
 row:∃arr E fr,I p.block=some (.cells arr E fr)/\∀j v,vs[j]?=some v->arr[p.off+j]?=some v
theorem At.mono{I J:Im}(h:At I p vs)(hl:Le I J):At J p vs:=by
 obtain⟨hs,arr,E,fr,hi,hv⟩:=h;exact⟨hs,arr,E,fr,hl.h _ _ hi,hv⟩
def RS(I:Im)(a:Oa)(size n:Nat)(xs:Lv):Prop:=xs.length=n*size/\(0<n->∃p,a=some p/\At I p xs)
theorem RS.mono{I J:Im}(h:RS I a size n xs)(hl:Le I J):RS J a size n xs :=
 ⟨h.1,λhn=>let⟨p,e,ha⟩:=h.2 hn;⟨p,e,ha.mono hl⟩⟩
theorem RS.nil(I:Im)(size:Nat):RS I none size 0 []:=⟨by simp,λh=>Yy h om⟩
abbrev ad(b o:Nat):Addr:=⟨b,o,none⟩
theorem EE(b o i:Nat):(ad b o).add i=ad b (o+i):=by
 unfold Addr.add;split
 ·simp_all
 ·rfl
def sS(cs:Lv)(off:Nat)(l:Lv):Lv:=cs.take off++l++cs.drop (off+l.length)
def RD(pl:Nat->Option (Nat×Nat)):List Value->List (Nat×Value)->Option (List Value)
 | cs,[]=>some cs
 | cs,(i,v)::rest=>match pl i with
  | none=>none
  | some (off,size)=>bif Nat.beq v.cells.toList.length size&&Nat.ble (off+size) cs.length then RD pl (sS cs off v.cells.toList) rest else none
theorem Xns:∀(l:Lv) (cs:Lv) (off k:Nat),off+k+l.length<=cs.length->
  (l.zipIdx k).foldl (λ(cs:Array Va) (p:Va×Nat)=>cs.setIfInBounds (off+p.2) p.1) cs.toArray=(sS cs (off+k) l).toArray
 | [],cs,off,k,_=>by simp[sS]
 | v::l,cs,off,k,h=>by
  rw[List.zipIdx_cons,Ky];have e:cs.toArray.setIfInBounds (off+k) v=(cs.set (off+k) v).toArray:=by simp
  have ih:=Xns l (cs.set (off+k) v) off (k+1) (by simp at h ⊢;omega);simp only at ih ⊢
  rw[e,ih]
  congr 1
  unfold sS;have h9:=list_seg_step cs (off+k) v l (by simp at h;omega);simpa[Y5v]using h9
theorem Xbs{pl:Nat->Option (Nat×Nat)}:∀{vs:List (Nat×Va)} {cs ds:Lv},RD pl cs vs=some ds->Instr.fill pl cs.toArray vs=some ds.toArray
 | [],cs,ds,h=>by simp[RD]at h;simp[Instr.fill,h]
 | (i,v)::rest,cs,ds,h=>by
  unfold RD at h;unfold Instr.fill;split at h
  ·cases h
  ·rename_i off size hp
   rw[hp];simp only
   by_cases hc:(Nat.beq v.cells.toList.length size&&Nat.ble (off+size) cs.length)=true
   ·rw[hc,cond_true]at h;simp only[Yb]at hc
    have h1:v.cells.size=size:=by have:=Nat.eq_of_beq_eq_true hc.1;simpa using this
    have h2:off+size<=cs.length:=H5 hc.2;have e:=Xns v.cells.toList cs off 0 (by simp[h1];omega);have hz:(v.cells.zipIdx.foldl (λcs (x:Va×Nat)=>cs.setIfInBounds (off+x.2) x.1) cs.toArray)=(sS cs off v.cells.toList).toArray:=by
     rw[<-Array.foldl_toList,Array.toList_zipIdx];simpa using e
    rw[Y3 (by simp[h1];omega)];rw[hz];exact Xbs h
   ·have hc':(Nat.beq v.cells.toList.length size&&Nat.ble (off+size) cs.length)=false:=Y5h.2 hc;rw[hc',cond_false]at h;cases h
theorem wM(z:Va)(s:Nat)(hz:z.cells.size=s):∀len,(Array.range (len*s)).map (z.cells[·%z.cells.size]!)=((List.replicate len z.cells.toList).flatten).toArray:=by
 intro len
 apply Array.ext'
 simp only[Y5w,Array.toList_range]
 induction len with
 | zero=>simp
 | succ k ih =>
  rw[List.replicate_succ',ju,bh,List.range_add,Ym,ih];simp only[JG,Y5x,Yr]
  congr 1
  apply U7
  intro j
  by_cases hj:j<s
  ·have:(k*s+j)%s=j:=by rw[Zz,Nat.add_mul_mod_self_right,Y52 hj]
   have h3:j<z.cells.size:=om
   simp[hj,hz,this,h3]
  ·simp[hj,hz]
section
variable {P:Program} {n:Nat} {K:BK} {L:AK} {w w':Wo} {ops:Array Oper} {rest:List Oper}
variable {B:Wo} {I:Im} {As:La} {k:Nat} {d:Nat} {ty:TypeId} {pos:String} {af:Array Edge} {g:Option (Nat×Bool)} {t e:TypeId} {x y:Operand}
theorem xw(o:Obj)(f:Nat->Sem α):(Sem.new o f).run P w=(f w.heap.size).run P (w.alloc o):=rfl
theorem HU(hb:w.heap[b]?=some (Xi cs E))(hv:cs[o]?=some v):w.cell? (ad b o)=some v:=by
 unfold Xi at hb;simp[World.cell?,hb,hv]
theorem Xxm(hb:w.heap[b]?=some (Xi cs E))(o:Nat):w.frozen? (ad b o)=false:=by
 unfold Xi at hb;simp[World.frozen?,hb]
theorem Pz(hS:Aa B w I As)(ha:At I p vs){j:Nat}(hv:vs[j]?=some v):w.cell? (p.add j)=some v:=by
 obtain⟨hs,arr,E,fr,hi,h⟩:=ha;obtain⟨h',_,hg⟩:=hS;have hb:=hg.MB _ _ hi;have hj:=h j v hv;obtain⟨pb,po,ps⟩:=p;simp only at hs hi hb hj
 subst hs;have e:(⟨pb,po,none⟩:Addr).add j=⟨pb,po+j,none⟩:=EE pb po j;rw[e];simp[World.cell?,hb,hj]
theorem Ex.ld{d:Option Nat}(hx:Ev n L x (ptr b o))(hS:Aa B w I As)(hk:As[k]?=some (Ae b cs E))(ht:∀w,(isAgg t).run P w=.ok false w)(hv:cs[o]?=some v):Ex P n L w ⟨d,.load t x,ty,pos,af,g⟩ v w:=λa ha=>by
 have h:=HU (hS.block hk) hv;simp[execOp,hx a ha,Instr.loadAt,Instr.sureAddr,loadVar,ht,load,Sem.run,h]
theorem Ex.GG{d:Option Nat}{s:Nat}(hx:Ev n L x (ptr b o))(hS:Aa B w I As)(hk:As[k]?=some (Ae b cs E))(ht:∀w,(isAgg t).run P w=.ok true w)(hs:∀w,(Go.sizeOf t).run P w=.ok s w)
  (hl:vs.length=s) (hv:∀(j:Nat) (v:Va),vs[j]?=some v->cs[o+j]?=some v):Ex P n L w ⟨d,.load t x,ty,pos,af,g⟩ (.agg vs.toArray) w:=λa ha=>by
 have hb:=hS.block hk;have h:=run_loadCells_list (P:=P) w (ad b o) vs (λj v hj=>by rw[EE];exact HU hb (hv j v hj));rw[hl]at h;simp[execOp,hx a ha,Instr.loadAt,Instr.sureAddr,loadVar,ht,hs,h]
theorem Ex.Ca{d:Option Nat}(hx:Ev n L x (.pointer (some p)))(hS:Aa B w I As)(ha:At I p vs)(ht:∀w,(isAgg t).run P w=.ok false w)(hv:vs[0]?=some v):Ex P n L w ⟨d,.load t x,ty,pos,af,g⟩ v w:=λa hh=>by
 have h:=Pz hS ha hv;rw[show p.add 0=p from O]at h;simp[execOp,hx a hh,Instr.loadAt,Instr.sureAddr,loadVar,ht,load,Sem.run,h]
theorem Ex.Cy{d:Option Nat}{s:Nat}{us:Lv}(hx:Ev n L x (.pointer (some p)))(hS:Aa B w I As)(ha:At I p vs)(ht:∀w,(isAgg t).run P w=.ok true w)(hs:∀w,(Go.sizeOf t).run P w=.ok s w)
  (hl:us.length=s) (hv:∀(j:Nat) (v:Va),us[j]?=some v->vs[j]?=some v):Ex P n L w ⟨d,.load t x,ty,pos,af,g⟩ (.agg us.toArray) w:=λa hh=>by
 have h:=run_loadCells_list (P:=P) w p us (λj v hj=>Pz hS ha (hv j v hj));rw[hl]at h;simp[execOp,hx a hh,Instr.loadAt,Instr.sureAddr,loadVar,ht,hs,h]
theorem Ex.fieldAddr{d:Option Nat}{f:Nat}{s:Nat}(off:Nat)(hx:Ev n L x (ptr b o))(ht:P.underlying t=some (.struct fs))(hf:fs[f]?=some fd)(ho:fd.offset=off)(hs:∀w,(Go.sizeOf fd.type).run P w=.ok s w)(h0:Nat.beq s 0=false):Ex P n L w ⟨d,.fieldAddr t x f,ty,pos,af,g⟩ (ptr b (o+off)) w:=λa ha=>by
 subst ho;have h0':s≠0:=λe=>by rw[e]at h0;cases h0
 have h1:=EE b o fd.offset;simp[execOp,hx a ha,Instr.fieldAt,run_underlying ht,hf,Instr.sureAddr,fieldPlace,hs,h0',h1]
theorem Ex.FQ{d:Option Nat}{f:Nat}{s:Nat}(off:Nat)(hx:Ev n L x (.pointer (some p)))(ht:P.underlying t=some (.struct fs))(hf:fs[f]?=some fd)(ho:fd.offset=off)(hs:∀w,(Go.sizeOf fd.type).run P w=.ok s w)(h0:Nat.beq s 0=false):Ex P n L w ⟨d,.fieldAddr t x f,ty,pos,af,g⟩ (.pointer (some (p.add off))) w:=λa ha=>by
 subst ho;have h0':s≠0:=λe=>by rw[e]at h0;cases h0
 simp[execOp,hx a ha,Instr.fieldAt,run_underlying ht,hf,Instr.sureAddr,fieldPlace,hs,h0']
theorem At.add(h:At I p vs)(i:Nat):At I (p.add i) (vs.drop i):=by
 obtain⟨hs,arr,E,fr,hi,hv⟩:=h;obtain⟨pb,po,ps⟩:=p;simp only at hs hi hv
 subst hs;have e:(⟨pb,po,none⟩:Addr).add i=⟨pb,po+i,none⟩:=EE pb po i;rw[e];exact⟨O,arr,E,fr,hi,λj v hj=>by rw[show po+i+j=po+(i+j)by omega];exact hv (i+j) v (su hj)⟩
theorem Ex.indexAddr{d:Option Nat}{len s:Nat}{i:Int}(hx:Ev n L x (.slice (some (ad b o)) len cap))(hy:Ev n L y (Ab i))(hi:0<=i)(hl:i<len)(ht:P.underlying t=some (.slice e))(hs:∀w,(Go.sizeOf e).run P w=.ok s w):Ex P n L w ⟨d,.indexAddr t x y,ty,pos,af,g⟩ (ptr b (o+i.toNat*s)) w:=λa ha=>by
 have h:=run_indexAt_slice (P:=P) w t (ad b o) len cap .i64 i (by rw[Uz ht];exact ht);rw[Y7 ⟨hi,hl⟩,Uz ht,hs]at h;simp only[Result.andThen_ok,EE]at h
 simp[execOp,hx a ha,hy a ha,h]
theorem Ex.CJ{d:Option Nat}{len s:Nat}{i:Int}(hx:Ev n L x (.slice (some p) len cap))(hy:Ev n L y (Ab i))(hi:0<=i)(hl:i<len)(ht:P.underlying t=some (.slice e))(hs:∀w,(Go.sizeOf e).run P w=.ok s w):Ex P n L w ⟨d,.indexAddr t x y,ty,pos,af,g⟩ (.pointer (some (p.add (i.toNat*s)))) w:=λa ha=>by
 have h:=run_indexAt_slice (P:=P) w t p len cap .i64 i (by rw[Uz ht];exact ht);rw[Y7 ⟨hi,hl⟩,Uz ht,hs]at h;simp[execOp,hx a ha,hy a ha,h,Result.andThen]
theorem WL.Ab2(hS:Aa B w I As)(hx:Ev n L x v)(h1:v.oneCell'=true)(hd:Nat.blt d n=true)
  (h:∀b w',Aa B w' I (Ae b [v] E::As)->WL P n ops K rest ((d,ptr b 0)::L) w'):WL P n ops K (⟨some d,.box E x,ty,pos,af,none⟩::rest) L w:=by
 refine WL.val (v:=ptr w.heap.size 0) (w':=w.alloc (Xi [v] E)) (λa ha=>?_) hd (h _ _ (hS.alloc _));have hc:v.cells=#[v]:=by cases v<;>first|rfl|cases h1
 simp[execOp,hx a ha,Instr.box,newVar,newRow,newObj,xw,hc,Xi]
theorem WL.Ls(hS:Aa B w I As)(hx:Ev n L x (.agg cs.toArray))(hd:Nat.blt d n=true)
  (h:∀b w',Aa B w' I (Ae b cs E::As)->WL P n ops K rest ((d,ptr b 0)::L) w'):WL P n ops K (⟨some d,.box E x,ty,pos,af,none⟩::rest) L w:=by
 refine WL.val (v:=ptr w.heap.size 0) (w':=w.alloc (Xi cs E)) (λa ha=>?_) hd (h _ _ (hS.alloc _));simp[execOp,hx a ha,Instr.box,newVar,newRow,newObj,xw,Value.cells,Xi]
theorem WL.PO(hS:Aa B w I As)(hz:∀w,(zeroValue E).run P w=.ok v w)(h1:v.oneCell'=true)(hd:Nat.blt d n=true)
  (h:∀b w',Aa B w' I (Ae b [v] E::As)->WL P n ops K rest ((d,ptr b 0)::L) w'):WL P n ops K (⟨some d,.alloc E,ty,pos,af,none⟩::rest) L w:=by
 refine WL.val (v:=ptr w.heap.size 0) (w':=w.alloc (Xi [v] E)) (λa ha=>?_) hd (h _ _ (hS.alloc _));have hc:v.cells=#[v]:=by cases v<;>first|rfl|cases h1
 simp[execOp,Instr.alloc,hz,newVar,newRow,newObj,xw,hc,Xi]
theorem WL.Ix(hS:Aa B w I As)(hz:∀w,(zeroValue E).run P w=.ok (.agg cs.toArray) w)(hd:Nat.blt d n=true)
  (h:∀b w',Aa B w' I (Ae b cs E::As)->WL P n ops K rest ((d,ptr b 0)::L) w'):WL P n ops K (⟨some d,.alloc E,ty,pos,af,none⟩::rest) L w:=by
 refine WL.val (v:=ptr w.heap.size 0) (w':=w.alloc (Xi cs E)) (λa ha=>?_) hd (h _ _ (hS.alloc _));simp[execOp,Instr.alloc,hz,newVar,newRow,newObj,xw,Value.cells,Xi]
theorem WL.buildSlice{len s:Nat}{parts:Array (Nat×Operand)}{vs:List (Nat×Va)}{z:Va}(hS:Aa B w I As)(hp:∀a,Aw n L a->parts.toList.map (λp=>(p.1,a.eval p.2))=vs)
  (ht:P.underlying t=some (.slice e)) (hs:∀w,(Go.sizeOf e).run P w=.ok s w) (hz:∀w,(zeroValue e).run P w=.ok z w) (h24:Nat.ble (len*s) 16777216=true) (N5:z.cells.size=s)
  (hf:RD (λi=>some (i*s,s)) ((List.replicate len z.cells.toList).flatten) vs=some cs) (hd:Nat.blt d n=true)
  (h:∀b w',Aa B w' I (Ae b cs e::As)->WL P n ops K rest ((d,.slice (some (ad b 0)) len len)::L) w'):WL P n ops K (⟨some d,.buildSlice t len parts,ty,pos,af,none⟩::rest) L w:=by
 refine WL.val (v:=.slice (some (ad w.heap.size 0)) len len) (w':=w.alloc (Xi cs e)) (λa ha=>?_) hd (h _ _ (hS.alloc _));have Ab_:¬ (16777216<len*s):=by have:=H5 h24;omega
 have hv:=hp a ha;have hf:=Xbs hf;rw[<-wM z s N5]at hf
 by_cases h0:len*s=0
 ·have hr:(Array.range (len*s)).map (z.cells[·%z.cells.size]!)=#[]:=by simp[h0]
  rw[hr]at hf;simp[execOp,Instr.buildSlice,run_underlying ht,hs,h0,newRow,newObj,xw,Array.range_zero',hv,hf,Xi]
 ·simp[execOp,Instr.buildSlice,run_underlying ht,hs,Ab_,h0,hz,newRow,newObj,xw,hv,hf,Xi]
theorem pM:∀a:Act,Aw n L a->(#[]:Array (Nat×Operand)).toList.map (λp=>(p.1,a.eval p.2))=[]:=λ_ _=>rfl
theorem Xj2{ps:List (Nat×Operand)}{vs:List (Nat×Va)}(hx:Ev n L x v)(h:∀a,Aw n L a->ps.toArray.toList.map (λp=>(p.1,a.eval p.2))=vs):∀a,Aw n L a->((i,x)::ps).toArray.toList.map (λp=>(p.1,a.eval p.2))=(i,v)::vs:=λa ha=>by
 have:=h a ha
 simp only[Yt]at this ⊢
 rw[hx a ha,this]
def Bld(P:Program)(t:TypeId)(pl:List (Nat×Nat))(zs:Lv):Prop:=∀(parts:Array (Nat×Va)) (cs:Array Va) (w:Wo),Instr.fill (λi:Nat=>pl[i]?) zs.toArray parts.toList=some cs->(Instr.build t parts).run P w=.ok (.agg cs) w
theorem Ex.build{d:Option Nat}{parts:Array (Nat×Operand)}{vs:List (Nat×Va)}(hp:∀a,Aw n L a->parts.toList.map (λp=>(p.1,a.eval p.2))=vs)(hb:Bld P t pl zs)
  (hf:RD (λi:Nat=>pl[i]?) zs vs=some cs):Ex P n L w ⟨d,.build t parts,ty,pos,af,g⟩ (.agg cs.toArray) w:=λa ha=>by
 have hr:=hb (parts.map λ(i,x)=>(i,a.eval x)) cs.toArray w (by rw[Y5w,hp a ha];exact Xbs hf);simp only[execOp,hr,Sem.run_bind,Result.andThen_ok,Sem.run_pure]
theorem Eu{z:Va}(ht:P.underlying t=some (.struct fs))(hz:∀w,(zeroValue t).run P w=.ok z w)(hm:∀w,((fs.mapM λf=>do pure (f.offset,<-Go.sizeOf f.type)):Sem (Array (Nat×Nat))).run P w=.ok pl.toArray w):Bld P t pl z.cells.toList:=by
 intro parts cs w hf;have e:(λi:Nat=>pl.toArray[i]?)=(λi:Nat=>pl[i]?):=by funext i;simp
 simp only[Array.toArray_toList]at hf
 rw[<-e]at hf;simp only[Instr.build,Sem.run_bind,hz,run_underlying ht,Result.andThen_ok,hm,hf,Sem.run_pure]
theorem WL.st1(hS:Aa B w I As)(hk:As[k]?=some (Ae b cs E))(hx:Ev n L x (ptr b o))(hy:Ev n L y v)(h1:v.oneCell'=true)(hs:∀w,(Go.sizeOf t).run P w=.ok 1 w)(ho:o<cs.length)
  (h:∀w',Aa B w' I (As.set k (Ae b (cs.set o v) E))->WL P n ops K rest L w'):WL P n ops K (⟨none,.store t x y,ty,pos,af,none⟩::rest) L w:=by
 have hb:=hS.block hk;have NS:=HU hb (Y2 ho);have uT:=Xxm hb o;have hc:v.cells=#[v]:=by cases v<;>first|rfl|cases h1
 have BO:b<w.heap.size:=(Ll.1 hb).1;have Cp:=run_store P w (ad b o) v .plain h1;rw[NS]at Cp;simp only[uT]at Cp
 have BA:=setCell_eq_setRow w b o _ _ (0,0) v hb;refine WL.st (w':=w.setCell (ad b o) v) (λa ha=>?_) (h _ (hS.write (o':=Xi (cs.set o v) E) hk O O O ?_ λc hc=>?_))
 ·have e0:(ad b o).add 0=ad b o:=rfl;simp[execOp,hx a ha,hy a ha,Instr.storeAt,Instr.sureAddr,storeVar,hs,hc,storeCells,e0,Cp]
 ·rw[BA,setRow_heap w b _ _ _ _ hb];simp[Xi]
 ·rw[BA,setRow_other w b c _ hc]
theorem WL.CX{s:Nat}(hS:Aa B w I As)(hk:As[k]?=some (Ae b cs E))(hx:Ev n L x (ptr b o))(hy:Ev n L y (.agg vs.toArray))(h1:vs.all Value.oneCell'=true)(hs:∀w,(Go.sizeOf t).run P w=.ok s w)(hl:vs.length=s)(ho:o+s<=cs.length)
  (h:∀w',Aa B w' I (As.set k (Ae b (cs.take o++vs++cs.drop (o+s)) E))->WL P n ops K rest L w'):WL P n ops K (⟨none,.store t x y,ty,pos,af,none⟩::rest) L w:=by
 subst hl;have hb:=hS.block hk;have Cp:=run_storeCells_at P b o E vs 0 cs.toArray w hb (su ho) (Yv.1 h1);simp only[Hn]at Cp
 refine WL.st (w':=w.setRow b (cs.take o++vs++cs.drop (o+vs.length)).toArray) (λa ha=>?_) (h _ (hS.write (o':=Xi _ E) hk O O O (setRow_heap w b _ _ E _ hb) λc hc=>setRow_other w b c _ hc));simp[execOp,hx a ha,hy a ha,Instr.storeAt,Instr.sureAddr,storeVar,hs,Value.cells,Cp]
theorem WL.append{E:Nat}{i:TypeInfo}{z:Va}{E':TypeId}(hS:Aa B w I (Ae b news E'::As))(hx:Ev n L x v)(hy:Ev n L y (.slice (some (ad b 0)) m c))
  (hk:As[k]?=some (Ar E size v nn xs)) (ht:P.underlying t=some (.slice E)) (hi:P.info? E=some i) (hz:i.zero=some z) (Bv:i.size=size) (KH:i.bytes=bytes) (N5:z.cells.size=size)
  (hl:news.length=m*size) (hm:Nat.blt 0 m=true) (h1:news.all Value.oneCell'=true) (FB:(nn+m)*bytes<=140737488355328/\nn+m<=maxLen) (hd:Nat.blt d n=true)
  (h:∀v' w',Aa B w' I (As.set k (Ar E size v' (nn+m) (xs++news)))->WL P n ops K rest ((d,v')::L) w') :WL P n ops K (⟨some d,.call ⟨.builtin .append,#[x,y],#[t,t]⟩,ty,pos,af,none⟩::rest) L w:=by
 have hb:=hS.block (k:=0) O;obtain⟨v',w',hr,C9⟩:=X5p (P:=P) (ty:=ty) (k:=k+1) hS ht hi hz Bv KH N5 hk (p:=ad b 0) (m:=m) (c:=c) hl (H5 hm) (λj u hu=>by rw[EE,Yj];exact HU hb hu) (Yv.1 h1) FB.2 FB.1
 have Bo:=C9.drop (k:=0) (A:=Ae b news E') sz;simp only[Y46,Y5t]at Bo
 refine WL.val (v:=v') (w':=w') (λa ha=>?_) hd (h _ _ Bo);simp[execOp,resolve,invoke,builtin,hx a ha,hy a ha,hr]
theorem WL.make{l:Nat}{i:TypeInfo}{z:Va}{y:Operand}(hS:Aa B w I As)(hx:Ev n L x (Ab l))(hy:Ev n L y (Ab l))(ht:P.underlying t=some (.slice e))(hi:P.info? e=some i)(hz:i.zero=some z)(hb:(i.bytes:Int)*l<=281474976710656)(hl:(l:Int)<=9223372036854775807)
  (u_:z.cells=#[z]) (hs:i.size=1) (hd:Nat.blt d n=true)
  (h:∀b w',Aa B w' I (Ae b (List.replicate l z) e::As)->WL P n ops K rest ((d,.slice (some (ad b 0)) l l)::L) w'):WL P n ops K (⟨some d,.makeSlice t x y,ty,pos,af,none⟩::rest) L w:=by
 have hr:=run_make (P:=P) w t e i z ht hi hz .i64 .i64 l l om om hb hl;have hm:madeCells z.cells ((l:Int).toNat*i.size)=(List.replicate l z).toArray:=by
  rw[u_,hs]
  apply Array.ext'
  simp[madeCells]
  apply U7
  intro j
  by_cases hj:j<l<;>simp[hj,Nat.mod_one]
 rw[hm]at hr;refine WL.val (v:=.slice (some (ad w.heap.size 0)) l l) (w':=w.alloc (Xi (List.replicate l z) e)) (λa ha=>?_) hd (h _ _ (hS.alloc _));simp only[Y8]at hr
 simp[execOp,hx a ha,hy a ha,hr,Xi]
theorem Ex.slc{d:Option Nat}{len s:Nat}{lo hi:Int}{z:Operand}(hx:Ev n L x (.slice a0 len cap))(hy:Ev n L y (Ab lo))(hz:Ev n L z (Ab hi))(h0:0<=lo)(h1:lo<=hi)(h2:hi<=cap)(ht:P.underlying t=some (.slice e))(hs:∀w,(Go.sizeOf e).run P w=.ok s w):Ex P n L w ⟨d,.slice t x (some y) (some z) none,ty,pos,af,g⟩ (sliced a0 lo.toNat hi.toNat cap s) w:=λa ha=>by
 have hT:P.underlying t=some (.slice (P.elem t)):=by rw[Uz ht];exact ht
 have h:=run_slice_lh (P:=P) w t a0 len cap hT .i64 .i64 lo hi h0 h1 h2;rw[Uz ht,hs]at h;simp[execOp,hx a ha,hy a ha,hz a ha,run_sliceAt_slice w t _ _ _ _ hT,h,Result.andThen]
theorem Ex.Oy{d:Option Nat}{len s:Nat}{hi:Int}{z:Operand}(hx:Ev n L x (.slice a0 len cap))(hz:Ev n L z (Ab hi))(h1:0<=hi)(h2:hi<=cap)(ht:P.underlying t=some (.slice e))(hs:∀w,(Go.sizeOf e).run P w=.ok s w):Ex P n L w ⟨d,.slice t x none (some z) none,ty,pos,af,g⟩ (sliced a0 0 hi.toNat cap s) w:=λa ha=>by
 have hT:P.underlying t=some (.slice (P.elem t)):=by rw[Uz ht];exact ht
 have h:=run_slice_h (P:=P) w t a0 len cap hT .i64 hi h1 h2;rw[Uz ht,hs]at h;simp[execOp,hx a ha,hz a ha,run_sliceAt_slice w t _ _ _ _ hT,h,Result.andThen]
theorem Ex.Ia{d:Option Nat}{len s:Nat}{lo:Int}(hx:Ev n L x (.slice a0 len cap))(hy:Ev n L y (Ab lo))(h0:0<=lo)(h1:lo<=len)(ht:P.underlying t=some (.slice e))(hs:∀w,(Go.sizeOf e).run P w=.ok s w):Ex P n L w ⟨d,.slice t x (some y) none none,ty,pos,af,g⟩ (sliced a0 lo.toNat len cap s) w:=λa ha=>by
 have hT:P.underlying t=some (.slice (P.elem t)):=by rw[Uz ht];exact ht
 have h:=run_slice_l (P:=P) w t a0 len cap hT .i64 lo h0 h1;rw[Uz ht,hs]at h;simp[execOp,hx a ha,hy a ha,run_sliceAt_slice w t _ _ _ _ hT,h,Result.andThen]
def Xb(fn : Func): Bool := fn.name != "runtime.NumGoroutine" && fn.body.isSome
theorem WL.call{xs:List Operand}{Q:Va->Wo->Prop}(hf:P.funcs[f]?=some fn)(hc:Xb fn=true)(hx:∀a,Aw n L a->xs.map a.eval=vs)(hd:Nat.blt d n=true)
  (BE:Calls P f vs.toArray w (A4 Q)) (h:∀v w',Q v w'->WL P n ops K rest ((d,v)::L) w'):WL P n ops K (⟨some d,.call ⟨.value (.func f),xs.toArray,ts⟩,ty,pos,af,none⟩::rest) L w:=by
 intro a ha;refine wpList_plain O λK' hK=>?_
 have he:(execOp a.eval (⟨some d,.call ⟨.value (.func f),xs.toArray,ts⟩,ty,pos,af,none⟩:Oper)).run P w=.ok (.enter f vs.toArray) w:=by
  unfold Xb at hc;simp only[Yb]at hc
  obtain⟨h1,h2⟩:=hc;have Fj : ¬ fn.name = "runtime.NumGoroutine" := by simpa using h1
  have Ge:¬ fn.body=none:=by intro e;rw[e]at h2;cases h2
  have hv:=hx a ha;simp[execOp,resolve,Act.eval,Deferred.ofValue,invoke,callFunc,program,Sem.run,hf,Fj,Ge,<-hv]
 unfold Oper.wp;rw[he];refine BE.mono λe TW hq=>?_
 obtain⟨v,rfl,hv⟩:=hq;exact hK _ _ (h v TW hv _ (ha.put hd v))
theorem X4:∀a:Act,Aw n L a->([]:List Operand).map a.eval=[]:=λ_ _=>rfl
theorem X5{xs:List Operand}(hx:Ev n L x v)(h:∀a,Aw n L a->xs.map a.eval=vs):∀a,Aw n L a->(x::xs).map a.eval=v::vs:=λa ha=>by
 rw[Yt,hx a ha,h a ha]
end
section
variable {P:Program} {n:Nat} {K:BK} {L:AK} {w w':Wo} {ops:Array Oper} {rest:List Oper}
variable {B:Wo} {I:Im} {As:La} {k:Nat} {ty:TypeId} {pos:String} {af:Array Edge} {g:Option (Nat×Bool)} {t e:TypeId} {x y:Operand}
theorem Ex.mo{d:Option Nat}{x:Operand}(hx:ev L x=some v):Ex P n L w ⟨d,.move x,ty,pos,af,g⟩ v w:=Ex.move (hx:=.of hx)
theorem Ex.ao{d:Option Nat}{x:Operand}(hx:ev L x=some v):Ex P n L w ⟨d,.assign x,ty,pos,af,g⟩ v w:=Ex.assign (hx:=.of hx)
theorem Ex.po{d:Option Nat}{c x y:Operand}{b r:Bool}(hc:ev L c=some (.bool b))(hx:ev L x=some (.bool true))(hy:ev L y=some (Gk.gd b false (.bool r))):Ex P n L w ⟨d,.pick c x y,ty,pos,af,g⟩ (.bool (b||r)) w:=Ex.por (hc:=.of hc) (hx:=.of hx) (hy:=.of hy)
theorem Ex.pa{d:Option Nat}{c x y:Operand}{b r:Bool}(hc:ev L c=some (.bool b))(hx:ev L x=some (Gk.gd b true (.bool r)))(hy:ev L y=some (.bool false)):Ex P n L w ⟨d,.pick c x y,ty,pos,af,g⟩ (.bool (b&&r)) w:=Ex.AbA (hc:=.of hc) (hx:=.of hx) (hy:=.of hy)
theorem Ex.no{d:Option Nat}{x:Operand}(hx:ev L x=some (.pointer (some p))):Ex P n L w ⟨d,.nilCheck x,ty,pos,af,g⟩ (.pointer (some p)) w:=Ex.nilCheck (hx:=.of hx)
theorem Ex.fo{d:Option Nat}{f:Nat}{s:Nat}(off:Nat)(hx:ev L x=some (ptr b o))(ht:P.underlying t=some (.struct fs))(hf:fs[f]?=some fd)(ho:fd.offset=off)(hs:∀w,(Go.sizeOf fd.type).run P w=.ok s w)(h0:Nat.beq s 0=false):Ex P n L w ⟨d,.fieldAddr t x f,ty,pos,af,g⟩ (ptr b (o+off)) w:=Ex.fieldAddr (off:=off) (hx:=.of hx) (ht:=ht) (hf:=hf) (ho:=ho) (hs:=hs) (h0:=h0)
theorem Ex.fi{d:Option Nat}{f:Nat}{s:Nat}(off:Nat)(hx:ev L x=some (.pointer (some p)))(ht:P.underlying t=some (.struct fs))(hf:fs[f]?=some fd)(ho:fd.offset=off)(hs:∀w,(Go.sizeOf fd.type).run P w=.ok s w)(h0:Nat.beq s 0=false):Ex P n L w ⟨d,.fieldAddr t x f,ty,pos,af,g⟩ (.pointer (some (p.add off))) w:=Ex.FQ (off:=off) (hx:=.of hx) (ht:=ht) (hf:=hf) (ho:=ho) (hs:=hs) (h0:=h0)
theorem Ex.lo{d:Option Nat}(hx:ev L x=some (ptr b o))(hS:Aa B w I As)(hk:As[k]?=some (Ae b cs E))(ht:∀w,(isAgg t).run P w=.ok false w)(hv:cs[o]?=some v):Ex P n L w ⟨d,.load t x,ty,pos,af,g⟩ v w:=Ex.ld (hx:=.of hx) (hS:=hS) (hk:=hk) (ht:=ht) (hv:=hv)
theorem Ex.io{d:Option Nat}{len s:Nat}{i:Int}(hx:ev L x=some (.slice (some (ad b o)) len cap))(hy:ev L y=some (Ab i))(hi:0<=i)(hl:i<len)(ht:P.underlying t=some (.slice e))(hs:∀w,(Go.sizeOf e).run P w=.ok s w):Ex P n L w ⟨d,.indexAddr t x y,ty,pos,af,g⟩ (ptr b (o+i.toNat*s)) w:=Ex.indexAddr (hx:=.of hx) (hy:=.of hy) (hi:=hi) (hl:=hl) (ht:=ht) (hs:=hs)
theorem Ex.ii{d:Option Nat}{len s:Nat}{i:Int}(hx:ev L x=some (.slice (some p) len cap))(hy:ev L y=some (Ab i))(hi:0<=i)(hl:i<len)(ht:P.underlying t=some (.slice e))(hs:∀w,(Go.sizeOf e).run P w=.ok s w):Ex P n L w ⟨d,.indexAddr t x y,ty,pos,af,g⟩ (.pointer (some (p.add (i.toNat*s)))) w:=Ex.CJ (hx:=.of hx) (hy:=.of hy) (hi:=hi) (hl:=hl) (ht:=ht) (hs:=hs)
theorem Be{xs:List Operand}(hx:ev L x=some v)(h:∀a,Aw n L a->xs.map a.eval=vs):∀a,Aw n L a->(x::xs).map a.eval=v::vs:=X5 (hx:=.of hx) (h:=h)
theorem QB{ps:List (Nat×Operand)}{vs:List (Nat×Va)}(hx:ev L x=some v)(h:∀a,Aw n L a->ps.toArray.toList.map (λp=>(p.1,a.eval p.2))=vs):∀a,Aw n L a->((i,x)::ps).toArray.toList.map (λp=>(p.1,a.eval p.2))=(i,v)::vs:=Xj2 (hx:=.of hx) (h:=h)
theorem WL.so{s:Nat}(hS:Aa B w I As)(hk:As[k]?=some (Ae b cs E))(hx:ev L x=some (ptr b o))(hy:ev L y=some (.agg vs.toArray))(h1:vs.all Value.oneCell'=true)(hs:∀w,(Go.sizeOf t).run P w=.ok s w)(hl:vs.length=s)(ho:o+s<=cs.length)
    (h:∀w',Aa B w' I (As.set k (Ae b (cs.take o++vs++cs.drop (o+s)) E))->WL P n ops K rest L w'):WL P n ops K (⟨none,.store t x y,ty,pos,af,none⟩::rest) L w:=WL.CX (hS:=hS) (hk:=hk) (hx:=.of hx) (hy:=.of hy) (h1:=h1) (hs:=hs) (hl:=hl) (ho:=ho) (h:=h)
theorem WL.s1(hS:Aa B w I As)(hk:As[k]?=some (Ae b cs E))(hx:ev L x=some (ptr b o))(hy:ev L y=some v)(h1:v.oneCell'=true)(hs:∀w,(Go.sizeOf t).run P w=.ok 1 w)(ho:o<cs.length)
    (h:∀w',Aa B w' I (As.set k (Ae b (cs.set o v) E))->WL P n ops K rest L w'):WL P n ops K (⟨none,.store t x y,ty,pos,af,none⟩::rest) L w:=WL.st1 (hS:=hS) (hk:=hk) (hx:=.of hx) (hy:=.of hy) (h1:=h1) (hs:=hs) (ho:=ho) (h:=h)
theorem WL.vm(hx:ev L x=some v)(hd:Nat.blt d n=true)(h:WL P n ops K rest ((d,v)::L) w):WL P n ops K (⟨some d,.move x,ty,pos,af,none⟩::rest) L w:=WL.val (.move (.of hx)) hd h
theorem WL.gm{j t:Nat}{b:Bool}(hj:(ops[j]?).bind (·.dst)=some t)(hb:look L t=some (.bool b))(hx:ev L x=some v)(hd:Nat.blt d n=true)(h:WL P n ops K rest ((d,gd b want v)::L) w):WL P n ops K (⟨some d,.move x,ty,pos,af,some (j,want)⟩::rest) L w:=WL.AA hj hb (λ_=>.move (.of hx)) hd h
end
section
variable {P:Program} {n:Nat} {K:BK} {L:AK} {w w':Wo} {ops:Array Oper} {rest:List Oper}
variable {B:Wo} {I:Im} {As:La} {k:Nat} {d:Nat} {ty:TypeId} {pos:String} {af:Array Edge} {g:Option (Nat×Bool)} {t e:TypeId} {x y:Operand}
theorem WC.Aai{c c':Code}(E:σ->AK)(inv:σ->Wo->Prop)(h:WC P n c (HZ (λL w=>∃s,Sub (E s) L/\inv s w) K) L w)(h2:∀s w,inv s w->WC P n c' K (E s) w):WC P n (.seq c c') K L w :=
 WC.cut _ h λ_ _ ⟨s,hs,hi⟩=>(h2 s _ hi).sub hs
theorem oG(f:α->Va)(l:List α)(VJ:α)(rest:Lv){i:Int}(hi:0<=i)(hl:i<(l.length:Int))(s:Nat)(hs:s=1):(l.map f++rest)[0+i.toNat*s]?=some (f (l.getD i.toNat VJ)):=by
 subst hs;have h:i.toNat<l.length:=om
 simp[sV,h,Ya]
theorem Ex.rB{d:Option Nat}{s:Nat}(f:α->Va)(l:List α)(VJ:α)(r:Lv){i:Int}(hx:Ev n L x (ptr b (0+i.toNat*s)))(hS:Aa B w I As)(hk:As[k]?=some (Ae b (l.map f++r) E))(hs:s=1)(ht:∀w,(isAgg t).run P w=.ok false w)(hi:0<=i)(hl:i<(l.length:Int)):Ex P n L w ⟨d,.load t x,ty,pos,af,g⟩ (f (l.getD i.toNat VJ)) w:=Ex.ld hx hS hk ht (oG f l VJ r hi hl s hs)
theorem Ex.vF{d:Option Nat}{s:Nat}(f:α->Va)(l:List α)(VJ:α){i:Int}(hx:Ev n L x (.pointer (some (p.add (i.toNat*s)))))(hS:Aa B w I As)(ha:At I p (l.map f))(hs:s=1)(ht:∀w,(isAgg t).run P w=.ok false w)(hi:0<=i)(hl:i<(l.length:Int)):Ex P n L w ⟨d,.load t x,ty,pos,af,g⟩ (f (l.getD i.toNat VJ)) w :=
 Ex.Ca hx hS (ha.add _) ht (by
  subst hs;have h:i.toNat<l.length:=om
  simp[h,Ya])
theorem WL.stE{s:Nat}(f:α->Va)(l:List α)(r:Lv){i:Int}{u:α}(hS:Aa B w I As)(hk:As[k]?=some (Ae b (l.map f++r) E))(hx:Ev n L x (ptr b (0+i.toNat*s)))(hy:Ev n L y (f u))(h1:(f u).oneCell'=true)(hs:s=1)(ht:∀w,(Go.sizeOf t).run P w=.ok 1 w)(hi:0<=i)(hl:i<(l.length:Int))
  (h:∀w',Aa B w' I (As.set k (Ae b ((l.set i.toNat u).map f++r) E))->WL P n ops K rest L w'):WL P n ops K (⟨none,.store t x y,ty,pos,af,none⟩::rest) L w:=by
 subst hs;have h0:i.toNat<l.length:=om
 refine .st1 hS hk hx hy h1 ht (by simp;omega) λw' C9=>h w' ?_
 have e:(l.map f++r).set (0+i.toNat*1) (f u)=(l.set i.toNat u).map f++r:=by
  rw[Y55 _ _ (by simp;omega),Y61]
  simp
 rw[e]at C9;exact C9
theorem Aa.TV{E:Nat}(hS:Aa B w I As)(hk:As[k]?=some (Ar E size (.slice a nn c) nn xs))(hm:m<=nn):Aa B w I (As.set k (Ar E size (sliced a 0 m c size) m (xs.take (m*size)))) :=
 hS.say hk λh ⟨hl,hh⟩=>by
  have hml:m*size<=xs.length:=by rw[hl];exact U4 _ hm
  refine⟨by rw[Yl];omega,?_⟩;rcases hh with⟨hv,rfl,rfl⟩|⟨b,cap,r,hv,rfl,h1,h2,h3⟩
  ·injection hv with hv HP GQ
   subst hv;subst GQ;have hm0:m=0:=om
   subst hm0;exact .inl ⟨O,O,O⟩
  ·injection hv with hv HP GQ
   subst hv;subst GQ;refine .inr ⟨b,c,xs.drop (m*size)++r,?_,?_,om,h2,?_⟩
   ·simp only[sliced,jz,yM,s7]
    congr 1
    split<;>rfl
   ·rw[<-Yc,Mv]
   ·rw[Y0,Yl,Ye];omega
theorem Aa.OD{f:α->Va}{E:Nat}{l:List α}(hS:Aa B w I As)(hk:As[k]?=some (Ar E 1 (.slice a l.length c) l.length (l.map f)))(hm:m<=l.length):∃a2 c2,sliced a 0 m c 1=.slice a2 (l.take m).length c2/\Aa B w I (As.set k (Ar E 1 (.slice a2 (l.take m).length c2) (l.take m).length ((l.take m).map f))):=by
 have h:=hS.TV hk hm;have e:(l.take m).length=m:=by rw[Yl];omega
 rw[Gv,<-Y66]at h;rw[e];exact⟨_,_,O,h⟩
theorem WL.H6{E j:Nat}{ys:Lv}{i:TypeInfo}{z:Va}(hS:Aa B w I As)(hx:Ev n L x v)(hy:Ev n L y (.slice a m c))
  (hk:As[k]?=some (Ar E size v nn xs)) (hj:As[j]?=some (Ar E size (.slice a m c) m ys)) (ht:P.underlying t=some (.slice E)) (hi:P.info? E=some i) (hz:i.zero=some z) (Bv:i.size=size) (KH:i.bytes=bytes) (N5:z.cells.size=size)
  (h1:ys.all Value.oneCell'=true) (FB:(nn+m)*bytes<=140737488355328/\nn+m<=maxLen) (hd:Nat.blt d n=true)
  (h:∀v' w',Aa B w' I (As.set k (Ar E size v' (nn+m) (xs++ys)))->WL P n ops K rest ((d,v')::L) w') :WL P n ops K (⟨some d,.call ⟨.builtin .append,#[x,y],#[t,t]⟩,ty,pos,af,none⟩::rest) L w:=by
 have hys:ys.length=m*size:=hS.D5 hj λ_ hh=>hh.1
 rcases Nx m with h0|h0
 ·subst h0;have jQ:ys=[]:=Yf (su hys);subst jQ;obtain⟨a0,c0,rfl,mJ,_⟩:=hS.Av hk;have hr:(Builtin.append_ #[t,t] ty #[.slice a0 nn c0,.slice a 0 c]).run P w=.ok (.slice a0 nn c0) w:=by
   subst Bv;cases a0<;>cases a<;>simp[Builtin.append_,run_underlying ht,Go.sizeOf,typeInfo,hi,Builtin.lenOf,Builtin.firstCells,loadCells,loadCellsFrom,storeCells,mJ]
  have h2:=h (.slice a0 nn c0) w (by
   have E6:k<As.length:=(Y1.1 hk).1
   have:As.set k (Ar E size (.slice a0 nn c0) (nn+0) (xs++[]))=As:=by
    rw[Hn,Yr]
    have:=(Y1.1 hk).2
    rw[<-this,sU]
   rw[this];exact hS)
  exact WL.val (w':=w) (λa' ha=>by simp[execOp,resolve,invoke,builtin,hx a' ha,hy a' ha,hr]) hd h2
 ·obtain⟨b,cap,r,hv,_,_,_,_,Jq⟩:=hS.AP hj h0;injection hv with hv HP GQ
  subst hv;subst GQ;have hlj:j<As.length:=(Y1.1 hj).1;have hb:=Jq.block (k:=j) (b:=b) (o:=Xi (ys++r) E) (by simp[hlj,Ae]);obtain⟨v',w',hr,C9⟩:=X5p (P:=P) (ty:=ty) hS ht hi hz Bv KH N5 hk (p:=ad b 0) (m:=m) (c:=c) hys h0 (λq u hu=>by
   rw[EE,Yj];refine HU hb ?_;have hq:q<ys.length:=(Y1.1 hu).1;rw[Y9 hq];exact hu) (Yv.1 h1) FB.2 FB.1
  exact WL.val (w':=w') (λa' ha=>by simp[execOp,resolve,invoke,builtin,hx a' ha,hy a' ha,hr]) hd (h _ _ C9)
theorem Xe(l:Lu){k:Nat}(h:k<l.length):l.drop k=at_ l (k:Int)::l.drop (k+1):=by
 rw[Yp h];simp[at_,Ya,h]
end
def WQ(P:Program)(n:Nat)(ops:Array Oper)(C:Wo->Prop)(K:AK->Prop)(l:List Oper)(L:AK):Prop :=
 ∀a,Aw n L a->wpQuiet P ops C (λa'=>∃L',Aw n L' a'/\K L') l a
def WT(P:Program)(n:Nat)(ops:Array Oper)(w:Wo)(K:BK)(rest l:List Oper)(L:AK):Prop :=
 ∀a,Aw n L a->wpStill P ops w (λa'=>wpList P ops (UX n K) rest a' w) l a
section
variable {P:Program} {n:Nat} {K:BK} {L:AK} {w:Wo} {ops:Array Oper} {rest tl:List Oper} {C:Wo->Prop} {k:AK->Prop}
variable {B:Wo} {I:Im} {As:La}
theorem WC.quiet{id:Nat}{l:List Oper}(hm:P.follows .mixedOrders=true)(hB:Region.lexB .any l.toArray=true)(hS:Aa B w I As)
  (h:WQ P n l.toArray (λw=>Aa B w I As) (λL'=>∀w',Aa B w' I As->K .normal L' w') l L):WC P n (.region id l.toArray true) K L w:=by
 intro a ha;refine wp_region_quiet (C:=λw=>Aa B w I As) hm hB (hS.world O O O O) ?_;have h1:=h a ha;have mono:∀(l':List Oper) (a:Act) (Q Q':Act->Prop),(∀a,Q a->Q' a)->wpQuiet P l.toArray (λw=>Aa B w I As) Q l' a->wpQuiet P l.toArray (λw=>Aa B w I As) Q' l' a:=by
  intro l'
  induction l' with
  | nil=>intro a Q Q' hq hh;exact hq _ hh
  | cons o r ih =>
   intro a Q Q' hq hh;unfold wpQuiet at hh ⊢;split
   ·rename_i hw;rw[Y7 hw]at hh;exact Oper.quiet_mono (λa=>ih a Q Q' hq) hh
   ·rename_i hw;rw[Y3 hw]at hh;exact ih _ Q Q' hq hh
 refine mono l a (λa'=>∃L',Aw n L' a'/\∀w',Aa B w' I As->K .normal L' w') _ (λa' hh w' hw'=>?_) h1;obtain⟨L',hL,hk⟩:=hh;exact⟨L',hL,hk w' hw'⟩
theorem WQ.nil(h:k L):WQ P n ops C k [] L:=λa ha=>wpQuiet_nil ⟨L,ha,h⟩
theorem WQ.val(hx:∀w,C w->Ex P n L w ⟨some d,op,ty,pos,af,none⟩ v w)(hd:Nat.blt d n=true)
  (h:WQ P n ops C k rest ((d,v)::L)):WQ P n ops C k (⟨some d,op,ty,pos,af,none⟩::rest) L:=by
 intro a ha;refine wpQuiet_step λK' hK=>?_
 rw[Y7 (wQ O _)];refine⟨v,λw hw=>?_,hK _ (h _ (ha.put hd v))⟩;unfold Oper.quietAt;rw[hx w hw a ha];exact⟨O,O⟩
theorem WQ.NK{j t:Nat}{c:List (Bool×Bool)}{b:Bool}
  (hj:(ops[j]?).bind (·.dst)=some t) (ht:Nat.blt t n=true) (hb:look L t=some (Fi c (.bool b))) (hx:(∀p∈c++[(b,want)],p.1=p.2)->∀w,C w->Ex P n L w ⟨some d,op,ty,pos,af,some (j,want)⟩ v w) (hd:Nat.blt d n=true)
  (h:WQ P n ops C k rest ((d,Fi (c++[(b,want)]) v)::L)):WQ P n ops C k (⟨some d,op,ty,pos,af,some (j,want)⟩::rest) L:=by
 intro a ha;refine wpQuiet_step λK' hK=>?_
 have BM:=h _ (ha.put hd (Fi (c++[(b,want)]) v));have BO:t<a.tmps.size:=by have:=H5 ht;rw[ha.size];omega
 have hv:=ha.get t _ hb;have hy:yielded ops a.tmps j=match Fi c (.bool b)with|.bool b=>some b|_=>none:=by
  obtain⟨o,ho,mP⟩:=yt.1 hj;rw[Lk,O2 BO]at hv;simp only[yG]at hv
  have h2:a.tmps[t]?=some (Fi c (.bool b)):=by rw[O2 BO,hv]
  simp only[yielded,ho,mP,qH,h2]
  generalize Fi c (.bool b)=g;cases g<;>rfl
 by_cases e:∀p∈c++[(b,want)],p.1=p.2
 ·have ec:∀p∈c,p.1=p.2:=λp hp=>e p (by simp[hp])
  have eb:b=want:=e (b,want) sz;rw[UA ec]at hy;rw[Y7 (by simp[Region.wanted,hy,eb])];rw[UA e]at BM;refine⟨v,λw hw=>?_,hK _ BM⟩;unfold Oper.quietAt;rw[hx e w hw a ha];exact⟨O,O⟩
 ·have hw:Region.wanted (⟨some d,op,ty,pos,af,some (j,want)⟩:Oper) (yielded ops a.tmps)=false:=by
   by_cases ec:∀p∈c,p.1=p.2
   ·rw[UA ec]at hy;have eb:¬ b=want:=λeb=>e λp hp=>by
     rcases Yn.1 hp with hp|hp
     ·exact ec p hp
     ·simp at hp;subst hp;exact eb
    simp[Region.wanted,hy,eb]
   ·rw[kN ec]at hy;simp[Region.wanted,hy,undef]
  rw[Y3 (by simp[hw])];rw[kN e]at BM;exact hK _ BM
theorem WQ.AA{j t:Nat}{b:Bool}
  (hj:(ops[j]?).bind (·.dst)=some t) (ht:Nat.blt t n=true) (hb:look L t=some (.bool b)) (hx:b=want->∀w,C w->Ex P n L w ⟨some d,op,ty,pos,af,some (j,want)⟩ v w) (hd:Nat.blt d n=true)
  (h:WQ P n ops C k rest ((d,gd b want v)::L)):WQ P n ops C k (⟨some d,op,ty,pos,af,some (j,want)⟩::rest) L :=
 WQ.NK (c:=[]) hj ht hb (λe=>hx (e (b,want) sz)) hd h
theorem WQ.call{xs:List Operand}(hf:P.funcs[f]?=some fn)(hc:Xb fn=true)(hx:∀a,Aw n L a->xs.map a.eval=vs)(hd:Nat.blt d n=true)
  (BE:∀w,C w->Calls P f vs.toArray w (A4 λu w'=>u=v/\C w')) (h:WQ P n ops C k rest ((d,v)::L)):WQ P n ops C k (⟨some d,.call ⟨.value (.func f),xs.toArray,ts⟩,ty,pos,af,none⟩::rest) L:=by
 intro a ha;refine wpQuiet_step λK' hK=>?_
 rw[Y7 (wQ O _)];refine⟨v,λw hw=>?_,hK _ (h _ (ha.put hd v))⟩;have he:(execOp a.eval (⟨some d,.call ⟨.value (.func f),xs.toArray,ts⟩,ty,pos,af,none⟩:Oper)).run P w=.ok (.enter f vs.toArray) w:=by
  unfold Xb at hc;simp only[Yb]at hc
  obtain⟨h1,h2⟩:=hc;have Fj : ¬ fn.name = "runtime.NumGoroutine" := by simpa using h1
  have Ge:¬ fn.body=none:=by intro e;rw[e]at h2;cases h2
  have hv:=hx a ha;simp[execOp,resolve,Act.eval,Deferred.ofValue,invoke,callFunc,program,Sem.run,hf,Fj,Ge,<-hv]
 unfold Oper.quietAt;rw[he];refine⟨O,(BE w hw).mono ?_⟩;rintro e TW ⟨u,rfl,rfl,hC⟩;exact⟨O,hC⟩
theorem WC.tail{id:Nat}{l:List Oper}(N:Nat)(hm:P.follows .mixedOrders=true)(hB:Region.lexTailB .any l.toArray N=true)
  (h:WT P n l.toArray w.drew K (l.drop N) (l.take N) L):WC P n (.region id l.toArray true) K L w:=by
 intro a ha;exact wp_region_still_tail N hm hB (h a ha)
theorem WT.nil(h:WL P n ops K tl L w):WT P n ops w K tl [] L:=λa ha=>wpStill_nil (h a ha)
theorem WT.val(hx:Ex P n L w ⟨some d,op,ty,pos,af,none⟩ v w)(hd:Nat.blt d n=true)
  (h:WT P n ops w K tl rest ((d,v)::L)):WT P n ops w K tl (⟨some d,op,ty,pos,af,none⟩::rest) L:=by
 intro a ha;refine wpStill_step λK' hK=>?_
 rw[Y7 (wQ O _)];unfold Oper.still;rw[hx a ha];exact⟨O,hK _ (h _ (ha.put hd v))⟩
end
theorem WT.vm{K:BK}{L:AK}{tl:List Oper}{x:Operand}(hx:ev L x=some v)(hd:Nat.blt d n=true)(h:WT P n ops w K tl rest ((d,v)::L)):WT P n ops w K tl (⟨some d,.move x,ty,pos,af,none⟩::rest) L:=WT.val (.move (.of hx)) hd h
section
variable {P:Program} {ops:Array Oper} {Q:Exit->Act->Wo->Prop} {md:Region.Mode} {S:Wo->Prop} {nd:Nat->Bool}
def jf(P:Program)(md:Region.Mode)(ops:Array Oper)(Q:Exit->Act->World->Prop)(S:World->Prop)(nd:Nat->Bool):Nat->Array Bool->Act->World->Prop
 | 0,Ad,a,w=>Region.ready md ops Ad=[]/\Q .normal a w
 | fuel+1,Ad,a,w =>
  (Region.ready md ops Ad=[]->Q .normal a w)/\
  ∀i∈Region.ready md ops Ad,wpOp P ops Q i (λa' w'=>(nd i=true->S w->S w')/\jf P md ops Q S nd fuel (Ad.setIfInBounds i true) a' w') a w
theorem Xjr:∀(fuel:Nat) (Ad:Array Bool) (a:Act) (w:Wo),jf P md ops Q S nd fuel Ad a w->wpAny P md ops Q fuel Ad a w
 | 0,_,_,_,h=>h
 | fuel+1,_,_,_,h=>⟨h.1,λi hi=>wpOp_mono (λa' w' h'=>Xjr fuel _ a' w' h'.2) (h.2 i hi)⟩
def Xh1(md:Region.Mode)(ops:Array Oper)(nd:Nat->Bool)(i:Nat):Bool :=
 (List.range ops.size).all λj=>nd j||j==i||match ops[j]? with
  | some oj=>oj.after.any (λe=>Region.binds md e&&e.on==i)
  | none=>true
theorem Xt4{oi:Oper}(hi:ops[i]?=some oi)(N2:∀(j:Nat) (o:Oper) cs b,ops[j]?=some o->o.op≠.select cs b)
  (hQ:∀c a w,Q (.panic c) (a.put oi.dst v) w->Q (.panic c) a w) :∀(fuel:Nat) (Ad:Array Bool) (a:Act) (w:Wo),
   (∀j oj,ops[j]?=some oj->j≠i->Ad.getD j true=false->(∀e∈oj.after,Region.binds md e=true->e.on≠i)->oi.apart ops oj=true)->
   i∈Region.ready md ops Ad->YieldsIf P ops (λ_=>True) oi v a->
   jf P md ops Q S nd fuel (Ad.setIfInBounds i true) (a.put oi.dst v) w->jf P md ops Q S nd (fuel+1) Ad a w:=by
 intro fuel
 induction fuel with
 | zero =>
  intro Ad a w _ hr hy H;refine⟨λh=>(by rw[h]at hr;cases hr),λj hj=>?_⟩
  by_cases FD:j=i
  ·subst FD;exact hy.wpOp hi trivial ⟨λ_ h=>h,H⟩
  ·have:=ready_mono hj FD
   rw[H.1]at this;cases this
 | succ fuel ih =>
  intro Ad a w Ht hr hy H;refine⟨λh=>(by rw[h]at hr;cases hr),λj hj=>?_⟩
  by_cases FD:j=i
  ·subst FD;exact hy.wpOp hi trivial ⟨λ_ h=>h,H⟩
  ·have h1:=H.2 j (ready_mono hj FD);obtain⟨NU,oj,O_,AW⟩:=mem_ready.1 hj;have LR:∀e∈oj.after,Region.binds md e=true->e.on≠i:=λe he hb heq=>by
    have h1:=AW e he hb;have h0:=(mem_ready.1 hr).1;rw[heq]at h1;rcases C5 i Ad.size with h'|h'
    ·simp[h']at h0 h1;rw[h0]at h1;cases h1
    ·simp[Y43 h']at h1
   have h2:=wpOp_putIf O_ (Ht j oj O_ FD NU LR) (λcs b=>N2 i oi cs b hi) (λcs b=>N2 j oj cs b O_) hQ hy h1;have IP:∀k ok,ops[k]?=some ok->k≠i->(Ad.setIfInBounds j true).getD k true=false->
     (∀e∈ok.after,Region.binds md e=true->e.on≠i)->oi.apart ops ok=true:=λk ok hk O7 MA AL=>by
    refine Ht k ok hk O7 ?_ AL
    by_cases ep:j=k
    ·subst ep;exact NU
    ·rw[getD_set_ne true ep]at MA;exact MA
   refine wpOp_mono (λa' w' h3=>⟨h3.2.1,ih (Ad.setIfInBounds j true) a' w' IP (ready_mono hr (Ne.symm FD)) h3.1 ?_⟩) h2;rw[Y4m _ _ FD];exact h3.2.2
theorem Xd5{oi:Oper}(hi:ops[i]?=some oi)(N2:∀(j:Nat) (o:Oper) cs b,ops[j]?=some o->o.op≠.select cs b)
  (hQ:∀c a w,Q (.panic c) (a.put oi.dst v) w->Q (.panic c) a w) (Qq:Xh1 md ops nd i=true) :∀(fuel:Nat) (Ad:Array Bool) (a:Act) (w:Wo),
   (∀j oj,ops[j]?=some oj->j≠i->Ad.getD j true=false->(∀e∈oj.after,Region.binds md e=true->e.on≠i)->oi.apart ops oj=true)->
   i∈Region.ready md ops Ad->YieldsIf P ops S oi v a->S w->
   jf P md ops Q S nd fuel (Ad.setIfInBounds i true) (a.put oi.dst v) w->jf P md ops Q S nd (fuel+1) Ad a w:=by
 intro fuel
 induction fuel with
 | zero =>
  intro Ad a w _ hr hy hS H;refine⟨λh=>(by rw[h]at hr;cases hr),λj hj=>?_⟩
  by_cases FD:j=i
  ·subst FD;exact hy.wpOp hi hS ⟨λ_ h=>h,H⟩
  ·have:=ready_mono hj FD
   rw[H.1]at this;cases this
 | succ fuel ih =>
  intro Ad a w Ht hr hy hS H;refine⟨λh=>(by rw[h]at hr;cases hr),λj hj=>?_⟩
  by_cases FD:j=i
  ·subst FD;exact hy.wpOp hi hS ⟨λ_ h=>h,H⟩
  ·have h1:=H.2 j (ready_mono hj FD);obtain⟨NU,oj,O_,AW⟩:=mem_ready.1 hj;have LR:∀e∈oj.after,Region.binds md e=true->e.on≠i:=λe he hb heq=>by
    have h1:=AW e he hb;have h0:=(mem_ready.1 hr).1;rw[heq]at h1;rcases C5 i Ad.size with h'|h'
    ·simp[h']at h0 h1;rw[h0]at h1;cases h1
    ·simp[Y43 h']at h1
   have eA:nd j=true:=by
    have BO:j<ops.size:=(Ll.1 O_).1;have h9:=(Yv.1 Qq) j (yL.2 BO);simp only[O_,PM,beq_iff_eq,FD,or_false]at h9
    rcases h9 with h9|h9
    ·exact h9
    ·obtain⟨e,he,hb⟩:=Array.any_eq_true'.1 h9;simp only[Yb,beq_iff_eq]at hb
     exact Yy hb.2 (LR e he hb.1)
   have h2:=wpOp_putIf O_ (Ht j oj O_ FD NU LR) (λcs b=>N2 i oi cs b hi) (λcs b=>N2 j oj cs b O_) hQ hy h1;have IP:∀k ok,ops[k]?=some ok->k≠i->(Ad.setIfInBounds j true).getD k true=false->
     (∀e∈ok.after,Region.binds md e=true->e.on≠i)->oi.apart ops ok=true:=λk ok hk O7 MA AL=>by
    refine Ht k ok hk O7 ?_ AL
    by_cases ep:j=k
    ·subst ep;exact NU
    ·rw[getD_set_ne true ep]at MA;exact MA
   refine wpOp_mono (λa' w' h3=>⟨λ_ _=>h3.2.1 eA hS,ih (Ad.setIfInBounds j true) a' w' IP (ready_mono hr (Ne.symm FD)) h3.1 (h3.2.1 eA hS) ?_⟩) h2;rw[Y4m _ _ FD];exact h3.2.2
end
def Td(K:BK):BK
 | .panic _,_,_=>False
 | e,L,w=>K e L w
def WD(P:Program)(n:Nat)(ops:Array Oper)(S:Wo->Prop)(nd:Nat->Bool)(K:BK)(fuel:Nat)(Ad:Array Bool)(L:AK)(w:Wo):Prop :=
 ∀a,Aw n L a->jf P .any ops (UX n (Td K)) S nd fuel Ad a w
section
variable {P:Program} {n:Nat} {K:BK} {L:AK} {w:Wo} {ops:Array Oper} {S:Wo->Prop} {nd:Nat->Bool} {fuel:Nat} {Ad:Array Bool}
theorem WC.drawn(S:Wo->Prop)(nd:Nat->Bool){id:Nat}{l:List Oper}(hm:P.follows .mixedOrders=true)(h:WD P n l.toArray S nd K l.toArray.size (Array.replicate l.toArray.size false) L w.drew):WC P n (.region id l.toArray true) K L w:=by
 refine .mono (K:=Td K) (λa ha=>wp_region_any hm (Xjr _ _ _ _ (h a ha))) ?_;intro e L w hh;cases e<;>first|exact hh|exact hh.elim
theorem WD.done(hr:Region.ready .any ops Ad=[])(h:K .normal L w):WD P n ops S nd K fuel Ad L w:=λa ha=>by
 cases fuel with
 | zero=>exact⟨hr,L,ha,h⟩
 | succ f=>exact⟨λ_=>⟨L,ha,h⟩,by rw[hr];simp⟩
theorem WD.take(hi:ops[i]?=some ⟨some d,op,ty,pos,af,none⟩)(hs:Region.noSelect ops=true)(hf:Region.free .any ops Ad i=true)(hr:(Region.ready .any ops Ad).contains i=true)
  (Qq:Xh1 .any ops nd i=true) (hS:S w) (hx:∀w,S w->Ex P n L w ⟨some d,op,ty,pos,af,none⟩ v w) (hd:Nat.blt d n=true)
  (h:WD P n ops S nd K fuel (Ad.setIfInBounds i true) ((d,v)::L) w):WD P n ops S nd K (fuel+1) Ad L w:=λa ha =>
 Xd5 hi (Region.noSelect_spec hs) (λ_ _ _ ⟨_,_,hk⟩=>hk.elim) Qq fuel Ad a w (Region.free_spec hi hf) (su hr)
  (.inl ⟨wQ O _,λw hw=>hx w hw a ha⟩) hS (h _ (ha.put hd v))
theorem WD.ik(hi:ops[i]?=some ⟨some d,op,ty,pos,af,none⟩)(hs:Region.noSelect ops=true)(hf:Region.free .any ops Ad i=true)(hr:(Region.ready .any ops Ad).contains i=true)
  (hx:∀w,Ex P n L w ⟨some d,op,ty,pos,af,none⟩ v w) (hd:Nat.blt d n=true)
  (h:WD P n ops S nd K fuel (Ad.setIfInBounds i true) ((d,v)::L) w):WD P n ops S nd K (fuel+1) Ad L w:=λa ha =>
 Xt4 hi (Region.noSelect_spec hs) (λ_ _ _ ⟨_,_,hk⟩=>hk.elim) fuel Ad a w (Region.free_spec hi hf) (su hr)
  (.inl ⟨wQ O _,λw _=>hx w a ha⟩) (h _ (ha.put hd v))
theorem WD.FF{j t:Nat}{b:Bool}(hi:ops[i]?=some ⟨some d,op,ty,pos,af,some (j,want)⟩)(hs:Region.noSelect ops=true)(hf:Region.free .any ops Ad i=true)(hr:(Region.ready .any ops Ad).contains i=true)
  (Qq:Xh1 .any ops nd i=true) (hS:S w) (hj:(ops[j]?).bind (·.dst)=some t) (hb:look L t=some (.bool b)) (hx:b=want->∀w,S w->Ex P n L w ⟨some d,op,ty,pos,af,some (j,want)⟩ v w) (hd:Nat.blt d n=true)
  (h:WD P n ops S nd K fuel (Ad.setIfInBounds i true) ((d,gd b want v)::L) w):WD P n ops S nd K (fuel+1) Ad L w:=λa ha=>by
 have hy:=zL ha hj hb;have BM:=h _ (ha.put hd (gd b want v));refine Xd5 hi (Region.noSelect_spec hs) (λ_ _ _ ⟨_,_,hk⟩=>hk.elim) Qq fuel Ad a w (Region.free_spec hi hf) (su hr) (v:=gd b want v) ?_ hS BM
 by_cases e:b=want
 ·left
  refine⟨by simp[Region.wanted,hy,e],λw hw=>?_⟩
  have:=hx e w hw a ha
  subst e;simpa[gd]using this
 ·right
  have e':(b==want)=false:=su e
  refine⟨by simp[Region.wanted,hy,e],?_⟩;simp only[gd,e',cond_false]
def WO(P:Program)(n:Nat)(ops:Array Oper)(S:Wo->Prop)(nd:Nat->Bool)(K:BK)(fuel:Nat)(Ad:Array Bool)(L:AK)(w:Wo)(rs:List Nat):Prop :=
 ∀i∈rs,∀o,ops[i]?=some o->WL P n ops (HZ (λL' w'=>(nd i=true->S w->S w')/\WD P n ops S nd K fuel (Ad.setIfInBounds i true) L' w') (Td K)) [o] L w
theorem WO.nil:WO P n ops S nd K fuel Ad L w []:=λ_ h=>by cases h
theorem WO.cons{o:Oper}{rs:List Nat}(ho:ops[i]?=some o)
  (h:WL P n ops (HZ (λL' w'=>(nd i=true->S w->S w')/\WD P n ops S nd K fuel (Ad.setIfInBounds i true) L' w') (Td K)) [o] L w) (hr:WO P n ops S nd K fuel Ad L w rs):WO P n ops S nd K fuel Ad L w (i::rs):=by
 intro j hj o' ho';rcases Yi.1 hj with rfl|hj
 ·rw[ho]at ho';cases ho';exact h
 ·exact hr j hj o' ho'
theorem WD.branch(rs:List Nat)(hr:Region.ready .any ops Ad=rs)(A8:rs.isEmpty=false)(h:WO P n ops S nd K fuel Ad L w rs):WD P n ops S nd K (fuel+1) Ad L w:=by
 intro a ha;refine⟨λh0=>?_,λi hi=>?_⟩
 ·rw[hr]at h0;rw[h0]at A8;cases A8
 ·rw[hr]at hi;obtain⟨_,o,ho,_⟩:=mem_ready.1 (hr▸hi);have h1:=h i hi o ho a ha;unfold wpOp;simp only[ho]
  unfold wpList at h1;have conv:∀(a':Act) (w':Wo),wpList P ops (UX n (HZ (λL' w'=>(nd i=true->S w->S w')/\WD P n ops S nd K fuel (Ad.setIfInBounds i true) L' w') (Td K))) [] a' w'->
    (nd i=true->S w->S w')/\jf P .any ops (UX n (Td K)) S nd fuel (Ad.setIfInBounds i true) a' w':=λa' w' ⟨L',hL,hS,hd⟩=>⟨hS,hd a' hL⟩
  have R9:∀(e:Exit) (a':Act) (w':Wo),e≠.normal->UX n (HZ (λL' w'=>(nd i=true->S w->S w')/\WD P n ops S nd K fuel (Ad.setIfInBounds i true) L' w') (Td K)) e a' w'->UX n (Td K) e a' w':=λe a' w' he ⟨L',hL,hk⟩=>⟨L',hL,by cases e<;>first|exact hk|exact Yy O he⟩
  split at h1
  ·rename_i hw
   rw[Y7 hw];rcases h1 with h1|⟨Aaw,a1,w1,ho1⟩
   ·left
    have h2:=Oper.wp_mono conv h1;unfold Oper.wp at h2 ⊢;generalize (execOp a.eval o).run P w=r at *;cases r with
    | ok nx w' =>
     cases nx<;>simp only[Oper.upon]at h2 ⊢
     case value=>exact h2
     case skip=>exact h2
     case defer=>exact h2
     case enter f args =>
      refine Calls.mono h2 λe TW he=>?_
      cases e with
      | returned u=>exact he
      | panicked c=>exact R9 _ _ _ sz he
      | outgrown =>
       obtain⟨a1,w1,h9⟩:=he;exact⟨a1,w1,R9 _ _ _ sz h9⟩
     case row=>exact h2
    | halt x w' =>
     cases x<;>simp only[Oper.upon]at h2 ⊢
     case panic=>exact R9 _ _ _ sz h2
   ·right
    exact⟨Aaw,a1,w1,R9 _ _ _ sz ho1⟩
  ·rename_i hw
   rw[Y3 hw];exact conv _ _ h1
theorem Aa.pick{I:Im}{As:La}{A:X1}(hS:Aa B w I As)(k:Nat)(hk:As[k]?=some A):Aa B w I (A::As.eraseIdx k):=by
 obtain⟨h,hs,hg⟩:=hS;obtain⟨h1,h2,hp,ha,_,h3,he,GC⟩:=hs.at_ hk;exact⟨h1++h3,⟨h1,h3,O,ha,he⟩,hg.perm (hp.trans (GC.symm.append_left h1))⟩
theorem Ao.snoc:∀{As:La} {A:X1} {h1 h2:aT},Ao As h1->A h2->Ao (As++[A]) (h1++h2)
 | [],A,h1,h2,h,ha=>by
  simp only[Ao]at h
  subst h;exact⟨h2,[],by simp,ha,O⟩
 | A0::As,A,h1,h2,h,ha=>by
  obtain⟨g1,g2,rfl,h0,hr⟩:=h;exact⟨g1,g2++h2,by rw[Yc],h0,hr.snoc ha⟩
theorem Ao.iG:∀{As:La} {A:X1} {h:aT},Ao (As++[A]) h->∃h1 h2,h=h1++h2/\Ao As h1/\A h2
 | [],A,h,hh=>by
  obtain⟨h1,h2,rfl,ha,hn⟩:=hh;simp only[Ao]at hn
  subst hn;exact⟨[],h1,by simp,O,ha⟩
 | A0::As,A,h,hh=>by
  obtain⟨g1,g2,rfl,h0,hr⟩:=hh;obtain⟨h1,h2,rfl,h3,h4⟩:=Ao.iG hr;exact⟨g1++h1,h2,by rw[Yc],⟨g1,h1,O,h0,h3⟩,h4⟩
theorem Aa.push{I:Im}{As Bs:La}{A:X1}(hS:Aa B w I (A::As))(hk:As[k]?=some (Ao Bs)):Aa B w I (As.set k (Ao (Bs++[A]))):=by
 obtain⟨h,⟨g1,g2,rfl,ha,hs⟩,hg⟩:=hS;obtain⟨h1,h2,hp,hb,BA,_⟩:=hs.at_ hk;obtain⟨h',F6,F0⟩:=BA (Ao (Bs++[A])) (h1++g1) (hb.snoc ha);refine⟨h',F6,hg.perm ((hp.append_left g1).trans (List.Perm.trans ?_ F0.symm))⟩;rw[<-Yc];exact bd.append_right _
theorem Aa.pop{I:Im}{As Bs:La}{A:X1}(hS:Aa B w I As)(hk:As[k]?=some (Ao (Bs++[A]))):Aa B w I (A::As.set k (Ao Bs)):=by
 obtain⟨h,hs,hg⟩:=hS;obtain⟨h1,h2,hp,hb,BA,_⟩:=hs.at_ hk;obtain⟨g1,g2,rfl,hb1,ha⟩:=Ao.iG hb;obtain⟨h',F6,F0⟩:=BA (Ao Bs) g1 hb1;refine⟨g2++h',⟨g2,h',O,ha,F6⟩,hg.perm (hp.trans ?_)⟩;refine List.Perm.trans ?_ (F0.symm.append_left g2);rw[<-Yc];exact bd.append_right _
theorem Aa.VZ{I:Im}{As:La}{E:Nat}(hS:Aa B w I As)(hk:As[k]?=some (Ar E size (.slice a nn c) nn xs)):∃J,Le I J/\RS J a size nn xs/\Aa B w J (As.eraseIdx k):=by
 have hl:xs.length=nn*size:=hS.D5 hk λ_ hh=>hh.1
 rcases Nx nn with h0|h0
 ·exact⟨I,Le.refl I,⟨hl,λh=>Yy h om⟩,hS.drop hk⟩
 ·obtain⟨b,cap,r,hv,h1,h2,_,_,Jq⟩:=hS.AP hk h0;injection hv with hv _ GQ
  subst hv;subst GQ;have E6:k<As.length:=(Y1.1 hk).1;obtain⟨J,hJ,hb,C9⟩:=Jq.freeze (k:=k) (b:=b) (o:=Xi (xs++r) E) (by simp[E6,Ae]);refine⟨J,hJ,⟨hl,λ_=>⟨_,O,O,_,_,_,hb,?_⟩⟩,by simpa[Y3o]using C9⟩;intro j u hj;have ER:j<xs.length:=(Y1.1 hj).1;simp only[Yj,Y49]
  rw[Y9 ER];exact hj
abbrev Aa.fV{B w:Wo}{I:Im}{As:La}(hS:Aa B w I As)(k:Nat){E n1 n c:Nat}{a:Oa}{xs:Lv}(hk:As[k]?=some (Ar E n1 (.slice a n c) n xs):=by rfl):=hS.VZ hk
end
theorem three{a b c:Bool}(h:(a&&b&&c)=true):a=true/\b=true/\c=true:=by cases a<;>cases b<;>cases c<;>simp_all
theorem WD.tp{K:BK}{L:AK}{S:Wo->Prop}(i:Nat)(hi:ops[i]?=some ⟨some d,op,ty,pos,af,none⟩)
    (hx:∀w,Ex P n L w ⟨some d,op,ty,pos,af,none⟩ v w)
    (h:WD P n ops S nd K fuel (Ad.setIfInBounds i true) ((d,v)::L) w) (hs:(Region.noSelect ops&&Region.free .any ops Ad i&&(Region.ready .any ops Ad).contains i)=true:=by kernel_rfl) (hd:Nat.blt d n=true:=by rfl):WD P n ops S nd K (fuel+1) Ad L w:=WD.ik hi (three hs).1 (three hs).2.1 (three hs).2.2 hx hd h
theorem four{a b c d:Bool}(h:(a&&b&&c&&d)=true):a=true/\b=true/\c=true/\d=true:=by cases a<;>cases b<;>cases c<;>cases d<;>simp_all
theorem WD.tk{K:BK}{L:AK}{S:Wo->Prop}(i:Nat)(hi:ops[i]?=some ⟨some d,op,ty,pos,af,none⟩)
    (hS:S w) (hx:∀w,S w->Ex P n L w ⟨some d,op,ty,pos,af,none⟩ v w)
    (h:WD P n ops S nd K fuel (Ad.setIfInBounds i true) ((d,v)::L) w) (hs:(Region.noSelect ops&&Region.free .any ops Ad i&&(Region.ready .any ops Ad).contains i&&Xh1 .any ops nd i)=true:=by kernel_rfl) (hd:Nat.blt d n=true:=by rfl):WD P n ops S nd K (fuel+1) Ad L w:=WD.take hi (four hs).1 (four hs).2.1 (four hs).2.2.1 (four hs).2.2.2 hS hx hd h
theorem WD.tg{K:BK}{L:AK}{S:Wo->Prop}(i:Nat){j t:Nat}{b:Bool}(hi:ops[i]?=some ⟨some d,op,ty,pos,af,some (j,want)⟩)
    (hS:S w) (hj:(ops[j]?).bind (·.dst)=some t) (hb:look L t=some (.bool b)) (hx:b=want->∀w,S w->Ex P n L w ⟨some d,op,ty,pos,af,some (j,want)⟩ v w)
    (h:WD P n ops S nd K fuel (Ad.setIfInBounds i true) ((d,gd b want v)::L) w) (hs:(Region.noSelect ops&&Region.free .any ops Ad i&&(Region.ready .any ops Ad).contains i&&Xh1 .any ops nd i)=true:=by kernel_rfl) (hd:Nat.blt d n=true:=by rfl):WD P n ops S nd K (fuel+1) Ad L w:=WD.FF hi (four hs).1 (four hs).2.1 (four hs).2.2.1 (four hs).2.2.2 hS hj hb hx hd h
theorem WD.b1{K:BK}{L:AK}{S:Wo->Prop}(i:Nat){o:Oper}(ho:ops[i]?=some o)(h:WL P n ops (HZ (λL' w'=>(nd i=true->S w->S w')/\WD P n ops S nd K fuel (Ad.setIfInBounds i true) L' w') (Td K)) [o] L w)(hr:Region.ready .any ops Ad=[i]:=by kernel_rfl):WD P n ops S nd K (fuel+1) Ad L w:=WD.branch [i] hr O (WO.cons ho h WO.nil)
theorem WD.dn{K:BK}{L:AK}{S:Wo->Prop}(h:K .normal L w)(hr:Region.ready .any ops Ad=[]:=by kernel_rfl):WD P n ops S nd K fuel Ad L w:=WD.done hr h
theorem WC.dw{K:BK}{L:AK}(S:Wo->Prop)(nd:Nat->Bool){id:Nat}{l:List Oper}(h:WD P n l.toArray S nd K l.toArray.size (Array.replicate l.toArray.size false) L w.drew)(hm:P.follows .mixedOrders=true:=by kernel_rfl):WC P n (.region id l.toArray true) K L w:=WC.drawn S nd hm h
theorem WC.qt{K:BK}{L:AK}{I:Im}{As:La}{id:Nat}{l:List Oper}(hS:Aa B w I As)
    (h:WQ P n l.toArray (λw=>Aa B w I As) (λL'=>∀w',Aa B w' I As->K .normal L' w') l L) (hm:P.follows .mixedOrders=true:=by kernel_rfl) (hB:Region.lexB .any l.toArray=true:=by kernel_rfl):WC P n (.region id l.toArray true) K L w:=WC.quiet hm hB hS h
def pkL:List Nat->List X1->List X1
  | [],As=>As
  | k::ks,As=>pkL ks (match As[k]? with
    | some A=>A::As.eraseIdx k
    | none=>As)
theorem Aa.x{I:Im}:∀{As:La} (_:Aa B w I As) (ks:List Nat),Aa B w I (pkL ks As)
  | _,hS,[]=>hS
  | As,hS,k::ks=>by
    unfold pkL;split
    · rename_i A hk;exact Aa.x (hS.pick k hk) ks
    · exact Aa.x hS ks
def dpL(k:Nat):Nat->List X1->List X1
  | 0,As=>As
  | m+1,As=>dpL k m (As.eraseIdx k)
theorem Aa.y{I:Im}{As:La}(hS:Aa B w I As)(k:Nat):∀m,Aa B w I (dpL k m As):=λm=>by
  induction m generalizing As with
  | zero=>exact hS
  | succ m ih =>
    unfold dpL;cases hk:As[k]? with
    | none=>rw[List.eraseIdx_of_length_le (oh (List.getElem?_eq_none_iff.1 hk))];exact ih hS
    | some A=>exact ih (hS.drop hk)
theorem Aa.z{I:Im}{As:La}(hS:Aa B w I As)(ks:List Nat)(k m:Nat):Aa B w I (dpL k m (pkL ks As)):=(hS.x ks).y k m
def fq(K:BK):BK:=λe L w=>match e with|.goto _=>False|e=>K e L w
theorem WC.scope{K:BK}{L:AK}{c:Code}(h:WC P n c (fq K) L w):WC P n (.scope c) K L w:=by
 intro a ha;refine wp_scope_straight (wp_mono (h a ha) ?_);rintro e a' w' ⟨L',h1,h2⟩;cases e<;>first|exact h2.elim|exact⟨L',h1,h2⟩
section
variable {P:Program} {n:Nat} {K:BK} {L:AK} {w:Wo} {ops:Array Oper} {rest:List Oper}
theorem WL.Ly{j t:Nat}{c:List (Bool×Bool)}{b:Bool}{xs:List Operand}{T:Wo->Prop}
  (hj:(ops[j]?).bind (·.dst)=some t) (ht:Nat.blt t n=true) (hb:look L t=some (Fi c (.bool b))) (hf:P.funcs[f]?=some fn) (hc:Xb fn=true)
  (hx:(∀p∈c++[(b,want)],p.1=p.2)->∀a,Aw n L a->xs.map a.eval=vs) (hd:Nat.blt d n=true)
  (BE:(∀p∈c++[(b,want)],p.1=p.2)->Calls P f vs.toArray w (A4 λv w'=>v=v0/\T w')) (h0:T w)
  (h:∀w',T w'->WL P n ops K rest ((d,Fi (c++[(b,want)]) v0)::L) w'):WL P n ops K (⟨some d,.call ⟨.value (.func f),xs.toArray,ts⟩,ty,pos,af,some (j,want)⟩::rest) L w:=by
 intro a ha;refine wpList_step λK' hK=>?_
 have BO:t<a.tmps.size:=by have:=H5 ht;rw[ha.size];omega
 have hv:=ha.get t _ hb;have hy:yielded ops a.tmps j=match Fi c (.bool b)with|.bool b=>some b|_=>none:=by
  obtain⟨o,ho,mP⟩:=yt.1 hj;rw[Lk,O2 BO]at hv;simp only[yG]at hv
  have h2:a.tmps[t]?=some (Fi c (.bool b)):=by rw[O2 BO,hv]
  simp only[yielded,ho,mP,qH,h2]
  generalize Fi c (.bool b)=g;cases g<;>rfl
 by_cases e:∀p∈c++[(b,want)],p.1=p.2
 ·have ec:∀p∈c,p.1=p.2:=λp hp=>e p (by simp[hp])
  have eb:b=want:=e (b,want) sz;rw[UA ec]at hy;rw[Y7 (by simp[Region.wanted,hy,eb])];have he:(execOp a.eval (⟨some d,.call ⟨.value (.func f),xs.toArray,ts⟩,ty,pos,af,some (j,want)⟩:Oper)).run P w=.ok (.enter f vs.toArray) w:=by
   unfold Xb at hc;simp only[Yb]at hc
   obtain⟨h1,h2⟩:=hc;have Fj : ¬ fn.name = "runtime.NumGoroutine" := by simpa using h1
   have Ge:¬ fn.body=none:=by intro e;rw[e]at h2;cases h2
   have hv:=hx e a ha;simp[execOp,resolve,Act.eval,Deferred.ofValue,invoke,callFunc,program,Sem.run,hf,Fj,Ge,<-hv]
  unfold Oper.wp;rw[he];refine(BE e).mono λe' TW hq=>?_
  obtain⟨v,rfl,rfl,hT⟩:=hq;have BM:=h TW hT _ (ha.put hd (Fi (c++[(b,want)]) v));rw[UA e]at BM;exact hK _ _ BM
 ·have hw:Region.wanted (⟨some d,.call ⟨.value (.func f),xs.toArray,ts⟩,ty,pos,af,some (j,want)⟩:Oper) (yielded ops a.tmps)=false:=by
   by_cases ec:∀p∈c,p.1=p.2
   ·rw[UA ec]at hy;have eb:¬ b=want:=λeb=>e λp hp=>by
     rcases Yn.1 hp with hp|hp
     ·exact ec p hp
     ·simp at hp;subst hp;exact eb
    simp[Region.wanted,hy,eb]
   ·rw[kN ec]at hy;simp[Region.wanted,hy,undef]
  rw[Y3 (by simp[hw])];have BM:=h w h0 _ (ha.put hd (Fi (c++[(b,want)]) v0));rw[kN e]at BM;exact hK _ _ BM
theorem WL.AG{j t:Nat}{b:Bool}{xs:List Operand}{T:Wo->Prop}
  (hj:(ops[j]?).bind (·.dst)=some t) (ht:Nat.blt t n=true) (hb:look L t=some (.bool b)) (hf:P.funcs[f]?=some fn) (hc:Xb fn=true)
  (hx:b=want->∀a,Aw n L a->xs.map a.eval=vs) (hd:Nat.blt d n=true)
  (BE:b=want->Calls P f vs.toArray w (A4 λv w'=>v=v0/\T w')) (h0:T w)
  (h:∀w',T w'->WL P n ops K rest ((d,gd b want v0)::L) w'):WL P n ops K (⟨some d,.call ⟨.value (.func f),xs.toArray,ts⟩,ty,pos,af,some (j,want)⟩::rest) L w :=
 WL.Ly (c:=[]) hj ht hb hf hc (λe=>hx (e (b,want) sz)) hd (λe=>BE (e (b,want) sz)) h0 h
theorem WL.tT{j t:Nat}{b1 w1 b:Bool}{xs:List Operand}{T:Wo->Prop}
  (hj:(ops[j]?).bind (·.dst)=some t) (ht:Nat.blt t n=true) (hb:look L t=some (gd b1 w1 (.bool b))) (hf:P.funcs[f]?=some fn) (hc:Xb fn=true)
  (hx:b1=w1->b=want->∀a,Aw n L a->xs.map a.eval=vs) (hd:Nat.blt d n=true)
  (BE:b1=w1->b=want->Calls P f vs.toArray w (A4 λv w'=>v=v0/\T w')) (h0:T w)
  (h:∀w',T w'->WL P n ops K rest ((d,gd b1 w1 (gd b want v0))::L) w'):WL P n ops K (⟨some d,.call ⟨.value (.func f),xs.toArray,ts⟩,ty,pos,af,some (j,want)⟩::rest) L w :=
 WL.Ly (c:=[(b1,w1)]) hj ht hb hf hc (λe=>hx (e (b1,w1) sz) (e (b,want) sz)) hd (λe=>BE (e (b1,w1) sz) (e (b,want) sz)) h0 h
end
section
variable {P:Program} {n:Nat} {K:BK} {L:AK} {w:Wo} {B:Wo} {I:Im} {As:La} {k:Nat} {x y:Operand} {ty:TypeId} {pos:String} {af:Array Edge} {g:Option (Nat×Bool)} {ops:Array Oper} {rest:List Oper}
theorem Ex.extern{d : Option Nat}{e : Array Value → Sem Value}{xs : List Operand}{vs : List Value}{v : Value}(hf : P.funcs[f]? = some fn)(Aa1 : (fn.name == "runtime.NumGoroutine") = false)(hb : fn.body.isNone = true)(hn : Extern.findNext fn = none)(he : Extern.find fn = some e)
  (hx:∀a,Aw n L a->xs.map a.eval=vs) (hv:(e vs.toArray).run P w=.ok v w):Ex P n L w ⟨d,.call ⟨.value (.func f),xs.toArray,ts⟩,ty,pos,af,g⟩ v w:=λa ha=>by
 have h:=run_callFunc_extern hf Aa1 hb hn he vs.toArray w;have HP:=hx a ha;rw[hv]at h;simp only[Result.andThen]at h
 subst HP;simp[execOp,resolve,Act.eval,Deferred.ofValue,invoke,h]
theorem Xgq(hb:w.heap[b]?=some (Xi cs E)):w.shape? b=some (E,cs.length):=by
 simp[World.shape?,hb,Xi]
theorem Ex.iv{d:Option Nat}{t:TypeId}{j:TypeInfo}(hx:Ev n L x (ptr b o))(hS:Aa B w I As)(hk:As[k]?=some (Ae b cs E))(hs:P.underlying src=some (.pointer t))(hd:P.underlying dst=some .unsafePointer)(ht:P.info? t=some j)(hj:j.size≠0)(ho:o<cs.length):Ex P n L w ⟨d,.convert src dst x,ty,pos,af,g⟩ (ptr b o) w:=λa ha=>by
 have h:=Go.Lib.run_to_unsafe (P:=P) w ⟨b,o,none⟩ hs hd ht hj (Xgq (hS.block hk)) ho;simp[execOp,hx a ha,h]
theorem Ex.P5{d:Option Nat}{u:TypeId}{j:TypeInfo}(hx:Ev n L x (ptr b o))(hS:Aa B w I As)(hk:As[k]?=some (Ae b cs E))(hs:P.underlying src=some .unsafePointer)(hd:P.underlying dst=some (.pointer u))(hu:P.info? u=some j)(hl:liesAt P P.depth E (cs.length/P.cellsOf E) o u 1=true):Ex P n L w ⟨d,.convert src dst x,ty,pos,af,g⟩ (ptr b o) w:=λa ha=>by
 have h:=Go.Lib.run_from_unsafe (P:=P) w ⟨b,o,none⟩ hs hd hu (Xgq (hS.block hk)) hl;simp[execOp,hx a ha,h]
theorem Ex.nV{d:Option Nat}{t te:TypeId}{j:TypeInfo}{a:Addr}(hx:Ev n L x (.pointer (some a)))(hy:Ev n L y (.pointer (some a)))(hT:P.underlying t=some (.pointer te))(hj:P.info? te=some j)(rj:True):Ex P n L w ⟨d,.binOp .neq t x y t,ty,pos,af,g⟩ (.bool false) w :=
 Fa hx hy (λ_ _=>by rw[eqGuard_at_pointer];rfl) (Go.Lib.run_neq_ptr_same w a hT hj)
abbrev Ax(l:Lu):Lv:=l.map λc=>U8 (c.toNat:Int)
theorem Ex.XZ{d:Option Nat}{a:Addr}(hx:Ev n L x (.slice (some a) m c))(hc:c≠0):Ex P n L w ⟨d,.call ⟨.builtin .unsafeSliceData,#[x],ts⟩,ty,pos,af,g⟩ (.pointer (some a)) w:=λb hb=>by
 have h:=Go.Lib.run_unsafeSliceData_row (P:=P) w ts ty a m c hc;simp[execOp,resolve,invoke,builtin,hx b hb,h]
theorem Ex.L7{d:Option Nat}(hx:Ev n L x (.slice none m c)):Ex P n L w ⟨d,.call ⟨.builtin .unsafeSliceData,#[x],ts⟩,ty,pos,af,g⟩ (.pointer none) w:=λb hb=>by
 have h:=Go.Lib.run_unsafeSliceData_nil (P:=P) w ts ty m c;simp[execOp,resolve,invoke,builtin,hx b hb,h]
theorem Ex.He{d:Option Nat}{pt it:TypeId}{p:Oa}(hx:Ev n L x (.pointer p))(hy:Ev n L y (Ab 0)):Ex P n L w ⟨d,.call ⟨.builtin .unsafeString,#[x,y],#[pt,it]⟩,ty,pos,af,g⟩ (S []) w:=λb hb=>by
 have h:=Go.Lib.run_unsafeString_none (P:=P) w pt it ty p;simp[execOp,resolve,invoke,builtin,hx b hb,hy b hb,h]
 rfl
theorem Aa.NH(hS:Aa B w I As)(hk:As[k]?=some (Ae b cs E)):Aa B (w.freeze ⟨b,0,none⟩ m) I (As.eraseIdx k):=by
 by_cases h0:m=0
 ·subst h0;have e:w.freeze ⟨b,0,none⟩ 0=w:=by simp[World.freeze]
  rw[e];exact hS.drop hk
 ·have hb:=hS.block hk;have hw:∃o',(w.freeze ⟨b,0,none⟩ m).heap[b]?=some o':=by
   refine⟨.cells cs.toArray E (0,m),?_⟩;simp[World.freeze,h0,Y3j,hb,Xi]
  obtain⟨o',ho⟩:=hw;have h1:=hS.write (w':=w.freeze ⟨b,0,none⟩ m) hk (by simp[World.freeze,h0]) (by simp[World.freeze,h0]) (by simp[World.freeze,h0]) ho (λc hc=>by
   have A8:¬ b=c:=λe=>hc e.symm
   simp[World.freeze,h0,Y3j,A8])
  have E6:k<As.length:=(Y1.1 hk).1;have h2:=h1.drop (k:=k) (A:=own b o') (by simp[E6]);simpa[Y3o]using h2
theorem WL.unsafeString{pt it:TypeId}{l:Lu}{r:Lv}(hS:Aa B w I As)(hk:As[k]?=some (Ae b (Ax l++r) E))(hx:Ev n L x (ptr b 0))(hy:Ev n L y (Ab l.length))(h0:l≠[])(hp:P.underlying pt=some (.pointer E))(hc:P.cellsOf E=1)(FB:l.length<=9223372036854775807)(hd:Nat.blt d n=true)
  (h:∀w',Aa B w' I (As.eraseIdx k)->WL P n ops K rest ((d,S l)::L) w'):WL P n ops K (⟨some d,.call ⟨.builtin .unsafeString,#[x,y],#[pt,it]⟩,ty,pos,af,none⟩::rest) L w:=by
 have hb:=hS.block hk;have hr:=Go.Lib.run_unsafeString_row (P:=P) w pt it ty E hp hc b (Ax l++r).length (Xgq hb) l h0 sz FB (λj y hj=>by
  rw[EE,Yj];refine HU hb ?_;rw[Y9 (by have:=(Y1.1 hj).1;simpa using this)];simp[hj])
 refine .val (w':=w.freeze ⟨b,0,none⟩ l.length) (λa ha=>?_) hd (h _ (hS.NH hk));simp[execOp,resolve,invoke,builtin,hx a ha,hy a ha,hr]
theorem Ex.E0{d:Option Nat}{l:Lu}(hx:Ev n L x (.slice (some (ad b o)) l.length cap))(hS:Aa B w I As)(hk:As[k]?=some (Ae b cs E))(hs:P.underlying src=some (.slice E))(he:P.underlying E=some (.int .u8))(hd:P.underlying dst=some .string)
  (hc:∀j (hj:j<l.length),cs[o+j]?=some (U8 (l[j].toNat:Int))):Ex P n L w ⟨d,.convert src dst x,ty,pos,af,g⟩ (S l) w:=λa ha=>by
 have hb:=hS.block hk;have h:=run_convert_bytes_back (P:=P) w src dst E (ad b o) cap l hs he hd (λj hj=>by rw[EE];exact HU hb (hc j hj));simp[execOp,hx a ha,h]
end
end Gk
open Go Gk
variable {L L' M:AK}{I J:Im}{As BT Hs:La}{A:X1}{K K':BK}
namespace Flt
open Ieee
def rg(b:Nat):Nat:=b%9223372036854775808
def sg(b:Nat):Bool:=b/9223372036854775808%2==1
def nan(b:Nat):Bool:=decide (9218868437227405312<rg b)
def mag(r:Nat):Nat:=if r<4503599627370496 then r else(4503599627370496+r%4503599627370496)*2^(r/4503599627370496-1)
def sv(b:Nat):Int:=if sg b then -(mag (rg b):Int)else(mag (rg b):Int)
def lt(a b:Nat):Bool:=!nan a&&!nan b&&decide (sv a<sv b)
def nf(a:Nat):Option Nat:=if nan a then none else some a
end Flt
namespace Gk
open Go
abbrev BQ(n:Nat):Va:=.float .f64 n
abbrev BH(n:Int):Va:=.int .u64 n
section
variable {P:Program} {n:Nat} {K:BK} {L:AK} {w w':Wo} {ops:Array Oper} {rest:List Oper}
variable {B:Wo} {I:Im} {As:La} {k:Nat} {ty:TypeId} {pos:String} {af:Array Edge} {g:Option (Nat×Bool)} {t t':TypeId} {x y:Operand}
section
variable {d:Option Nat} {a b:Nat}
end
section
variable {d:Option Nat} {i j:Int} {q:IntKind}
theorem zT{a:Nat}(h:a<18446744073709551616):(BitVec.ofInt IntKind.u64.bits (a:Int)).toNat=a:=by
 rw[BitVec.toNat_ofInt];show((a:Int)%((2^64:Nat):Int)).toNat=a
 omega
theorem Xm0{a:Nat}(h:a<18446744073709551616):IntKind.u64.wrap (a:Int)=(a:Int):=by rw[IntKind.wrap_u64];omega
theorem Ex.qK{a:Nat}(ha:a<18446744073709551616)(hb:b<18446744073709551616)(hx:Ev n L x (BH a))(hy:Ev n L y (BH b)):Ex P n L w ⟨d,.binOp .and t x y t',ty,pos,af,g⟩ (BH ((a&&& b:Nat):Int)) w :=
 Fa hx hy (Xj _ _ _ _) (by
  have h1:a&&& b<18446744073709551616:=Nat.lt_of_le_of_lt Nat.and_le_left ha;have e:(BitVec.ofInt IntKind.u64.bits (a:Int)&&& BitVec.ofInt IntKind.u64.bits (b:Int)).toNat=a&&& b:=by rw[BitVec.toNat_and,zT ha,zT hb]
  show(Op.intBits .and .u64 a b).run P w=_
  unfold Op.intBits;simp only[e,Xm0 h1,Sem.run_pure])
theorem Ex.Aby{a:Nat}(ha:a<18446744073709551616)(hb:b<18446744073709551616)(hx:Ev n L x (BH a))(hy:Ev n L y (BH b)):Ex P n L w ⟨d,.binOp .or t x y t',ty,pos,af,g⟩ (BH ((a||| b:Nat):Int)) w :=
 Fa hx hy (Xj _ _ _ _) (by
  have h1:a||| b<18446744073709551616:=Y5o (n:=64) ha hb;have e:(BitVec.ofInt IntKind.u64.bits (a:Int)||| BitVec.ofInt IntKind.u64.bits (b:Int)).toNat=a||| b:=by rw[BitVec.toNat_or,zT ha,zT hb]
  show(Op.intBits .or .u64 a b).run P w=_
  unfold Op.intBits;simp only[e,Xm0 h1,Sem.run_pure])
theorem Ex.Abv{t:TypeId}{a:Nat}(ha:a<18446744073709551616)(hx:Ev n L x (BH a)):Ex P n L w ⟨d,.unOp .xor t x,ty,pos,af,g⟩ (BH ((18446744073709551615-a:Nat):Int)) w:=λe he=>by
 have h1:(BitVec.ofInt IntKind.u64.bits IntKind.u64.max^^^BitVec.ofInt IntKind.u64.bits (a:Int)).toNat=18446744073709551615-a:=by
  have e1:BitVec.ofInt 64 18446744073709551615=BitVec.allOnes 64:=de
  have e2:(BitVec.ofInt 64 (a:Int)).toNat=a:=zT ha;change (BitVec.ofInt 64 18446744073709551615^^^BitVec.ofInt 64 (a:Int)).toNat=_;rw[e1,BitVec.allOnes_xor,BitVec.toNat_not,e2]
 have h2:(Op.unary .xor (BH a)).run P w=.ok (BH ((18446744073709551615-a:Nat):Int)) w:=by
  show(Op.intBits .xor .u64 (if IntKind.u64.signed then -1 else IntKind.u64.max) a).run P w=_
  rw[Y3 de];unfold Op.intBits;simp only[h1,Xm0 (show 18446744073709551615-a<18446744073709551616 by omega),Sem.run_pure]
 simp only[execOp,hx e he,Sem.run_bind,h2,Result.andThen_ok,Sem.run_pure]
theorem Ex.AbO{q:IntKind}(hx:Ev n L x (.int q i))(hy:Ev n L y (.int q j))(h:q.wrap (i-j)=i-j):Ex P n L w ⟨d,.binOp .sub t x y t',ty,pos,af,g⟩ (.int q (i-j)) w :=
 Fa hx hy (Xj _ _ _ _) (by simp[binOp,Op.intArith,h])
theorem Ex.Aae{a:Nat}(ha:a<18446744073709551616)(hx:Ev n L x (BH a))(hy:Ev n L y (BH 9223372036854775808)):Ex P n L w ⟨d,.binOp .and t x y t',ty,pos,af,g⟩ (BH ((a&&& 9223372036854775808:Nat):Int)) w :=
 Ex.qK ha de hx hy
theorem Ex.Ag2{a:Nat}(ha:a<18446744073709551616)(hx:Ev n L x (BH a))(hy:Ev n L y (BH 9223372036854775808)):Ex P n L w ⟨d,.binOp .or t x y t',ty,pos,af,g⟩ (BH ((a||| 9223372036854775808:Nat):Int)) w :=
 Ex.Aby ha de hx hy
theorem Ex.quo{q:IntKind}(hx:Ev n L x (.int q i))(hy:Ev n L y (.int q j))(h0:0<=i)(h1:0<j)(hw:q.wrap (i/j)=i/j):Ex P n L w ⟨d,.binOp .quo t x y t',ty,pos,af,g⟩ (.int q (i/j)) w :=
 Fa hx hy (Xj _ _ _ _) (by
  have h2:¬ j=0:=om
  have e:i.tdiv j=i/j:=Int.tdiv_eq_ediv_of_nonneg h0;simp[binOp,Op.intDiv,h2,e,hw])
theorem Ex.rem{q:IntKind}(hx:Ev n L x (.int q i))(hy:Ev n L y (.int q j))(h0:0<=i)(h1:0<j):Ex P n L w ⟨d,.binOp .rem t x y t',ty,pos,af,g⟩ (.int q (i%j)) w :=
 Fa hx hy (Xj _ _ _ _) (by
  have h2:¬ j=0:=om
  have e:i.tmod j=i%j:=Int.tmod_eq_emod_of_nonneg h0;simp[binOp,Op.intDiv,h2,e])
theorem Ex.cvi{q r:IntKind}(hx:Ev n L x (.int q i))(hs:P.underlying src=some (.int q))(hd:P.underlying dst=some (.int r))(hw:r.wrap i=i):Ex P n L w ⟨d,.convert src dst x,ty,pos,af,g⟩ (.int r i) w:=λe he=>by
 simp[execOp,hx e he,convert,run_underlying hs,run_underlying hd,Conv.intToInt,hw]
theorem Ex.makeFunc{f:Go.Fn}{captured:List Operand}(hx:∀a,Aw n L a->captured.map a.eval=vs):Ex P n L w ⟨d,.makeFunc f #[] captured.toArray,ty,pos,af,g⟩ (.func f #[] vs.toArray) w:=λe he=>by
 have h:=hx e he;simp[execOp,Instr.makeFunc,<-h]
end
theorem Xcw{a:Act}(he:Aw n L a){d:Option Nat}{c:Operand}{cap:Lv}{xs:List Operand}(hf:P.funcs[f]?=some fn)(hc:Xb fn=true)(hv:Ev n L c (.func (.func f) #[] cap.toArray))(hx:xs.map a.eval=vs):(execOp a.eval (⟨d,.call ⟨.value c,xs.toArray,ts⟩,ty,pos,af,g⟩:Oper)).run P w=.ok (.enter f (vs++cap).toArray) w:=by
 unfold Xb at hc;simp only[Yb]at hc
 obtain⟨h1,h2⟩:=hc;have Fj : ¬ fn.name = "runtime.NumGoroutine" := by simpa using h1
 have Ge:¬ fn.body=none:=by intro e;rw[e]at h2;cases h2
 simp[execOp,resolve,hv a he,Deferred.ofValue,invoke,callFunc,program,Sem.run,hf,Fj,Ge,<-hx]
theorem WQ.tY{kk:AK->Prop}{j s:Nat}{b:Bool}{c:Operand}{cap:Lv}{xs:List Operand}(hj:(ops[j]?).bind (·.dst)=some s)(ht:Nat.blt s n=true)(hb:look L s=some (.bool b))(hf:P.funcs[f]?=some fn)(hc:Xb fn=true)
  (hv:b=want->Ev n L c (.func (.func f) #[] cap.toArray)) (hx:b=want->∀a,Aw n L a->xs.map a.eval=vs) (hd:Nat.blt d n=true)
  (BE:b=want->∀w,C w->Calls P f (vs++cap).toArray w (A4 λu w'=>u=v/\C w')) (h:WQ P n ops C kk rest ((d,gd b want v)::L)):WQ P n ops C kk (⟨some d,.call ⟨.value c,xs.toArray,ts⟩,ty,pos,af,some (j,want)⟩::rest) L:=by
 intro a ha;refine wpQuiet_step λK' hK=>?_
 have BM:=h _ (ha.put hd (gd b want v));have hy:=zL ha hj hb;unfold Gk.gd at BM
 by_cases e:b=want
 ·rw[Y7 (by simp[Region.wanted,hy,e])];subst e;refine⟨v,λw hw=>?_,hK _ (su BM)⟩;unfold Oper.quietAt;rw[Xcw ha hf hc (hv O) (hx O a ha)];refine⟨O,(BE O w hw).mono ?_⟩;rintro e TW ⟨u,rfl,rfl,hC⟩;exact⟨O,hC⟩
 ·rw[Y3 (by simp[Region.wanted,hy,e])];have e':(b==want)=false:=su e
  rw[e']at BM;exact hK _ (su BM)
theorem Ux{args:Array Va}{w:Wo}(h:Calls P f args w (A4 λu w'=>u=v/\w=w'))(hC:C w):Calls P f args w (A4 λu w'=>u=v/\C w') :=
 h.mono λe w' he=>by
  obtain⟨u,rfl,rfl,rfl⟩:=he;exact⟨_,O,O,hC⟩
theorem WQ.Ly{kk:AK->Prop}{j t:Nat}{c:List (Bool×Bool)}{b:Bool}{xs:List Operand}
  (hj:(ops[j]?).bind (·.dst)=some t) (ht:Nat.blt t n=true) (hb:look L t=some (Fi c (.bool b))) (hf:P.funcs[f]?=some fn) (hc:Xb fn=true)
  (hx:(∀p∈c++[(b,want)],p.1=p.2)->∀a,Aw n L a->xs.map a.eval=vs) (hd:Nat.blt d n=true)
  (BE:(∀p∈c++[(b,want)],p.1=p.2)->∀w,C w->Calls P f vs.toArray w (A4 λu w'=>u=v/\C w'))
  (h:WQ P n ops C kk rest ((d,Fi (c++[(b,want)]) v)::L)):WQ P n ops C kk (⟨some d,.call ⟨.value (.func f),xs.toArray,ts⟩,ty,pos,af,some (j,want)⟩::rest) L:=by
 intro a ha;refine wpQuiet_step λK' hK=>?_
 have BM:=h _ (ha.put hd (Fi (c++[(b,want)]) v));have BO:t<a.tmps.size:=by have:=H5 ht;rw[ha.size];omega
 have hv:=ha.get t _ hb;have hy:yielded ops a.tmps j=match Fi c (.bool b)with|.bool b=>some b|_=>none:=by
  obtain⟨o,ho,mP⟩:=yt.1 hj;rw[Lk,O2 BO]at hv;simp only[yG]at hv
  have h2:a.tmps[t]?=some (Fi c (.bool b)):=by rw[O2 BO,hv]
  simp only[yielded,ho,mP,qH,h2]
  generalize Fi c (.bool b)=g;cases g<;>rfl
 by_cases e:∀p∈c++[(b,want)],p.1=p.2
 ·have ec:∀p∈c,p.1=p.2:=λp hp=>e p (by simp[hp])
  have eb:b=want:=e (b,want) sz;rw[UA ec]at hy;rw[Y7 (by simp[Region.wanted,hy,eb])];rw[UA e]at BM;refine⟨v,λw hw=>?_,hK _ BM⟩;have he:(execOp a.eval (⟨some d,.call ⟨.value (.func f),xs.toArray,ts⟩,ty,pos,af,some (j,want)⟩:Oper)).run P w=.ok (.enter f vs.toArray) w:=by
   unfold Xb at hc;simp only[Yb]at hc
   obtain⟨h1,h2⟩:=hc;have Fj : ¬ fn.name = "runtime.NumGoroutine" := by simpa using h1
   have Ge:¬ fn.body=none:=by intro e;rw[e]at h2;cases h2
   have hv:=hx e a ha;simp[execOp,resolve,Act.eval,Deferred.ofValue,invoke,callFunc,program,Sem.run,hf,Fj,Ge,<-hv]
  unfold Oper.quietAt;rw[he];refine⟨O,(BE e w hw).mono ?_⟩;rintro e' TW ⟨u,rfl,rfl,hC⟩;exact⟨O,hC⟩
 ·have hw:Region.wanted (⟨some d,.call ⟨.value (.func f),xs.toArray,ts⟩,ty,pos,af,some (j,want)⟩:Oper) (yielded ops a.tmps)=false:=by
   by_cases ec:∀p∈c,p.1=p.2
   ·rw[UA ec]at hy;have eb:¬ b=want:=λeb=>e λp hp=>by
     rcases Yn.1 hp with hp|hp
     ·exact ec p hp
     ·simp at hp;subst hp;exact eb
    simp[Region.wanted,hy,eb]
   ·rw[kN ec]at hy;simp[Region.wanted,hy,undef]
  rw[Y3 (by simp[hw])];rw[kN e]at BM;exact hK _ BM
theorem WQ.AG{kk:AK->Prop}{j t:Nat}{b:Bool}{xs:List Operand}
  (hj:(ops[j]?).bind (·.dst)=some t) (ht:Nat.blt t n=true) (hb:look L t=some (.bool b)) (hf:P.funcs[f]?=some fn) (hc:Xb fn=true)
  (hx:b=want->∀a,Aw n L a->xs.map a.eval=vs) (hd:Nat.blt d n=true)
  (BE:b=want->∀w,C w->Calls P f vs.toArray w (A4 λu w'=>u=v/\C w'))
  (h:WQ P n ops C kk rest ((d,gd b want v)::L)):WQ P n ops C kk (⟨some d,.call ⟨.value (.func f),xs.toArray,ts⟩,ty,pos,af,some (j,want)⟩::rest) L :=
 WQ.Ly (c:=[]) hj ht hb hf hc (λe=>hx (e (b,want) sz)) hd (λe=>BE (e (b,want) sz)) h
theorem Aa.weaken(hS:Aa B w J As)(hl:Le I J):Aa B w I As:=by
 obtain⟨h,hs,hg⟩:=hS;refine⟨h,hs,hg.os,hg.tape,hg.output,λb o e=>hg.MB b o (hl.h b o e),hg.own,hg.nodup,λb o hm=>?_⟩
 have:=hg.apart b o hm
 cases hi:I b with
 | none=>rfl
 | some z=>rw[hl.h b z hi]at this;cases this
end
section
variable {P:Program} {n:Nat} {K:BK} {L:AK} {w w':Wo} {ops:Array Oper} {rest:List Oper}
variable {B:Wo} {I:Im} {As:La} {k:Nat} {ty:TypeId} {pos:String} {af:Array Edge} {g:Option (Nat×Bool)} {t t':TypeId} {x y:Operand}
theorem Ex.oV{d:Option Nat}{c:Ui}{i:Int}(hx:Ev n L x (.slice (some (ad b 0)) 1 cap))(hS:Aa B w I As)(hk:As[k]?=some (Ae b [.int .u8 i] E))(hi:i=(c.toNat:Int))(hs:P.underlying src=some (.slice E))(he:P.underlying E=some (.int .u8))(hd:P.underlying dst=some .string):Ex P n L w ⟨d,.convert src dst x,ty,pos,af,g⟩ (S [c]) w:=by
 subst hi;exact Ex.E0 (l:=[c]) hx hS hk hs he hd (λj hj=>by
  have:j=0:=by simp at hj;omega
  subst this;rfl)
theorem Ex.vy{d:Option Nat}{i:Int}{q:IntKind}{l:Lu}(hx:Ev n L x (S l))(hy:Ev n L y (.int q i))(hi:0<=i)(hl:i<(l.length:Int))(hT:P.underlying t=some .string):Ex P n L w ⟨d,.index t x y,ty,pos,af,g⟩ (U8 (at_ l i).toNat) w :=
 λa ha=>by
  have h1:i.toNat<l.length:=om
  have h3:0<=i/\i<((ByteArray.size ⟨l.toArray⟩:Nat):Int):=⟨hi,by show i<(l.length:Int);omega⟩
  have h:=run_index_string (P:=P) w t ⟨l.toArray⟩ q i hT;rw[dif_pos h3]at h;have h4:(⟨l.toArray⟩:ByteArray)[i.toNat]'(by show i.toNat<l.length;omega)=at_ l i:=by
   rw[at_,Ya,Y2 h1];rfl
  rw[h4]at h;simp[execOp,hx a ha,hy a ha,h]
theorem Xds{t e:TypeId}(hT:P.underlying t=some (.array m e)):P.elem t=e/\P.arrayLen t=m:=by
 simp[Program.elem,Program.arrayLen,hT]
theorem Ex.Bc{d:Option Nat}{s:Nat}{e:TypeId}{i:Int}{q:IntKind}(hx:Ev n L x (.pointer (some p)))(hy:Ev n L y (.int q i))(hi:0<=i)(hl:i<(m:Int))(ht:P.underlying t=some (.array m e))(hs:∀w,(Go.sizeOf e).run P w=.ok s w):Ex P n L w ⟨d,.indexAddr t x y,ty,pos,af,g⟩ (.pointer (some (p.add (i.toNat*s)))) w:=λa ha=>by
 obtain⟨e1,e2⟩:=Xds ht;have h:=run_indexAt_array (P:=P) w t p q i (by rw[e1,e2];exact ht);rw[e2,Y7 ⟨hi,hl⟩,e1,hs]at h;simp[execOp,hx a ha,hy a ha,h,Result.andThen]
theorem Ex.eO{d:Option Nat}{e:TypeId}{i:Int}{q:IntKind}(hx:Ev n L x (.agg vs.toArray))(hy:Ev n L y (.int q i))(hi:0<=i)(hl:i<(m:Int))(ht:P.underlying t=some (.array m e))(hs:∀w,(Go.sizeOf e).run P w=.ok 1 w)(ha:∀w,(isAgg e).run P w=.ok false w)(hv:vs[i.toNat]?=some v):Ex P n L w ⟨d,.index t x y,ty,pos,af,g⟩ v w:=λb hb=>by
 have BO:i.toNat<vs.length:=(Y1.1 hv).1;have hg:=(Y1.1 hv).2;simp[execOp,hx b hb,hy b hb,Instr.index,run_underlying ht,asIntOf,hi,hl,hs,ha,BO,hg,part]
theorem Ex.IW{d:Option Nat}{op:BinOp}{q:IntKind}{i j:Int}(hop:op=.and\/op=.or\/op=.xor)(hx:Ev n L x (.int q i))(hy:Ev n L y (.int q j)):Ex P n L w ⟨d,.binOp op t x y t',ty,pos,af,g⟩ (.int q (bits op q i j)) w :=
 Fa hx hy (Xj _ _ _ _) (by rcases hop with rfl|rfl|rfl<;>simp[binOp,Op.intBits,bits])
theorem Ex.shl{d:Option Nat}{q r:IntKind}{i j:Int}(hx:Ev n L x (.int q i))(hy:Ev n L y (.int r j))(h0:0<=j)(h1:j<=q.bits):Ex P n L w ⟨d,.binOp .shl t x y t',ty,pos,af,g⟩ (.int q (q.wrap (i*2^j.toNat))) w:=λe he=>by
 have h:=shift_shl q r i j h0 h1;simp[execOp,hx e he,hy e he,binOp,h,eqGuard]
theorem Ex.shr{d:Option Nat}{q r:IntKind}{i j:Int}(hx:Ev n L x (.int q i))(hy:Ev n L y (.int r j))(h0:0<=j)(h1:j<=q.bits):Ex P n L w ⟨d,.binOp .shr t x y t',ty,pos,af,g⟩ (.int q (i/2^j.toNat)) w:=λe he=>by
 have hm:min j.toNat q.bits=j.toNat:=om
 have hn:¬ j<0:=om
 have h2:i.fdiv (2^j.toNat)=i/2^j.toNat:=Int.fdiv_eq_ediv_of_nonneg _ (Int.le_of_lt (Int.pow_pos de));simp[execOp,hx e he,hy e he,binOp,Op.shift,hm,hn,h2,eqGuard]
theorem Ex.Hp{d:Option Nat}{i:Int}{q r:IntKind}(hx:Ev n L x (.int q i))(hs:P.underlying src=some (.int q))(hd:P.underlying dst=some (.int r)):Ex P n L w ⟨d,.convert src dst x,ty,pos,af,g⟩ (.int r (r.wrap i)) w:=λe he=>by
 simp[execOp,hx e he,convert,run_underlying hs,run_underlying hd,Conv.intToInt]
theorem WL.B0{c:Operand}{cap:Lv}{xs:List Operand}{Q:Va->Wo->Prop}(hf:P.funcs[f]?=some fn)(hc:Xb fn=true)(hv:Ev n L c (.func (.func f) #[] cap.toArray))(hx:∀a,Aw n L a->xs.map a.eval=vs)(hd:Nat.blt d n=true)
  (BE:Calls P f (vs++cap).toArray w (A4 Q)) (h:∀v w',Q v w'->WL P n ops K rest ((d,v)::L) w'):WL P n ops K (⟨some d,.call ⟨.value c,xs.toArray,ts⟩,ty,pos,af,none⟩::rest) L w:=by
 intro a ha;refine wpList_plain O λK' hK=>?_
 unfold Oper.wp;rw[Xcw ha hf hc hv (hx a ha)];refine BE.mono λe TW hq=>?_
 obtain⟨v,rfl,hv⟩:=hq;exact hK _ _ (h v TW hv _ (ha.put hd v))
open Go.RowKit in
theorem Aa.grown{As:La}(hS:Aa B w I As)(h:Below w.heap.size w w'):Aa B w' I As:=by
 obtain⟨hh,hs,hg⟩:=hS;have DG:∀b o,w.heap[b]?=some o->w'.heap[b]?=some o:=λb o e=>by
  rw[h.block b (Ll.1 e).1];exact e
 exact⟨hh,hs,h.os.trans hg.os,h.tape.trans hg.tape,h.output.trans hg.output,λb o e=>DG b o (hg.MB b o e),λb o e=>DG b o (hg.own b o e),hg.nodup,hg.apart⟩
open Go.RowKit in
theorem Aa.NJ{E size m:Nat}{v:Va}{xs:Lv}(hS:Aa B w I As)(h:Below w.heap.size w w')(ho:w'.ownsRow w.heap.size E size v m xs):Aa B w' I (Ar E size v m xs::As):=by
 have Bo:=hS.grown h;obtain⟨hl,hv|⟨g,cap,cur,rfl,hb,hh,h1,h2,h3,h4⟩⟩:=ho
 ·obtain⟨hv,h0⟩:=hv;subst hv;subst h0;have hx:xs=[]:=Yf (by simpa using hl);subst hx;exact Bo.An E size
 ·obtain⟨hh0,hs,hg⟩:=hS;obtain⟨hh2,eF,ZD⟩:∃h,Ao As h/\Good B w' I h/\h=hh0:=by
   refine⟨hh0,hs,?_,O⟩;have DG:∀b o,w.heap[b]?=some o->w'.heap[b]?=some o:=λb o e=>by
    rw[h.block b (Ll.1 e).1];exact e
   exact⟨h.os.trans hg.os,h.tape.trans hg.tape,h.output.trans hg.output,λb o e=>DG b o (hg.MB b o e),λb o e=>DG b o (hg.own b o e),hg.nodup,hg.apart⟩
  obtain⟨ZD,rfl⟩:=ZD;have cut:cur=(xs++cur.toList.drop (m*size)).toArray:=by
   apply Array.ext'
   simp only[List.toList_toArray]
   rw[<-h4,Mv]
  have NS:w'.heap[g]?=some (Xi (xs++cur.toList.drop (m*size)) E):=by
   unfold Xi;rw[<-cut];exact hh
  have hn:∀b o,(b,o)∈hh2->b≠g:=λb o hm e=>by
   subst e
   have:=(Ll.1 (hg.own b o hm)).1
   omega
  refine⟨(g,Xi (xs++cur.toList.drop (m*size)) E)::hh2,⟨[(g,Xi (xs++cur.toList.drop (m*size)) E)],hh2,O,⟨hl,.inr ⟨g,cap,cur.toList.drop (m*size),O,O,h1,h2,?_⟩⟩,eF⟩,ZD.os,ZD.tape,ZD.output,ZD.MB,λb o hm=>?_,?_,λb o hm=>?_⟩
  ·rw[Ye,hl,Zu,h3]
   have:=U4 size h1
   omega
  ·rcases Yi.1 hm with e|hm
   ·cases e;exact NS
   ·exact ZD.own b o hm
  ·simp only[Yt,qI]
   refine⟨λhm=>?_,ZD.nodup⟩;obtain⟨⟨b,x⟩,hm,e⟩:=Fg.1 hm;exact hn b x hm e
  ·rcases Yi.1 hm with e|hm
   ·cases e
    cases hi:I g with
    | none=>rfl
    | some y=>have:=(Ll.1 (hg.MB _ _ hi)).1;omega
   ·exact ZD.apart b o hm
open Go.RowKit in
theorem Xhg{row:Option Nat}(h:w.grownBy w' row)(hr:row=none):Below w.heap.size w w' :=
 ⟨h.os,h.tape,h.output,h.size,λk hk=>h.block k hk (by rw[hr];simp)⟩
theorem X81(s:Lu):Lib.strCells ⟨s.toArray⟩=Ax s:=by simp[Lib.strCells]
theorem Xhs{t u ty:TypeId}{i:TypeInfo}(hS:Aa B w I As)(ht:P.underlying t=some (.slice E))(hu:P.underlying u=some .string)(hi:P.info? E=some i)(hz:i.zero=some (.int .u8 0))(Bv:i.size=1)(KH:i.bytes=1)
  (hk:As[k]?=some (Ar E 1 v m xs)) (s:Lu) (hb:m+s.length<=140737488355328) :∃v' w',(Builtin.append_ #[t,u] ty #[v,S s]).run P w=.ok v' w'/\Aa B w' I (As.set k (Ar E 1 v' (m+s.length) (xs++Ax s))):=by
 have hml:m+s.length<=maxLen:=by simp only[maxLen];omega
 have CW:xs.length=m*1:=hS.D5 hk λh ⟨hl,_⟩=>hl
 have E6:k<As.length:=(Y1.1 hk).1;have ES:ByteArray.size ⟨s.toArray⟩=s.length:=rfl;have IK:(v=.slice none 0 0/\m=0)\/∃g cap rest,v=.slice (some ⟨g,0,none⟩) m cap/\m<=cap/\cap<=maxLen/\xs.length+rest.length=cap*1/\Aa B w I (As.set k (Ae g (xs++rest) E)):=by
  obtain⟨g,hs,hg⟩:=hS;obtain⟨h1,h2,hp,⟨hl,ha⟩,BA,_⟩:=hs.at_ hk;rcases ha with⟨hv,h0,_⟩|⟨b,cap,rest,rfl,rfl,h3,h4,h5⟩
  ·exact .inl ⟨hv,h0⟩
  ·obtain⟨h',F6,F0⟩:=BA (Ae b (xs++rest) E) _ O;exact .inr ⟨b,cap,rest,O,h3,h4,h5,h',F6,hg.perm (hp.trans F0.symm)⟩
 rcases IK with⟨rfl,rfl⟩|⟨g,cap,rest,rfl,Dc,Wv,G_,Jq⟩
 ·have hx:xs=[]:=Yf (su CW);subst hx;obtain⟨v',w',hr,ho,Wx,_⟩:=Go.Lib.run_append_own_string (P:=P) w w.heap.size t u ty E i ht hu hi hz Bv KH (.slice none 0 0) 0 [] ⟨O,.inl ⟨O,O⟩⟩ ⟨s.toArray⟩ (by rw[ES];exact hml) (by rw[ES];exact hb) (Yd _)
  rw[X81,ES]at ho;have Bo:=hS.NJ (Xhg Wx O) ho;refine⟨v',w',hr,?_⟩
  -- the new one stands at the DG Abw place
  obtain⟨h,hs,hg⟩:=Bo;obtain⟨q1,q2,rfl,Hv,E8⟩:=hs;obtain⟨Fj,Ge,hp,_,BA,_⟩:=Ao.at_ hk E8;obtain⟨h',F6,F0⟩:=BA _ q1 Hv;have g2:Good B w' I (q1++Ge):=by
   have g:=hg.perm (hp.append_left q1)
   have:(q1++(Fj++Ge)).Perm ((q1++Ge)++Fj):=by
    rw[Yc];exact(bd).append_left q1
   exact(g.perm this).left
  exact⟨h',F6,g2.perm F0.symm⟩
 ·have qZ:(As.set k (Ae g (xs++rest) E))[k]?=some (Ae g (xs++rest) E):=by simp[E6]
  have hblk:=Jq.block qZ
  by_cases EC:m+s.length<=cap
  ·have EI:m+ByteArray.size ⟨s.toArray⟩<=(xs++rest).toArray.size:=by
    simp only[yC,Y0,ES];omega
   have hr:=Go.Lib.run_append_room_string (P:=P) w t u ty E i ht hu hi Bv g m cap (xs++rest).toArray hblk ⟨s.toArray⟩ EC EI;rw[X81,ES]at hr;have e2:((xs++rest).toArray.toList.take m++Ax s++(xs++rest).toArray.toList.drop (m+s.length)).toArray=((xs++Ax s)++rest.drop s.length).toArray:=by
    have hm:m=xs.length:=om
    subst hm;simp only[List.toList_toArray,U9]
    rw[Y50,Yk (by omega:xs.length<=xs.length+s.length)]
    simp
   rw[e2]at hr;refine⟨_,_,hr,?_⟩;have hw:=Jq.write (w':=w.setRow g ((xs++Ax s)++rest.drop s.length).toArray) (o':=Xi ((xs++Ax s)++rest.drop s.length) E) qZ O O O (setRow_heap w g _ _ E _ hblk) (λx hx=>setRow_other w g x _ hx);have Hw:=hw.Bm (k:=k) (g:=g) (E:=E) (n:=m+s.length) (size:=1) (cap:=cap) (xs:=xs++Ax s) (rest:=rest.drop s.length) (by simp[E6,Ae]) EC Wv (by rw[Y0,Yh];omega) (by
    rw[Y0,Ye,Yh];omega)
   simpa using Hw
  ·have holds:∀j u,xs[j]?=some u->w.cell? ((⟨g,0,none⟩:Addr).add j)=some u:=by
    intro j u hu';have hj:j<xs.length:=(Y1.1 hu').1;rw[Addr.add_lit,Yj];have h9:w.heap[g]?=some (.cells (xs++rest).toArray E (0,0)):=hblk;simp only[World.cell?,h9,Option.isSome_none,Y45,if_false]
    simp[hj]at hu' ⊢
    simp[sV,hj,hu']
   have hr:=Go.Lib.run_append_grow_string (P:=P) w t u ty E i (.int .u8 0) ht hu hi hz ⟨g,0,none⟩ m cap xs (by rw[Bv];exact CW) holds ⟨s.toArray⟩ (by rw[ES];omega) (by rw[ES];omega) (growslice_fits (by rw[ES];omega) (by rw[KH,ES];omega));rw[X81,ES]at hr;refine⟨_,_,hr,?_⟩;have IQ:=grownCap_ge w (m+s.length) cap E;have AaQ:grownCap w (m+s.length) cap E<=maxLen:=grownCap_le_maxLen w (m+s.length) cap E hml;have Bo:=hS.drew.alloc (.cells (xs.toArray++(Ax s).toArray++Builtin.zeroCells (Value.int .u8 0).cells (grownCap w (m+s.length) cap E-(m+s.length))) E);have e1:(own w.drew.heap.size (.cells (xs.toArray++(Ax s).toArray++Builtin.zeroCells (Value.int .u8 0).cells (grownCap w (m+s.length) cap E-(m+s.length))) E))=Ae w.heap.size ((xs++Ax s)++(Builtin.zeroCells (Value.int .u8 0).cells (grownCap w (m+s.length) cap E-(m+s.length))).toList) E:=by
    unfold Ae Xi
    congr 2
    apply Array.ext'
    simp
   rw[e1]at Bo;have LD:=Bo.Bm (k:=0) (n:=m+s.length) (size:=1) (cap:=grownCap w (m+s.length) cap E) O IQ AaQ (by rw[Y0,Yh];omega) (by
    have hzc:∀q,(Builtin.zeroCells (Value.int .u8 0).cells q).toList.length=q:=λq=>by rw[Zu,size_zeroCells];exact Gv q
    rw[Y0,Yh,hzc];omega)
   obtain⟨h,hs,hg⟩:=LD;obtain⟨q1,q2,rfl,Hv,E8⟩:=hs;obtain⟨Fj,Ge,hp,_,BA,_⟩:=Ao.at_ hk E8;obtain⟨h',F6,F0⟩:=BA _ q1 Hv;refine⟨h',F6,Good.perm ?_ F0.symm⟩;have g:=hg.perm (hp.append_left q1)
   have:(q1++(Fj++Ge)).Perm ((q1++Ge)++Fj):=by
    rw[Yc];exact(bd).append_left q1
   exact(g.perm this).left
theorem WL.Fh{t u:TypeId}{i:TypeInfo}{s:Lu}(hS:Aa B w I As)(hx:Ev n L x v)(hy:Ev n L y (S s))(hk:As[k]?=some (Ar E 1 v m xs))(ht:P.underlying t=some (.slice E))(hu:P.underlying u=some .string)(hi:P.info? E=some i)(hz:i.zero=some (.int .u8 0))(Bv:i.size=1)(KH:i.bytes=1)
  (hb:m+s.length<=140737488355328) (hd:Nat.blt d n=true) (h:∀v' w',Aa B w' I (As.set k (Ar E 1 v' (m+s.length) (xs++Ax s)))->WL P n ops K rest ((d,v')::L) w') :WL P n ops K (⟨some d,.call ⟨.builtin .append,#[x,y],#[t,u]⟩,ty,pos,af,none⟩::rest) L w:=by
 obtain⟨v',w',hr,C9⟩:=Xhs (P:=P) (ty:=ty) hS ht hu hi hz Bv KH hk s hb
 exact WL.val (w':=w') (λa ha=>by simp[execOp,resolve,invoke,builtin,hx a ha,hy a ha,hr]) hd (h _ _ C9)
end
section
variable {P:Program} {n:Nat} {K:BK} {L:AK} {w w':Wo} {ops:Array Oper} {rest:List Oper}
variable {B:Wo} {I:Im} {As:La} {k:Nat} {ty:TypeId} {pos:String} {af:Array Edge} {g:Option (Nat×Bool)} {t t':TypeId} {x y:Operand}
def iW(cs:Lv)(E:TypeId):Obj:=.cells cs.toArray E (cs.length,cs.length+1)
def Vr(b:Nat)(cs:Lv)(E:TypeId):X1:=own b (iW cs E)
theorem Aa.Lr{o:Obj}(hS:Aa B w I As)(hk:As[k]?=some (own b o)):w.heap[b]?=some o:=by
 obtain⟨h,hs,hg⟩:=hS;obtain⟨g1,g2,hp,ha,_,_⟩:=hs.at_ hk;rw[own]at ha;subst ha;exact hg.own _ _ (hp.mem_iff.2 sz)
theorem PV(hb:w.heap[b]?=some (iW cs E))(hv:cs[o]?=some v):w.cell? (ad b o)=some v:=by
 unfold iW at hb;simp[World.cell?,hb,hv]
theorem WL.g_{e:TypeId}{s:Lu}(hS:Aa B w I As)(hx:Ev n L x (S s))(hs:P.underlying src=some .string)(hd':P.underlying dst=some (.slice e))(he:P.underlying e=some (.int .u8))(hd:Nat.blt d n=true)
  (h:∀b cap r w',Aa B w' I (Vr b (Ax s++List.replicate r (.int .u8 0)) e::As)->WL P n ops K rest ((d,.slice (some (ad b 0)) s.length cap)::L) w') :WL P n ops K (⟨some d,.convert src dst x,ty,pos,af,none⟩::rest) L w:=by
 have hr:=run_bytes_of_string (P:=P) w src dst e ⟨s.toArray⟩ hs hd' he;have Adp:bytesRow ⟨s.toArray⟩ (grownCap w s.length 0 e)=(Ax s++List.replicate (grownCap w s.length 0 e-s.length) (Value.int .u8 0)).toArray:=by
  simp[bytesRow,Ax,U8]
  rfl
 refine .val (v:=.slice (some (ad w.heap.size 0)) s.length (grownCap w s.length 0 e)) (w':=w.drew.alloc (iW (Ax s++List.replicate (grownCap w s.length 0 e-s.length) (Value.int .u8 0)) e)) (λa ha=>?_) hd (h _ _ _ _ (hS.drew.alloc _));have hz:ByteArray.size ⟨s.toArray⟩=s.length:=rfl;rw[hz,Adp]at hr;have hx':=hx a ha;simp[execOp,hx',hr,iW]
theorem Ex.ldM{d:Option Nat}(hx:Ev n L x (ptr b o))(hS:Aa B w I As)(hk:As[k]?=some (Vr b cs E))(ht:∀w,(isAgg t).run P w=.ok false w)(hv:cs[o]?=some v):Ex P n L w ⟨d,.load t x,ty,pos,af,g⟩ v w:=λa ha=>by
 have h:=PV (hS.Lr hk) hv;simp[execOp,hx a ha,Instr.loadAt,Instr.sureAddr,loadVar,ht,load,Sem.run,h]
theorem Ex.Vt{d:Option Nat}{l:Lu}(hx:Ev n L x (.slice (some (ad b o)) l.length cap))(hS:Aa B w I As)(hk:As[k]?=some (Vr b cs E))(hs:P.underlying src=some (.slice E))(he:P.underlying E=some (.int .u8))(hd:P.underlying dst=some .string)
  (hc:∀j (hj:j<l.length),cs[o+j]?=some (U8 (l[j].toNat:Int))):Ex P n L w ⟨d,.convert src dst x,ty,pos,af,g⟩ (S l) w:=λa ha=>by
 have hb:=hS.Lr hk;have h:=run_convert_bytes_back (P:=P) w src dst E (ad b o) cap l hs he hd (λj hj=>by rw[EE];exact PV hb (hc j hj));simp[execOp,hx a ha,h]
theorem WL.Ahb(hS:Aa B w I As)(hk:As[k]?=some (Vr b cs E))(hx:Ev n L x (ptr b o))(hy:Ev n L y v)(h1:v.oneCell'=true)(hs:∀w,(Go.sizeOf t).run P w=.ok 1 w)(ho:o<cs.length)
  (h:∀w',Aa B w' I (As.set k (Vr b (cs.set o v) E))->WL P n ops K rest L w'):WL P n ops K (⟨none,.store t x y,ty,pos,af,none⟩::rest) L w:=by
 have hb:=hS.Lr hk;have NS:=PV hb (Y2 ho);have uT:w.frozen? (ad b o)=false:=by
  unfold iW at hb;simp[World.frozen?,hb]
  omega
 have hc:v.cells=#[v]:=by cases v<;>first|rfl|cases h1
 have BO:b<w.heap.size:=(Ll.1 hb).1;have Cp:=run_store P w (ad b o) v .plain h1;rw[NS]at Cp;simp only[uT]at Cp
 have jH:=hb;unfold iW at jH;have BA:(w.setCell (ad b o) v).heap=w.heap.setIfInBounds b (iW (cs.set o v) E):=by
  apply Array.ext
  ·simp[World.setCell]
  ·intro i h1 h2;simp only[World.setCell,Array.getElem_modify,Y58,iW]
   by_cases e:b=i
   ·subst e
    have:=(Ll.1 jH).2
    simp[this]
   ·have h3:i<w.heap.size:=su h2
    simp[e,Y58 h3]
 refine .st (w':=w.setCell (ad b o) v) (λa ha=>?_) (h _ (hS.write (o':=iW (cs.set o v) E) hk ?_ ?_ ?_ ?_ λc hc=>?_))
 ·have e0:(ad b o).add 0=ad b o:=rfl;simp[execOp,hx a ha,hy a ha,Instr.storeAt,Instr.sureAddr,storeVar,hs,hc,storeCells,e0,Cp]
 ·simp[World.setCell]
 ·simp[World.setCell]
 ·simp[World.setCell]
 ·rw[BA];simp[BO]
 ·rw[BA];simp[Y2s,Ne.symm hc]
theorem WL.range{s:Lu}(hS:Aa B w I As)(hx:Ev n L x (S s))(hT:P.underlying t=some .string)(hd:Nat.blt d n=true)
  (h:∀b w',Aa B w' I (own b (.stringIter ⟨s.toArray⟩ 0)::As)->WL P n ops K rest ((d,ptr b 0)::L) w') :WL P n ops K (⟨some d,.range t x,ty,pos,af,none⟩::rest) L w:=by
 refine .val (v:=ptr w.heap.size 0) (w':=w.iter ⟨s.toArray⟩ 0) (λa ha=>?_) hd (h _ _ (hS.alloc _));have hr:=run_range_string (P:=P) w t ⟨s.toArray⟩ hT;have hx':=hx a ha;simp[execOp,hx',hr]
theorem WL.next{s:Lu}(hS:Aa B w I As)(hk:As[k]?=some (own b (.stringIter ⟨s.toArray⟩ i)))(hx:Ev n L x (ptr b 0))(hd:Nat.blt d n=true)
  (h0:¬ i<s.length->WL P n ops K rest ((d,.tuple #[.bool false])::L) w)
  (h1:i<s.length->∀w',Aa B w' I (As.set k (own b (.stringIter ⟨s.toArray⟩ (i+(Utf8.decode ⟨s.toArray⟩ i).2))))->WL P n ops K rest ((d,.tuple #[.bool true,Ab (i:Nat),.int .i32 (Utf8.decode ⟨s.toArray⟩ i).1])::L) w') :WL P n ops K (⟨some d,.next x true,ty,pos,af,none⟩::rest) L w:=by
 have hb:=hS.Lr hk;have BO:b<w.heap.size:=(Ll.1 hb).1;have hz:ByteArray.size ⟨s.toArray⟩=s.length:=rfl
 by_cases hi:i<s.length
 ·have hi':i<ByteArray.size ⟨s.toArray⟩:=hi;refine .val (v:=.tuple #[.bool true,Ab (i:Nat),.int .i32 (Utf8.decode ⟨s.toArray⟩ i).1]) (w':={ w with heap:=w.heap.setIfInBounds b (.stringIter ⟨s.toArray⟩ (i+(Utf8.decode ⟨s.toArray⟩ i).2)) }) (λa ha=>?_) hd (h1 hi _ (hS.write hk O O O ?_ λc hc=>?_))
  ·simp only[execOp,hx a ha]
   simp[Instr.next,getObj,setObj,Sem.run,hb,hi',goInt,Result.andThen]
   try rfl
  ·simp[BO]
  ·simp[Y2s,Ne.symm hc]
 ·have hi':¬ i<ByteArray.size ⟨s.toArray⟩:=hi;refine .val (v:=.tuple #[.bool false]) (w':=w) (λa ha=>?_) hd (h0 hi);simp only[execOp,hx a ha]
  simp[Instr.next,getObj,Sem.run,hb,hi']
theorem Xf8(s:Lu)(i:Nat)(h:i<s.length)(ha:(at_ s i).toNat<128):Utf8.decode ⟨s.toArray⟩ i=((at_ s i).toNat,1):=by
 have h':i<ByteArray.size ⟨s.toArray⟩:=h;have e:(⟨s.toArray⟩:ByteArray)[i]'h'=at_ s i:=by
  rw[at_,Y8,Ya,Y2 h];rfl
 rw[decode_ascii _ i h' (by rw[e];exact ha),e]
theorem Xks(s:Lu)(i:Nat):(ByteArray.get! ⟨s.toArray⟩ i)=at_ s i:=by
 show s.toArray[i]! = _
 simp[at_,Ya]
 try rfl
theorem Xnf(s:Lu)(i:Nat)(h:i<s.length)(ha:128<=(at_ s i).toNat):128<=(Utf8.decode ⟨s.toArray⟩ i).1/\(Utf8.decode ⟨s.toArray⟩ i).1<=1114111/\1<=(Utf8.decode ⟨s.toArray⟩ i).2/\i+(Utf8.decode ⟨s.toArray⟩ i).2<=s.length/\∀j,i<=j->j<i+(Utf8.decode ⟨s.toArray⟩ i).2->128<=(at_ s j).toNat:=by
 have hz:ByteArray.size ⟨s.toArray⟩=s.length:=rfl;rw[Go.Lib.decode_at,hz,Xks,Xks,Xks,Xks];generalize y5:(at_ s i).toNat=b0 at *;generalize hb1:(at_ s (i+1:Nat)).toNat=b1 at *;generalize LF:(at_ s (i+2:Nat)).toNat=b2 at *;generalize hb3:(at_ s (i+3:Nat)).toNat=b3 at *;rcases Go.Lib.decodeN_shape (s.length-i) b0 b1 b2 b3 with⟨c,e⟩|⟨c1,c2,c3,cv,e⟩|⟨c1,c2,c3,c4,cv,cs,e⟩|⟨c1,c2,c3,c4,c5,cv,cw,e⟩|e
 ·omega
 all_goals rw[e];dsimp only
 ·refine⟨om,om,om,om,λj h1 h2=>?_⟩;obtain rfl|rfl:j=i\/j=i+1:=om
  ·omega
  ·omega
 ·refine⟨om,om,om,om,λj h1 h2=>?_⟩;obtain rfl|rfl|rfl:j=i\/j=i+1\/j=i+2:=om
  all_goals omega
 ·refine⟨om,om,om,om,λj h1 h2=>?_⟩;obtain rfl|rfl|rfl|rfl:j=i\/j=i+1\/j=i+2\/j=i+3:=om
  all_goals omega
 ·refine⟨om,om,om,om,λj h1 h2=>?_⟩;obtain rfl:j=i:=om
  omega
theorem lP(x:ByteArray)(i:Nat)(h:i<x.size):x.data.toList.getD i 0=x[i]'h:=by
 rw[Ya,Y2 h];rfl
def Mr(r:Int):Lu:=(Utf8.encode r).data.toList
theorem Ex.oO{d:Option Nat}{q:IntKind}{r:Int}(hx:Ev n L x (.int q r))(hs:(P.underlying src).isSome=true)(hd:P.underlying dst=some .string):Ex P n L w ⟨d,.convert src dst x,ty,pos,af,g⟩ (S (Mr r)) w:=λa ha=>by
 have h:=run_convert_int_string (P:=P) w src dst q r hs hd;have hx':=hx a ha;simp[execOp,hx',h,Mr]
theorem VR(r:Int)(hv:Utf8.valid r=true)(Ab9:128<=r):2<=(Mr r).length/\(Mr r).length<=4/\128<=(at_ (Mr r) ((Mr r).length-1:Int)).toNat:=by
 obtain⟨h1,h2,h3⟩:=encode_facts r hv Ab9;have hz:(Mr r).length=(Utf8.encode r).size:=by unfold Mr;generalize Utf8.encode r=x;rfl
 have BO:(Utf8.encode r).size-1<(Utf8.encode r).size:=om
 refine⟨om,om,?_⟩;have e:at_ (Mr r) ((Mr r).length-1:Int)=(Utf8.encode r)[(Utf8.encode r).size-1]'BO:=by
  rw[at_,show((Mr r).length-1:Int).toNat=(Utf8.encode r).size-1 by omega];exact lP _ _ BO
 rw[e];exact h3 BO
theorem iI(r:Int)(h:Go.Lib.validRune r=true):Utf8.valid r=true:=by
 simp only[Go.Lib.validRune,dq1]at h
 simp only[Utf8.valid,PM,Yb,dq1]
 omega
theorem Ex.HQ{d:Option Nat}{s:Nat}(hx:Ev n L x (ptr b 0))(hS:Aa B w I As)(hk:As[k]?=some (Ae b cs E))(ht:∀w,(isAgg t).run P w=.ok true w)(hs:∀w,(Go.sizeOf t).run P w=.ok s w)
  (hl:cs.length=s):Ex P n L w ⟨d,.load t x,ty,pos,af,g⟩ (.agg cs.toArray) w:=Ex.GG hx hS hk ht hs hl (λj v h=>by rw[Yj];exact h)
theorem X9u(p:Addr)(m c s:Nat):sliced (some p) 0 m c s=.slice (some p) m c:=by
 simp only[sliced,jz,yM,s7]
 congr 1
 split<;>rfl
section wj
variable {fn:Func} {R:Ending->Wo->Prop}
theorem Jl{t u s:Nat}{ty:TypeId}{x:Va}(h:fn.results=#[.cell t ty,.tmp u])(hS:Aa B w I As)(hk:As[k]?=some (Ae b cs E))(ht:∀w,(isAgg ty).run P w=.ok true w)(hs:∀w,(Go.sizeOf ty).run P w=.ok s w)(hl:cs.length=s)
  (hv:look L t=some (ptr b 0)) (hx:look L u=some x) (hR:R (.returned (.tuple #[.agg cs.toArray,x])) w) (hd:dl L=[]:=by rfl):UG P n fn R .ret L w:=⟨hd,λa ha=>by
 have hb:=hS.block hk;have O9:=run_loadCells_list (P:=P) w (ad b 0) cs (λj v hj=>by rw[EE];exact HU hb (su hj));rw[hl]at O9;have h1:=ha.get t _ hv;have h2:=ha.get u x hx;simp only[Lk]at h1 h2
 exact⟨_,by simp[results,h,h1,h2,loadVar,ht,hs];simp[asAddr,O9],hR⟩⟩
theorem AbD{t s:Nat}{ty:TypeId}(h:fn.results=#[.cell t ty])(hS:Aa B w I As)(hk:As[k]?=some (Ae b cs E))(ht:∀w,(isAgg ty).run P w=.ok true w)(hs:∀w,(Go.sizeOf ty).run P w=.ok s w)(hl:cs.length=s)
  (hv:look L t=some (ptr b 0)) (hR:R (.returned (.agg cs.toArray)) w) (hd:dl L=[]:=by rfl):UG P n fn R .ret L w:=⟨hd,λa ha=>by
 have hb:=hS.block hk;have O9:=run_loadCells_list (P:=P) w (ad b 0) cs (λj v hj=>by rw[EE];exact HU hb (su hj));rw[hl]at O9;have h1:=ha.get t _ hv;simp only[Lk]at h1
 exact⟨_,by simp[results,h,h1,loadVar,ht,hs];simp[asAddr,O9],hR⟩⟩
theorem Tz{t u r s:Nat}{ty:TypeId}{x y:Va}(h:fn.results=#[.cell t ty,.tmp u,.tmp r])(hS:Aa B w I As)(hk:As[k]?=some (Ae b cs E))(ht:∀w,(isAgg ty).run P w=.ok true w)(hs:∀w,(Go.sizeOf ty).run P w=.ok s w)(hl:cs.length=s)
  (hv:look L t=some (ptr b 0)) (hx:look L u=some x) (hy:look L r=some y) (hR:R (.returned (.tuple #[.agg cs.toArray,x,y])) w) (hd:dl L=[]:=by rfl):UG P n fn R .ret L w:=⟨hd,λa ha=>by
 have hb:=hS.block hk;have O9:=run_loadCells_list (P:=P) w (ad b 0) cs (λj v hj=>by rw[EE];exact HU hb (su hj));rw[hl]at O9;have h1:=ha.get t _ hv;have h2:=ha.get u x hx;have h3:=ha.get r y hy;simp only[Lk]at h1 h2 h3
 exact⟨_,by simp[results,h,h1,h2,h3,loadVar,ht,hs];simp[asAddr,O9],hR⟩⟩
end wj
end
@[reducible] def lk:AK->Nat->Option Value
 | [],_=>none
 | (k,v)::L,t=>match Nat.beq k t with
  | true=>some v
  | false=>lk L t
@[reducible] def evR (L:AK):Operand->Option Value
 | .tmp t=>match Nat.beq t DK with
  | true=>none
  | false=>lk L t
 | .const v=>some v
 | .global g=>some (.pointer (some ⟨g,0,none⟩))
 | .func f=>some (.func (.func f) #[] #[])
@[reducible] def nth:List Value->Nat->Option Value
 | [],_=>none
 | v::_,0=>some v
 | _::l,i+1=>nth l i
@[reducible] def nb (i j:Nat):Bool:=match Nat.beq i j with
 | true=>true
 | false=>false
theorem rC:∀(L:AK) (t:Nat),lk L t=Bj L t
 | [],_=>rfl
 | (k,v)::L,t=>by
  unfold lk Bj;cases Nat.beq k t
  ·exact rC L t
  ·rfl
theorem tQ(L:AK)(x:Operand):evR L x=ev L x:=by
 cases x with
 | tmp t =>
  simp only[evR,ev,look,rC]
  cases h:Nat.beq t DK<;>simp only[h,cond]
 | const v=>rfl
 | global g=>rfl
 | func f=>rfl
theorem Xv0:∀(l:Lv) (i:Nat),nth l i=l[i]?
 | [],_=>by simp[nth]
 | v::l,0=>by simp[nth]
 | v::l,i+1=>by simpa[nth]using Xv0 l i
theorem Abs(i j:Nat):nb i j=Nat.beq i j:=by unfold nb;cases Nat.beq i j<;>rfl
@[reducible] def isLen:List Value->Nat->Bool
 | [],0=>true
 | _::l,n+1=>isLen l n
 | [],_+1=>false
 | _::_,0=>false
theorem kI:∀{l:Lv} {n:Nat},isLen l n=true->l.length=n
 | [],0,_=>rfl
 | _::l,n+1,h=>by simp[kI (l:=l) (n:=n) (by simpa[isLen]using h)]
 | [],_+1,h=>by simp[isLen]at h
 | _::_,0,h=>by simp[isLen]at h
@[reducible] def Om:List Value->Nat->Bool
 | [],_=>true
 | _::l,n+1=>Om l n
 | _::_,0=>false
theorem Xun:∀{l:Lv} {n:Nat},Om l n=true->l.length<=n
 | [],_,_=>Y4 _
 | _::l,n+1,h=>Nat.succ_le_succ (Xun (l:=l) (n:=n) (by simpa[Om]using h))
 | _::_,0,h=>by simp[Om]at h
@[reducible] def QC:List Value->Nat->Value->Option (List Value)
 | [],_,_=>none
 | _::l,0,u=>some (u::l)
 | v::l,i+1,u=>match QC l i u with
  | some m=>some (v::m)
  | none=>none
theorem Xsd:∀(l:Lv) (i:Nat) (u:Va) (m:Lv),QC l i u=some m->i<l.length/\m=l.set i u
 | [],_,_,_,h=>by simp[QC]at h
 | v::l,0,u,m,h=>by simp[QC]at h;simp[h]
 | v::l,i+1,u,m,h=>by
  simp only[QC]at h
  cases e:QC l i u with
  | none=>rw[e]at h;cases h
  | some m' =>
   rw[e]at h;cases h
   have:=Xsd l i u m' e
   simp[this.1,this.2]
@[reducible] def laid:List Value->List Value->Option (List Value)
 | cs,[]=>some cs
 | [],_::_=>none
 | _::cs,v::vs=>match laid cs vs with
  | some m=>some (v::m)
  | none=>none
@[reducible] def Ka:List Value->Nat->List Value->Option (List Value)
 | cs,0,vs=>laid cs vs
 | [],_+1,_=>none
 | c::cs,o+1,vs=>match Ka cs o vs with
  | some m=>some (c::m)
  | none=>none
theorem SZ:∀(cs vs m:Lv),laid cs vs=some m->vs.length<=cs.length/\m=vs++cs.drop vs.length
 | cs,[],m,h=>by cases cs<;>(simp[laid]at h;simp[h])
 | [],_::_,m,h=>by simp[laid]at h
 | c::cs,v::vs,m,h=>by
  simp only[laid]at h
  cases e:laid cs vs with
  | none=>rw[e]at h;cases h
  | some m' =>
   rw[e]at h;cases h
   have:=SZ cs vs m' e
   simp[this.1,this.2]
theorem Xln:∀(cs:Lv) (o:Nat) (vs m:Lv),Ka cs o vs=some m->o+vs.length<=cs.length/\m=cs.take o++vs++cs.drop (o+vs.length)
 | cs,0,vs,m,h=>by
  have h':laid cs vs=some m:=by cases cs<;>simpa only [Ka]using h
  have:=SZ cs vs m h'
  simp[this.1,this.2]
 | [],_+1,_,m,h=>by simp[Ka]at h
 | c::cs,o+1,vs,m,h=>by
  simp only[Ka]at h
  cases e:Ka cs o vs with
  | none=>rw[e]at h;cases h
  | some m' =>
   rw[e]at h;cases h
   have:=Xln cs o vs m' e
   rw[show o+1+vs.length=(o+vs.length)+1 by omega];simp[this.1,this.2]
class One(v:Va):Prop where h:v.oneCell'=true
instance {k:IntKind}{i:Int}:One (.int k i):=⟨O⟩
instance {b:Bool}:One (.bool b):=⟨O⟩
instance {s:ByteArray}:One (.string s):=⟨O⟩
instance {p:Oa}:One (.pointer p):=⟨O⟩
instance {p:Oa}:One (.slice p m c):=⟨O⟩
instance {f:Go.Fn}{a b:Array Va}:One (.func f a b):=⟨O⟩
instance {m:Option Nat}:One (.map m):=⟨O⟩
instance {j s:Nat}:One (sliced a i j c s):=⟨O⟩
instance:One .nilFunc:=⟨O⟩
instance {k:FloatKind}:One (.float k m):=⟨O⟩
@[reducible] def Ag3:Nat->Bool
 | 0=>false
 | _+1=>true
class ZY(l:Lv):Prop where h:l.all Value.oneCell'=true
instance:ZY []:=⟨O⟩
instance {l:Lv}[a:One v][b:ZY l]:ZY (v::l):=⟨by simp[a.h,b.h]⟩
class Cells(v:Va)(l:outParam Lv):Prop where h:v.cells.toList=l
instance {l:Lv}:Cells (.agg l.toArray) l:=⟨O⟩
instance (priority:=low)[a:One v]:Cells v [v]:=⟨by have h:=a.h;cases v<;>first|rfl|cases h⟩
class Is{α:Type}(o:Option α)(v:outParam α):Prop where h:o=some v
instance (v:α):Is (some v) v:=⟨O⟩
class Ff(b:Bool):Prop where h:b=false
instance:Ff false:=⟨O⟩
class jX(J:Im)(p:Addr)(vs:outParam Lv):Prop where h:At J p vs
instance [a:At J p vs]:jX J p vs:=⟨a⟩
instance (priority:=low)[l:Le I J][a:jX I p vs]:jX J p vs:=⟨a.h.mono l⟩
@[reducible] def Hq:List Value->Nat->Option (List Value)
 | l,0=>some l
 | [],_+1=>none
 | _::l,i+1=>Hq l i
theorem Xkm:∀{l m:Lv} {i:Nat},Hq l i=some m->l.drop i=m
 | l,m,0,h=>by cases l<;>(simp[Hq]at h;simp[h])
 | [],_,_+1,h=>by simp[Hq]at h
 | _::l,m,i+1,h=>by simpa[Hq]using Xkm (l:=l) (m:=m) (i:=i) (by simpa[Hq]using h)
@[reducible] def I5:List Value->Nat->Option (List Value)
 | _,0=>some []
 | [],_+1=>none
 | v::l,i+1=>match I5 l i with
  | some m=>some (v::m)
  | none=>none
theorem Xlt:∀{l m:Lv} {i:Nat},I5 l i=some m->m.length=i/\∀(j:Nat) (v:Va),m[j]?=some v->l[j]?=some v
 | l,m,0,h=>by cases l<;>(simp[I5]at h;subst h;simp)
 | [],_,_+1,h=>by simp[I5]at h
 | v::l,m,i+1,h=>by
  simp only[I5]at h
  cases e:I5 l i with
  | none=>rw[e]at h;cases h
  | some m' =>
   rw[e]at h;cases h
   have:=Xlt e
   refine⟨by simp[this.1],λj u hj=>?_⟩;cases j with
   | zero=>simpa using hj
   | succ j=>simpa using this.2 j u (su hj)
class Eqt{α:Sort _}(a b:α):Prop where h:a=b
instance {α:Sort _}(a:α):Eqt a a:=⟨O⟩
class Lst(l:Lv)(m:outParam Lv):Prop where h:l=m
instance:Lst [] []:=⟨O⟩
instance {l m:Lv}[h:Lst l m]:Lst (v::l) (v::m):=⟨by rw[h.h]⟩
class HS(L:AK)(x:Operand)(v:outParam Va):Prop where h:ev L x=some v
instance {x:Operand}[h:Is (evR L x) v]:HS L x v:=⟨by rw[<-tQ];exact h.h⟩
abbrev pz(G:List (Bool×Bool)):Prop:=∀p∈G,p.1=p.2
class Rv(G:List (Bool×Bool))(u:Va)(v:outParam Va):Prop where h:pz G->u=v
instance (priority:=low)(G:List (Bool×Bool))(u:Va):Rv G u u:=⟨λ_=>rfl⟩
instance {b w:Bool}{u:Va}[h:Rv G u v]:Rv ((b,w)::G) (gd b w u) v:=⟨λhg=>by
 have e:b=w:=hg (b,w) sz;subst e;rw[<-h.h λp hp=>hg p (lx _ hp)];simp[gd]⟩
class Bl(G:List (Bool×Bool))(L:AK)(x:Operand)(v:outParam Va):Prop where h:pz G->∀n,Ev n L x v
instance {x:Operand}{u:Va}[a:HS L x u][b:Rv G u v]:Bl G L x v:=⟨λhg n=>by rw[<-b.h hg];exact .of a.h⟩
class T0(G:List (Bool×Bool))(L:AK)(xs:List Operand)(vs:outParam Lv):Prop where h:pz G->∀n a,Aw n L a->xs.map a.eval=vs
instance :T0 G L [] []:=⟨λ_ _ _ _=>rfl⟩
instance {x:Operand}{xs:List Operand}[a:Bl G L x v][b:T0 G L xs vs]:T0 G L (x::xs) (v::vs):=⟨λhg n=>X5 (a.h hg n) (b.h hg n)⟩
class zB(G:List (Bool×Bool))(L:AK)(ps:List (Nat×Operand))(vs:outParam (List (Nat×Va))):Prop where h:pz G->∀n a,Aw n L a->ps.toArray.toList.map (λp=>(p.1,a.eval p.2))=vs
instance :zB G L [] []:=⟨λ_ n=>pM (n:=n)⟩
instance {x:Operand}{ps:List (Nat×Operand)}{vs:List (Nat×Va)}[a:Bl G L x v][b:zB G L ps vs]:zB G L ((i,x)::ps) ((i,v)::vs):=⟨λhg n=>Xj2 (a.h hg n) (b.h hg n)⟩
@[reducible] def XG:List (Nat×Nat)->Nat->Option (Nat×Nat)
 | [],_=>none
 | v::_,0=>some v
 | _::l,i+1=>XG l i
theorem Tg:∀(l:List (Nat×Nat)) (i:Nat),XG l i=l[i]?
 | [],_=>by simp[XG]
 | v::l,0=>by simp[XG]
 | v::l,i+1=>by simpa[XG]using Tg l i
class Tt(b:Bool):Prop where h:b=true
instance:Tt true:=⟨O⟩
class Fil(pl:List (Nat×Nat))(cs:Lv)(vs:List (Nat×Va))(ds:outParam Lv):Prop where h:RD (λi:Nat=>pl[i]?) cs vs=some ds
instance :Fil pl cs [] cs:=⟨O⟩
theorem Xnl{pl:Nat->Option (Nat×Nat)}{es l:Lv}{off:Nat}{vs:List (Nat×Va)}(a:pl i=some (off,size))(b:v.cells.toList=l)(c:l.length=size)(d:Ka cs off l=some ds)(e:RD pl ds vs=some es):RD pl cs ((i,v)::vs)=some es:=by
 have h:=Xln _ _ _ _ d;subst c;have h1:Nat.beq v.cells.toList.length l.length=true:=by rw[b];exact Nat.beq_refl _
 have h2:Nat.ble (off+l.length) cs.length=true:=Y4b h.1;unfold RD;rw[a];simp only[h1,h2,Bool.and_self,cond_true]
 rw[show sS cs off v.cells.toList=ds by rw[b,h.2];rfl];exact e
instance {es l:Lv}{off:Nat}{vs:List (Nat×Va)}[a:Is (XG pl i) (off,size)][b:Cells v l][c:Tt (isLen l size)][d:Is (Ka cs off l) ds][e:Fil pl ds vs es]:Fil pl cs ((i,v)::vs) es :=
 ⟨Xnl (by rw[<-Tg];exact a.h) b.h (kI c.h) d.h e.h⟩
class ke(s:Nat)(cs:Lv)(vs:List (Nat×Va))(ds:outParam Lv):Prop where h:RD (λi=>some (i*s,s)) cs vs=some ds
instance {s:Nat}:ke s cs [] cs:=⟨O⟩
instance {s:Nat}{es l:Lv}{vs:List (Nat×Va)}[b:Cells v l][c:Tt (isLen l s)][d:Is (Ka cs (i*s) l) ds][e:ke s ds vs es]:ke s cs ((i,v)::vs) es :=
 ⟨Xnl O b.h (kI c.h) d.h e.h⟩
@[reducible] def lH:List Value->List Value->List Value
 | [],m=>m
 | v::l,m=>v::lH l m
theorem R1:∀l m:Lv,lH l m=l++m
 | [],_=>rfl
 | v::l,m=>by simp[lH,R1 l m]
@[reducible] def oF:Nat->List Value->List Value
 | 0,_=>[]
 | n+1,z=>lH z (oF n z)
theorem Tx:∀(n:Nat) (z:Lv),oF n z=(List.replicate n z).flatten
 | 0,_=>rfl
 | n+1,z=>by rw[oF,R1,Tx n z,List.replicate_succ,JG]
class Nf(l:Lv)(m:outParam Lv):Prop where h:l=m
instance:Nf [] []:=⟨O⟩
instance {l m:Lv}[a:Nf l m]:Nf (v::l) (v::m):=⟨by rw[a.h]⟩
class Bd(P:Program)(t:TypeId)(pl:outParam (List (Nat×Nat)))(zs:outParam Lv):Prop where h:Bld P t pl zs
class Ph(P:Program)(t:TypeId)(z:outParam Va)(size bytes:outParam Nat):Prop where h:∃i,P.info? t=some i/\i.zero=some z/\i.size=size/\i.bytes=bytes/\z.cells.size=size
class Fo(P:Program)(t:TypeId)(f:Nat)(off:outParam Nat):Prop where h:∃fs fd s,P.underlying t=some (.struct fs)/\fs[f]?=some fd/\fd.offset=off/\(∀w,(Go.sizeOf fd.type).run P w=.ok s w)/\Nat.beq s 0=false
theorem fo{t f off s:Nat}(a:P.underlying t=some (.struct fs))(b:fs[f]?=some fd)(c:∀w,(Go.sizeOf fd.type).run P w=.ok s w)(d:fd.offset=off:=by rfl)(e:Nat.beq s 0=false:=by rfl):Fo P t f off:=⟨fs,fd,s,a,b,d,c,e⟩
class Un(P:Program)(t:TypeId)(u:outParam TypeDesc):Prop where h:P.underlying t=some u
class Sz(P:Program)(t:TypeId)(s:outParam Nat):Prop where h:∀w,(Go.sizeOf t).run P w=.ok s w
class Ag(P:Program)(t:TypeId)(b:outParam Bool):Prop where h:∀w,(isAgg t).run P w=.ok b w
class Zv(P:Program)(t:TypeId)(v:outParam Va):Prop where h:∀w,(zeroValue t).run P w=.ok v w
class Fn(P:Program)(f:FuncId):Prop where h:∃fn,P.funcs[f]?=some fn/\Xb fn=true
class Pg(As:La)(b:Nat)(k:outParam Nat)(cs:outParam Lv)(E:outParam TypeId):Prop where h:As[k]?=some (Ae b cs E)
instance :Pg (Ae b cs E::As) b 0 cs E:=⟨O⟩
instance (priority:=low)[h:Pg As b k cs E]:Pg (A::As) b (k+1) cs E:=⟨h.h⟩
section
variable {P:Program} {n:Nat} {L:AK} {G:List (Bool×Bool)} {B:Wo} {I:Im} {As:La}
class V0(P:Program)(L:AK)(G:List (Bool×Bool))(op:Op)(S:outParam Prop)(v:outParam Va):Prop where
 h:S->pz G->∀{n:Nat} {w:Wo} {d:Option Nat} {ty:TypeId} {pos:String} {af:Array Edge} {g:Option (Nat×Bool)},Ex P n L w ⟨d,op,ty,pos,af,g⟩ v w
class V1(P:Program)(L:AK)(G:List (Bool×Bool))(B:Wo)(I:Im)(As:La)(op:Op)(S:outParam Prop)(v:outParam Va):Prop where
 h:S->pz G->∀{w:Wo},Aa B w I As->∀{n:Nat} {d:Option Nat} {ty:TypeId} {pos:String} {af:Array Edge} {g:Option (Nat×Bool)},Ex P n L w ⟨d,op,ty,pos,af,g⟩ v w
instance (priority:=low){S:Prop}[a:V0 P L G op S v]:V1 P L G B I As op S v:=⟨λs g _ _=>a.h s g⟩
section
variable {x y z c:Operand} {u v:Va} {k q:IntKind} {i j:Int} {t t' e:TypeId} {l m:Lu} {b r:Bool}
instance [a:Bl G L x v]:V0 P L G (.move x) True v:=⟨λ_ g=>.move (a.h g _)⟩
instance [a:Bl G L x v]:V0 P L G (.assign x) True v:=⟨λ_ g=>.assign (a.h g _)⟩
instance [a:Bl G L c (.bool b)][hx:Bl G L x (.bool true)][hy:Bl G L y (gd b false (.bool r))]:V0 P L G (.pick c x y) True (.bool (b||r)):=⟨λ_ g=>.por (a.h g _) (hx.h g _) (hy.h g _)⟩
instance [a:Bl G L c (.bool b)][hx:Bl G L x (gd b true (.bool r))][hy:Bl G L y (.bool false)]:V0 P L G (.pick c x y) True (.bool (b&&r)):=⟨λ_ g=>.AbA (a.h g _) (hx.h g _) (hy.h g _)⟩
instance {n:Nat}[a:Bl G L x (.tuple vs.toArray)][h:Is (nth vs n) v]:V0 P L G (.extract x n) True v:=⟨λ_ g=>.extract (a.h g _) (by simpa[Xv0]using h.h)⟩
instance [a:Bl G L x (.bool b)]:V0 P L G (.unOp .not t x) True (.bool (!b)):=⟨λ_ g=>.not (a.h g _)⟩
instance [a:Bl G L x (.pointer (some p))]:V0 P L G (.nilCheck x) True (.pointer (some p)):=⟨λ_ g=>.nilCheck (a.h g _)⟩
instance [a:Bl G L x (.int k i)][h:Bl G L y (.int k j)]:V0 P L G (.binOp .lss t x y t') True (.bool (decide (i<j))):=⟨λ_ g=>.lss (a.h g _) (h.h g _)⟩
instance [a:Bl G L x (.int k i)][h:Bl G L y (.int k j)]:V0 P L G (.binOp .leq t x y t') True (.bool (decide (i<=j))):=⟨λ_ g=>.leq (a.h g _) (h.h g _)⟩
instance [a:Bl G L x (.int k i)][h:Bl G L y (.int k j)]:V0 P L G (.binOp .gtr t x y t') True (.bool (decide (j<i))):=⟨λ_ g=>.gtr (a.h g _) (h.h g _)⟩
instance [a:Bl G L x (.int k i)][h:Bl G L y (.int k j)]:V0 P L G (.binOp .geq t x y t') True (.bool (decide (j<=i))):=⟨λ_ g=>.geq (a.h g _) (h.h g _)⟩
instance [a:Bl G L x (.int k i)][h:Bl G L y (.int k j)]:V0 P L G (.binOp .eql t x y t') True (.bool (i==j)):=⟨λ_ g=>.eql (a.h g _) (h.h g _)⟩
instance [a:Bl G L x (.int k i)][h:Bl G L y (.int k j)]:V0 P L G (.binOp .neq t x y t') True (.bool (i !=j)):=⟨λ_ g=>.neq (a.h g _) (h.h g _)⟩
instance (priority:=low)[a:Bl G L x (.int k i)][h:Bl G L y (.int k j)]:V0 P L G (.binOp .add t x y t') True (.int k (k.wrap (i+j))):=⟨λ_ g=>.Aaa (a.h g _) (h.h g _)⟩
instance (priority:=low)[a:Bl G L x (.int k i)][h:Bl G L y (.int k j)]:V0 P L G (.binOp .sub t x y t') True (.int k (k.wrap (i-j))):=⟨λ_ g=>.Ahd (a.h g _) (h.h g _)⟩
instance [a:Bl G L x (Ab i)][h:Bl G L y (Ab j)]:V0 P L G (.binOp .add t x y t') (Ic (i+j)) (Ab (i+j)):=⟨λs g=>.add (a.h g _) (h.h g _) s⟩
instance [a:Bl G L x (Ab i)][h:Bl G L y (Ab j)]:V0 P L G (.binOp .sub t x y t') (Ic (i-j)) (Ab (i-j)):=⟨λs g=>.sub (a.h g _) (h.h g _) s⟩
instance [a:Bl G L x (Ab i)][h:Bl G L y (Ab j)]:V0 P L G (.binOp .mul t x y t') (Ic (i*j)) (Ab (i*j)):=⟨λs g=>.mul (a.h g _) (h.h g _) s⟩
instance [a:Bl G L x (.int k i)][h:Bl G L y (.int k j)]:V0 P L G (.binOp .quo t x y t') (0<=i/\0<j/\k.wrap (i/j)=i/j) (.int k (i/j)):=⟨λs g=>.quo (a.h g _) (h.h g _) s.1 s.2.1 s.2.2⟩
instance [a:Bl G L x (.int k i)][h:Bl G L y (.int k j)]:V0 P L G (.binOp .rem t x y t') (0<=i/\0<j) (.int k (i%j)):=⟨λs g=>.rem (a.h g _) (h.h g _) s.1 s.2⟩
instance [a:Bl G L x (.int k i)][h:Bl G L y (.int k j)]:V0 P L G (.binOp .and t x y t') True (.int k (bits .and k i j)):=⟨λ_ g=>.IW (.inl O) (a.h g _) (h.h g _)⟩
instance [a:Bl G L x (.int k i)][h:Bl G L y (.int k j)]:V0 P L G (.binOp .or t x y t') True (.int k (bits .or k i j)):=⟨λ_ g=>.IW (.inr (.inl O)) (a.h g _) (h.h g _)⟩
instance [a:Bl G L x (.int k i)][h:Bl G L y (.int k j)]:V0 P L G (.binOp .xor t x y t') True (.int k (bits .xor k i j)):=⟨λ_ g=>.IW (.inr (.inr O)) (a.h g _) (h.h g _)⟩
instance (priority:=low)[a:Bl G L x (.int k i)][h:Bl G L y (.int q j)]:V0 P L G (.binOp .shr t x y t') (0<=j/\j<=k.bits) (.int k (i/2^j.toNat)):=⟨λs g=>.shr (a.h g _) (h.h g _) s.1 s.2⟩
instance [a:Bl G L x (.int k i)][h:Bl G L y (.int q j)]:V0 P L G (.binOp .shl t x y t') (0<=j/\j<=k.bits) (.int k (k.wrap (i*2^j.toNat))):=⟨λs g=>.shl (a.h g _) (h.h g _) s.1 s.2⟩
instance {p:Oa}[a:Bl G L x (.pointer p)][h:Bl G L y (.pointer none)][hT:Un P t (.pointer e)]:V0 P L G (.binOp .eql t x y t') True (.bool p.isNone):=⟨λ_ g=>.eqp (a.h g _) (h.h g _) hT.h⟩
instance [a:Bl G L x (S l)][h:Bl G L y (S m)]:V0 P L G (.binOp .eql t x y t') True (.bool (l==m)):=⟨λ_ g=>.eqs (a.h g _) (h.h g _)⟩
instance [a:Bl G L x (S l)][h:Bl G L y (S m)]:V0 P L G (.binOp .neq t x y t') True (.bool (!(l==m))):=⟨λ_ g=>.nes (a.h g _) (h.h g _)⟩
instance [a:Bl G L x (S l)][h:Bl G L y (S m)]:V0 P L G (.binOp .add t x y t') (((l.length+m.length:Nat):Int)<=9223372036854775807) (S (l++m)):=⟨λs g=>.cat (a.h g _) (h.h g _) s⟩
instance [a:Bl G L x (S l)][hT:Un P t .string]:V0 P L G (.call ⟨.builtin .len,#[x],#[t]⟩) True (Ab l.length):=⟨λ_ g=>.len (a.h g _) hT.h⟩
instance {p:Oa}{n:Nat}[a:Bl G L x (.slice p n cap)][hT:Un P t (.slice e)]:V0 P L G (.call ⟨.builtin .len,#[x],#[t]⟩) True (Ab n):=⟨λ_ g=>.D4 (a.h g _) hT.h⟩
instance [a:Bl G L x (.int k i)][h:Bl G L y (.int k j)]:V0 P L G (.call ⟨.builtin .min,#[x,y],ts⟩) True (.int k (min i j)):=⟨λ_ g=>.min2 (a.h g _) (h.h g _)⟩
instance [a:Bl G L x (.int k i)][h:Bl G L y (.int k j)]:V0 P L G (.call ⟨.builtin .max,#[x,y],ts⟩) True (.int k (max i j)):=⟨λ_ g=>.max2 (a.h g _) (h.h g _)⟩
instance [a:Bl G L x (S l)][h:Bl G L y (Ab i)][hT:Un P t .string]:V0 P L G (.index t x y) (0<=i/\i<(l.length:Int)) (U8 (at_ l i).toNat):=⟨λs g=>.index (a.h g _) (h.h g _) s.1 s.2 hT.h⟩
instance [a:Bl G L x (S l)][h:Bl G L y (Ab i)][hT:Un P t .string]:V0 P L G (.slice t x (some y) none none) (0<=i/\i<=(l.length:Int)) (S (l.drop i.toNat)):=⟨λs g=>.L9 (a.h g _) (h.h g _) s.1 s.2 hT.h⟩
instance [a:Bl G L x (S l)][h:Bl G L y (Ab i)][hT:Un P t .string]:V0 P L G (.slice t x none (some y) none) (0<=i/\i<=(l.length:Int)) (S (l.take i.toNat)):=⟨λs g=>.AbN (a.h g _) (h.h g _) s.1 s.2 hT.h⟩
instance {p:Oa}{n s:Nat}[a:Bl G L x (.slice p n cap)][h:Bl G L y (Ab i)][hT:Un P t (.slice e)][hs:Sz P e s]:V0 P L G (.slice t x (some y) none none) (0<=i/\i<=n) (sliced p i.toNat n cap s):=⟨λs g=>.Ia (a.h g _) (h.h g _) s.1 s.2 hT.h hs.h⟩
instance {p:Oa}{n s:Nat}[a:Bl G L x (.slice p n cap)][h:Bl G L y (Ab i)][hT:Un P t (.slice e)][hs:Sz P e s]:V0 P L G (.slice t x none (some y) none) (0<=i/\i<=cap) (sliced p 0 i.toNat cap s):=⟨λs g=>.Oy (a.h g _) (h.h g _) s.1 s.2 hT.h hs.h⟩
instance {b f off:Nat}[a:Bl G L x (ptr b o)][h:Fo P t f off]:V0 P L G (.fieldAddr t x f) True (ptr b (o+off)):=⟨λ_ g=>by
 obtain⟨fs,fd,s,h1,h2,h3,h4,h5⟩:=h.h;exact .fieldAddr off (a.h g _) h1 h2 h3 h4 h5⟩
instance (priority:=low){f off:Nat}[a:Bl G L x (.pointer (some p))][h:Fo P t f off]:V0 P L G (.fieldAddr t x f) True (.pointer (some (p.add off))):=⟨λ_ g=>by
 obtain⟨fs,fd,s,h1,h2,h3,h4,h5⟩:=h.h;exact .FQ off (a.h g _) h1 h2 h3 h4 h5⟩
instance {b n s:Nat}[a:Bl G L x (.slice (some (ad b o)) n cap)][h:Bl G L y (Ab i)][hT:Un P t (.slice e)][hs:Sz P e s]:V0 P L G (.indexAddr t x y) (0<=i/\i<n) (ptr b (o+i.toNat*s)):=⟨λs g=>.indexAddr (a.h g _) (h.h g _) s.1 s.2 hT.h hs.h⟩
instance (priority:=low){n s:Nat}[a:Bl G L x (.slice (some p) n cap)][h:Bl G L y (Ab i)][hT:Un P t (.slice e)][hs:Sz P e s]:V0 P L G (.indexAddr t x y) (0<=i/\i<n) (.pointer (some (p.add (i.toNat*s)))):=⟨λs g=>.CJ (a.h g _) (h.h g _) s.1 s.2 hT.h hs.h⟩
instance (priority:=high){b n s j:Nat}[a:Bl G L x (.slice (some (ad b o)) n cap)][h:Bl G L y (Ab (j:Int))][hT:Un P t (.slice e)][hs:Sz P e s]:V0 P L G (.indexAddr t x y) (j<n) (ptr b (o+j*s)):=⟨λs g=>.indexAddr (a.h g _) (h.h g _) (Y4q j) (Int.ofNat_lt.2 s) hT.h hs.h⟩
instance {n s j:Nat}[a:Bl G L x (.slice (some p) n cap)][h:Bl G L y (Ab (j:Int))][hT:Un P t (.slice e)][hs:Sz P e s]:V0 P L G (.indexAddr t x y) (j<n) (.pointer (some (p.add (j*s)))):=⟨λs g=>.CJ (a.h g _) (h.h g _) (Y4q j) (Int.ofNat_lt.2 s) hT.h hs.h⟩
instance {xs:List Operand}{f:Go.Fn}[a:T0 G L xs vs]:V0 P L G (.makeFunc f #[] xs.toArray) True (.func f #[] vs.toArray):=⟨λ_ g=>.makeFunc (a.h g _)⟩
instance [a:Bl G L x (.int k i)][h1:Un P src (.int k)][h2:Un P dst (.int q)]:V0 P L G (.convert src dst x) (q.wrap i=i) (.int q i):=⟨λs g=>.cvi (a.h g _) h1.h h2.h s⟩
instance {ps:List (Nat×Operand)}{vs:List (Nat×Va)}[a:zB G L ps vs][b:Bd P t pl zs][f:Fil pl zs vs cs]:V0 P L G (.build t ps.toArray) True (.agg cs.toArray):=⟨λ_ g=>.build (a.h g _) b.h f.h⟩
instance {i:Nat}{us:Lv}[a:jX J p vs][d:Is (Hq vs i) us]:jX J (p.add i) us:=⟨Xkm d.h▸a.h.add i⟩
instance (priority:=low){b:Nat}{us:Lv}[z:Tt (Ag3 o)][a:jX J (ad b 0) vs][d:Is (Hq vs o) us]:jX J (ad b o) us:=⟨by
 have h:=a.h.add o;rw[EE,Yj]at h;exact Xkm d.h▸h⟩
instance (priority:=low)[a:Bl G L x (.pointer (some p))][at_:jX I p vs][hg:Ag P t false][hv:Is (nth vs 0) v]:V1 P L G B I As (.load t x) True v:=⟨λ_ g _ hS=>.Ca (a.h g _) hS at_.h hg.h (by rw[<-Xv0];exact hv.h)⟩
instance (priority:=low){us:Lv}{s:Nat}[a:Bl G L x (.pointer (some p))][at_:jX I p vs][hg:Ag P t true][hs:Sz P t s][hv:Is (I5 vs s) us]:V1 P L G B I As (.load t x) True (.agg us.toArray):=⟨λ_ g _ hS=>.Cy (a.h g _) hS at_.h hg.h hs.h (Xlt hv.h).1 (Xlt hv.h).2⟩
instance {b n:Nat}[a:Bl G L x (ptr b o)][hb:Pg As b n cs E][hg:Ag P t false][hv:Is (nth cs o) v]:V1 P L G B I As (.load t x) True v:=⟨λ_ g _ hS=>.ld (a.h g _) hS hb.h hg.h (by rw[<-Xv0];exact hv.h)⟩
instance {b n s:Nat}[a:Bl G L x (ptr b 0)][hb:Pg As b n cs E][hg:Ag P t true][hs:Sz P t s][hl:Tt (isLen cs s)]:V1 P L G B I As (.load t x) True (.agg cs.toArray):=⟨λ_ g _ hS=>.HQ (a.h g _) hS hb.h hg.h hs.h (kI hl.h)⟩
end
end
structure Kr(b:Bool):Prop where h:b=true
structure Sd(S:Prop):Prop where h:S
theorem sd{S:Prop}(s:S:=by
 first
 | exact trivial
 | (repeat' apply And.intro)<;>first
  | exact trivial
  | exact Kr.mk (by kernel_rfl)
  | omega
  | (unfold maxLen;omega)
  | (simp only[Y0,List.length_cons,List.length_nil];omega)
  | (simp only[IntKind.wrap_i64,IntKind.wrap_u64,IntKind.wrap_u8,IntKind.wrap_u16,IntKind.wrap_u32,IntKind.wrap_i32];omega)
  | decide
  | kernel_rfl
  | (intro hg;simp only[Y2y]at hg;omega)):Sd S:=⟨s⟩
def jT:AK->AK->Option AK
 | [],M=>match Bj M DK with
  | none=>some []
  | some _=>none
 | (t,_)::L,M=>match look M t,jT L M with
  | some v,some r=>some ((t,v)::r)
  | _,_=>none
theorem xV:∀{L M:AK},jT L M=some L->Sub L M
 | [],M,h=>by
  unfold jT at h;unfold Sub;cases e:Bj M DK<;>simp_all
 | (t,v)::L,M,h=>by
  unfold jT at h;cases e1:look M t with
  | none=>rw[e1]at h;simp at h
  | some u =>
   cases e2:jT L M with
   | none=>rw[e1,e2]at h;simp at h
   | some r =>
    rw[e1,e2]at h;simp only[Option.some.injEq,List.cons.injEq,Prod.mk.injEq,true_and]at h
    obtain⟨rfl,rfl⟩:=h;exact⟨e1,xV e2⟩
theorem rd{E:σ->AK}{A M:σ->Prop}(s:σ)(h:A s)(m:M s:=by first|(dsimp only;omega)|omega)(b:jT (E s) L=some (E s):=by rfl):∃s,Sub (E s) L/\A s/\M s:=⟨s,xV b,h,m⟩
theorem E_{σ:Type}{E:σ->AK}{L:AK}{A M:σ->Prop}(s:σ)(b:jT (E s) L=some (E s))(h:A s)(m:M s:=by first|(dsimp only;omega)|omega):∃s,Sub (E s) L/\A s/\M s:=⟨s,xV b,h,m⟩
theorem cd{E:σ->AK}{A:σ->Prop}(s:σ)(h:A s)(b:jT (E s) L=some (E s):=by rfl):∃s,Sub (E s) L/\A s:=⟨s,xV b,h⟩
theorem Vw{σ:Type}{E:σ->AK}{L:AK}{A:σ->Prop}(s:σ)(b:jT (E s) L=some (E s))(h:A s):∃s,Sub (E s) L/\A s:=⟨s,xV b,h⟩
class zC(L:AK)(ks:List Nat)(M:outParam AK):Prop where h:True
instance :zC L [] []:=⟨trivial⟩
instance [a:HS L (.tmp k) v][b:zC L ks M]:zC L (k::ks) ((k,v)::M):=⟨trivial⟩
theorem WC.lk{c:Code}(ks:List Nat)[k:zC L ks M](E:σ->AK->AK)(inv:σ->Wo->Prop)(μ:σ->Nat)(s0:σ)(h0:inv s0 w)
  (round:∀s w,inv s w->WC P n c (HZ (λL' w'=>∃s',Sub (E s' M) L'/\inv s' w'/\μ s'<μ s) K) (E s M) w) (hs:jT (E s0 M) L=some (E s0 M):=by rfl):WC P n (.loop c) K L w:=WC.loop (λs=>E s M) inv μ s0 (xV hs) h0 round
theorem WC.ck{c c':Code}(ks:List Nat)[k:zC L ks M](E:σ->AK->AK)(inv:σ->Wo->Prop)(h:WC P n c (HZ (λL w=>∃s,Sub (E s M) L/\inv s w) K) L w)(h2:∀s w,inv s w->WC P n c' K (E s M) w):WC P n (.seq c c') K L w:=WC.Aai (λs=>E s M) inv h h2
class Cj(a b:Prop)(c:outParam Prop):Prop where h:c->a/\b
instance (priority:=low){a b:Prop}:Cj a b (a/\b):=⟨id⟩
instance {a:Prop}:Cj a True a:=⟨λh=>⟨h,trivial⟩⟩
instance {b:Prop}:Cj True b b:=⟨λh=>⟨trivial,h⟩⟩
class Gs(G:List (Bool×Bool))(s:Prop)(s':outParam Prop):Prop where h:s'->pz G->s
instance {s:Prop}:Gs [] s s:=⟨λh _=>h⟩
instance {b w:Bool}{s s':Prop}[a:Gs G s s']:Gs ((b,w)::G) s (b=w->s'):=⟨λh g=>a.h (h (g (b,w) sz)) λp hp=>g p (lx _ hp)⟩
instance (priority:=high):Gs G True True:=⟨λh _=>h⟩
@[reducible] def zo (d n:Nat):Bool:=match Nat.ble (d+1) n with
 | true=>true
 | false=>false
@[reducible] def leR (d n:Nat):Bool:=match Nat.ble d n with
 | true=>true
 | false=>false
class Lt(d n:Nat):Prop where h:Nat.blt d n=true
instance [a:Tt (zo d n)]:Lt d n:=⟨by have h:=a.h;unfold zo at h;unfold Nat.blt;cases e:Nat.ble (d+1) n<;>simp_all⟩
@[reducible] def IB:List Oper->Nat->Option Nat
 | [],_=>none
 | o::_,0=>o.dst
 | _::l,j+1=>IB l j
theorem Xkn:∀(l:List Oper) (j:Nat),IB l j=(l[j]?).bind (·.dst)
 | [],_=>by simp[IB]
 | o::l,0=>by simp[IB]
 | o::l,j+1=>by simpa[IB]using Xkn l j
class AsG(u:Va)(want:Bool)(c:outParam (List (Bool×Bool)))(b:outParam Bool)(G:outParam (List (Bool×Bool))):Prop where h:u=Fi c (.bool b)/\G=c++[(b,want)]
instance {b:Bool}:AsG (.bool b) want [] b [(b,want)]:=⟨O,O⟩
instance {b1 w1 b:Bool}{u:Va}{c:List (Bool×Bool)}[a:AsG u want c b G]:AsG (gd b1 w1 u) want ((b1,w1)::c) b ((b1,w1)::G):=⟨by rw[a.h.1];rfl,by rw[a.h.2];rfl⟩
class wO(G:List (Bool×Bool))(v:Va)(u:outParam Va):Prop where h:Fi G v=u
instance :wO [] v v:=⟨O⟩
instance {b w:Bool}{u:Va}[a:wO G v u]:wO ((b,w)::G) v (gd b w u):=⟨by rw[<-a.h];rfl⟩
class GdC(ops:Array Oper)(j:Nat)(L:AK)(n:Nat)(want:Bool)(c:outParam (List (Bool×Bool)))(b:outParam Bool)(G:outParam (List (Bool×Bool))):Prop where
 h:∃t,(ops[j]?).bind (·.dst)=some t/\Nat.blt t n=true/\look L t=some (Fi c (.bool b))/\G=c++[(b,want)]
instance {l:List Oper}{j t:Nat}{b:Bool}{u:Va}{c:List (Bool×Bool)}[a:Is (IB l j) t][lt:Lt t n][e:HS L (.tmp t) u][g:AsG u want c b G]:GdC l.toArray j L n want c b G :=
 ⟨t,by have:=a.h;rw[Xkn]at this;simpa using this,lt.h,by have:=e.h;rw[<-g.h.1];exact this,g.h.2⟩
class StB(As:La)(b o:Nat)(v:Va)(BT:outParam La):Prop where h:∃k cs E,As[k]?=some (Ae b cs E)/\o<cs.length/\BT=As.set k (Ae b (cs.set o v) E)
instance [a:Is (QC cs o v) ds]:StB (Ae b cs E::As) b o v (Ae b ds E::As) :=
 ⟨0,cs,E,O,(Xsd _ _ _ _ a.h).1,by rw[(Xsd _ _ _ _ a.h).2];rfl⟩
instance (priority:=low)[a:StB As b o v BT]:StB (A::As) b o v (A::BT):=⟨by
 obtain⟨k,cs,E,h1,h2,h3⟩:=a.h;exact⟨k+1,cs,E,h1,h2,by rw[h3];rfl⟩⟩
class StA(As:La)(b o:Nat)(vs:Lv)(BT:outParam La):Prop where h:∃k cs E,As[k]?=some (Ae b cs E)/\o+vs.length<=cs.length/\BT=As.set k (Ae b (cs.take o++vs++cs.drop (o+vs.length)) E)
instance [a:Is (Ka cs o vs) ds]:StA (Ae b cs E::As) b o vs (Ae b ds E::As) :=
 ⟨0,cs,E,O,(Xln _ _ _ _ a.h).1,by rw[(Xln _ _ _ _ a.h).2];rfl⟩
instance (priority:=low)[a:StA As b o vs BT]:StA (A::As) b o vs (A::BT):=⟨by
 obtain⟨k,cs,E,h1,h2,h3⟩:=a.h;exact⟨k+1,cs,E,h1,h2,by rw[h3];rfl⟩⟩
class RmB(As:La)(b:Nat)(cs:outParam Lv)(E:outParam TypeId)(BT:outParam La):Prop where h:∃k,As[k]?=some (Ae b cs E)/\BT=As.eraseIdx k
instance :RmB (Ae b cs E::As) b cs E As:=⟨0,O,O⟩
instance (priority:=low)[a:RmB As b cs E BT]:RmB (A::As) b cs E (A::BT):=⟨by
 obtain⟨k,h1,h2⟩:=a.h;exact⟨k+1,h1,by rw[h2];rfl⟩⟩
class VcA(As:La)(v:Va)(E size nn:outParam Nat)(xs:outParam Lv)(f:outParam (Va->Nat->Lv->La)):Prop where h:∃k,As[k]?=some (Ar E size v nn xs)/\∀v' n' zw,f v' n' zw=As.set k (Ar E size v' n' zw)
instance {E:Nat}:VcA (Ar E size v nn xs::As) v E size nn xs (λv' n' zw=>Ar E size v' n' zw::As):=⟨0,O,λ_ _ _=>rfl⟩
instance (priority:=low){E:Nat}{f:Va->Nat->Lv->La}[a:VcA As v E size nn xs f]:VcA (A::As) v E size nn xs (λv' n' zw=>A::f v' n' zw):=⟨by
 obtain⟨k,h1,h2⟩:=a.h;exact⟨k+1,h1,λ_ _ _=>by rw[h2];rfl⟩⟩
class Bp(b:Bool)(p q:outParam Prop):Prop where
 t:b=true->p
 f:b=false->q
instance (priority:=low){b:Bool}:Bp b (b=true) (b=false):=⟨id,id⟩
instance {i j:Int}:Bp (decide (i<j)) (i<j) (j<=i):=⟨λh=>by simpa using h,λh=>by simpa using h⟩
instance {i j:Int}:Bp (decide (i<=j)) (i<=j) (j<i):=⟨λh=>by simpa using h,λh=>by simpa using h⟩
instance {i j:Int}:Bp (i==j) (i=j) (¬ i=j):=⟨λh=>by simpa using h,λh=>by simpa using h⟩
instance {i j:Int}:Bp (i !=j) (¬ i=j) (i=j):=⟨λh=>by simpa using h,λh=>by simpa using h⟩
instance {l m:Lu}:Bp (l==m) (l=m) (¬ l=m):=⟨λh=>by simpa using h,λh=>by simpa using h⟩
instance {b:Bool}{p q:Prop}[a:Bp b p q]:Bp (!b) q p:=⟨λh=>a.f (su h),λh=>a.t (su h)⟩
instance {b c:Bool}{p q r s:Prop}[x:Bp b p q][y:Bp c r s]:Bp (b&&c) (p/\r) (q\/s):=⟨λh=>by simp at h;exact⟨x.t h.1,y.t h.2⟩,λh=>by cases b with
 | false=>exact .inl (x.f O)
 | true=>exact .inr (y.f (su h))⟩
instance {b c:Bool}{p q r s:Prop}[x:Bp b p q][y:Bp c r s]:Bp (b||c) (p\/r) (q/\s):=⟨λh=>by cases b with
 | true=>exact .inl (x.t O)
 | false=>exact .inr (y.t (su h)),λh=>by simp at h;exact⟨x.f h.1,y.f h.2⟩⟩
class BR(g:Prop)(q:outParam Prop):Prop where h:q->g
instance (priority:=low){g:Prop}:BR g g:=⟨id⟩
instance {f q:Wo->Prop}[r:∀w [Aa B w I As],BR (f w) (q w)]:BR (∀w,Aa B w I As->f w) (∀w,Aa B w I As->q w):=⟨λh w hS=>(r w).h (h w hS)⟩
instance {f q:Nat->Prop}[r:∀a,BR (f a) (q a)]:BR (∀a,f a) (∀a,q a):=⟨λh a=>(r a).h (h a)⟩
instance {f q:Oa->Prop}[r:∀a,BR (f a) (q a)]:BR (∀a,f a) (∀a,q a):=⟨λh a=>(r a).h (h a)⟩
instance {j:Nat}{f q:Prop}[r:BR f q]:BR (i<=j->f) (i<=j->q):=⟨λh a=>r.h (h a)⟩
@[reducible] def JY:AK->Bool
 | []=>true
 | (k,_)::L=>match Nat.beq k DK with
  | true=>false
  | false=>JY L
theorem sM:∀{L:AK},JY L=true->dl L=[]:=by
 intro L h
 have:Bj L DK=none:=by
  induction L with
  | nil=>rfl
  | cons a L ih =>
   obtain⟨k,v⟩:=a;unfold JY at h;unfold Bj;cases e:Nat.beq k DK with
   | true=>rw[e]at h;cases h
   | false=>rw[e]at h;exact ih h
 unfold dl;rw[this]
def kM(P:Program)(n:Nat)(rs:Array ResultVar)(R:Ending->Wo->Prop):BK:=λe L w=>∀fn:Func,fn.results=rs->UG P n fn R e L w
section
variable {P:Program} {n id i:Nat} {ops:Array Oper} {K:BK} {l:List Oper} {L:AK} {w:Wo} {q:Prop} {x y:Code} {nx:AK->Wo->Prop} {e:Exit}
instance [r:BR (K .normal L w) q]:BR (WL P n ops K [] L w) q:=⟨λh=>.nil (r.h h)⟩
instance [r:BR (nx L w) q]:BR (HZ nx K .normal L w) q:=⟨r.h⟩
instance [r:BR (K (.exit i) L w) q]:BR (HZ nx K (.exit i) L w) q:=⟨r.h⟩
instance [r:BR (K .ret L w) q]:BR (HZ nx K .ret L w) q:=⟨r.h⟩
instance [r:BR (K .normal L w) q]:BR (fq K .normal L w) q:=⟨r.h⟩
instance [r:BR (K .ret L w) q]:BR (fq K .ret L w) q:=⟨r.h⟩
instance [r:BR (K (.exit i) L w) q]:BR (fq K (.exit i) L w) q:=⟨r.h⟩
instance [r:BR (K .normal L w) q]:BR (k8 id K .normal L w) q:=⟨r.h⟩
instance [r:BR (K .ret L w) q]:BR (k8 id K .ret L w) q:=⟨r.h⟩
instance [r:BR (K .normal L w) q]:BR (k8 id K (.exit id) L w) q:=⟨λh=>by simp only[k8,Nat.beq_refl,cond_true];exact r.h h⟩
instance (priority:=900)[a:Ff (nb i id)][r:BR (K (.exit i) L w) q]:BR (k8 id K (.exit i) L w) q:=⟨λh=>by have e:=a.h;rw[Abs]at e;simp only[k8,e,cond_false];exact r.h h⟩
instance [r:BR (WC P n x (HZ (λL w=>WC P n y K L w) K) L w) q]:BR (WC P n (.seq x y) K L w) q:=⟨λh=>.seq (r.h h)⟩
instance [r:BR (K .normal L w) q]:BR (WC P n .skip K L w) q:=⟨λh=>.skip (r.h h)⟩
instance [r:BR (K .normal L w) q]:BR (WC P n (.label i) K L w) q:=⟨λh=>.label (r.h h)⟩
instance [r:BR (K (.exit i) L w) q]:BR (WC P n (.exit i) K L w) q:=⟨λh=>.exit (r.h h)⟩
instance [r:BR (K .ret L w) q]:BR (WC P n .ret K L w) q:=⟨λh=>.ret (r.h h)⟩
instance [r:BR (WC P n x (k8 id K) L w) q]:BR (WC P n (.block id x) K L w) q:=⟨λh=>.block (r.h h)⟩
instance [r:BR (WC P n x (fq K) L w) q]:BR (WC P n (.scope x) K L w) q:=⟨λh=>.scope (r.h h)⟩
instance [r:BR (WL P n l.toArray K l L w) q]:BR (WC P n (.region id l.toArray false) K L w) q:=⟨λh=>.region (r.h h)⟩
instance {R:Va->Wo->Prop}[d:Tt (JY L)]:BR (kM P n #[] (A4 R) .ret L w) (R (.tuple #[]) w):=⟨λh _ a=>Ag5 a ⟨_,O,h⟩ (sM d.h)⟩
instance {R:Va->Wo->Prop}[d:Tt (JY L)]:BR (kM P n #[] (A4 R) .normal L w) (R (.tuple #[]) w):=⟨λh _ a=>mf a ⟨_,O,h⟩ (sM d.h)⟩
instance {R:Va->Wo->Prop}{t:Nat}[e:HS L (.tmp t) v][d:Tt (JY L)]:BR (kM P n #[.tmp t] (A4 R) .ret L w) (R v w):=⟨λh _ a=>RN a e.h ⟨_,O,h⟩ (sM d.h)⟩
instance {R:Va->Wo->Prop}{t u:Nat}{z:Va}[e:HS L (.tmp t) v][g:HS L (.tmp u) z][d:Tt (JY L)]:BR (kM P n #[.tmp t,.tmp u] (A4 R) .ret L w) (R (.tuple #[v,z]) w):=⟨λh _ a=>fX a e.h g.h ⟨_,O,h⟩ (sM d.h)⟩
instance {R:Va->Wo->Prop}{t u s:Nat}{z o:Va}[e:HS L (.tmp t) v][g:HS L (.tmp u) z][k:HS L (.tmp s) o][d:Tt (JY L)]:BR (kM P n #[.tmp t,.tmp u,.tmp s] (A4 R) .ret L w) (R (.tuple #[v,z,o]) w):=⟨λh _ a=>wi a e.h g.h k.h ⟨_,O,h⟩ (sM d.h)⟩
end
section
variable {P:Program} {n k d:Nat} {ops:Array Oper} {K:BK} {rest l:List Oper} {L:AK} {w:Wo} {B:Wo} {I:Im} {As BT:La} {S S1 S2 S3 Q:Prop} {op:Op} {v u:Va} {ty:TypeId} {pos:String} {af:Array Edge} {j:Nat} {want b:Bool} {c G:List (Bool×Bool)} {x y:Operand} {t:TypeId}
@[reducible] def KC:Nat->List Oper->List Oper
 | 0,l=>l
 | _+1,[]=>[]
 | i+1,_::l=>KC i l
theorem Xts:∀(i:Nat) (l:List Oper),KC i l=l.drop i
 | 0,_=>by simp[KC]
 | _+1,[]=>by simp[KC]
 | i+1,_::l=>by simp[KC,Xts i l]
theorem WL.dr(h:WL P n ops K (KC i l) L w):WL P n ops K (l.drop i) L w:=Xts i l▸h
class Ce(P:Program)(n:Nat)(ops:Array Oper)(K:BK)(k:Nat)(l:List Oper)(L:AK)(B:Wo)(I:Im)(As:La)(S Q:outParam Prop):Prop where
 h:S->Q->∀w,Aa B w I As->WL P n ops K l L w
instance:Ce P n ops K 0 l L B I As True (∀w,Aa B w I As->WL P n ops K l L w):=⟨λ_ q=>q⟩
instance [s:∀w,BR (K .normal L w) (WL P n GJ K' l L' w)][r:Ce P n GJ K' (k+1) l L' B I As S Q]:Ce P n ops K (k+1) [] L B I As S Q:=⟨λs' q w hS=>.nil ((s w).h (r.h s' q w hS))⟩
instance [a:V1 P L [] B I As op S1 v][lt:Lt d n][r:Ce P n ops K k rest ((d,v)::L) B I As S2 Q][j:Cj S1 S2 S]:Ce P n ops K (k+1) (⟨some d,op,ty,pos,af,none⟩::rest) L B I As S Q :=
 ⟨λs q w hS=>.val (a.h (j.h s).1 (λ_ h=>by cases h) hS) lt.h (r.h (j.h s).2 q w hS)⟩
instance [g:GdC ops j L n want c b G][a:V1 P L G B I As op S1 v][gs:Gs G S1 S3][gv:wO G v u][lt:Lt d n][r:Ce P n ops K k rest ((d,u)::L) B I As S2 Q][cj:Cj S3 S2 S]:Ce P n ops K (k+1) (⟨some d,op,ty,pos,af,some (j,want)⟩::rest) L B I As S Q :=
 ⟨λs q w hS=>by
  obtain⟨t,h1,h2,h3,rfl⟩:=g.h;exact .NK h1 h2 h3 (λok=>a.h (gs.h (cj.h s).1 ok) ok hS) lt.h (by rw[gv.h];exact r.h (cj.h s).2 q w hS)⟩
instance {a:Nat}[hx:HS L x (ptr a o)][hy:HS L y v][h1:One v][hs:Sz P t 1][st:StB As a o v BT][r:Ce P n ops K k rest L B I BT S Q]:Ce P n ops K (k+1) (⟨none,.store t x y,ty,pos,af,none⟩::rest) L B I As S Q :=
 ⟨λs q w hS=>by
  obtain⟨m,cs,E,h2,h3,h4⟩:=st.h;exact .st1 hS h2 (.of hx.h) (.of hy.h) h1.h hs.h h3 λw' C9=>r.h s q w' (h4▸C9)⟩
instance {Q:Nat->Prop}[hx:HS L x v][h1:One v][lt:Lt d n][r:∀a,Ce P n ops K k rest ((d,ptr a 0)::L) B I (Ae a [v] t::As) S (Q a)]:Ce P n ops K (k+1) (⟨some d,.box t x,ty,pos,af,none⟩::rest) L B I As S (∀a,Q a) :=
 ⟨λs q w hS=>.Ab2 hS (.of hx.h) h1.h lt.h λa w' C9=>(r a).h s (q a) w' C9⟩
instance {Q:Nat->Prop}[hx:HS L x (.agg cs.toArray)][lt:Lt d n][r:∀a,Ce P n ops K k rest ((d,ptr a 0)::L) B I (Ae a cs t::As) S (Q a)]:Ce P n ops K (k+1) (⟨some d,.box t x,ty,pos,af,none⟩::rest) L B I As S (∀a,Q a) :=
 ⟨λs q w hS=>.Ls hS (.of hx.h) lt.h λa w' C9=>(r a).h s (q a) w' C9⟩
instance {Q:Nat->Prop}[hz:Zv P t v][h1:One v][lt:Lt d n][r:∀a,Ce P n ops K k rest ((d,ptr a 0)::L) B I (Ae a [v] t::As) S (Q a)]:Ce P n ops K (k+1) (⟨some d,.alloc t,ty,pos,af,none⟩::rest) L B I As S (∀a,Q a) :=
 ⟨λs q w hS=>.PO hS hz.h h1.h lt.h λa w' C9=>(r a).h s (q a) w' C9⟩
instance {Q:Nat->Prop}[hz:Zv P t (.agg cs.toArray)][lt:Lt d n][r:∀a,Ce P n ops K k rest ((d,ptr a 0)::L) B I (Ae a cs t::As) S (Q a)]:Ce P n ops K (k+1) (⟨some d,.alloc t,ty,pos,af,none⟩::rest) L B I As S (∀a,Q a) :=
 ⟨λs q w hS=>.Ix hS hz.h lt.h λa w' C9=>(r a).h s (q a) w' C9⟩
instance {a s:Nat}[hx:HS L x (ptr a o)][hy:HS L y (.agg vs.toArray)][h1:ZY vs][hs:Sz P t s][hl:Tt (isLen vs s)][st:StA As a o vs BT][r:Ce P n ops K k rest L B I BT S Q]:Ce P n ops K (k+1) (⟨none,.store t x y,ty,pos,af,none⟩::rest) L B I As S Q :=
 ⟨λs' q w hS=>by
  obtain⟨m,cs,E,h2,h3,h4⟩:=st.h;have e:vs.length=s:=kI hl.h;subst e;exact .CX hS h2 (.of hx.h) (.of hy.h) h1.h hs.h O h3 λw' C9=>r.h s' q w' (h4▸C9)⟩
instance {Q:Nat->Prop}{len s:Nat}{e:TypeId}{ps:List (Nat×Operand)}{vs:List (Nat×Va)}{z:Va}[hp:zB [] L ps vs][ht:Un P t (.slice e)][hs:Sz P e s][hz:Zv P e z][hc:Cells z zs][hl:Tt (isLen zs s)][h24:Tt (zo (len*s) 16777217)][f:ke s (oF len zs) vs cs][lt:Lt d n]
  [r:∀a,Ce P n ops K k rest ((d,.slice (some (ad a 0)) len len)::L) B I (Ae a cs e::As) S (Q a)]:Ce P n ops K (k+1) (⟨some d,.buildSlice t len ps.toArray,ty,pos,af,none⟩::rest) L B I As S (∀a,Q a) :=
 ⟨λs' q w hS=>.buildSlice hS (hp.h (λ_ h=>by cases h) n) ht.h hs.h hz.h (by
  have:=h24.h
  unfold zo at this;cases e:Nat.ble (len*s+1) 16777217 with
  | false=>rw[e]at this;cases this
  | true=>exact Y4b (oh (H5 e))) (by
  have:=kI hl.h;rw[<-hc.h]at this
  simpa using this) (by have:=f.h;rw[Tx,<-hc.h]at this;exact this) lt.h λa w' C9=>(r a).h s' (q a) w' C9⟩
instance {Q:Oa->Nat->Prop}{a c E E':Nat}{f:Va->Nat->Lv->La}{z:Va}[hx:HS L x v][hy:HS L y (.slice (some (ad a 0)) m c)][rm:RmB As a news E' BT][vc:VcA BT v E size nn xs f][ht:Un P t (.slice E)][hi:Ph P E z size bytes][hn:ZY news][hm:Tt (isLen news (m*size))][h0:Tt (zo 0 m)][lt:Lt d n]
  [r:∀a' c',Ce P n ops K k rest ((d,.slice a' (nn+m) c')::L) B I (f (.slice a' (nn+m) c') (nn+m) (xs++news)) S (Q a' c')] [cj:Cj ((nn+m)*bytes<=140737488355328/\nn+m<=maxLen) S S1]:Ce P n ops K (k+1) (⟨some d,.call ⟨.builtin .append,#[x,y],#[t,t]⟩,ty,pos,af,none⟩::rest) L B I As S1 (∀a' c',nn+m<=c'->Q a' c') :=
 ⟨λs' q w hS=>by
  obtain⟨k1,h1,h2⟩:=rm.h;obtain⟨k2,h3,h4⟩:=vc.h;obtain⟨⟨hb1,LF⟩,s2⟩:=cj.h s';obtain⟨i,hi,hz,ES,KH,hz1⟩:=hi.h;have h5:news.length=m*size:=kI hm.h;have BW:=hS.pick k1 h1;rw[<-h2]at BW;refine .append BW (.of hx.h) (.of hy.h) h3 ht.h hi hz ES KH hz1 h5 ?_ hn.h ⟨hb1,LF⟩ lt.h λv' w' C9=>?_
  ·have:=h0.h
   unfold zo at this;unfold Nat.blt;cases e:Nat.ble (0+1) m with
   | true=>rfl
   | false=>rw[e]at this;cases this
  ·obtain⟨a',c',rfl,hc,_⟩:=C9.Av (k:=k2) (Y44 (Y1.1 h3).1);refine(r a' c').h s2 (q a' c' hc) w' ?_;rw[h4];exact C9⟩
class Ch(P:Program)(n:Nat)(ops:Array Oper)(K:BK)(k:Nat)(l:List Oper)(L:AK)(w:Wo)(S Q:outParam Prop):Prop where
 h:S->Q->WL P n ops K l L w
instance:Ch P n ops K 0 l L w True (WL P n ops K l L w):=⟨λ_ q=>q⟩
instance [s:BR (K .normal L w) (WL P n GJ K' l L' w)][r:Ch P n GJ K' (k+1) l L' w S Q]:Ch P n ops K (k+1) [] L w S Q:=⟨λs' q=>.nil (s.h (r.h s' q))⟩
instance [a:V0 P L [] op S1 v][lt:Lt d n][r:Ch P n ops K k rest ((d,v)::L) w S2 Q][j:Cj S1 S2 S]:Ch P n ops K (k+1) (⟨some d,op,ty,pos,af,none⟩::rest) L w S Q :=
 ⟨λs q=>.val (a.h (j.h s).1 (λ_ h=>by cases h)) lt.h (r.h (j.h s).2 q)⟩
instance [hS:Aa B w I As][a:V1 P L [] B I As (.load t x) S1 v][lt:Lt d n][r:Ch P n ops K k rest ((d,v)::L) w S2 Q][j:Cj S1 S2 S]:Ch P n ops K (k+1) (⟨some d,.load t x,ty,pos,af,none⟩::rest) L w S Q :=
 ⟨λs q=>.val (a.h (j.h s).1 (λ_ h=>by cases h) hS) lt.h (r.h (j.h s).2 q)⟩
instance [g:GdC ops j L n want c b G][a:V0 P L G op S1 v][gs:Gs G S1 S3][gv:wO G v u][lt:Lt d n][r:Ch P n ops K k rest ((d,u)::L) w S2 Q][cj:Cj S3 S2 S]:Ch P n ops K (k+1) (⟨some d,op,ty,pos,af,some (j,want)⟩::rest) L w S Q :=
 ⟨λs q=>by
  obtain⟨t,h1,h2,h3,rfl⟩:=g.h;exact .NK h1 h2 h3 (λok=>a.h (gs.h (cj.h s).1 ok) ok) lt.h (by rw[gv.h];exact r.h (cj.h s).2 q)⟩
instance [hS:Aa B w I As][g:GdC ops j L n want c b G][a:V1 P L G B I As (.load t x) S1 v][gs:Gs G S1 S3][gv:wO G v u][lt:Lt d n][r:Ch P n ops K k rest ((d,u)::L) w S2 Q][cj:Cj S3 S2 S]:Ch P n ops K (k+1) (⟨some d,.load t x,ty,pos,af,some (j,want)⟩::rest) L w S Q :=
 ⟨λs q=>by
  obtain⟨t,h1,h2,h3,rfl⟩:=g.h;exact .NK h1 h2 h3 (λok=>a.h (gs.h (cj.h s).1 ok) ok hS) lt.h (by rw[gv.h];exact r.h (cj.h s).2 q)⟩
instance [hS:Aa B w I As][r:Ce P n ops K (k+1) (⟨none,.store t x y,ty,pos,af,none⟩::rest) L B I As S Q]:Ch P n ops K (k+1) (⟨none,.store t x y,ty,pos,af,none⟩::rest) L w S Q:=⟨λs q=>r.h s q w hS⟩
instance [hS:Aa B w I As][r:Ce P n ops K (k+1) (⟨some d,.box t x,ty,pos,af,none⟩::rest) L B I As S Q]:Ch P n ops K (k+1) (⟨some d,.box t x,ty,pos,af,none⟩::rest) L w S Q:=⟨λs q=>r.h s q w hS⟩
instance {ps:Array (Nat×Operand)}[hS:Aa B w I As][r:Ce P n ops K (k+1) (⟨some d,.buildSlice t m ps,ty,pos,af,none⟩::rest) L B I As S Q]:Ch P n ops K (k+1) (⟨some d,.buildSlice t m ps,ty,pos,af,none⟩::rest) L w S Q:=⟨λs q=>r.h s q w hS⟩
instance {xs:Array Operand}[hS:Aa B w I As][r:Ce P n ops K (k+1) (⟨some d,.call ⟨.builtin .append,xs,ts⟩,ty,pos,af,none⟩::rest) L B I As S Q]:Ch P n ops K (k+1) (⟨some d,.call ⟨.builtin .append,xs,ts⟩,ty,pos,af,none⟩::rest) L w S Q:=⟨λs q=>r.h s q w hS⟩
instance [hS:Aa B w I As][r:Ce P n ops K (k+1) (⟨some d,.alloc t,ty,pos,af,none⟩::rest) L B I As S Q]:Ch P n ops K (k+1) (⟨some d,.alloc t,ty,pos,af,none⟩::rest) L w S Q:=⟨λs q=>r.h s q w hS⟩
section
variable {B:Wo} {I:Im} {As:La} {R:Va->Wo->Prop} {t u s b k:Nat} {ty E:TypeId} {cs:Lv} {v z:Va}
instance [hS:Aa B w I As][e:HS L (.tmp t) (ptr b 0)][hb:Pg As b k cs E][ht:Ag P ty true][hs:Sz P ty s][hl:Tt (isLen cs s)][d:Tt (JY L)]:BR (kM P n #[.cell t ty] (A4 R) .ret L w) (R (.agg cs.toArray) w) :=
 ⟨λh _ a=>AbD a hS hb.h ht.h hs.h (kI hl.h) e.h ⟨_,O,h⟩ (sM d.h)⟩
instance [hS:Aa B w I As][e:HS L (.tmp t) (ptr b 0)][x:HS L (.tmp u) v][hb:Pg As b k cs E][ht:Ag P ty true][hs:Sz P ty s][hl:Tt (isLen cs s)][d:Tt (JY L)]:BR (kM P n #[.cell t ty,.tmp u] (A4 R) .ret L w) (R (.tuple #[.agg cs.toArray,v]) w) :=
 ⟨λh _ a=>Jl a hS hb.h ht.h hs.h (kI hl.h) e.h x.h ⟨_,O,h⟩ (sM d.h)⟩
end
end
section
variable {P:Program} {n id i:Nat} {ops:Array Oper} {K:BK} {l:List Oper} {L:AK} {w:Wo} {q:Prop} {x y:Code} {nx:AK->Wo->Prop} {e:Exit}
class Cn(g:Prop)(p q g1 g2:outParam Prop):Prop where h:(p->g1)->(q->g2)->g
instance {c:Operand}{b:Bool}{p r:Prop}[a:HS L c (.bool b)][bp:Bp b p r]:Cn (WC P n (.cond c x y) K L w) p r (WC P n x K L w) (WC P n y K L w):=⟨λh1 h2=>.cond a.h (λe=>h1 (bp.t e)) (λe=>h2 (bp.f e))⟩
class Cm(g:Prop)(p q g1 g2:outParam Prop)(b:outParam Bool):Prop where h:(b=true->p->g1)->(b=false->q->g2)->g
instance {c:Operand}{b:Bool}{p r:Prop}[a:HS L c (.bool b)][bp:Bp b p r]:Cm (WC P n (.cond c x y) K L w) p r (WC P n x K L w) (WC P n y K L w) b:=⟨λh1 h2=>.cond a.h (λe=>h1 e (bp.t e)) (λe=>h2 e (bp.f e))⟩
class Cl(g:Prop)(s:outParam Prop)(f:outParam ((Va->Wo->Prop)->Prop))(k:outParam (Va->Wo->Prop)):Prop where h:s->∀R,f R->(∀v w',R v w'->k v w')->g
instance {f:Nat}{xs:List Operand}[hf:Fn P f][hx:T0 [] L xs vs][lt:Lt d n]:
  Cl (WL P n ops K (⟨some d,.call ⟨.value (.func f),xs.toArray,ts⟩,ty,pos,af,none⟩::l) L w) True (λR=>Calls P f vs.toArray w (A4 R)) (λv w'=>WL P n ops K l ((d,v)::L) w') :=
 ⟨λ_ R h1 h2=>by
  obtain⟨fn,h3,h4⟩:=hf.h;exact .call h3 h4 (hx.h (λ_ h=>by cases h) n) lt.h h1 h2⟩
class iR(args:Lv)(L:outParam AK):Prop where h:UK 0 args=L
instance:iR [] []:=⟨O⟩
instance {a:Va}:iR [a] [(0,a)]:=⟨O⟩
instance {a b:Va}:iR [a,b] [(0,a),(1,b)]:=⟨O⟩
instance {a b c:Va}:iR [a,b,c] [(0,a),(1,b),(2,c)]:=⟨O⟩
instance {a b c d:Va}:iR [a,b,c,d] [(0,a),(1,b),(2,c),(3,d)]:=⟨O⟩
instance {a b c d e:Va}:iR [a,b,c,d,e] [(0,a),(1,b),(2,c),(3,d),(4,e)]:=⟨O⟩
instance {a b c d e f:Va}:iR [a,b,c,d,e,f] [(0,a),(1,b),(2,c),(3,d),(4,e),(5,f)]:=⟨O⟩
instance {a b c d e f g:Va}:iR [a,b,c,d,e,f,g] [(0,a),(1,b),(2,c),(3,d),(4,e),(5,f),(6,g)]:=⟨O⟩
instance {a b c d e f g h:Va}:iR [a,b,c,d,e,f,g,h] [(0,a),(1,b),(2,c),(3,d),(4,e),(5,f),(6,g),(7,h)]:=⟨O⟩
class Fb(P:Program)(f:FuncId)(c:outParam Code)(n:outParam Nat)(rs:outParam (Array ResultVar)):Prop where h:∃fn,P.funcs[f]?=some fn/\fn.body=some c/\fn.ntmps=n/\fn.results=rs/\Xb fn=true
theorem fb{P:Program}{c:Code}{n:Nat}{rs:Array ResultVar}(a:P.funcs[f]?=some fn)(d:fn.ntmps=n)(e:fn.results=rs)(b:fn.body=some c:=by rfl)(g:Xb fn=true:=by rfl):Fb P f c n rs:=⟨fn,a,b,d,e,g⟩
instance {c:Code}{rs:Array ResultVar}[a:Fb P f c n rs]:Fn P f:=⟨let⟨fn,h1,_,_,_,h2⟩:=a.h;⟨fn,h1,h2⟩⟩
class Ws(k:Nat)(g:Prop)(S q:outParam Prop):Prop where h:S->q->g
instance {S Q:Prop}[a:Ch P n ops K k l L w S Q]:Ws k (WL P n ops K l L w) S Q:=⟨a.h⟩
instance (priority:=low){g:Prop}{S Q:Prop}[r:BR g (WL P n ops K l L w)][a:Ch P n ops K (k+1) l L w S Q]:Ws (k+1) g S Q:=⟨λs h=>r.h (a.h s h)⟩
instance (priority:=low){g:Prop}[r:BR g q]:Ws 0 g True q:=⟨λ_=>r.h⟩
instance {f:Nat}{c:Code}{rs:Array ResultVar}{S Q:Prop}[b:Fb P f c n rs][e:iR args L][hle:Tt (Om args n)][d:Tt (leR n DK)][a:Ws k (WC P n c (kM P n rs R) L w) S Q]:Ws k (Calls P f args.toArray w R) S Q :=
 ⟨λs q=>by
  obtain⟨fn,h1,h2,h3,h4,_⟩:=b.h;refine calls h1 h2 h3 ?_ ((e.h▸a.h s q:WC P n c (kM P n rs R) (UK 0 args) w).mono λ_ _ _ h=>h fn h4);have h6:=d.h;unfold leR at h6;have h5:=Y4b (Xun hle.h);cases e2:Nat.ble n DK<;>simp_all⟩
theorem gG{g S Q R:Prop}(k:Nat)[a:Ws k g S Q][b:BR Q R](q:R)(s:Sd S:=by exact sd):g:=a.h s.h (b.h q)
theorem gH{g S Q:Prop}(k:Nat)[a:Ws k g S Q](q:Q)(s:Sd S:=by exact sd):g:=a.h s.h q
theorem gC{g S Q R:Prop}{f:(Va->Wo->Prop)->Prop}{m:Va->Wo->Prop}(k:Nat)[a:Ws k g S Q][b:BR Q R][c:Cl R S1 f m][j:Cj S S1 S2]{X:Va->Wo->Prop}(hc:f X)(q:∀v w,X v w->m v w)(s:Sd S2:=by exact sd):g:=a.h (j.h s.h).1 (b.h (c.h (j.h s.h).2 X hc q))
theorem gM{g S Q R p r:Prop}{e:Bool}(k:Nat)[a:Ws k g S Q][b:BR Q R][c:Cm R p r g1 g2 e](h1:e=true->p->g1)(h2:e=false->r->g2)(s:Sd S:=by exact sd):g:=a.h s.h (b.h (c.h h1 h2))
theorem gT{g S Q R p r:Prop}{e:Bool}(k:Nat)[a:Ws k g S Q][b:BR Q R][c:Cm R p r g1 g2 e](h1:e=true->p->g1)(h2:r->False:=by intro hc;omega)(s:Sd S:=by exact sd):g:=a.h s.h (b.h (c.h h1 λ_ h=>(h2 h).elim))
theorem gU{g S Q R p r:Prop}{e:Bool}(k:Nat)[a:Ws k g S Q][b:BR Q R][c:Cm R p r g1 g2 e](h1:e=false->r->g2)(h2:p->False:=by intro hc;omega)(s:Sd S:=by exact sd):g:=a.h s.h (b.h (c.h (λ_ h=>(h2 h).elim) h1))
theorem gN{g S Q R p r:Prop}(k:Nat)[a:Ws k g S Q][b:BR Q R][c:Cn R p r g1 g2](h1:p->g1)(h2:r->g2)(s:Sd S:=by exact sd):g:=a.h s.h (b.h (c.h h1 h2))
end
section
variable {P:Program} {n:Nat} {K:BK} {L:AK} {w:Wo} {ops:Array Oper} {rest:List Oper}
theorem WL.later{x:Operand}{f:Go.Fn}{cap:Lv}(hx:Ev n L x (.func f #[] cap.toArray))(h0:dl L=[])(h:WL P n ops K rest ((DK,.func f #[] cap.toArray)::L) w):WL P n ops K (⟨none,.defer ⟨.value x,#[],#[]⟩,ty,pos,af,none⟩::rest) L w:=by
 intro a ha;refine wpList_plain O λK' hK=>?_
 unfold Oper.wp;have he:(execOp a.eval (⟨none,.defer ⟨.value x,#[],#[]⟩,ty,pos,af,none⟩:Oper)).run P w=.ok (.defer { target:=.fn f cap.toArray,args:=#[] }) w:=by
  simp[execOp,resolve,hx a ha,Deferred.ofValue]
 rw[he];refine hK _ _ (h _ ⟨ha.size,ha.small,?_,λt v hv=>?_⟩)
 ·have:=ha.defers
  rw[h0]at this;simp[Act.put,this,dl,Bj]
 ·obtain⟨h1,h2⟩:=xF hv;rw[Bj,NA (Ne.symm h1)]at h2;exact ha.get t v (Xs5 h1 h2)
theorem tA{c:Code}{u:FrameMode}(hf:P.funcs[f]?=some fn)(hb:fn.body=some c)(hn:fn.ntmps=n)(hle:(Nat.ble args.length n&&Nat.ble n DK)=true)
  (h:WC P n c (UG P n fn R) (UK 0 args) w):CallsD P f args.toArray u w λe u' w'=>u'=u/\R e w':=by
 refine callsD_of_wp hf hb (wp_mono (h _ (X6o hn hle)) ?_);rintro e a' w' ⟨L',h1,h2⟩;cases e with
 | normal=>exact⟨h1.defers.trans h2.1,h2.2 a' h1⟩
 | ret=>exact⟨h1.defers.trans h2.1,h2.2 a' h1⟩
 | _=>exact h2.elim
def Xkp(P:Program)(n:Nat)(fn:Func)(R:Ending->World->Prop):BK
 | .normal,L,w|.ret,L,w=>∀a,Aw n L a->Leaves P fn a.tmps R a.defers .returning w
 | _,_,_=>False
theorem tB{c:Code}(hf:P.funcs[f]?=some fn)(hb:fn.body=some c)(hn:fn.ntmps=n)(hle:(Nat.ble args.length n&&Nat.ble n DK)=true)
  (h:WC P n c (Xkp P n fn R) (UK 0 args) w):Calls P f args.toArray w R:=by
 refine calls_of_wp_defers hf hb (wp_mono (h _ (X6o hn hle)) ?_);rintro e a' w' ⟨L',h1,h2⟩;cases e with
 | normal=>exact h2 a' h1
 | ret=>exact h2 a' h1
 | _=>exact h2.elim
theorem Ag7(h:UG P n fn R .ret L w):Xkp P n fn R .ret L w:=λa ha=>by
 rw[ha.defers,h.1];exact h.2 a ha
theorem AbE{gn:Func}{g:FuncId}{cap:Lv}{Q:Wo->Prop}(hg:P.funcs[g]?=some gn)(hc:Xb gn=true)(hd:dl L=[{ target:=.fn (.func g) cap.toArray,args:=#[] }])
  (BE:∀u,CallsD P g cap.toArray u w λe u' w'=>u'=u/\∃v,e=.returned v/\Q w') (h:∀w',Q w'->∀a,Aw n L a->∃v,(results fn a.tmps).run P w'=.ok v w'/\R (.returned v) w'):Xkp P n fn R .ret L w:=λa ha=>by
 rw[ha.defers,hd];unfold Xb at hc;simp only[Yb]at hc
 obtain⟨h1,h2⟩:=hc;have Fj : ¬ gn.name = "runtime.NumGoroutine" := by simpa using h1
 have Ge:¬ gn.body=none:=by intro e;rw[e]at h2;cases h2
 refine leaves_cons sz (f:=g) (args:=cap.toArray) (by simp[invoke,callFunc,program,Sem.run,hg,Fj,Ge]) ((BE .returning).mono ?_);rintro e u' w' ⟨rfl,v,rfl,hQ⟩;exact h w' hQ a ha
theorem Xna{t u s j:Nat}{ty2 E2:TypeId}{x:Va}(h:fn.results=#[.cell t ty,.cell u ty2])(hS:Aa B w I As)(hk:As[k]?=some (Ae b cs E))(hj:As[j]?=some (Ae c [x] E2))(ht:∀w,(isAgg ty).run P w=.ok true w)(hs:∀w,(Go.sizeOf ty).run P w=.ok s w)(eH:∀w,(isAgg ty2).run P w=.ok false w)
  (hl:cs.length=s) (hv:look L t=some (ptr b 0)) (hx:look L u=some (ptr c 0)):∀a,Aw n L a->(results fn a.tmps).run P w=.ok (.tuple #[.agg cs.toArray,x]) w:=λa ha=>by
 have hb:=hS.block hk;have hc:=hS.block hj;have O9:=run_loadCells_list (P:=P) w (ad b 0) cs (λj v hj=>by rw[EE];exact HU hb (su hj));have LP:w.cell? (ad c 0)=some x:=HU hc sz;rw[hl]at O9;have h1:=ha.get t _ hv;have h2:=ha.get u _ hx;simp only[Lk]at h1 h2
 simp[results,h,h1,h2,loadVar,ht,hs,eH,asAddr,O9,load,Sem.run,LP]
theorem fY(hd:dl L=[])(h:∀a,Aw n L a->(results fn a.tmps).run P w=.ok v w)(hR:R (.returned v) w):Xkp P n fn R .ret L w :=
 Ag7 ⟨hd,λa ha=>⟨v,h a ha,hR⟩⟩
end
section
variable {P:Program} {n:Nat} {K:BK} {L:AK} {w:Wo} {ops:Array Oper} {rest:List Oper}
theorem WL.DA{d:Option Nat}{j t:Nat}(hj:(ops[j]?).bind (·.dst)=some t)(ht:Nat.blt t n=true)(hb:look L t=some (.bool want))
  (h:WL P n ops K (⟨d,op,ty,pos,af,none⟩::rest) L w):WL P n ops K (⟨d,op,ty,pos,af,some (j,want)⟩::rest) L w:=by
 intro a ha;have h1:=h a ha;have BO:t<a.tmps.size:=by have:=H5 ht;rw[ha.size];omega
 have hv:=ha.get t _ hb;have hy:yielded ops a.tmps j=some want:=by
  obtain⟨o,ho,mP⟩:=yt.1 hj;rw[Lk,O2 BO]at hv;simp only[yG]at hv
  have h2:a.tmps[t]?=some (.bool want):=by rw[O2 BO,hv]
  simp only[yielded,ho,mP,qH,h2]
 unfold wpList at h1 ⊢;rw[Y7 (by simp[Region.wanted])]at h1;rw[Y7 (by simp[Region.wanted,hy])];exact h1
end
open Go.Lib
section
variable {P:Program} {n:Nat} {K:BK} {L:AK} {w:Wo} {ops:Array Oper} {rest:List Oper}
theorem WL.P6{j t:Nat}{b:Bool}{xs:List Operand}{T:Wo->Prop}
  (hj:(ops[j]?).bind (·.dst)=some t) (ht:Nat.blt t n=true) (hb:look L t=some (.bool b)) (hf:P.funcs[f]?=some fn) (hc:Xb fn=true)
  (hx:b=want->∀a,Aw n L a->xs.map a.eval=vs) (hd:Nat.blt d n=true)
  (BE:b=want->Calls P f vs.toArray w (A4 λv w'=>v=v0/\T w')) (h0:b≠want->T w)
  (h:∀w',T w'->WL P n ops K rest ((d,gd b want v0)::L) w'):WL P n ops K (⟨some d,.call ⟨.value (.func f),xs.toArray,ts⟩,ty,pos,af,some (j,want)⟩::rest) L w:=by
 by_cases e:b=want
 ·subst e;refine .DA hj ht hb (WL.call hf hc (hx O) hd (BE O) ?_);rintro v w' ⟨rfl,hT⟩
  have:=h w' hT
  simpa[gd]using this
 ·exact WL.AG (v0:=v0) (T:=λw'=>w'=w) hj ht hb hf hc hx hd (λh=>Yy h e) O (λw' hw=>hw.symm▸h w (h0 e))
end
theorem Ex.HA{g:Option (Nat×Bool)}{t e:TypeId}{x y:Operand}{d:Option Nat}(hx:Ev n L x (.slice a m c))(hy:Ev n L y (.slice none 0 0))(hT:P.underlying t=some (.slice e)):Ex P n L w ⟨d,.binOp .eql t x y t',ty,pos,af,g⟩ (.bool a.isNone) w :=
 Fa hx hy (λ_ _=>by unfold eqGuard;split<;>simp) (run_eql_slice_nil w t e a m c hT)
theorem WL.clear{s:Nat}{e t:TypeId}{x:Operand}{z:Va}(hS:Aa B w I As)(hk:As[k]?=some (Ae b cs E))(hx:Ev n L x (.slice (some (ad b o)) m cap))(ht:P.underlying t=some (.slice e))(hz:∀w,(zeroValue e).run P w=.ok z w)(hs:z.cells.size=s)(h1:∀v∈z.cells,v.oneCell'=true)(ho:o+m*s<=cs.length)
  (h:∀w' tG,tG.length=cs.length->tG.take o=cs.take o->Aa B w' I (As.set k (Ae b tG E))->WL P n ops K rest L w'):WL P n ops K (⟨none,.call ⟨.builtin .clear,#[x],#[t]⟩,ty,pos,af,none⟩::rest) L w:=by
 subst hs;have go:∀w' v,(∀a,Aw n L a->(execOp a.eval (⟨none,.call ⟨.builtin .clear,#[x],#[t]⟩,ty,pos,af,none⟩:Oper)).run P w=.ok (.value v) w')->WL P n ops K rest L w'->WL P n ops K (⟨none,.call ⟨.builtin .clear,#[x],#[t]⟩,ty,pos,af,none⟩::rest) L w:=by
  intro w' v hx h a ha;refine wpList_plain O λK' hK=>?_
  unfold Oper.wp;rw[hx a ha];exact hK _ _ (h _ (ha.skip v))
 have hb:=hS.block hk;have zm:(Builtin.zeroCells z.cells m).toList.length=m*z.cells.size:=by rw[Zu,size_zeroCells]
 have Cp:=run_storeCells_at P b o E (Builtin.zeroCells z.cells m).toList 0 cs.toArray w hb (by simp only[Hn,zm,yC];exact ho) (λv hv=>by
  rw[Array.mem_toList_iff]at hv;unfold Builtin.zeroCells at hv;obtain⟨i,hi,rfl⟩:=Array.mem_map.1 hv;have Wy:i<m*z.cells.size:=su hi
  have hp:0<z.cells.size:=Nat.pos_of_ne_zero λe=>by rw[e]at Wy;omega
  have BO:=yN i hp;rw[getElem!_pos z.cells (i%z.cells.size) BO];exact h1 _ (Array.getElem_mem BO))
 simp only[Hn]at Cp
 cases m with
 | zero =>
  refine go w (.tuple #[]) (λa ha=>?_) (h w cs O O ?_)
  ·simp[execOp,resolve,invoke,builtin,hx a ha,Builtin.clear_,run_underlying ht]
  ·have e:As.set k (Ae b cs E)=As:=by
    apply U7
    intro i;rw[yB];split
    ·rename_i e;subst e
     split
     ·exact hk.symm
     ·rename_i BO;rw[jr om]
    ·rfl
   rw[e];exact hS
 | succ m =>
  refine go (w.setRow b _) (.tuple #[]) (λa ha=>?_) (h _ _ ?_ ?_ (hS.write (o':=Xi (cs.take o++(Builtin.zeroCells z.cells (m+1)).toList++cs.drop (o+(Builtin.zeroCells z.cells (m+1)).toList.length)) E) hk O O O (setRow_heap w b _ _ E _ hb) λc hc=>setRow_other w b c _ hc))
  ·simp[execOp,resolve,invoke,builtin,hx a ha,Builtin.clear_,run_underlying ht,hz,Cp]
  ·simp only[Y0,Yl,Ye,zm];omega
  ·rw[Yc,yp (by rw[Yl];omega),Y64,Nat.min_self]
section
variable {P:Program} {n:Nat} {K:BK} {L:AK} {w B:Wo} {I:Im} {As:La} {ops:Array Oper} {rest:List Oper} {ty t t' E:TypeId} {x y:Operand} {pos:String} {af:Array Edge} {g:Option (Nat×Bool)}
theorem Xzb{b:Frame}{a:Act}{k:List Item}{cs:List Frame}{f0:Operand}{ps:Array Tmp}{assign body:Code}{l:Nat}{mark:List Deferred}{w₁ w₁' w₂:Wo}{d:Deferred}{args:Array Va}
  (he:(Instr.enterLoop b.fn a.tmps ps assign body none).run P w=.ok (l,mark) w₁)
  (eE:(resolve ({ tmps:=a.tmps,defers:=mark++a.defers }:Act).eval { callee:=.value f0,args:=#[.const (.func (.yield l) #[] #[])],argTypes:=#[] } 0).run P w₁=.ok d w₁') (hinv:(invoke d.target d.args).run P w₁'=.ok (.enter f args) w₂) :step P (lone (b.at a (.code (.rangeFunc f0 ps assign body)::k)) cs w)=.next (lone (Frame.enter P f args .normal) (b.at { a with defers:=mark++a.defers } (.inRangeFunc l::k)::cs) w₂) :=
 step_lone_go (by
  have uQ:=funext (Frame.eval_at b { a with defers:=mark++a.defers } (.inRangeFunc l::k));simp only[Frame.at]at uQ
  simp[stepG,stepG.exec,Frame.at,Sem.runT_eq,he,GStep.bare_after,stepG.apply,uQ,Sem.run_bind,eE,hinv,Result.andThen])
theorem Xlp{b:Frame}{a:Act}{k:List Item}{cs:List Frame}{l:Nat}{jump:Option Code}{w':Wo}(h:(Instr.endLoop l).run P w=.ok jump w'):step P (lone (b.at a (.endRangeFunc l::k)) cs w)=.next (lone (b.at a ((jump.map Item.code).toList++k)) cs w') :=
 step_lone_go (by simp[stepG,stepG.exec,Frame.at,Sem.runT_eq,h,GStep.bare_after])
theorem Th{l:Nat}{o o':Obj}(h:w.heap[l]?=some o):(w.heap.setIfInBounds l o')[l]?=some o':=by
 have hl:l<w.heap.size:=(Ll.1 h).1;simp[Y2s,hl]
theorem WC.XT{f0:Operand}{ps:Array Tmp}{assign body:Code}{cap:Lv}(hS:Aa B w I As)(hg:Ev n L f0 (.func (.func f) #[] cap.toArray))(hf:P.funcs[f]?=some fn)(hc:Xb fn=true)(h0:dl L=[])
  (BE:∀l D r w',Aa B w' I (own l (.loop r)::own D (.deferred (some []))::As)->Calls P f (.func (.yield l) #[] #[]::cap).toArray w' (A4 λv TW=>Aa B TW I (own l (.loop r)::own D (.deferred (some []))::As)))
  (h:∀D w',Aa B w' I (own D (.deferred (some []))::As)->K .normal ((DK,.map (some D))::L) w'):WC P n (.rangeFunc f0 ps assign body) K L w:=by
 intro a ha b k cs;unfold Xb at hc;simp only[Yb]at hc
 obtain⟨c1,c2⟩:=hc;have c1' : ¬ fn.name = "runtime.NumGoroutine" := by simpa using c1
 have c2':¬ fn.body=none:=by intro e;rw[e]at c2;cases c2
 obtain⟨r0,vh⟩:∃r:Loop,r={ state:=.ready,pending:=none,fn:=b.fn,tmps:=a.tmps,params:=ps,assign:=assign,body:=body,defers:=w.heap.size }:=⟨_,O⟩
 have vi:r0.state=.ready:=by rw[vh]
 have m_:r0.pending=none:=by rw[vh]
 have he:(Instr.enterLoop b.fn a.tmps ps assign body none).run P w=.ok (w.heap.size+1,[{ target:=.collected w.heap.size,args:=#[] }]) ((w.alloc (.deferred (some []))).alloc (.loop r0)):=by
  rw[vh];unfold Instr.enterLoop;simp only[Sem.run_bind,run_newObj_alloc,Result.andThen,Sem.run_pure,World.size_alloc]
 have Bo:=(hS.alloc (.deferred (some []))).alloc (.loop r0);rw[World.size_alloc]at Bo;have eE:∀(dd:List Deferred) u,(resolve ({ tmps:=a.tmps,defers:=dd }:Act).eval { callee:=.value f0,args:=#[.const (.func (.yield (w.heap.size+1)) #[] #[])],argTypes:=#[] } 0).run P u =
   .ok { target:=.fn (.func f) cap.toArray,args:=#[.func (.yield (w.heap.size+1)) #[] #[]] } u:=λdd u=>by
  have hv:=hg a ha;have HP:({ tmps:=a.tmps,defers:=dd }:Act).eval f0=.func (.func f) #[] cap.toArray:=by
   rw[<-hv];cases f0<;>rfl
  have GQ:∀v,({ tmps:=a.tmps,defers:=dd }:Act).eval (.const v)=v:=λv=>rfl
  simp[resolve,HP,GQ,Deferred.ofValue]
 have hinv:∀u,(invoke (.fn (.func f) cap.toArray) #[.func (.yield (w.heap.size+1)) #[] #[]]).run P u=.ok (.enter f (.func (.yield (w.heap.size+1)) #[] #[]::cap).toArray) u:=λu=>by
  simp[invoke,callFunc,program,Sem.run,hf,c1',c2']
 have h1:=Xzb (P:=P) (cs:=cs) (k:=k) (b:=b) (a:=a) he (eE _ _) (hinv _);obtain⟨e,w3,fr,hR,uI,EJ,uY⟩:=BE _ _ _ _ Bo (b.at { a with defers:=[{ target:=.collected w.heap.size,args:=#[] }]++a.defers } (.inRangeFunc (w.heap.size+1)::k)::cs);obtain⟨v,rfl,LD⟩:=hR;have hb:=LD.block (k:=0) O;have uO:(Instr.endLoop (w.heap.size+1)).run P w3=.ok none { w3 with heap:=w3.heap.setIfInBounds (w.heap.size+1) (.loop { r0 with state:=.exhausted }) }:=by
  have e1:(getObj (w.heap.size+1)).run P w3=.ok (.loop r0) w3:=by simp[getObj,Sem.run,hb]
  have e2:∀o,(setObj (w.heap.size+1) o).run P w3=.ok () { w3 with heap:=w3.heap.setIfInBounds (w.heap.size+1) o }:=λo=>by simp[setObj,Sem.run,hb]
  have e3:(r0.state==LoopState.busy)=false:=by rw[vi];rfl
  simp[Instr.endLoop,Instr.getLoop,Sem.run_bind,e1,e2,e3,m_,Result.andThen]
  intro qR;rw[vi]at qR;cases qR
 have yZ:=(LD.write (k:=0) (b:=w.heap.size+1) O (o':=.loop { r0 with state:=.exhausted })
  (w':={ w3 with heap:=w3.heap.setIfInBounds (w.heap.size+1) (.loop { r0 with state:=.exhausted }) }) O O O (Th hb)
  (λc hc=>by simp[Y3p (Ne.symm hc)])).drop (k:=0) O
 refine⟨.normal,{ a with defers:=[{ target:=.collected w.heap.size,args:=#[] }]++a.defers },_,⟨_,⟨ha.size,ha.small,?_,λt v hv=>?_⟩,h _ _ yZ⟩,?_⟩
 ·have:=ha.defers
  rw[h0]at this;simp[this,dl,Bj]
 ·obtain⟨q1,q2⟩:=xF hv;rw[Bj,NA (Ne.symm q1)]at q2;exact ha.get t v (Xs5 q1 q2)
 ·have NQ:(b.at { a with defers:=[{ target:=.collected w.heap.size,args:=#[] }]++a.defers } (.inRangeFunc (w.heap.size+1)::k)).finish v=b.at { a with defers:=[{ target:=.collected w.heap.size,args:=#[] }]++a.defers } (.endRangeFunc (w.heap.size+1)::k):=by
   simp[Frame.finish,Frame.at]
  have h2:=step_leave_returned (cs:=cs) (c:=b.at { a with defers:=[{ target:=.collected w.heap.size,args:=#[] }]++a.defers } (.inRangeFunc (w.heap.size+1)::k)) uY;rw[NQ]at h2;have h3:=Xlp (P:=P) (b:=b) (a:={ a with defers:=[{ target:=.collected w.heap.size,args:=#[] }]++a.defers }) (k:=k) (cs:=cs) uO;exact Steps.trans (.one h1) (Steps.trans uI (Steps.trans (.one h2) (.one h3)))
theorem Xpv{fr:Frame}{cs:List Frame}{w':Wo}{d:Deferred}{r:Nat}{ds calls:List Deferred}
  (hm:fr.mode=.returning) (hd:fr.defers=d::ds) (ht:d.target=.collected r) (hk:(Instr.takeDeferred r).run P w=.ok calls w') :step P (lone fr cs w)=.next (lone { fr with defers:=calls++ds } cs w'):=by
 obtain⟨t,a⟩:=d;simp only at ht
 subst ht;exact step_lone_go (by simp[stepG,unwind,hm,hd,Sem.runT_eq,hk,GStep.bare_after])
def Sl(P:Program)(n:Nat)(fn:Func)(R:Ending->World->Prop):BK
 | .normal,L,w|.ret,L,w=>∃D w',dl L=[{ target:=.collected D,args:=#[] }]/\(Instr.takeDeferred D).run P w=.ok [] w'/\∀a,Aw n L a->∃v,(results fn a.tmps).run P w'=.ok v w'/\R (.returned v) w'
 | _,_,_=>False
theorem tD{c:Code}(hf:P.funcs[f]?=some fn)(hb:fn.body=some c)(hn:fn.ntmps=n)(hle:(Nat.ble args.length n&&Nat.ble n DK)=true)
  (h:WC P n c (Sl P n fn R) (UK 0 args) w):Calls P f args.toArray w R:=by
 intro cs
 let b:Frame:={ (default:Frame)with fn:=f,kind:=.normal }
 have uP:Frame.enter P f args.toArray .normal=b.at { tmps:=args.toArray++Array.replicate (fn.ntmps-args.toArray.size) undef,defers:=[] } [.code c]:=by
  simp[Frame.enter,Frame.at,hf,hb,b]
 obtain⟨e,a',w',⟨L',h1,h2⟩,DM⟩:=h _ (X6o hn hle) b [] cs;rw[<-uP]at DM;cases e with
 | normal =>
  obtain⟨D,w2,hd,ht,hr⟩:=h2;obtain⟨v,hv,hR⟩:=hr a' h1;have s2:=Xpv (P:=P) (fr:={ b.at a' []with mode:=.returning }) (cs:=cs) (w:=w') O (h1.defers.trans hd) O ht;exact⟨.returned v,w2,_,hR,Steps.trans DM (Steps.trans (.one step_end) (.one s2)),O,O,O,O,fn,hf,hv⟩
 | ret =>
  obtain⟨D,w2,hd,ht,hr⟩:=h2;obtain⟨v,hv,hR⟩:=hr a' h1;obtain⟨todo,hs⟩:=DM;have s2:=Xpv (P:=P) (fr:={ b.at a' todo with mode:=.returning }) (cs:=cs) (w:=w') O (h1.defers.trans hd) O ht;exact⟨.returned v,w2,_,hR,Steps.trans hs (.one s2),O,O,O,O,fn,hf,hv⟩
 | _=>exact h2.elim
theorem AbF{a D:Nat}{u:Va}(h:fn.results=#[.tmp a,.tmp b])(hS:Aa B w I As)(hk:As[k]?=some (own D (.deferred (some []))))(hv:look L a=some v)(hx:look L b=some u)(hd:dl L=[{ target:=.collected D,args:=#[] }])
  (hR:∀w',Aa B w' I (As.eraseIdx k)->R (.returned (.tuple #[v,u])) w'):Sl P n fn R .ret L w:=by
 have hb:=hS.block hk;have Cw:k<As.length:=(Y1.1 hk).1;have Bo:=(hS.write hk (o':=.deferred none) (w':={ w with heap:=w.heap.setIfInBounds D (.deferred none) }) O O O (Th hb) (λc hc=>by simp[Y3p (Ne.symm hc)])).drop (k:=k) (A:=own D (.deferred none)) (by simp[Cw]);rw[Y3o]at Bo;refine⟨D,{ w with heap:=w.heap.setIfInBounds D (.deferred none) },hd,by simp[Instr.takeDeferred,Sem.run_bind,getObj,setObj,Sem.run,hb,Result.andThen],λe he=>⟨_,?_,hR _ Bo⟩⟩;have h1:=he.get a _ hv;have h2:=he.get b _ hx;simp only[Lk]at h1 h2
 simp[results,h,h1,h2]
def WI(P:Program)(n:Nat)(c:Code)(K:BK)(L:AK)(w:Wo):Prop:=∀a,Aw n L a->∀(b:Frame) (k:List Item) (cs:List Frame),∃e a' w',UX n K e a' w'/\Arrives P (lone (b.at a (.code c::.inLoop c::k)) cs w) b k cs e a' w'
theorem WC.DT{c:Code}(h:WI P n c K L w):WC P n (.loop c) K L w:=λa ha b k cs=>by
 obtain⟨e,a',w',hq,DM⟩:=h a ha b k cs;exact⟨e,a',w',hq,.of_steps (.one step_loop) DM⟩
theorem WI.round{c:Code}(h:WC P n c (HZ (λL w=>WI P n c K L w) K) L w):WI P n c K L w:=λa ha b k cs=>by
 obtain⟨e,a1,w1,⟨L1,hL,hq⟩,DM⟩:=h a ha b (.inLoop c::k) cs;cases e with
 | normal =>
  obtain⟨e2,a2,w2,E8,dD⟩:=hq a1 hL b k cs;exact⟨e2,a2,w2,E8,.of_steps (Steps.trans DM (.one step_inLoop)) dD⟩
 | exit id=>exact⟨_,a1,w1,⟨L1,hL,hq⟩,.pass (x:=.inLoop c) O (λ_ _=>.inl sz) DM⟩
 | goto l=>exact⟨_,a1,w1,⟨L1,hL,hq⟩,.pass (x:=.inLoop c) O (λ_ _=>.inl sz) DM⟩
 | ret=>exact⟨_,a1,w1,⟨L1,hL,hq⟩,.pass (x:=.inLoop c) O (λ_ _=>.inl sz) DM⟩
 | panic ch=>exact⟨_,a1,w1,⟨L1,hL,hq⟩,.pass (x:=.inLoop c) O (λ_ _=>.inl sz) DM⟩
 | outgrown=>exact⟨_,a1,w1,⟨L1,hL,hq⟩,.pass (x:=.inLoop c) O (λ_ _=>.inl sz) DM⟩
theorem Ex.KO{f:Go.Fn}{d:Option Nat}{bound captured:List Operand}{bs:Lv}(hb:∀a,Aw n L a->bound.map a.eval=bs)(hx:∀a,Aw n L a->captured.map a.eval=vs):Ex P n L w ⟨d,.makeFunc f bound.toArray captured.toArray,ty,pos,af,g⟩ (.func f bs.toArray vs.toArray) w:=λe he=>by
 have h1:=hb e he;have h2:=hx e he;simp[execOp,Instr.makeFunc,<-h1,<-h2]
theorem WL.wH{c:Operand}{bs cap:Lv}{xs:List Operand}{Q:Va->Wo->Prop}(hf:P.funcs[f]?=some fn)(hc:Xb fn=true)(hv:Ev n L c (.func (.func f) bs.toArray cap.toArray))(hx:∀a,Aw n L a->xs.map a.eval=vs)(hd:Nat.blt d n=true)
  (BE:Calls P f (bs++vs++cap).toArray w (A4 Q)) (h:∀v w',Q v w'->WL P n ops K rest ((d,v)::L) w'):WL P n ops K (⟨some d,.call ⟨.value c,xs.toArray,ts⟩,ty,pos,af,none⟩::rest) L w:=by
 intro a ha;refine wpList_plain O λK' hK=>?_
 unfold Xb at hc;simp only[Yb]at hc
 obtain⟨h1,h2⟩:=hc;have Fj : ¬ fn.name = "runtime.NumGoroutine" := by simpa using h1
 have Ge:¬ fn.body=none:=by intro e;rw[e]at h2;cases h2
 have he:(execOp a.eval (⟨some d,.call ⟨.value c,xs.toArray,ts⟩,ty,pos,af,none⟩:Oper)).run P w=.ok (.enter f (bs++vs++cap).toArray) w:=by
  have F7:=hx a ha;simp[execOp,resolve,hv a ha,Deferred.ofValue,invoke,callFunc,program,Sem.run,hf,Fj,Ge,<-F7]
 unfold Oper.wp;rw[he];refine BE.mono λe TW hq=>?_
 obtain⟨v,rfl,hv⟩:=hq;exact hK _ _ (h v TW hv _ (ha.put hd v))
theorem WL.Aah{sl sc:Nat}{T:TypeId}(hS:Aa B w I As)(hk:As[k]?=some (Ae b cs T))(hx:Ev n L x (.slice (some (ad b o)) m c))(hy:Ev n L y (.slice a sl sc))(hr:RS I a 1 sl vs)(ht:P.underlying t=some (.slice E))(hs:∀w,(Go.sizeOf E).run P w=.ok 1 w)
  (h1:vs.all Value.oneCell'=true) (hm:sl<=m) (ho:o+sl<=cs.length) (hd:Nat.blt d n=true)
  (h:∀w',Aa B w' I (As.set k (Ae b (cs.take o++vs++cs.drop (o+sl)) T))->WL P n ops K rest ((d,Ab (sl:Nat))::L) w'):WL P n ops K (⟨some d,.call ⟨.builtin .copy,#[x,y],#[t,t']⟩,ty,pos,af,none⟩::rest) L w:=by
 have rr:vs.length=sl:=su hr.1
 have hb:=hS.block hk;have Aa0:Nat.min sl m=sl:=jx hm;rcases Nx sl with h0|h0
 ·subst h0;have hv0:vs=[]:=Yf rr;subst hv0;have Cw:k<As.length:=(Y1.1 hk).1;have h2:=h w (by
   have:As.set k (Ae b (cs.take o++[]++cs.drop (o+0)) T)=As:=by
    rw[Yr,Hn,Mv]
    have:=(Y1.1 hk).2
    rw[<-this,sU]
   rw[this];exact hS)
  refine .val (w':=w) (λe he=>?_) hd h2;cases a<;>simp[execOp,resolve,invoke,builtin,hx e he,hy e he,Builtin.copy_,run_underlying ht,Builtin.lenOf,Builtin.firstCells,hs,Aa0,loadCells,loadCellsFrom,storeCells,goInt]
 ·obtain⟨p,rfl,hA⟩:=hr.2 h0;have O9:=run_loadCells_list (P:=P) w p vs (λj v hj=>Pz hS hA hj);rw[rr]at O9;have Cp:=run_storeCells_at P b o T vs 0 cs.toArray w hb (by simp only[Hn,rr,yC];exact ho) (Yv.1 h1);simp only[Hn,rr]at Cp
  refine .val (w':=w.setRow b (cs.take o++vs++cs.drop (o+sl)).toArray) (λe he=>?_) hd (h _ (hS.write (o':=Xi _ T) hk O O O (setRow_heap w b _ _ T _ hb) λc hc=>setRow_other w b c _ hc));simp[execOp,resolve,invoke,builtin,hx e he,hy e he,Builtin.copy_,run_underlying ht,Builtin.lenOf,Builtin.firstCells,hs,Aa0,O9,Cp,goInt]
theorem Ex.rJ{d:Option Nat}{i:Int}(hx:Ev n L x (.int .u32 i)):Ex P n L w ⟨d,.unOp .xor t x,ty,pos,af,g⟩ (.int .u32 (bits .xor .u32 IntKind.u32.max i)) w:=λe he=>by
 have h2:(Op.unary .xor (.int .u32 i)).run P w=.ok (.int .u32 (bits .xor .u32 IntKind.u32.max i)) w:=by
  show(Op.intBits .xor .u32 (if IntKind.u32.signed then -1 else IntKind.u32.max) i).run P w=_
  rw[Y3 de];simp[Op.intBits,bits]
 simp only[execOp,hx e he,Sem.run_bind,h2,Result.andThen_ok,Sem.run_pure]
theorem td(i:Int):0<=bits .and .u32 i 15/\bits .and .u32 i 15<16:=by
 have h1:(BitVec.ofInt IntKind.u32.bits i&&& BitVec.ofInt IntKind.u32.bits 15).toNat<=15:=by
  rw[BitVec.toNat_and];exact Yx Nat.and_le_right de
 show 0<=IntKind.u32.wrap ((BitVec.ofInt IntKind.u32.bits i&&& BitVec.ofInt IntKind.u32.bits 15).toNat:Int)/\IntKind.u32.wrap ((BitVec.ofInt IntKind.u32.bits i&&& BitVec.ofInt IntKind.u32.bits 15).toNat:Int)<16
 rw[IntKind.wrap_u32];omega
theorem PU{l:Lu}{i:Int}(h0:0<=i)(h1:i<(l.length:Int)):((Ax l).drop (i.toNat*1))[0]?=some (U8 (l.getD i.toNat 0).toNat):=by
 have h2:i.toNat<l.length:=om
 rw[U6,Gv,Hn];simp[Ax,Ya,h2]
theorem Ni(l:Lu):(Ax l).all Value.oneCell'=true:=by simp[Ax,Value.oneCell']
theorem Aa.Lw{l:Lu}(hS:Aa B w I (Ae b (Ax l) E::As))(hl:l.length<=1000000):∃J,Le I J/\RS J (some (ad b 0)) 1 l.length (Ax l)/\Aa B w J As:=by
 have h:=hS.Bw (size:=1) (n:=l.length) (k:=0) O sz (by unfold maxLen;omega);exact h.fV 0
theorem Ex.Aha{e:TypeId}{d:Option Nat}(hx:Ev n L x (.slice a m c))(hy:Ev n L y (.slice none 0 0))(hT:P.underlying t=some (.slice e)):Ex P n L w ⟨d,.binOp .neq t x y t',ty,pos,af,g⟩ (.bool a.isSome) w :=
 Fa hx hy (λ_ _=>by unfold eqGuard;split<;>simp) (by
  have h:=run_neq_slice_nil (P:=P) w t e a m c hT;rw[h];cases a<;>rfl)
theorem Ex.as{o:Oper}{v':Va}(h:Ex P n L w o v w)(e:v=v'):Ex P n L w o v' w:=e▸h
theorem WL.Abp{l s:Nat}{e:TypeId}{i:TypeInfo}{z z0:Va}(hS:Aa B w I As)(hx:Ev n L x (Ab l))(hy:Ev n L y (Ab l))(ht:P.underlying t=some (.slice e))(hi:P.info? e=some i)(hz:i.zero=some z)(hb:(i.bytes:Int)*l<=281474976710656)(hl:(l:Int)<=9223372036854775807)
  (u_:z.cells=(List.replicate s z0).toArray) (h0:0<s) (hs:i.size=s) (hd:Nat.blt d n=true)
  (h:∀b w',Aa B w' I (Ae b (List.replicate (l*s) z0) e::As)->WL P n ops K rest ((d,.slice (some (ad b 0)) l l)::L) w'):WL P n ops K (⟨some d,.makeSlice t x y,ty,pos,af,none⟩::rest) L w:=by
 have hr:=run_make (P:=P) w t e i z ht hi hz .i64 .i64 l l om om hb hl;have hm:madeCells z.cells ((l:Int).toNat*i.size)=(List.replicate (l*s) z0).toArray:=by
  rw[u_,hs]
  apply Array.ext'
  simp only[madeCells,Y8,Y5w,Array.toList_range]
  apply U7
  intro j
  by_cases hj:j<l*s
  ·have hm2:j%s<s:=yN _ h0;simp[hj,hm2]
  ·simp[hj]
 rw[hm]at hr;refine .val (v:=.slice (some (ad w.heap.size 0)) l l) (w':=w.alloc (Xi (List.replicate (l*s) z0) e)) (λa ha=>?_) hd (h _ _ (hS.alloc _));simp only[Y8]at hr
 simp[execOp,hx a ha,hy a ha,hr,Xi]
theorem At.pre{ys:Lv}(h:At J p xs)(hp:∀(j:Nat) (v:Va),ys[j]?=some v->xs[j]?=some v):At J p ys:=by
 obtain⟨h0,arr,E,fr,hi,hv⟩:=h;exact⟨h0,arr,E,fr,hi,λj v hj=>hv j v (hp j v hj)⟩
theorem Ex.Dm{d:Option Nat}{e:TypeId}{s:Nat}(hx:Ev n L x (.pointer (some p)))(hm:0<m)(ht:P.underlying t=some (.array m e))(hs:∀w,(Go.sizeOf e).run P w=.ok s w):Ex P n L w ⟨d,.slice t x none none none,ty,pos,af,g⟩ (.slice (some p) m m) w:=λa ha=>by
 obtain⟨e1,e2⟩:=Xds ht;have h:=run_sliceAt_array_all (P:=P) (w:=w) (t:=t) (a:=p) (by rw[e1,e2];exact ht);rw[e1,e2,hs]at h;have A8:m≠0:=om
 have e0:p.add 0=p:=by cases p;simp[Addr.add]
 simp[execOp,hx a ha,h,slicedAt,A8,e0]
end
section
variable {P:Program} {n:Nat} {K:BK} {L:AK} {w B:Wo} {I:Im} {As:La} {ops:Array Oper} {rest:List Oper} {ty t t' E:TypeId} {x y:Operand} {pos:String} {af:Array Edge} {g:Option (Nat×Bool)}
theorem Aa.tX{z:Va}(hS:Aa B w I As)(N5:z.cells.size=size)(IQ:nn+m<=cap)(Wv:cap<=maxLen)(CW:xs.length=nn*size)(hl:news.length=m*size):Aa B (w.drew.alloc (.cells (xs.toArray++news.toArray++Builtin.zeroCells z.cells (cap-(nn+m))) E)) I (Ar E size (.slice (some ⟨w.heap.size,0,none⟩) (nn+m) cap) (nn+m) (xs++news)::As):=by
 have hlen:(xs++news).length=(nn+m)*size:=by rw[Y0,CW,hl,RV]
 have Bo:=hS.drew.alloc (.cells (xs.toArray++news.toArray++Builtin.zeroCells z.cells (cap-(nn+m))) E);have e1:(own w.drew.heap.size (.cells (xs.toArray++news.toArray++Builtin.zeroCells z.cells (cap-(nn+m))) E))=Ae w.heap.size ((xs++news)++(Builtin.zeroCells z.cells (cap-(nn+m))).toList) E:=by
  unfold Ae Xi
  congr 2
  apply Array.ext'
  simp
 rw[e1]at Bo;exact Bo.Bm (k:=0) (n:=nn+m) (size:=size) (cap:=cap) O IQ Wv hlen (by
  rw[hlen,Zu,size_zeroCells,N5,<-RV]
  congr 1
  omega)
theorem WL.lJ{i:TypeInfo}{z:Va}{E':TypeId}(hS:Aa B w I (Ae b news E'::As))(hx:Ev n L x (.slice a nn nn))(hy:Ev n L y (.slice (some (ad b 0)) m c))(hr:RS I a size nn xs)
  (ht:P.underlying t=some (.slice E)) (hi:P.info? E=some i) (hz:i.zero=some z) (Bv:i.size=size) (KH:i.bytes=bytes) (N5:z.cells.size=size)
  (hl:news.length=m*size) (hm:Nat.blt 0 m=true) (FB:(nn+m)*bytes<=140737488355328/\nn+m<=maxLen) (hd:Nat.blt d n=true)
  (h:∀v' w',Aa B w' I (Ar E size v' (nn+m) (xs++news)::As)->WL P n ops K rest ((d,v')::L) w') :WL P n ops K (⟨some d,.call ⟨.builtin .append,#[x,y],#[t,t]⟩,ty,pos,af,none⟩::rest) L w:=by
 subst Bv;subst KH;have hm0:0<m:=H5 hm;have hb:=hS.block (k:=0) O;have D1:∀j u,news[j]?=some u->w.cell? ((ad b 0).add j)=some u:=λj u hu=>by rw[EE,Yj];exact HU hb hu
 have h64:nn+m<=9223372036854775807:=by have:=FB.2;simp only[maxLen]at this;omega
 have Wx:=λDG=>(hS.drop (k:=0) O).tX (E:=E) (size:=i.size) (nn:=nn) (m:=m) (cap:=grownCap w (nn+m) DG E) (xs:=xs) (news:=news) (z:=z) N5 (grownCap_ge w (nn+m) DG E) (grownCap_le_maxLen w (nn+m) DG E FB.2) hr.1 hl
 have key:∃v' w',(Builtin.append_ #[t,t] ty #[.slice a nn nn,.slice (some (ad b 0)) m c]).run P w=.ok v' w'/\Aa B w' I (Ar E i.size v' (nn+m) (xs++news)::As):=by
  cases a with
  | none =>
   have h0:nn=0:=by
    rcases Nx nn with h0|h0
    ·exact h0
    ·obtain⟨p,h1,_⟩:=hr.2 h0;cases h1
   subst h0;have DW:xs=[]:=Yf (su hr.1);subst DW;have m_:=run_append_nil (P:=P) w t ty E i z ht hi hz (ad b 0) m c news hl D1 hm0 om (by have hb:=FB.1;simp only[Yj]at hb;omega);have hg:=Wx 0;simp only[Yj,Ez,Y4p]at hg ⊢
   exact⟨_,_,m_,hg⟩
  | some p =>
   have holds:∀j u,xs[j]?=some u->w.cell? (p.add j)=some u:=λj u hu=>by
    rcases Nx nn with h0|h0
    ·have:xs=[]:=Yf (by rw[hr.1,h0,jz])
     rw[this]at hu;simp at hu
    ·obtain⟨q,h1,hA⟩:=hr.2 h0;cases h1
     exact Pz hS hA hu
   have m_:=run_append_grow (P:=P) w t ty E i z ht hi hz p nn nn xs hr.1 holds (ad b 0) m c news hl D1 om om (growslice_fits om FB.1);exact⟨_,_,m_,Wx nn⟩
 obtain⟨v',w',DR,C9⟩:=key;refine .val (w':=w') (λe he=>?_) hd (h v' w' C9);simp[execOp,resolve,invoke,builtin,hx e he,hy e he,DR]
end
section
variable {P:Program} {ops:Array Oper} {Q:Exit->Act->Wo->Prop} {md:Region.Mode} {S:Wo->Prop} {nd:Nat->Bool}
def xA(md:Region.Mode)(ops:Array Oper)(Ad:Array Bool):Bool :=
 (List.range ops.size).all λj=>!Ad.getD j true||match ops[j]? with
  | some oj=>oj.after.all λe=>!Region.binds md e||Ad.getD e.on true
  | none=>true
def Xw4(md:Region.Mode)(ops:Array Oper)(i:Nat):Nat->Nat->Bool
 | 0,_=>false
 | f+1,j=>match ops[j]? with
  | some oj=>oj.after.any λe=>Region.binds md e&&(e.on==i||Xw4 md ops i f e.on)
  | none=>false
def xy(md:Region.Mode)(ops:Array Oper)(nd:Nat->Bool)(i:Nat):Bool :=
 (List.range ops.size).all λj=>nd j||j==i||Xw4 md ops i 8 j
theorem Xf5(h:xA md ops Ad=true):∀j oj,ops[j]?=some oj->Ad.getD j true=true->∀e∈oj.after,Region.binds md e=true->Ad.getD e.on true=true:=by
 intro j oj hj hl e he hb;have h1:=(Yv.1 h) j (yL.2 (Ll.1 hj).1);simp only[hj,hl,Y5q,lB]at h1
 have h2:=(Array.all_eq_true_iff_forall_mem.1 h1) e he;simpa[hb]using h2
theorem iL(hc:∀j oj,ops[j]?=some oj->Ad.getD j true=true->∀e∈oj.after,Region.binds md e=true->Ad.getD e.on true=true)(hi:Ad.getD i true=false):∀(f j:Nat),Xw4 md ops i f j=true->∃oj,ops[j]?=some oj/\∃e∈oj.after,Region.binds md e=true/\Ad.getD e.on true=false:=by
 intro f
 induction f with
 | zero=>intro j h;cases h
 | succ f ih =>
  intro j h;unfold Xw4 at h;cases hj:ops[j]? with
  | none=>rw[hj]at h;cases h
  | some oj =>
   rw[hj]at h;obtain⟨e,he,hb⟩:=Array.any_eq_true'.1 h;simp only[Yb,PM,beq_iff_eq]at hb
   refine⟨oj,O,e,he,hb.1,?_⟩;rcases hb.2 with h2|h2
   ·rw[h2];exact hi
   ·obtain⟨ok,hk,e2,he2,LF,hu2⟩:=ih e.on h2;cases hl:Ad.getD e.on true with
    | false=>rfl
    | true=>have:=hc e.on ok hk hl e2 he2 LF;rw[hu2]at this;cases this
theorem Xb7{oi:Oper}(hi:ops[i]?=some oi)(N2:∀(j:Nat) (o:Oper) cs b,ops[j]?=some o->o.op≠.select cs b)
  (hQ:∀c a w,Q (.panic c) (a.put oi.dst v) w->Q (.panic c) a w) (Qq:xy md ops nd i=true) :∀(fuel:Nat) (Ad:Array Bool) (a:Act) (w:Wo),
   (∀j oj,ops[j]?=some oj->j≠i->Ad.getD j true=false->(∀e∈oj.after,Region.binds md e=true->e.on≠i)->oi.apart ops oj=true)->
   (∀j oj,ops[j]?=some oj->Ad.getD j true=true->∀e∈oj.after,Region.binds md e=true->Ad.getD e.on true=true)->
   i∈Region.ready md ops Ad->YieldsIf P ops S oi v a->S w->
   jf P md ops Q S nd fuel (Ad.setIfInBounds i true) (a.put oi.dst v) w->jf P md ops Q S nd (fuel+1) Ad a w:=by
 intro fuel
 induction fuel with
 | zero =>
  intro Ad a w _ _ hr hy hS H;refine⟨λh=>(by rw[h]at hr;cases hr),λj hj=>?_⟩
  by_cases FD:j=i
  ·subst FD;exact hy.wpOp hi hS ⟨λ_ h=>h,H⟩
  ·have:=ready_mono hj FD
   rw[H.1]at this;cases this
 | succ fuel ih =>
  intro Ad a w Ht IL hr hy hS H;refine⟨λh=>(by rw[h]at hr;cases hr),λj hj=>?_⟩
  by_cases FD:j=i
  ·subst FD;exact hy.wpOp hi hS ⟨λ_ h=>h,H⟩
  ·have h1:=H.2 j (ready_mono hj FD);obtain⟨NU,oj,O_,AW⟩:=mem_ready.1 hj;have uM:∀e∈oj.after,Region.binds md e=true->Ad.getD e.on true=true:=λe he hb=>by
    have h1:=AW e he hb;rcases C5 e.on Ad.size with h'|h'
    ·simp[h']at h1 ⊢;exact h1
    ·simp[Y43 h']at h1
   have LR:∀e∈oj.after,Region.binds md e=true->e.on≠i:=λe he hb heq=>by
    have h1:=uM e he hb;rw[heq,(mem_ready.1 hr).1]at h1;cases h1
   have eA:nd j=true:=by
    have BO:j<ops.size:=(Ll.1 O_).1;have h9:=(Yv.1 Qq) j (yL.2 BO);simp only[PM,beq_iff_eq,FD,or_false]at h9
    rcases h9 with h9|h9
    ·exact h9
    ·obtain⟨ok,hk,e,he,hb,hu⟩:=iL IL (mem_ready.1 hr).1 8 j h9;rw[O_]at hk;cases hk
     have:=uM e he hb;rw[hu]at this;cases this
   have h2:=wpOp_putIf O_ (Ht j oj O_ FD NU LR) (λcs b=>N2 i oi cs b hi) (λcs b=>N2 j oj cs b O_) hQ hy h1;have IP:∀k ok,ops[k]?=some ok->k≠i->(Ad.setIfInBounds j true).getD k true=false->
     (∀e∈ok.after,Region.binds md e=true->e.on≠i)->oi.apart ops ok=true:=λk ok hk O7 MA AL=>by
    refine Ht k ok hk O7 ?_ AL
    by_cases ep:j=k
    ·subst ep;exact NU
    ·rw[getD_set_ne true ep]at MA;exact MA
   have AcU:∀k ok,ops[k]?=some ok->(Ad.setIfInBounds j true).getD k true=true->∀e∈ok.after,Region.binds md e=true->(Ad.setIfInBounds j true).getD e.on true=true:=λk ok hk hl e he hb=>by
    have h0:Ad.getD e.on true=true:=by
     by_cases ep:j=k
     ·subst ep;rw[O_]at hk;cases hk;exact uM e he hb
     ·rw[getD_set_ne true ep]at hl;exact IL k ok hk hl e he hb
    by_cases hje:j=e.on
    ·rw[<-hje];rcases C5 j Ad.size with h'|h'
     ·simp[h']
     ·simp[h']
    ·rw[getD_set_ne true hje];exact h0
   refine wpOp_mono (λa' w' h3=>⟨λ_ _=>h3.2.1 eA hS,ih (Ad.setIfInBounds j true) a' w' IP AcU (ready_mono hr (Ne.symm FD)) h3.1 (h3.2.1 eA hS) ?_⟩) h2;rw[Y4m _ _ FD];exact h3.2.2
end
section
variable {P:Program} {n:Nat} {K:BK} {L:AK} {w:Wo} {ops:Array Oper} {S:Wo->Prop} {nd:Nat->Bool} {fuel:Nat} {Ad:Array Bool}
theorem WD.FG(hi:ops[i]?=some ⟨some d,op,ty,pos,af,none⟩)(hs:Region.noSelect ops=true)(hf:Region.free .any ops Ad i=true)(hr:(Region.ready .any ops Ad).contains i=true)
  (Qq:(xy .any ops nd i&&xA .any ops Ad)=true) (hS:S w) (hx:∀w,S w->Ex P n L w ⟨some d,op,ty,pos,af,none⟩ v w) (hd:Nat.blt d n=true)
  (h:WD P n ops S nd K fuel (Ad.setIfInBounds i true) ((d,v)::L) w):WD P n ops S nd K (fuel+1) Ad L w:=λa ha=>by
 simp only[Yb]at Qq
 exact Xb7 hi (Region.noSelect_spec hs) (λ_ _ _ ⟨_,_,hk⟩=>hk.elim) Qq.1 fuel Ad a w (Region.free_spec hi hf) (Xf5 Qq.2) (su hr)
  (.inl ⟨wQ O _,λw hw=>hx w hw a ha⟩) hS (h _ (ha.put hd v))
theorem WD.DS{j t:Nat}{b:Bool}(hi:ops[i]?=some ⟨some d,op,ty,pos,af,some (j,want)⟩)(hs:Region.noSelect ops=true)(hf:Region.free .any ops Ad i=true)(hr:(Region.ready .any ops Ad).contains i=true)
  (Qq:(xy .any ops nd i&&xA .any ops Ad)=true) (hS:S w) (hj:(ops[j]?).bind (·.dst)=some t) (hb:look L t=some (.bool b)) (hx:b=want->∀w,S w->Ex P n L w ⟨some d,op,ty,pos,af,some (j,want)⟩ v w) (hd:Nat.blt d n=true)
  (h:WD P n ops S nd K fuel (Ad.setIfInBounds i true) ((d,gd b want v)::L) w):WD P n ops S nd K (fuel+1) Ad L w:=λa ha=>by
 simp only[Yb]at Qq
 have hy:=zL ha hj hb;have BM:=h _ (ha.put hd (gd b want v));refine Xb7 hi (Region.noSelect_spec hs) (λ_ _ _ ⟨_,_,hk⟩=>hk.elim) Qq.1 fuel Ad a w (Region.free_spec hi hf) (Xf5 Qq.2) (su hr) (v:=gd b want v) ?_ hS BM
 by_cases e:b=want
 ·left
  refine⟨by simp[Region.wanted,hy,e],λw hw=>?_⟩
  have:=hx e w hw a ha
  subst e;simpa[gd]using this
 ·right
  have e':(b==want)=false:=su e
  refine⟨by simp[Region.wanted,hy,e],?_⟩;simp only[gd,e',cond_false]
end
class zD(I J:Im):Prop where h:Le I J
instance :zD I I:=⟨.refl I⟩
instance (priority:=low){I0:Im}[a:Le I0 J][b:zD I I0]:zD I J:=⟨b.h.trans a⟩
abbrev SG(B:Wo)(I:Im)(Hs:La):Wo->Prop:=λw=>∃J R,Le I J/\Aa B w J (bD Hs R)
class rU(A:X1)(As:La)(BT:outParam La):Prop where h:∃k,As[k]?=some A/\BT=As.eraseIdx k
instance :rU A (A::As) As:=⟨0,O,O⟩
instance (priority:=low){C:X1}[a:rU A As BT]:rU A (C::As) (C::BT):=⟨by
 obtain⟨k,h1,h2⟩:=a.h;exact⟨k+1,h1,by rw[h2];rfl⟩⟩
@[reducible] def L3:List X1->Nat->Option (X1×List X1)
 | [],_=>none
 | A::l,0=>some (A,l)
 | A::l,i+1=>match L3 l i with
  | some (C,m)=>some (C,A::m)
  | none=>none
theorem Xlj:∀{As:La} {k:Nat} {A:X1} {BT:La},L3 As k=some (A,BT)->As[k]?=some A/\BT=As.eraseIdx k
 | [],_,_,_,h=>by simp[L3]at h
 | A::l,0,_,_,h=>by simp[L3]at h;simp[h]
 | A::l,i+1,C,m,h=>by
  simp only[L3]at h
  cases e:L3 l i with
  | none=>rw[e]at h;cases h
  | some p =>
   obtain⟨C',m'⟩:=p;rw[e]at h;cases h
   have:=Xlj e
   simp[this.1,this.2]
def I7(As Hs:La):Prop:=∀g,Ao As g->∃g' r,Ao Hs g'/\g.Perm (g'++r)
theorem I7.refl(As:La):I7 As As:=λg h=>⟨g,[],h,by simp⟩
theorem I7.pick(h1:As[k]?=some A)(h2:BT=As.eraseIdx k)(r:I7 BT Hs):I7 As (A::Hs):=λg hg=>by
 subst h2;obtain⟨g1,g2,hp,ha,_,g3,he,GC⟩:=hg.at_ h1;obtain⟨g',s,h2,h3⟩:=r g3 he;exact⟨g1++g',s,⟨g1,g',O,ha,h2⟩,by rw[Yc];exact hp.trans ((GC.symm.trans h3).append_left g1)⟩
theorem I7.drop(r:I7 As Hs):I7 (A::As) Hs:=λg ⟨g1,g2,e,_,h⟩=>by
 obtain⟨g',s,h2,h3⟩:=r g2 h;subst e;exact⟨g',s++g1,h2,by rw[<-Yc];exact bd.trans (h3.append_right g1)⟩
theorem I7.trans{Bs Cs:La}(a:I7 As Bs)(b:I7 Bs Cs):I7 As Cs:=λg hg=>by
 obtain⟨g1,r1,h1,p1⟩:=a g hg;obtain⟨g2,r2,h2,p2⟩:=b g1 h1;exact⟨g2,r2++r1,h2,p1.trans (by rw[<-Yc];exact p2.append_right r1)⟩
theorem I7.sat(e:I7 As Hs)(hS:Aa B w I As):Aa B w I Hs:=by
 obtain⟨g,hs,hg⟩:=hS;obtain⟨g',r,h1,h2⟩:=e g hs;exact⟨g',h1,(hg.perm h2).left⟩
class Pm(As Hs:La):Prop where h:I7 As Hs
instance (priority:=high):Pm As As:=⟨.refl As⟩
instance [p:rU A As BT][r:Pm BT Hs]:Pm As (A::Hs):=⟨let⟨_,h1,h2⟩:=p.h;.pick h1 h2 r.h⟩
instance (priority:=low)[r:Pm As Hs]:Pm (A::As) Hs:=⟨r.h.drop⟩
theorem Aa.s[e:Pm As Hs](hS:Aa B w I As):Aa B w I Hs:=e.h.sat hS
class Pk(As:La)(ks:List Nat)(BT:outParam La):Prop where h:I7 As BT
instance :Pk As [] As:=⟨.refl As⟩
instance {pq:La}[p:Is (L3 As k) (A,pq)][r:Pk (A::pq) ks BT]:Pk As (k::ks) BT:=⟨I7.trans (let⟨h1,h2⟩:=Xlj p.h;.pick h1 h2 (.refl pq)) r.h⟩
class Dr(As:La)(ks:List Nat)(BT:outParam La):Prop where h:I7 As BT
instance :Dr As [] As:=⟨.refl As⟩
instance {pq:La}[p:Is (L3 As k) (A,pq)][r:Dr pq ks BT]:Dr As (k::ks) BT:=⟨I7.trans (let⟨h1,h2⟩:=Xlj p.h;(I7.pick h1 h2 (.refl pq)).trans (I7.drop (.refl pq))) r.h⟩
theorem Aa.px(hS:Aa B w I As)(ks:List Nat)[e:Pk As ks BT]:Aa B w I BT:=e.h.sat hS
theorem Aa.py(hS:Aa B w I As)(ks:List Nat)[e:Dr As ks BT]:Aa B w I BT:=e.h.sat hS
class wN(As:La)(T:La->La)(R:outParam La):Prop where h:I7 As (T R)
instance {R:La}:wN R (λR=>R) R:=⟨.refl R⟩
instance [p:rU A As BT]:wN As (List.cons A) BT:=⟨let⟨_,h1,h2⟩:=p.h;.pick h1 h2 (.refl BT)⟩
instance {R:La}{T:La->La}[p:rU A As BT][r:wN BT T R]:wN As (λR=>A::T R) R:=⟨let⟨_,h1,h2⟩:=p.h;.pick h1 h2 r.h⟩
def Ih(As Hs:La):Prop:=∀g,Ao As g->∃R g',Ao (bD Hs R) g'/\g.Perm g'
theorem Ih.cons(h1:As[k]?=some A)(h2:BT=As.eraseIdx k)(r:Ih BT Hs):Ih As (A::Hs):=λg hg=>by
 subst h2;obtain⟨g1,g2,hp,ha,_,g3,he,GC⟩:=hg.at_ h1;obtain⟨R,g',h2,h3⟩:=r g3 he;exact⟨R,g1++g',⟨g1,g',O,ha,h2⟩,hp.trans ((GC.symm.trans h3).append_left g1)⟩
class HdA(Hs As:La):Prop where h:Ih As Hs
instance :HdA [] As:=⟨λg h=>⟨As,g,h,.refl _⟩⟩
instance [p:rU A As BT][r:HdA Hs BT]:HdA (A::Hs) As:=⟨let⟨_,h1,h2⟩:=p.h;.cons h1 h2 r.h⟩
class Hd(As:La)(ks:List Nat)(Hs:outParam La):Prop where h:Ih As Hs
instance :Hd As [] []:=⟨λg h=>⟨As,g,h,.refl _⟩⟩
instance [p:Is (L3 As k) (A,BT)][r:Hd BT ks Hs]:Hd As (k::ks) (A::Hs):=⟨let⟨h1,h2⟩:=Xlj p.h;.cons h1 h2 r.h⟩
theorem Ih.sat(a:Ih As Hs)(l:zD I J)(hS:Aa B w J As):SG B I Hs w:=by
 obtain⟨h,hs,hg⟩:=hS;obtain⟨R,g',h1,h2⟩:=a h hs;exact⟨J,R,l.h,g',h1,hg.perm h2⟩
@[reducible] def ndR:List Nat->Nat->Bool
 | [],_=>true
 | a::l,i=>match Nat.beq a i with
  | true=>false
  | false=>ndR l i
@[reducible] def Ab5:Builtin->Bool
 | .len=>false
 | .min=>false
 | .max=>false
 | _=>true
@[reducible] def JJ:Op->Bool
 | .store _ _ _=>true
 | .alloc _=>true
 | .box _ _=>true
 | .buildSlice _ _ _=>true
 | .makeSlice _ _ _=>true
 | .makeMap _ _=>true
 | .insert _ _ _ _=>true
 | .mapUpdate _ _ _ _=>true
 | .call c=>match c.callee with
  | .builtin b=>Ab5 b
  | _=>true
 | _=>false
@[reducible] def LY:Op->Bool
 | .load _ _=>true
 | _=>false
def J_(ops:Array Oper)(nd:Nat->Bool):Nat->List Nat->Array Bool->Bool
 | 0,[],Ad=>(Region.ready .any ops Ad).isEmpty
 | _+1,[],_=>true
 | 0,_::_,_=>false
 | m+1,i::r,Ad=>(match ops[i]? with
  | none=>false
  | some o=>bif JJ o.op then Region.ready .any ops Ad==[i]
   else Region.noSelect ops&&Region.free .any ops Ad i&&(Region.ready .any ops Ad).contains i&&(bif LY o.op||o.guard.isSome then xy .any ops nd i&&xA .any ops Ad else true))&&J_ ops nd m r (Ad.setIfInBounds i true)
@[reducible] def Fu:List Oper->Nat->Option Oper
 | [],_=>none
 | v::_,0=>some v
 | _::l,i+1=>Fu l i
theorem Tf:∀(l:List Oper) (i:Nat),Fu l i=l[i]?
 | [],_=>by simp[Fu]
 | v::l,0=>by simp[Fu]
 | v::l,i+1=>by simpa[Fu]using Tf l i
class ZU(l:List Oper)(m:outParam Nat):Prop where h:l.length=m
instance:ZU [] 0:=⟨O⟩
instance {o:Oper}{l:List Oper}[a:ZU l m]:ZU (o::l) (m+1):=⟨by simp[a.h]⟩
section
variable {P:Program} {n k d i m:Nat} {l:List Oper} {K:BK} {L:AK} {w w0:Wo} {B:Wo} {I J:Im} {As BT Hs:La} {S S1 S2 S3 Q q:Prop} {op:Op} {v u:Va} {ty:TypeId} {pos:String} {af:Array Edge} {nd:Nat->Bool} {SP:Wo->Prop} {pl:List Nat} {Ad:Array Bool} {o:Oper} {hold:Bool}
def Br(P:Program)(n:Nat)(ops:Array Oper)(SP:Wo->Prop)(nd:Nat->Bool)(K:BK)(hold:Bool)(m:Nat)(pl:List Nat)(Ad:Array Bool)(L:AK)(w:Wo):Prop:=(hold=true->SP w)->WD P n ops SP nd K m Ad L w
def iP(P:Program)(n:Nat)(ops:Array Oper)(SP:Wo->Prop)(nd:Nat->Bool)(K:BK)(i m:Nat)(pl:List Nat)(Ad:Array Bool)(w0:Wo)(L:AK)(w:Wo):Prop:=(nd i=true->SP w0->SP w)/\WD P n ops SP nd K m (Ad.setIfInBounds i true) L w
theorem z1{r:List Nat}(h:J_ ops nd (m+1) (i::r) Ad=true)(ho:ops[i]?=some o)(he:JJ o.op=false):Region.noSelect ops=true/\Region.free .any ops Ad i=true/\(Region.ready .any ops Ad).contains i=true/\(LY o.op=true\/o.guard.isSome=true->(xy .any ops nd i&&xA .any ops Ad)=true)/\J_ ops nd m r (Ad.setIfInBounds i true)=true:=by
 unfold J_ at h;rw[ho]at h;simp only[he,cond_false,Yb]at h
 obtain⟨⟨⟨⟨h1,h2⟩,h3⟩,h4⟩,h5⟩:=h;refine⟨h1,h2,h3,λhl=>?_,h5⟩
 have:(LY o.op||o.guard.isSome)=true:=su hl
 rw[this]at h4;simpa using h4
theorem vW{r:List Nat}(h:J_ ops nd (m+1) (i::r) Ad=true)(ho:ops[i]?=some o)(he:JJ o.op=true):Region.ready .any ops Ad=[i]:=by
 unfold J_ at h;rw[ho]at h;simp only[he,cond_true,Yb]at h
 simpa using h.1
theorem Br.eff{r:List Nat}(ok:J_ ops nd (m+1) (i::r) Ad=true)(ho:ops[i]?=some o)(he:JJ o.op=true)(h:WL P n ops (HZ (iP P n ops SP nd K i m r Ad w) (Td K)) [o] L w):Br P n ops SP nd K hold (m+1) (i::r) Ad L w :=
 λ_=>WD.branch [i] (vW ok ho he) O (WO.cons ho h WO.nil)
class Cd(P:Program)(n:Nat)(ops:Array Oper)(SP:Wo->Prop)(nd:Nat->Bool)(K:BK)(hold:Bool)(k m:Nat)(pl:List Nat)(Ad:Array Bool)(L:AK)(w:Wo)(S Q:outParam Prop):Prop where
 h:J_ ops nd m pl Ad=true->S->Q->Br P n ops SP nd K hold m pl Ad L w
instance :Cd P n ops SP nd K hold 0 m pl Ad L w True (Br P n ops SP nd K hold m pl Ad L w):=⟨λ_ _ q=>q⟩
instance (priority:=high)[r:BR (K .normal L w) q]:Cd P n ops SP nd K hold 0 0 [] Ad L w True q:=⟨λok _ h _=>WD.done (by unfold J_ at ok;simpa using ok) (r.h h)⟩
instance {n':Nat}{l':List Oper}[r:BR (K .normal L w) (WL P n' GJ K' l' L' w)][a:Ch P n' GJ K' (k+1) l' L' w S Q]:Cd P n ops SP nd K hold (k+1) 0 [] Ad L w S Q:=⟨λok s q _=>WD.done (by unfold J_ at ok;simpa using ok) (r.h (a.h s q))⟩
theorem PJ{l:List Oper}{i:Nat}{o:Oper}(a:Is (Fu l i) o):l.toArray[i]?=some o:=by rw[Y49,<-Tf];exact a.h
instance {r:List Nat}[o:Is (Fu l i) ⟨some d,op,ty,pos,af,none⟩][e:Ff (JJ op)][f:Ff (LY op)][a:V0 P L [] op S1 v][lt:Lt d n][c:Cd P n l.toArray SP nd K hold k m r (Ad.setIfInBounds i true) ((d,v)::L) w S2 Q][j:Cj S1 S2 S]:Cd P n l.toArray SP nd K hold (k+1) (m+1) (i::r) Ad L w S Q :=
 ⟨λok s q hh=>by
  obtain⟨h1,h2,h3,_,h5⟩:=z1 ok (PJ o) e.h;exact WD.ik (i:=i) (PJ o) h1 h2 h3 (λw=>a.h (j.h s).1 (λ_ h=>by cases h)) lt.h (c.h h5 (j.h s).2 q hh)⟩
instance {r:List Nat}{t:TypeId}{x:Operand}[o:Is (Fu l i) ⟨some d,.load t x,ty,pos,af,none⟩][a:∀J R [Le I J],V1 P L [] B J (bD Hs R) (.load t x) S1 v][lt:Lt d n][c:Cd P n l.toArray (SG B I Hs) nd K true k m r (Ad.setIfInBounds i true) ((d,v)::L) w S2 Q][j:Cj S1 S2 S]:Cd P n l.toArray (SG B I Hs) nd K true (k+1) (m+1) (i::r) Ad L w S Q :=
 ⟨λok s q hh=>by
  obtain⟨h1,h2,h3,h4,h5⟩:=z1 ok (PJ o) O;exact WD.FG (i:=i) (PJ o) h1 h2 h3 (h4 (.inl O)) (hh O) (λw ⟨J,R,hL,hR⟩=>(@a J R hL).h (j.h s).1 (λ_ h=>by cases h) hR) lt.h (c.h h5 (j.h s).2 q hh)⟩
class Gd1(ops:Array Oper)(j:Nat)(L:AK)(b:outParam Bool):Prop where h:∃t,(ops[j]?).bind (·.dst)=some t/\look L t=some (.bool b)
instance {j t:Nat}{b:Bool}[a:Is (IB l j) t][e:HS L (.tmp t) (.bool b)]:Gd1 l.toArray j L b:=⟨t,by have:=a.h;rw[Xkn]at this;simpa using this,e.h⟩
instance {r:List Nat}{j':Nat}{b:Bool}[o:Is (Fu l i) ⟨some d,op,ty,pos,af,some (j',want)⟩][e:Ff (JJ op)][g:Gd1 l.toArray j' L b][a:∀J R [Le I J],V1 P L [(b,want)] B J (bD Hs R) op S1 v][gs:Gs [(b,want)] S1 S3][lt:Lt d n][c:Cd P n l.toArray (SG B I Hs) nd K true k m r (Ad.setIfInBounds i true) ((d,gd b want v)::L) w S2 Q][j:Cj S3 S2 S]:Cd P n l.toArray (SG B I Hs) nd K true (k+1) (m+1) (i::r) Ad L w S Q :=
 ⟨λok s q hh=>by
  obtain⟨h1,h2,h3,h4,h5⟩:=z1 ok (PJ o) e.h;obtain⟨t,g1,g2⟩:=g.h;have gok:b=want->pz [(b,want)]:=λh p hp=>by simp at hp;subst hp;exact h
  exact WD.DS (i:=i) (PJ o) h1 h2 h3 (h4 (.inr O)) (hh O) g1 g2 (λh w ⟨J,R,hL,hR⟩=>(@a J R hL).h (gs.h (j.h s).1 (gok h)) (gok h) hR) lt.h (c.h h5 (j.h s).2 q hh)⟩
instance {r:List Nat}[a:Is (Fu l i) o][e:Tt (JJ o.op)][c:Ch P n l.toArray (HZ (iP P n l.toArray SP nd K i m r Ad w) (Td K)) (k+1) [o] L w S Q]:Cd P n l.toArray SP nd K hold (k+1) (m+1) (i::r) Ad L w S Q :=
 ⟨λok s q=>Br.eff ok (PJ a) e.h (c.h s q)⟩
instance [c:Cd P n ops SP nd K hold (k+1) m pl Ad L w S1 Q][j:Cj (Kr (J_ ops nd m pl Ad)) S1 S]:Ws (k+1) (Br P n ops SP nd K hold m pl Ad L w) S Q:=⟨λs q=>c.h (j.h s).1.h (j.h s).2 q⟩
instance [r:BR (K .normal L w) q]:Ws 0 (Br P n ops SP nd K hold 0 [] Ad L w) (Kr (J_ ops nd 0 [] Ad)) q:=⟨λs h _=>WD.done (by have:=s.h;unfold J_ at this;simpa using this) (r.h h)⟩
instance :Ws 0 (Br P n ops SP nd K hold (m+1) pl Ad L w) True (Br P n ops SP nd K hold (m+1) pl Ad L w):=⟨λ_=>id⟩
instance {n':Nat}{l':List Oper}[r:BR (K .normal L w) (WL P n' GJ K' l' L' w)][a:Ch P n' GJ K' (k+1) l' L' w S1 Q][j:Cj (Kr (J_ ops nd 0 [] Ad)) S1 S]:Ws (k+1) (Br P n ops SP nd K hold 0 [] Ad L w) S Q:=⟨λs q _=>WD.done (by have:=(j.h s).1.h;unfold J_ at this;simpa using this) (r.h (a.h (j.h s).2 q))⟩
instance [f:Tt (nd i)][hS:Aa B w J As][le:zD I J][hd:HdA Hs As][c:Ws k (Br P n ops (SG B I Hs) nd K true m pl (Ad.setIfInBounds i true) L w) S Q]:Ws k (iP P n ops (SG B I Hs) nd K i m pl Ad w0 L w) S Q :=
 ⟨λs q=>⟨λ_ _=>hd.h.sat le hS,c.h s q λ_=>hd.h.sat le hS⟩⟩
instance [f:Ff (nd i)][c:Ws k (Br P n ops SP nd K false m pl (Ad.setIfInBounds i true) L w) S Q]:Ws k (iP P n ops SP nd K i m pl Ad w0 L w) S Q:=⟨λs q=>⟨λh=>(by rw[f.h]at h;cases h),c.h s q (by intro h;cases h)⟩⟩
instance {n':Nat}{K0:BK}[c:Ws k (iP P n ops SP nd K i m pl Ad w0 L w) S Q]:Ws k (WL P n' GJ (HZ (iP P n ops SP nd K i m pl Ad w0) K0) [] L w) S Q:=⟨λs q=>.nil (c.h s q)⟩
theorem gD(ks off pl:List Nat){id:Nat}[hS:Aa B w I As][a:Hd As ks Hs][b:ZU l m](h:∀w,Aa B w I As->Br P n l.toArray (SG B I Hs) (ndR off) K true m pl (Array.replicate m false) L w)(hm:P.follows .mixedOrders=true:=by kernel_rfl):WC P n (.region id l.toArray true) K L w :=
 WC.drawn (SG B I Hs) (ndR off) hm (by
  have h9:=h _ hS.drew λ_=>a.h.sat ⟨.refl I⟩ hS.drew
  rw[<-b.h]at h9;simpa using h9)
theorem Br.dn(h:K .normal L w)(ok:Kr (J_ ops nd 0 [] Ad):=by exact⟨by kernel_rfl⟩):Br P n ops SP nd K hold 0 [] Ad L w:=λ_=>WD.done (by have:=ok.h;unfold J_ at this;simpa using this) h
theorem gF{g S1 S2 S3 Q0 R0:Prop}{f:(Va->Wo->Prop)->Prop}{mm:Va->Wo->Prop}(k:Nat)[a:Ws k g S1 Q0][b:BR Q0 R0][c:Cl R0 S2 f mm][j:Cj S1 S2 S3]{w1:Wo}{T:La->La}{R:La}{X:La->Va->Wo->Prop}(hc:∀R,Aa B w1 I (T R)->f (X R))[hS:Aa B w1 I As][e:wN As T R]
  (q:∀v w',X R v w'->mm v w') (s:Sd S3:=by exact sd):g:=a.h (j.h s.h).1 (b.h (c.h (j.h s.h).2 (X R) (hc R (e.h.sat hS)) q))
theorem gE{g S1 S2 S3 Q0 R0:Prop}{f:(Va->Wo->Prop)->Prop}{mm:Va->Wo->Prop}(k:Nat)[a:Ws k g S1 Q0][b:BR Q0 R0][c:Cl R0 S2 f mm][j:Cj S1 S2 S3]{w1 B2:Wo}{I2:Im}{E:Va}{T T2:La->La}{R:La}(hc:∀R,Aa B w1 I (T R)->f (λv w'=>v=E/\Aa B2 w' I2 (T2 R)))[hS:Aa B w1 I As][e:wN As T R]
  (q:∀w',Aa B2 w' I2 (T2 R)->mm E w') (s:Sd S3:=by exact sd):g:=a.h (j.h s.h).1 (b.h (c.h (j.h s.h).2 _ (hc R (e.h.sat hS)) λv w' h=>by obtain⟨rfl,h⟩:=h;exact q w' h))
theorem gP{g S1 S2 S3 Q0 R0:Prop}{f:(Va->Wo->Prop)->Prop}{mm:Va->Wo->Prop}(k:Nat)(ks:List Nat)[a:Ws k g S1 Q0][b:BR Q0 R0][c:Cl R0 S2 f mm][j:Cj S1 S2 S3]{w1:Wo}{X:Va->Wo->Prop}[hS:Aa B w1 I As][e:Pk As ks BT](hc:Aa B w1 I BT->f X)
  (q:∀v w',X v w'->mm v w') (s:Sd S3:=by exact sd):g:=a.h (j.h s.h).1 (b.h (c.h (j.h s.h).2 X (hc (e.h.sat hS)) q))
class jV(As:La)(Hs R:outParam La):Prop where h:As=bD Hs R
instance {As Hs R:La}[a:jV As Hs R]:jV (A::As) (A::Hs) R:=⟨by rw[a.h]⟩
instance (priority:=low){As:La}:jV As [] As:=⟨O⟩
@[reducible] def rgR:Nat->List Nat->List Nat
 | 0,l=>l
 | n+1,l=>rgR n (n::l)
class Eqn(a:List Nat)(b:outParam (List Nat)):Prop where h:a=b
instance:Eqn [] []:=⟨O⟩
instance {x:Nat}{l r:List Nat}[a:Eqn l r]:Eqn (x::l) (x::r):=⟨by rw[a.h]⟩
theorem gQ{id:Nat}[hS:Aa B w I As][a:jV As Hs BT][b:ZU l m][c:Eqn (rgR m []) pl](h:∀w,Aa B w I As->Br P n l.toArray (SG B I Hs) (ndR []) K true m pl (Array.replicate m false) L w)(hm:P.follows .mixedOrders=true:=by kernel_rfl):WC P n (.region id l.toArray true) K L w :=
 have sp:∀w,Aa B w I As->SG B I Hs w:=λw hS=>⟨I,BT,.refl I,a.h▸hS⟩
 WC.drawn (SG B I Hs) (ndR []) hm (by
  have h9:=h _ hS.drew λ_=>sp _ hS.drew
  rw[<-b.h]at h9;simpa using h9)
theorem gB(i j:Nat)(p q:List Nat){o o':Oper}[a:Is (Fu l i) o][b:Is (Fu l j) o'](h1:WL P n l.toArray (HZ (iP P n l.toArray SP nd K i m p Ad w) (Td K)) [o] L w)(h2:WL P n l.toArray (HZ (iP P n l.toArray SP nd K j m q Ad w) (Td K)) [o'] L w)
  (ok:Region.ready .any l.toArray Ad=[i,j]:=by kernel_rfl):Br P n l.toArray SP nd K hold (m+1) [] Ad L w:=λ_=>WD.branch [i,j] ok O (WO.cons (PJ a) h1 (WO.cons (PJ b) h2 WO.nil))
instance {r:List Nat}{f:Nat}{xs:List Operand}[a:Is (Fu l i) ⟨some d,.call ⟨.value (.func f),xs.toArray,ts⟩,ty,pos,af,none⟩][hf:Fn P f][hx:T0 [] L xs vs][lt:Lt d n]:
  Cl (Br P n l.toArray SP nd K hold (m+1) (i::r) Ad L w) (Kr (J_ l.toArray nd (m+1) (i::r) Ad)) (λR=>Calls P f vs.toArray w (A4 R)) (λv w'=>iP P n l.toArray SP nd K i m r Ad w ((d,v)::L) w') :=
 ⟨λok R h1 h2=>by
  obtain⟨fn,h3,h4⟩:=hf.h;refine Br.eff ok.h (PJ a) O ?_;exact .call h3 h4 (hx.h (λ_ h=>by cases h) n) lt.h h1 λv w' hv=>.nil (h2 v w' hv)⟩
end
end Gk
section
open Go Go.Proofs Gk
abbrev Cz(f : FuncId)(l : Lv)(w : Wo)(Q : Va->Wo->Prop): Prop := Calls Tryz.prog f l.toArray w (A4 Q)
abbrev Ce(B : Wo)(I : Im)(As : La)(f : FuncId)(l : Lv)(w : Wo)(E : Va): Prop := Cz f l w λv w' => v = E/\Aa B w' I As
theorem Cz.mono{l : Lv}{Q : Va->Wo->Prop}(h : Cz f l w Q)(k : ∀e w', A4 Q e w'->R e w'): Calls Tryz.prog f l.toArray w R := Calls.mono h k
end
section
open Go.Proofs
abbrev MF:=@Tryz.func150
abbrev MG:=@Tryz.func168
abbrev MH:=@Tryz.func214
abbrev MI:=@Tryz.func246
abbrev Hh:=@Tryz.func333
abbrev Ii:=@Tryz.func334
abbrev Ij:=@Tryz.func335
abbrev Ik:=@Tryz.func409
abbrev Hi:=@Tryz.func410
abbrev MJ:=@Tryz.func436
abbrev kh:=@Tryz.isAgg0
abbrev PE:=@Tryz.isAgg136
abbrev Je:=@Tryz.isAgg138
abbrev ML:=@Tryz.isAgg148
abbrev kT:=@Tryz.isAgg164
abbrev QT:=@Tryz.isAgg170
abbrev UI:=@Tryz.isAgg172
abbrev kU:=@Tryz.isAgg180
abbrev kV:=@Tryz.isAgg188
abbrev MM:=@Tryz.isAgg21
abbrev QU:=@Tryz.isAgg248
abbrev xX:=@Tryz.isAgg250
abbrev xY:=@Tryz.isAgg260
abbrev QV:=@Tryz.isAgg270
abbrev Cv:=@Tryz.isAgg3
abbrev Ud:=@Tryz.isAgg30
abbrev Ue:=@Tryz.isAgg34
abbrev I8:=@Tryz.isAgg4
abbrev xZ:=@Tryz.isAgg406
abbrev MN:=@Tryz.isAgg428
abbrev sF:=@Tryz.isAgg437
abbrev QW:=@Tryz.isAgg455
abbrev Lc:=@Tryz.isAgg46
abbrev Il:=@Tryz.isAgg48
abbrev HT:=@Tryz.isAgg5
abbrev QX:=@Tryz.isAgg506
abbrev QY:=@Tryz.isAgg528
abbrev QZ:=@Tryz.isAgg530
abbrev Q1:=@Tryz.isAgg531
abbrev H0:=@Tryz.isAgg58
abbrev Z0:=@Tryz.isAgg69
abbrev Uf:=@Tryz.isAgg71
abbrev Jy:=@Tryz.isAgg73
abbrev BF:=@Tryz.isAgg9
abbrev Z1:=@Tryz.isAgg94
abbrev x6:=@Tryz.results283
abbrev ki:=@Tryz.sizeOf0
abbrev x7:=@Tryz.sizeOf136
abbrev Gb:=@Tryz.sizeOf138
abbrev MO:=@Tryz.sizeOf148
abbrev Jf:=@Tryz.sizeOf172
abbrev kW:=@Tryz.sizeOf180
abbrev UJ:=@Tryz.sizeOf188
abbrev kj:=@Tryz.sizeOf20
abbrev MP:=@Tryz.sizeOf21
abbrev US:=@Tryz.sizeOf22
abbrev MQ:=@Tryz.sizeOf239
abbrev sG:=@Tryz.sizeOf243
abbrev x8:=@Tryz.sizeOf248
abbrev Mi:=@Tryz.sizeOf260
abbrev Ug:=@Tryz.sizeOf27
abbrev x_:=@Tryz.sizeOf270
abbrev Uh:=@Tryz.sizeOf29
abbrev BU:=@Tryz.sizeOf3
abbrev KX:=@Tryz.sizeOf30
abbrev kl:=@Tryz.sizeOf32
abbrev Q2:=@Tryz.sizeOf329
abbrev ql:=@Tryz.sizeOf358
abbrev qm:=@Tryz.sizeOf360
abbrev EY:=@Tryz.sizeOf4
abbrev Z3:=@Tryz.sizeOf40
abbrev ya:=@Tryz.sizeOf406
abbrev sH:=@Tryz.sizeOf437
abbrev Q3:=@Tryz.sizeOf455
abbrev JE:=@Tryz.sizeOf46
abbrev Zl:=@Tryz.sizeOf48
abbrev Q4:=@Tryz.sizeOf497
abbrev FJ:=@Tryz.sizeOf5
abbrev Q5:=@Tryz.sizeOf506
abbrev Q6:=@Tryz.sizeOf528
abbrev Q7:=@Tryz.sizeOf530
abbrev Q8:=@Tryz.sizeOf531
abbrev DU:=@Tryz.sizeOf58
abbrev Po:=@Tryz.sizeOf69
abbrev KY:=@Tryz.sizeOf71
abbrev Jz:=@Tryz.sizeOf73
abbrev Z4:=@Tryz.sizeOf75
abbrev Z5:=@Tryz.sizeOf81
abbrev Z6:=@Tryz.sizeOf89
abbrev Bf:=@Tryz.sizeOf9
abbrev Uj:=@Tryz.sizeOf94
abbrev km:=@Tryz.underlying0
abbrev aU:=@Tryz.underlying101
abbrev Z7:=@Tryz.underlying104
abbrev MR:=@Tryz.underlying105
abbrev yb:=@Tryz.underlying107
abbrev qp:=@Tryz.underlying118
abbrev aV:=@Tryz.underlying124
abbrev jg:=@Tryz.underlying131
abbrev MS:=@Tryz.underlying136
abbrev GX:=@Tryz.underlying138
abbrev sI:=@Tryz.underlying148
abbrev MT:=@Tryz.underlying167
abbrev Z8:=@Tryz.underlying169
abbrev MU:=@Tryz.underlying170
abbrev Db:=@Tryz.underlying172
abbrev Q9:=@Tryz.underlying173
abbrev kX:=@Tryz.underlying180
abbrev Z9:=@Tryz.underlying186
abbrev Iq:=@Tryz.underlying188
abbrev Q_:=@Tryz.underlying198
abbrev Z_:=@Tryz.underlying199
abbrev ku:=@Tryz.underlying20
abbrev KZ:=@Tryz.underlying21
abbrev ae:=@Tryz.underlying22
abbrev ag:=@Tryz.underlying226
abbrev JA:=@Tryz.underlying23
abbrev MV:=@Tryz.underlying239
abbrev MW:=@Tryz.underlying240
abbrev MX:=@Tryz.underlying243
abbrev MY:=@Tryz.underlying247
abbrev sJ:=@Tryz.underlying248
abbrev Ra:=@Tryz.underlying250
abbrev Rb:=@Tryz.underlying252
abbrev qs:=@Tryz.underlying260
abbrev Za:=@Tryz.underlying262
abbrev Uk:=@Tryz.underlying27
abbrev yc:=@Tryz.underlying270
abbrev qv:=@Tryz.underlying286
abbrev Um:=@Tryz.underlying29
abbrev sK:=@Tryz.underlying295
abbrev Dq:=@Tryz.underlying3
abbrev MZ:=@Tryz.underlying310
abbrev K6:=@Tryz.underlying32
abbrev yd:=@Tryz.underlying329
abbrev qw:=@Tryz.underlying331
abbrev M0:=@Tryz.underlying34
abbrev ah:=@Tryz.underlying360
abbrev sL:=@Tryz.underlying394
abbrev OE:=@Tryz.underlying4
abbrev M1:=@Tryz.underlying403
abbrev Rc:=@Tryz.underlying406
abbrev Re:=@Tryz.underlying420
abbrev Rf:=@Tryz.underlying421
abbrev M4:=@Tryz.underlying423
abbrev Rg:=@Tryz.underlying431
abbrev aj:=@Tryz.underlying434
abbrev OS:=@Tryz.underlying437
abbrev ky:=@Tryz.underlying45
abbrev ye:=@Tryz.underlying452
abbrev Rh:=@Tryz.underlying455
abbrev H2:=@Tryz.underlying46
abbrev kA:=@Tryz.underlying48
abbrev qx:=@Tryz.underlying482
abbrev Ri:=@Tryz.underlying489
abbrev Rj:=@Tryz.underlying492
abbrev Rl:=@Tryz.underlying497
abbrev CY:=@Tryz.underlying5
abbrev Rm:=@Tryz.underlying506
abbrev ak:=@Tryz.underlying512
abbrev Pp:=@Tryz.underlying52
abbrev Rn:=@Tryz.underlying528
abbrev Ro:=@Tryz.underlying530
abbrev Rp:=@Tryz.underlying531
abbrev PI:=@Tryz.underlying58
abbrev kB:=@Tryz.underlying63
abbrev Uo:=@Tryz.underlying66
abbrev OX:=@Tryz.underlying69
abbrev K7:=@Tryz.underlying71
abbrev Ps:=@Tryz.underlying73
abbrev Up:=@Tryz.underlying84
abbrev Uq:=@Tryz.underlying89
abbrev BV:=@Tryz.underlying9
abbrev kC:=@Tryz.underlying93
abbrev kD:=@Tryz.zeroValue0
abbrev an:=@Tryz.zeroValue118
abbrev aq:=@Tryz.zeroValue148
abbrev M5:=@Tryz.zeroValue172
abbrev kY:=@Tryz.zeroValue180
abbrev au:=@Tryz.zeroValue188
abbrev aw:=@Tryz.zeroValue198
abbrev ax:=@Tryz.zeroValue199
abbrev kE:=@Tryz.zeroValue20
abbrev M6:=@Tryz.zeroValue21
abbrev rV:=@Tryz.zeroValue22
abbrev ay:=@Tryz.zeroValue243
abbrev M7:=@Tryz.zeroValue3
abbrev aA:=@Tryz.zeroValue331
abbrev M8:=@Tryz.zeroValue360
abbrev Pu:=@Tryz.zeroValue4
abbrev aB:=@Tryz.zeroValue421
abbrev yf:=@Tryz.zeroValue437
abbrev Rr:=@Tryz.zeroValue455
abbrev OG:=@Tryz.zeroValue5
abbrev Rs:=@Tryz.zeroValue506
abbrev Rt:=@Tryz.zeroValue530
abbrev Ru:=@Tryz.zeroValue531
abbrev aC:=@Tryz.zeroValue69
abbrev aD:=@Tryz.zeroValue73
abbrev K8:=@Tryz.zeroValue9
end
namespace Go.Proofs.W9
open Gk Go
open Tryz
instance:Ag prog 3 false:=⟨Cv⟩
instance:Ag prog 4 false:=⟨I8⟩
instance:Ag prog 5 false:=⟨HT⟩
instance:Ag prog 9 false:=⟨BF⟩
instance:Ag prog 22 false:=⟨isAgg22⟩
instance:Ag prog 25 false:=⟨isAgg25⟩
instance:Ag prog 26 false:=⟨isAgg26⟩
instance:Ag prog 30 false:=⟨Ud⟩
instance:Ag prog 32 true:=⟨isAgg32⟩
instance:Ag prog 34 false:=⟨Ue⟩
instance:Ag prog 40 false:=⟨isAgg40⟩
instance:Ag prog 45 false:=⟨isAgg45⟩
instance:Ag prog 46 false:=⟨Lc⟩
instance:Ag prog 48 true:=⟨Il⟩
instance:Ag prog 52 true:=⟨isAgg52⟩
instance:Ag prog 58 true:=⟨H0⟩
instance:Ag prog 63 false:=⟨isAgg63⟩
instance:Ag prog 66 false:=⟨isAgg66⟩
instance:Ag prog 69 false:=⟨Z0⟩
instance:Ag prog 71 true:=⟨Uf⟩
instance:Ag prog 73 true:=⟨Jy⟩
instance:Ag prog 75 false:=⟨isAgg75⟩
instance:Ag prog 78 false:=⟨isAgg78⟩
instance:Ag prog 81 false:=⟨isAgg81⟩
instance:Ag prog 89 true:=⟨isAgg89⟩
instance:Ag prog 93 false:=⟨isAgg93⟩
instance:Ag prog 94 false:=⟨Z1⟩
instance:Ag prog 97 false:=⟨isAgg97⟩
instance:Ag prog 98 false:=⟨isAgg98⟩
instance:Ag prog 99 false:=⟨isAgg99⟩
instance:Ag prog 103 false:=⟨isAgg103⟩
instance:Ag prog 104 false:=⟨isAgg104⟩
instance:Ag prog 105 false:=⟨isAgg105⟩
instance:Ag prog 118 true:=⟨isAgg118⟩
instance:Ag prog 136 false:=⟨PE⟩
instance:Ag prog 138 true:=⟨Je⟩
instance:Ag prog 148 true:=⟨ML⟩
instance:Ag prog 164 false:=⟨kT⟩
instance:Ag prog 167 false:=⟨isAgg167⟩
instance:Ag prog 172 false:=⟨UI⟩
instance:Ag prog 178 true:=⟨isAgg178⟩
instance:Ag prog 188 true:=⟨kV⟩
instance:Ag prog 239 false:=⟨isAgg239⟩
instance:Ag prog 240 false:=⟨isAgg240⟩
instance:Ag prog 241 false:=⟨isAgg241⟩
instance:Ag prog 243 true:=⟨isAgg243⟩
instance:Ag prog 248 false:=⟨QU⟩
instance:Ag prog 250 false:=⟨xX⟩
instance:Ag prog 260 true:=⟨xY⟩
instance:Ag prog 270 true:=⟨QV⟩
instance:Ag prog 295 true:=⟨isAgg295⟩
instance:Ag prog 310 true:=⟨isAgg310⟩
instance:Ag prog 329 false:=⟨isAgg329⟩
instance:Ag prog 394 true:=⟨isAgg394⟩
instance:Ag prog 403 true:=⟨isAgg403⟩
instance:Ag prog 406 true:=⟨xZ⟩
instance:Ag prog 428 false:=⟨MN⟩
instance:Ag prog 429 false:=⟨isAgg429⟩
instance:Ag prog 520 false:=⟨isAgg520⟩
instance:Bd prog 32 [(0,1),(1,1),(2,21),(23,1),(24,1),(25,1),(26,1),(27,1)] [.slice none 0 0,.slice none 0 0,Ab 0,Ab 0,Ab 0,Ab 0,Ab 0,Ab 0,Ab 0,Ab 0,Ab 0,Ab 0,Ab 0,Ab 0,Ab 0,Ab 0,Ab 0,Ab 0,Ab 0,Ab 0,Ab 0,Ab 0,Ab 0,Ab 0,.float .f64 0,.float .f64 0,.float .f64 0,Ab 0]:=⟨Eu K6 zeroValue32 (λw=>by simp[go_sem])⟩
instance:Bd prog 48 [(0,1),(1,1),(2,1)] [Ab 0,.slice none 0 0,S []]:=⟨Eu kA zeroValue48 (λw=>by simp[go_sem])⟩
instance:Bd prog 52 [(0,1),(1,1)] [S [],S []]:=⟨Eu Pp zeroValue52 (λw=>by simp[go_sem])⟩
instance:Bd prog 58 [(0,1),(1,1)] [S [],S []]:=⟨Eu PI zeroValue58 (λw=>by simp[go_sem])⟩
instance:Bd prog 71 [(0,1),(1,1),(2,1),(3,1),(4,1),(5,1),(6,1),(7,1)] [Ab 0,.float .f64 0,S [],.bool false,.bool false,.bool false,S [],.slice none 0 0]:=⟨Eu K7 zeroValue71 (λw=>by simp[go_sem])⟩
instance:Bd prog 73 [(0,1),(1,1),(2,1)] [S [],S [],.slice none 0 0]:=⟨Eu Ps aD (λw=>by simp[go_sem])⟩
instance:Bd prog 84 [(0,1),(1,1),(2,1)] [.pointer none,.pointer none,.pointer none]:=⟨Eu Up zeroValue84 (λw=>by simp[go_sem])⟩
instance:Bd prog 89 [(0,1),(1,1),(2,1),(3,1)] [S [],S [],Ab 0,Ab 0]:=⟨Eu Uq zeroValue89 (λw=>by simp[go_sem])⟩
instance:Bd prog 101 [(0,1),(1,1),(2,1),(3,1),(4,21),(25,1)] [.pointer none,.pointer none,.pointer none,.pointer none,Ab 0,Ab 0,Ab 0,Ab 0,Ab 0,Ab 0,Ab 0,Ab 0,Ab 0,Ab 0,Ab 0,Ab 0,Ab 0,Ab 0,Ab 0,Ab 0,Ab 0,Ab 0,Ab 0,Ab 0,Ab 0,Ab 0]:=⟨Eu aU zeroValue101 (λw=>by simp[go_sem])⟩
instance:Bd prog 107 [(0,1),(1,1),(2,1),(3,1),(4,1)] [.slice none 0 0,.slice none 0 0,.slice none 0 0,.bool false,Ab 0]:=⟨Eu yb zeroValue107 (λw=>by simp[go_sem])⟩
instance:Bd prog 109 [(0,1)] [.slice none 0 0]:=⟨Eu underlying109 zeroValue109 (λw=>by simp[go_sem])⟩
instance:Bd prog 118 [(0,1),(1,1),(2,1),(3,1)] [S [],S [],.slice none 0 0,S []]:=⟨Eu qp an (λw=>by simp[go_sem])⟩
instance:Bd prog 131 [(0,1),(1,1),(2,1),(3,1),(4,3),(7,1),(8,1)] [.pointer none,.pointer none,.slice none 0 0,S [],Ab 0,.slice none 0 0,S [],S [],.bool false]:=⟨Eu jg zeroValue131 (λw=>by simp[go_sem])⟩
instance:Bd prog 138 [(0,1),(1,1),(2,1),(3,1)] [S [],.slice none 0 0,S [],.slice none 0 0]:=⟨Eu GX zeroValue138 (λw=>by simp[go_sem])⟩
instance:Bd prog 148 [(0,1),(1,1),(2,1),(3,1),(4,1),(5,1)] [S [],S [],S [],Ab 0,.bool false,.bool false]:=⟨Eu sI aq (λw=>by simp[go_sem])⟩
instance:Bd prog 169 [(0,1),(1,1)] [.pointer none,.map none]:=⟨Eu Z8 zeroValue169 (λw=>by simp[go_sem])⟩
instance:Bd prog 178 [(0,1),(1,1),(2,1),(3,1),(4,1)] [Ab 0,.float .f64 0,.float .f64 0,.float .f64 0,.slice none 0 0]:=⟨Eu underlying178 zeroValue178 (λw=>by simp[go_sem])⟩
instance:Bd prog 186 [(0,1),(1,1)] [Ab 0,.slice none 0 0]:=⟨Eu Z9 zeroValue186 (λw=>by simp[go_sem])⟩
instance:Bd prog 188 [(0,1),(1,1),(2,1),(3,1),(4,1),(5,1),(6,1),(7,1),(8,1),(9,1)] [Ab 0,S [],S [],S [],S [],S [],Ab 0,Ab 0,Ab 0,.bool false]:=⟨Eu Iq au (λw=>by simp[go_sem])⟩
instance:Bd prog 193 [(0,1)] [.slice none 0 0]:=⟨Eu underlying193 zeroValue193 (λw=>by simp[go_sem])⟩
instance:Bd prog 204 [(0,1)] [S []]:=⟨Eu underlying204 zeroValue204 (λw=>by simp[go_sem])⟩
instance:Bd prog 226 [(0,1),(1,1)] [S [],Ab 0]:=⟨Eu ag zeroValue226 (λw=>by simp[go_sem])⟩
instance:Bd prog 243 [(0,8),(8,1),(9,1)] [Ab 0,.float .f64 0,S [],.bool false,.bool false,.bool false,S [],.slice none 0 0,.pointer none,.pointer none]:=⟨Eu MX ay (λw=>by simp[go_sem])⟩
instance:Bd prog 247 [(0,1)] [.slice none 0 0]:=⟨Eu MY zeroValue247 (λw=>by simp[go_sem])⟩
instance:Bd prog 252 [(0,1)] [.map none]:=⟨Eu Rb zeroValue252 (λw=>by simp[go_sem])⟩
instance:Bd prog 260 [(0,1),(1,1),(2,1)] [Ab 0,Ab 0,Ab 0]:=⟨Eu qs zeroValue260 (λw=>by simp[go_sem])⟩
instance:Bd prog 262 [(0,1),(1,3),(4,1)] [.pointer none,Ab 0,Ab 0,Ab 0,.slice none 0 0]:=⟨Eu Za zeroValue262 (λw=>by simp[go_sem])⟩
instance:Bd prog 270 [(0,1),(1,1),(2,1)] [S [],S [],.bool false]:=⟨Eu yc zeroValue270 (λw=>by simp[go_sem])⟩
instance:Bd prog 295 [(0,1),(1,1),(2,1),(3,1),(4,1),(5,1)] [S [],S [],.bool false,.bool false,.bool false,.bool false]:=⟨Eu sK zeroValue295 (λw=>by simp[go_sem])⟩
instance:Bd prog 310 [(0,1),(1,1),(2,1),(3,1)] [S [],.slice none 0 0,.slice none 0 0,S []]:=⟨Eu MZ zeroValue310 (λw=>by simp[go_sem])⟩
instance:Bd prog 360 [(0,1),(1,32)] [Ab 0,.int .u8 0,.int .u8 0,.int .u8 0,.int .u8 0,.int .u8 0,.int .u8 0,.int .u8 0,.int .u8 0,.int .u8 0,.int .u8 0,.int .u8 0,.int .u8 0,.int .u8 0,.int .u8 0,.int .u8 0,.int .u8 0,.int .u8 0,.int .u8 0,.int .u8 0,.int .u8 0,.int .u8 0,.int .u8 0,.int .u8 0,.int .u8 0,.int .u8 0,.int .u8 0,.int .u8 0,.int .u8 0,.int .u8 0,.int .u8 0,.int .u8 0,.int .u8 0]:=⟨Eu ah M8 (λw=>by simp[go_sem])⟩
instance:Bd prog 394 [(0,1),(1,1),(2,1),(3,1),(4,1),(5,1)] [S [],S [],Ab 0,S [],S [],.bool false]:=⟨Eu sL zeroValue394 (λw=>by simp[go_sem])⟩
instance:Bd prog 403 [(0,1),(1,1),(2,1),(3,1)] [S [],S [],.bool false,.bool false]:=⟨Eu M1 zeroValue403 (λw=>by simp[go_sem])⟩
instance:Bd prog 406 [(0,1),(1,1),(2,1)] [S [],S [],S []]:=⟨Eu Rc zeroValue406 (λw=>by simp[go_sem])⟩
instance:Bd prog 431 [(0,1),(1,1),(2,1)] [.slice none 0 0,.slice none 0 0,.slice none 0 0]:=⟨Eu Rg zeroValue431 (λw=>by simp[go_sem])⟩
instance:Bd prog 434 [(0,1),(1,1)] [.slice none 0 0,Ab 0]:=⟨Eu aj zeroValue434 (λw=>by simp[go_sem])⟩
instance:Bd prog 497 [(0,1),(1,1),(2,1)] [.int .u8 0,.int .u8 0,.slice none 0 0]:=⟨Eu Rl zeroValue497 (λw=>by simp[go_sem])⟩
abbrev i3:=fb func3 ntmps3 results3
abbrev i4:=fb func4 ntmps4 results4
abbrev i5:=fb func5 ntmps5 results5
abbrev i6:=fb func6 ntmps6 results6
abbrev i7:=fb func7 ntmps7 results7
abbrev i8:=fb func8 ntmps8 results8
abbrev i9:=fb func9 ntmps9 results9
abbrev i10:=fb func10 ntmps10 results10
abbrev i11:=fb func11 ntmps11 results11
abbrev i12:=fb func12 ntmps12 results12
abbrev i13:=fb func13 ntmps13 results13
abbrev i14:=fb func14 ntmps14 results14
abbrev i15:=fb func15 ntmps15 results15
abbrev i16:=fb func16 ntmps16 results16
abbrev i17:=fb func17 ntmps17 results17
abbrev i18:=fb func18 ntmps18 results18
abbrev i19:=fb func19 ntmps19 results19
abbrev i20:=fb func20 ntmps20 results20
abbrev i21:=fb func21 ntmps21 results21
abbrev i22:=fb func22 ntmps22 results22
abbrev i23:=fb func23 ntmps23 results23
abbrev i24:=fb func24 ntmps24 results24
abbrev i25:=fb func25 ntmps25 results25
abbrev i26:=fb func26 ntmps26 results26
abbrev i28:=fb func28 ntmps28 results28
abbrev i29:=fb func29 ntmps29 results29
abbrev i30:=fb func30 ntmps30 results30
abbrev i31:=fb func31 ntmps31 results31
abbrev i32:=fb func32 ntmps32 results32
abbrev i33:=fb func33 ntmps33 results33
abbrev i34:=fb func34 ntmps34 results34
abbrev i35:=fb func35 ntmps35 results35
abbrev i36:=fb func36 ntmps36 results36
abbrev i37:=fb func37 ntmps37 results37
abbrev i38:=fb func38 ntmps38 results38
abbrev i39:=fb func39 ntmps39 results39
abbrev i40:=fb func40 ntmps40 results40
abbrev i41:=fb func41 ntmps41 results41
abbrev i42:=fb func42 ntmps42 results42
abbrev i43:=fb func43 ntmps43 results43
abbrev i44:=fb func44 ntmps44 results44
abbrev i45:=fb func45 ntmps45 results45
abbrev i46:=fb func46 ntmps46 results46
abbrev i47:=fb func47 ntmps47 results47
abbrev i48:=fb func48 ntmps48 results48
abbrev i49:=fb func49 ntmps49 results49
abbrev i50:=fb func50 ntmps50 results50
abbrev i51:=fb func51 ntmps51 results51
abbrev i52:=fb func52 ntmps52 results52
abbrev i53:=fb func53 ntmps53 results53
abbrev i54:=fb func54 ntmps54 results54
abbrev i55:=fb func55 ntmps55 results55
abbrev i56:=fb func56 ntmps56 results56
abbrev i57:=fb func57 ntmps57 results57
abbrev i58:=fb func58 ntmps58 results58
abbrev i59:=fb func59 ntmps59 results59
abbrev i60:=fb func60 ntmps60 results60
abbrev i61:=fb func61 ntmps61 results61
abbrev i62:=fb func62 ntmps62 results62
abbrev i64:=fb func64 ntmps64 results64
abbrev i65:=fb func65 ntmps65 results65
abbrev i66:=fb func66 ntmps66 results66
abbrev i67:=fb func67 ntmps67 results67
abbrev i68:=fb func68 ntmps68 results68
abbrev i69:=fb func69 ntmps69 results69
abbrev i70:=fb func70 ntmps70 results70
abbrev i72:=fb func72 ntmps72 results72
abbrev i73:=fb func73 ntmps73 results73
abbrev i75:=fb func75 ntmps75 results75
abbrev i76:=fb func76 ntmps76 results76
abbrev i77:=fb func77 ntmps77 results77
abbrev i78:=fb func78 ntmps78 results78
abbrev i79:=fb func79 ntmps79 results79
abbrev i81:=fb func81 ntmps81 results81
abbrev i82:=fb func82 ntmps82 results82
abbrev i83:=fb func83 ntmps83 results83
abbrev i84:=fb func84 ntmps84 results84
abbrev i85:=fb func85 ntmps85 results85
abbrev i86:=fb func86 ntmps86 results86
abbrev i87:=fb func87 ntmps87 results87
abbrev i88:=fb func88 ntmps88 results88
abbrev i89:=fb func89 ntmps89 results89
abbrev i90:=fb func90 ntmps90 results90
abbrev i91:=fb func91 ntmps91 results91
abbrev i92:=fb func92 ntmps92 results92
abbrev i93:=fb func93 ntmps93 results93
abbrev i94:=fb func94 ntmps94 results94
abbrev i95:=fb func95 ntmps95 results95
abbrev i96:=fb func96 ntmps96 results96
abbrev i97:=fb func97 ntmps97 results97
abbrev i98:=fb func98 ntmps98 results98
abbrev i99:=fb func99 ntmps99 results99
abbrev AdD:=fb func100 ntmps100 results100
abbrev AdE:=fb func101 ntmps101 results101
abbrev AdF:=fb func102 ntmps102 results102
abbrev AdG:=fb func103 ntmps103 results103
abbrev AdH:=fb func104 ntmps104 results104
abbrev i105:=fb func105 ntmps105 results105
abbrev AdI:=fb func106 ntmps106 results106
abbrev i107:=fb func107 ntmps107 results107
abbrev AdJ:=fb func108 ntmps108 results108
abbrev i109:=fb func109 ntmps109 results109
abbrev AdK:=fb func110 ntmps110 results110
abbrev AdL:=fb func111 ntmps111 results111
abbrev AdM:=fb func112 ntmps112 results112
abbrev AdN:=fb func113 ntmps113 results113
abbrev AdO:=fb func114 ntmps114 results114
abbrev AdP:=fb func115 ntmps115 results115
abbrev AdQ:=fb func116 ntmps116 results116
abbrev i117:=fb func117 ntmps117 results117
abbrev AdR:=fb func118 ntmps118 results118
abbrev AdS:=fb func119 ntmps119 results119
abbrev AdT:=fb func120 ntmps120 results120
abbrev AdU:=fb func121 ntmps121 results121
abbrev AdV:=fb func122 ntmps122 results122
abbrev AdW:=fb func123 ntmps123 results123
abbrev i124:=fb func124 ntmps124 results124
abbrev AdX:=fb func125 ntmps125 results125
abbrev AdY:=fb func126 ntmps126 results126
abbrev i127:=fb func127 ntmps127 results127
abbrev AdZ:=fb func128 ntmps128 results128
abbrev Ad0:=fb func129 ntmps129 results129
abbrev i130:=fb func130 ntmps130 results130
abbrev i131:=fb func131 ntmps131 results131
abbrev Ad1:=fb func132 ntmps132 results132
abbrev Ad2:=fb func134 ntmps134 results134
abbrev Ad3:=fb func135 ntmps135 results135
abbrev Ad4:=fb func136 ntmps136 results136
abbrev Ad5:=fb func137 ntmps137 results137
abbrev i138:=fb func138 ntmps138 results138
abbrev i139:=fb func139 ntmps139 results139
abbrev Ad6:=fb func140 ntmps140 results140
abbrev i141:=fb func141 ntmps141 results141
abbrev Ad7:=fb func142 ntmps142 results142
abbrev i143:=fb func143 ntmps143 results143
abbrev Ad8:=fb func144 ntmps144 results144
abbrev i145:=fb func145 ntmps145 results145
abbrev i146:=fb func146 ntmps146 results146
abbrev Ad9:=fb func147 ntmps147 results147
abbrev Ad_:=fb func149 ntmps149 results149
abbrev Aea:=fb MF ntmps150 results150
abbrev Aeb:=fb func151 ntmps151 results151
abbrev i154:=fb func154 ntmps154 results154
abbrev Aec:=fb func155 ntmps155 results155
abbrev Aed:=fb func156 ntmps156 results156
abbrev i157:=fb func157 ntmps157 results157
abbrev i159:=fb func159 ntmps159 results159
abbrev i160:=fb func160 ntmps160 results160
abbrev Aee:=fb func161 ntmps161 results161
abbrev i167:=fb func167 ntmps167 results167
abbrev i168:=fb MG ntmps168 results168
abbrev Aef:=fb func169 ntmps169 results169
abbrev Aeg:=fb func170 ntmps170 results170
abbrev i171:=fb func171 ntmps171 results171
abbrev Aeh:=fb func172 ntmps172 results172
abbrev i173:=fb func173 ntmps173 results173
abbrev Aei:=fb func174 ntmps174 results174
abbrev i175:=fb func175 ntmps175 results175
abbrev Aej:=fb func176 ntmps176 results176
abbrev Aek:=fb func177 ntmps177 results177
abbrev Ael:=fb func178 ntmps178 results178
abbrev Aem:=fb func179 ntmps179 results179
abbrev Aen:=fb func180 ntmps180 results180
abbrev Aeo:=fb func181 ntmps181 results181
abbrev i182:=fb func182 ntmps182 results182
abbrev i183:=fb func183 ntmps183 results183
abbrev Aep:=fb func184 ntmps184 results184
abbrev Aeq:=fb func185 ntmps185 results185
abbrev Aer:=fb func186 ntmps186 results186
abbrev Aes:=fb func187 ntmps187 results187
abbrev Aet:=fb func188 ntmps188 results188
abbrev Aeu:=fb func189 ntmps189 results189
abbrev Aev:=fb func190 ntmps190 results190
abbrev Aew:=fb func191 ntmps191 results191
abbrev Aex:=fb func192 ntmps192 results192
abbrev i193:=fb func193 ntmps193 results193
abbrev i194:=fb func194 ntmps194 results194
abbrev Aey:=fb func195 ntmps195 results195
abbrev i196:=fb func196 ntmps196 results196
abbrev Aez:=fb func197 ntmps197 results197
abbrev AeA:=fb func199 ntmps199 results199
abbrev AeB:=fb func200 ntmps200 results200
abbrev i201:=fb func201 ntmps201 results201
abbrev AeC:=fb func202 ntmps202 results202
abbrev AeD:=fb func204 ntmps204 results204
abbrev AeE:=fb func205 ntmps205 results205
abbrev i206:=fb func206 ntmps206 results206
abbrev AeF:=fb func207 ntmps207 results207
abbrev i208:=fb func208 ntmps208 results208
abbrev AeG:=fb func209 ntmps209 results209
abbrev i210:=fb func210 ntmps210 results210
abbrev AeH:=fb func211 ntmps211 results211
abbrev AeI:=fb func213 ntmps213 results213
abbrev AeJ:=fb MH ntmps214 results214
abbrev AeK:=fb func215 ntmps215 results215
abbrev AeL:=fb func216 ntmps216 results216
abbrev AeM:=fb func217 ntmps217 results217
abbrev i218:=fb func218 ntmps218 results218
abbrev AeN:=fb func219 ntmps219 results219
abbrev AeO:=fb func220 ntmps220 results220
abbrev i222:=fb func222 ntmps222 results222
abbrev AeP:=fb func223 ntmps223 results223
abbrev AeQ:=fb func224 ntmps224 results224
abbrev AeR:=fb func225 ntmps225 results225
abbrev i226:=fb func226 ntmps226 results226
abbrev i227:=fb func227 ntmps227 results227
abbrev i228:=fb func228 ntmps228 results228
abbrev i229:=fb func229 ntmps229 results229
abbrev AeS:=fb func230 ntmps230 results230
abbrev AeT:=fb func231 ntmps231 results231
abbrev i232:=fb func232 ntmps232 results232
abbrev i233:=fb func233 ntmps233 results233
abbrev i234:=fb func234 ntmps234 results234
abbrev AeU:=fb func235 ntmps235 results235
abbrev i236:=fb func236 ntmps236 results236
abbrev AeV:=fb func237 ntmps237 results237
abbrev AeW:=fb func238 ntmps238 results238
abbrev AeX:=fb func239 ntmps239 results239
abbrev AeY:=fb func245 ntmps245 results245
abbrev AeZ:=fb MI ntmps246 results246
abbrev Ae0:=fb func247 ntmps247 results247
abbrev Ae1:=fb func248 ntmps248 results248
abbrev Ae2:=fb func249 ntmps249 results249
abbrev Ae3:=fb func260 ntmps260 results260
abbrev Ae4:=fb func261 ntmps261 results261
abbrev Ae5:=fb func269 ntmps269 results269
abbrev Ae6:=fb func270 ntmps270 results270
abbrev Ae7:=fb func271 ntmps271 results271
abbrev Ae8:=fb func272 ntmps272 results272
abbrev Ae9:=fb func273 ntmps273 results273
abbrev Ae_:=fb func274 ntmps274 results274
abbrev Afa:=fb func275 ntmps275 results275
abbrev Afb:=fb func276 ntmps276 results276
abbrev Afc:=fb func277 ntmps277 results277
abbrev Afd:=fb func278 ntmps278 results278
abbrev Afe:=fb func279 ntmps279 results279
abbrev Aff:=fb func280 ntmps280 results280
abbrev Afg:=fb func281 ntmps281 results281
abbrev Afh:=fb func282 ntmps282 results282
abbrev Afi:=fb func283 ntmps283 x6
abbrev Afj:=fb func284 ntmps284 results284
abbrev Afk:=fb func285 ntmps285 results285
abbrev Afl:=fb func286 ntmps286 results286
abbrev Afm:=fb func287 ntmps287 results287
abbrev Afn:=fb func288 ntmps288 results288
abbrev Afo:=fb func290 ntmps290 results290
abbrev Afp:=fb func291 ntmps291 results291
abbrev Afq:=fb func292 ntmps292 results292
abbrev Afr:=fb func293 ntmps293 results293
abbrev Afs:=fb func294 ntmps294 results294
abbrev Aft:=fb func295 ntmps295 results295
abbrev Afu:=fb func296 ntmps296 results296
abbrev Afv:=fb func297 ntmps297 results297
abbrev Afw:=fb func299 ntmps299 results299
abbrev Afx:=fb func300 ntmps300 results300
abbrev Afy:=fb func301 ntmps301 results301
abbrev Afz:=fb func302 ntmps302 results302
abbrev AfA:=fb func303 ntmps303 results303
abbrev AfB:=fb func304 ntmps304 results304
abbrev AfC:=fb func305 ntmps305 results305
abbrev AfD:=fb func306 ntmps306 results306
abbrev AfE:=fb func307 ntmps307 results307
abbrev AfF:=fb func308 ntmps308 results308
abbrev AfG:=fb func309 ntmps309 results309
abbrev AfH:=fb func310 ntmps310 results310
abbrev AfI:=fb func311 ntmps311 results311
abbrev AfJ:=fb func312 ntmps312 results312
abbrev AfK:=fb func314 ntmps314 results314
abbrev AfL:=fb func315 ntmps315 results315
abbrev AfM:=fb func316 ntmps316 results316
abbrev AfN:=fb func317 ntmps317 results317
abbrev AfO:=fb func318 ntmps318 results318
abbrev AfP:=fb func330 ntmps330 results330
abbrev AfQ:=fb func331 ntmps331 results331
abbrev AfR:=fb func332 ntmps332 results332
abbrev AfS:=fb func347 ntmps347 results347
abbrev AfT:=fb func348 ntmps348 results348
abbrev AfU:=fb func352 ntmps352 results352
abbrev AfV:=fb func353 ntmps353 results353
abbrev AfW:=fb func354 ntmps354 results354
abbrev AfX:=fb func355 ntmps355 results355
abbrev AfY:=fb func356 ntmps356 results356
abbrev AfZ:=fb func357 ntmps357 results357
abbrev Af0:=fb func358 ntmps358 results358
abbrev Af1:=fb func359 ntmps359 results359
abbrev Af2:=fb func360 ntmps360 results360
abbrev Af3:=fb func361 ntmps361 results361
abbrev Af4:=fb func362 ntmps362 results362
abbrev Af5:=fb func363 ntmps363 results363
abbrev Af6:=fb func364 ntmps364 results364
abbrev Af7:=fb func365 ntmps365 results365
abbrev Af8:=fb func366 ntmps366 results366
abbrev Af9:=fb func367 ntmps367 results367
abbrev Af_:=fb func368 ntmps368 results368
abbrev Aga:=fb func369 ntmps369 results369
abbrev Agb:=fb func370 ntmps370 results370
abbrev Agc:=fb func371 ntmps371 results371
abbrev Agd:=fb func372 ntmps372 results372
abbrev Age:=fb func373 ntmps373 results373
abbrev Agf:=fb func374 ntmps374 results374
abbrev Agg:=fb func375 ntmps375 results375
abbrev Agh:=fb func377 ntmps377 results377
abbrev Agi:=fb func378 ntmps378 results378
abbrev Agj:=fb func387 ntmps387 results387
abbrev Agk:=fb func388 ntmps388 results388
abbrev Agl:=fb func389 ntmps389 results389
abbrev Agm:=fb func390 ntmps390 results390
abbrev Agn:=fb func391 ntmps391 results391
abbrev Ago:=fb func392 ntmps392 results392
abbrev Agp:=fb func395 ntmps395 results395
abbrev Agq:=fb func396 ntmps396 results396
abbrev Agr:=fb func397 ntmps397 results397
abbrev Ags:=fb func398 ntmps398 results398
abbrev Agt:=fb func399 ntmps399 results399
abbrev Agu:=fb func400 ntmps400 results400
abbrev Agv:=fb func401 ntmps401 results401
abbrev Agw:=fb func403 ntmps403 results403
abbrev Agx:=fb Ik ntmps409 results409
abbrev Agy:=fb func419 ntmps419 results419
abbrev Agz:=fb func421 ntmps421 results421
abbrev AgA:=fb func422 ntmps422 results422
abbrev AgB:=fb func423 ntmps423 results423
abbrev AgC:=fb func424 ntmps424 results424
abbrev AgD:=fb func425 ntmps425 results425
abbrev AgE:=fb func426 ntmps426 results426
abbrev AgF:=fb func427 ntmps427 results427
abbrev AgG:=fb func428 ntmps428 results428
abbrev AgH:=fb func429 ntmps429 results429
abbrev AgI:=fb func430 ntmps430 results430
abbrev AgJ:=fb func431 ntmps431 results431
abbrev AgK:=fb func435 ntmps435 results435
abbrev AgL:=fb MJ ntmps436 results436
abbrev AgM:=fb func437 ntmps437 results437
abbrev AgN:=fb func439 ntmps439 results439
abbrev AgO:=fb func443 ntmps443 results443
abbrev AgP:=fb func444 ntmps444 results444
abbrev AgQ:=fb func445 ntmps445 results445
abbrev AgR:=fb func446 ntmps446 results446
abbrev AgS:=fb func447 ntmps447 results447
abbrev AgT:=fb func449 ntmps449 results449
instance:Fo prog 29 0 0:=fo Um O Ug
instance:Fo prog 29 1 7:=fo Um O Ug
instance:Fo prog 29 2 14:=fo Um O Ug
instance:Fo prog 32 0 0:=fo K6 O sizeOf25
instance:Fo prog 32 1 1:=fo K6 O sizeOf26
instance:Fo prog 32 2 2:=fo K6 O Uh
instance:Fo prog 32 3 23:=fo K6 O BU
instance:Fo prog 32 4 24:=fo K6 O KX
instance:Fo prog 32 5 25:=fo K6 O KX
instance:Fo prog 32 6 26:=fo K6 O KX
instance:Fo prog 32 7 27:=fo K6 O BU
instance:Fo prog 48 0 0:=fo kA O BU
instance:Fo prog 48 1 1:=fo kA O JE
instance:Fo prog 48 2 2:=fo kA O Bf
instance:Fo prog 58 0 0:=fo PI O Bf
instance:Fo prog 58 1 1:=fo PI O Bf
instance:Fo prog 71 0 0:=fo K7 O BU
instance:Fo prog 71 1 1:=fo K7 O KX
instance:Fo prog 71 2 2:=fo K7 O Bf
instance:Fo prog 71 3 3:=fo K7 O EY
instance:Fo prog 71 4 4:=fo K7 O EY
instance:Fo prog 71 5 5:=fo K7 O EY
instance:Fo prog 71 6 6:=fo K7 O Bf
instance:Fo prog 71 7 7:=fo K7 O Po
instance:Fo prog 73 0 0:=fo Ps O Bf
instance:Fo prog 73 1 1:=fo Ps O Bf
instance:Fo prog 73 2 2:=fo Ps O JE
instance:Fo prog 84 0 0:=fo Up O sizeOf78
instance:Fo prog 84 1 1:=fo Up O Z4
instance:Fo prog 84 2 2:=fo Up O Z5
instance:Fo prog 89 0 0:=fo Uq O Bf
instance:Fo prog 89 1 1:=fo Uq O Bf
instance:Fo prog 89 2 2:=fo Uq O BU
instance:Fo prog 89 3 3:=fo Uq O BU
instance:Fo prog 101 0 0:=fo aU O Uj
instance:Fo prog 101 1 1:=fo aU O sizeOf97
instance:Fo prog 101 2 2:=fo aU O sizeOf98
instance:Fo prog 101 3 3:=fo aU O sizeOf99
instance:Fo prog 101 5 25:=fo aU O BU
instance:Fo prog 107 0 0:=fo yb O sizeOf103
instance:Fo prog 107 1 1:=fo yb O sizeOf104
instance:Fo prog 107 2 2:=fo yb O sizeOf105
instance:Fo prog 107 3 3:=fo yb O EY
instance:Fo prog 107 4 4:=fo yb O BU
instance:Fo prog 109 0 0:=fo underlying109 O sizeOf63
instance:Fo prog 118 0 0:=fo qp O Bf
instance:Fo prog 118 1 1:=fo qp O Bf
instance:Fo prog 118 2 2:=fo qp O JE
instance:Fo prog 118 3 3:=fo qp O Bf
instance:Fo prog 131 0 0:=fo jg O Z4
instance:Fo prog 131 1 1:=fo jg O Z5
instance:Fo prog 131 2 2:=fo jg O JE
instance:Fo prog 131 3 3:=fo jg O Bf
instance:Fo prog 131 4 4:=fo jg O Zl
instance:Fo prog 131 5 7:=fo jg O Bf
instance:Fo prog 131 6 8:=fo jg O EY
instance:Fo prog 138 0 0:=fo GX O Bf
instance:Fo prog 138 1 1:=fo GX O JE
instance:Fo prog 138 2 2:=fo GX O Bf
instance:Fo prog 138 3 3:=fo GX O x7
instance:Fo prog 148 0 0:=fo sI O Bf
instance:Fo prog 148 1 1:=fo sI O Bf
instance:Fo prog 148 2 2:=fo sI O Bf
instance:Fo prog 148 3 3:=fo sI O BU
instance:Fo prog 148 4 4:=fo sI O EY
instance:Fo prog 148 5 5:=fo sI O EY
instance:Fo prog 169 0 0:=fo Z8 O sizeOf164
instance:Fo prog 169 1 1:=fo Z8 O sizeOf167
instance:Fo prog 178 4 4:=fo underlying178 O sizeOf93
instance:Fo prog 186 0 0:=fo Z9 O BU
instance:Fo prog 186 1 1:=fo Z9 O sizeOf66
instance:Fo prog 188 0 0:=fo Iq O BU
instance:Fo prog 188 1 1:=fo Iq O Bf
instance:Fo prog 188 2 2:=fo Iq O Bf
instance:Fo prog 188 3 3:=fo Iq O Bf
instance:Fo prog 188 4 4:=fo Iq O Bf
instance:Fo prog 188 5 5:=fo Iq O Bf
instance:Fo prog 188 6 6:=fo Iq O BU
instance:Fo prog 188 7 7:=fo Iq O BU
instance:Fo prog 188 8 8:=fo Iq O BU
instance:Fo prog 188 9 9:=fo Iq O EY
instance:Fo prog 193 0 0:=fo underlying193 O sizeOf45
instance:Fo prog 204 0 0:=fo underlying204 O Bf
instance:Fo prog 226 0 0:=fo ag O Bf
instance:Fo prog 226 1 1:=fo ag O BU
instance:Fo prog 243 0 0:=fo MX O KY
instance:Fo prog 243 1 8:=fo MX O sizeOf241
instance:Fo prog 243 2 9:=fo MX O sizeOf241
instance:Fo prog 247 0 0:=fo MY O MQ
instance:Fo prog 252 0 0:=fo Rb O sizeOf250
instance:Fo prog 260 0 0:=fo qs O BU
instance:Fo prog 260 1 1:=fo qs O BU
instance:Fo prog 260 2 2:=fo qs O BU
instance:Fo prog 262 0 0:=fo Za O Z3
instance:Fo prog 262 1 1:=fo Za O Mi
instance:Fo prog 262 2 4:=fo Za O Jf
instance:Fo prog 270 0 0:=fo yc O Bf
instance:Fo prog 270 1 1:=fo yc O Bf
instance:Fo prog 270 2 2:=fo yc O EY
instance:Fo prog 295 0 0:=fo sK O Bf
instance:Fo prog 295 1 1:=fo sK O Bf
instance:Fo prog 295 2 2:=fo sK O EY
instance:Fo prog 295 3 3:=fo sK O EY
instance:Fo prog 295 4 4:=fo sK O EY
instance:Fo prog 295 5 5:=fo sK O EY
instance:Fo prog 310 0 0:=fo MZ O Bf
instance:Fo prog 310 1 1:=fo MZ O JE
instance:Fo prog 310 2 2:=fo MZ O Po
instance:Fo prog 310 3 3:=fo MZ O Bf
instance:Fo prog 331 0 0:=fo qw O Q2
instance:Fo prog 331 1 1:=fo qw O Jf
instance:Fo prog 360 0 0:=fo ah O BU
instance:Fo prog 360 1 1:=fo ah O ql
instance:Fo prog 394 0 0:=fo sL O Bf
instance:Fo prog 394 1 1:=fo sL O Bf
instance:Fo prog 394 2 2:=fo sL O BU
instance:Fo prog 394 3 3:=fo sL O Bf
instance:Fo prog 394 4 4:=fo sL O Bf
instance:Fo prog 394 5 5:=fo sL O EY
instance:Fo prog 403 0 0:=fo M1 O Bf
instance:Fo prog 403 1 1:=fo M1 O Bf
instance:Fo prog 403 2 2:=fo M1 O EY
instance:Fo prog 403 3 3:=fo M1 O EY
instance:Fo prog 406 0 0:=fo Rc O Bf
instance:Fo prog 406 1 1:=fo Rc O Bf
instance:Fo prog 406 2 2:=fo Rc O Bf
instance:Fo prog 431 0 0:=fo Rg O sizeOf428
instance:Fo prog 431 1 1:=fo Rg O sizeOf429
instance:Fo prog 431 2 2:=fo Rg O x8
instance:Fo prog 434 0 0:=fo aj O sizeOf428
instance:Fo prog 434 1 1:=fo aj O BU
instance:Fo prog 497 0 0:=fo Rl O FJ
instance:Fo prog 497 1 1:=fo Rl O FJ
instance:Fo prog 497 2 2:=fo Rl O x8
instance:Ph prog 3 (Ab 0) 1 8:=⟨t3,by kernel_rfl,O,O,O,O⟩
instance:Ph prog 5 (.int .u8 0) 1 1:=⟨t5,by kernel_rfl,O,O,O,O⟩
instance:Ph prog 9 (S []) 1 16:=⟨t9,by kernel_rfl,O,O,O,O⟩
end Go.Proofs.W9
