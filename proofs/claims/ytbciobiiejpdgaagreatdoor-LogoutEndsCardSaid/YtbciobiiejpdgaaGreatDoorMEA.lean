/- Part 1 of what the proof stands on. -/
import Derived.WalkKit
import Derived.Lib.Strings
import Derived.Deep.Quiet
import Derived.StillTail
import Derived.OrdersHeld
import Derived.Scope
import Derived.Lib.Builder
import Derived.Lib.Bytealg
import Derived.Lib.UnsafeStr
import Derived.Laws.IdiomStrings
import Ieee.Arith
import Derived.Laws.FloatArith
import Derived.Lib.AppendStr
import Derived.Below
import Derived.Laws.RangeAny
import Derived.Lib.MapLaws
set_option linter.unusedVariables false
set_option linter.unusedSimpArgs false
namespace Gk
theorem cs0 : (∀ (p : Prop) [Decidable p], (decide p = true) = p) ∧ (∀ (p : Prop) [Decidable p], (decide p = false) ↔ ¬ p) ∧ (∀ {α : Type} [BEq α] [LawfulBEq α] {a b : α}, (a == b) = true ↔ a = b) ∧ (∀ {α : Type} [BEq α] [LawfulBEq α] {a b : α}, (a == b) = false ↔ a ≠ b) ∧ (∀ {α : Type} [BEq α] [LawfulBEq α] {a b : α}, (a != b) = true ↔ a ≠ b) ∧ (∀ (b : Bool), ((!b) = true) = (b = false)) ∧ (∀ (b : Bool), ((!b) = false) = (b = true)) ∧ (∀ (a b : Bool), ((a || b) = true) = (a = true ∨ b = true)) ∧ (∀ (a b : Bool), ((a && b) = true) = (a = true ∧ b = true)) ∧ (∀ (a b : Bool), ((a || b) = false) = (a = false ∧ b = false)) ∧ (∀ (a b : Bool), ((a && b) = false) = (a = false ∨ b = false)) ∧ (∀ {α : Type} (a b : α), (a ≠ b) = ¬ (a = b)) ∧ (∀ {a b : Int}, ¬ a < b ↔ b ≤ a) ∧ (∀ {a b : Int}, ¬ a ≤ b ↔ b < a) ∧ (∀ {α : Type} [BEq α] [LawfulBEq α] {a b : α}, (a != b) = false ↔ a = b) ∧ (∀ (b : Bool), (¬ (b = true)) = (b = false)) ∧ (∀ (b : Bool), (¬ (b = false)) = (b = true)) :=
 ⟨fun p _ => decide_eq_true_eq, fun p _ => decide_eq_false_iff_not, beq_iff_eq, beq_eq_false_iff_ne, bne_iff_ne, (by intro b; cases b <;> decide), (by intro b; cases b <;> decide), (by intro a b; cases a <;> cases b <;> decide), (by intro a b; cases a <;> cases b <;> decide), (by intro a b; cases a <;> cases b <;> decide), (by intro a b; cases a <;> cases b <;> decide), fun _ _ => ne_eq _ _, Int.not_lt, Int.not_le, bne_eq_false_iff_eq, (by intro b; cases b <;> decide), (by intro b; cases b <;> decide)⟩
end Gk
abbrev Y0:=@List.length_append
abbrev Y4:=@List.getElem?_eq_getElem
abbrev Y5:=@List.getElem?_eq_some_iff
abbrev Y6:=@Gk.cs0
abbrev Y7:=@List.drop_succ_cons
abbrev Y8:=@List.getD_eq_getElem?_getD
abbrev Y9:=@List.append_nil
abbrev Yc:=@Nat.zero_add
abbrev Yd:=@List.append_assoc
abbrev Ye:=@List.nil_append
abbrev Yf:=@Int.toNat_natCast
abbrev Yg:=@List.length_drop
abbrev Yh:=@List.drop_zero
abbrev Yi:=@List.getElem?_append_left
abbrev Yj:=@List.eq_nil_of_length_eq_zero
abbrev Yk:=@List.take_zero
abbrev Yl:=@List.mem_of_getElem?
abbrev Ym:=@List.drop_nil
abbrev Yn:=@Bool.and_eq_true
abbrev Yo:=@Nat.zero_le
abbrev Yp:=@Nat.lt_or_ge
abbrev Yq:=@Nat.le_refl
abbrev Yr:=@List.length_take
abbrev Ys:=@List.cons_append
abbrev Yt:=@List.getElem?_append_right
abbrev Yu:=@List.getElem?_map
abbrev Yv:=@List.take_append_drop
abbrev Yw:=@List.map_append
abbrev Yx:=@List.take_of_length_le
abbrev Yy:=@List.mem_iff_getElem?
abbrev Yz:=@List.take_add_one
abbrev Y10:=@Bool.or_eq_false_iff
abbrev Y11:=@List.drop_of_length_le
abbrev Y12:=@List.mem_append
abbrev Y13:=@List.drop_eq_getElem_cons
abbrev Y14:=@List.length_map
abbrev Y15:=@List.take_length
abbrev Y16:=@Array.getD_eq_getD_getElem?
abbrev Y17:=@List.mem_cons
abbrev Y18:=@UInt8.toNat_inj
abbrev Y19:=@Array.getElem?_eq_getElem
abbrev Y1a:=@Array.getElem?_eq_some_iff
abbrev Y1b:=@List.map_cons
abbrev Y1c:=@List.all_eq_true
abbrev Y1d:=@List.getElem?_drop
abbrev Y1e:=@Option.toList_some
abbrev Y1f:=@Option.map_eq_some_iff
abbrev Y1g:=@List.getElem?_eq_none
abbrev Y1h:=@List.length_singleton
abbrev Y1i:=@List.drop_drop
abbrev Y1j:=@Bool.or_eq_true
abbrev Y1k:=@List.flatMap_append
abbrev Y1l:=@List.take_succ_cons
abbrev Y1m:=@List.getElem?_modify
abbrev Y1n:=@Nat.mul_one
abbrev Y1o:=@UInt8.le_iff_toNat_le
abbrev Y1p:=@Bool.false_eq_true
abbrev Y1q:=@List.flatten_cons
abbrev Y1r:=@List.getElem?_take
abbrev Y1s:=@List.mem_append_left
abbrev Y1t:=@List.pairwise_append
abbrev Y1u:=@List.perm_append_comm
abbrev Y1v:=@Nat.eq_zero_or_pos
abbrev Y1w:=@Nat.pow_le_pow_right
abbrev Y1x:=@List.ext_getElem?
abbrev Y1y:=@List.mem_append_right
abbrev Y1z:=@Nat.two_pow_pos
abbrev Y20:=@List.length_pos_iff
abbrev Y21:=@Nat.add_zero
abbrev Y22:=@Nat.pow_succ
abbrev Y23:=@List.getElem?_set
abbrev Y24:=@Nat.mul_lt_mul_of_pos_right
abbrev Y25:=@List.length_replicate
abbrev Y26:=@Nat.le_of_ble_eq_true
abbrev Y27:=@Nat.mul_assoc
abbrev Y28:=@Bool.or_eq_true_iff
abbrev Y29:=@List.flatten_append
abbrev Y2a:=@List.length_set
abbrev Y2b:=@List.mem_map
abbrev Y2c:=@List.set_append_right
abbrev Y2d:=@List.take_left
abbrev Y2e:=@Option.bind_eq_some_iff
abbrev Y2f:=@Nat.lt_of_lt_of_le
abbrev Y2g:=@Nat.mul_comm
abbrev Y2h:=@Nat.min_eq_left
abbrev Y2i:=@List.take_append_of_le_length
abbrev Y2j:=@List.takeWhile_cons
abbrev Y2k:=@List.contains_iff_mem
abbrev Y2l:=@List.flatMap_cons
abbrev Y2m:=@Bool.not_eq_false'
abbrev Y2n:=@Bool.true_and
abbrev Y2o:=@List.getElem?_append
abbrev Y2p:=@Nat.mod_lt
abbrev Y2q:=@Bool.not_eq_true
abbrev Y2r:=@List.foldl_append
abbrev Y2s:=@Nat.pow_add
abbrev Y2t:=@Bool.and_eq_false_iff
abbrev Y2u:=@Bool.eq_iff_iff
abbrev Y2v:=@List.find?_cons
abbrev Y2w:=@List.drop_append_of_le_length
abbrev Y2x:=@List.drop_length
abbrev Y2y:=@Nat.add_mul
abbrev Y2z:=@Option.getD_some
abbrev Y30:=@List.mem_cons_of_mem
abbrev Y31:=@Nat.succ_mul
abbrev Y32:=@Nat.zero_mul
abbrev Y33:=@List.all_eq_false
abbrev Y34:=@List.dropWhile_cons
abbrev Y35:=@List.any_eq_true
abbrev Y36:=@List.getElem_mem
abbrev Y37:=@Nat.div_eq_of_lt
abbrev Y38:=@Option.bind_some
abbrev Y39:=@List.filter_append
abbrev Y3a:=@List.map_nil
abbrev Y3b:=@List.map_replicate
abbrev Y3c:=@List.mem_cons_self
abbrev Y3d:=@List.pairwise_cons
abbrev Y3e:=@List.pairwise_iff_getElem
abbrev Y3f:=@List.eraseIdx_set_eq
abbrev Y3g:=@Nat.mul_le_mul_right
abbrev Y3h:=@Bool.not_eq_true'
abbrev Y3i:=@List.foldl_cons
abbrev Y3j:=@List.nodup_cons
abbrev Y3k:=@Nat.sub_self
abbrev Y3l:=@Array.length_toList
abbrev Y3m:=@Bool.false_or
abbrev Y3n:=@Nat.add_sub_cancel_left
abbrev Y3o:=@List.getElem_map
abbrev Y3p:=@Nat.shiftLeft_eq
abbrev Y3q:=@Bool.not_false
abbrev Y3r:=@Nat.div_div_eq_div_mul
abbrev Y3s:=@Array.getElem?_setIfInBounds
abbrev Y3t:=@List.mem_singleton
abbrev Y3u:=@Int.le_refl
abbrev Y3v:=@Int.ofNat_lt
abbrev Y3w:=@Nat.div_add_mod
abbrev Y3x:=@Nat.le_trans
abbrev Y3y:=@Option.map_some
abbrev Y3z:=@Nat.add_assoc
abbrev Y40:=@Int.lt_of_mul_lt_mul_right
abbrev Y41:=@List.isPrefixOf_iff_prefix
abbrev Y42:=@List.set_append_left
abbrev Y43:=@Bool.and_false
abbrev Y44:=@Int.toNat_zero
abbrev Y45:=@List.drop_left
abbrev Y46:=@List.getLast?_eq_getElem?
abbrev Y47:=@List.getLastD_eq_getLast?
abbrev Y48:=@List.mem_range
abbrev Y49:=@List.filter_cons
abbrev Y4a:=@List.mem_flatMap
abbrev Y4b:=@List.getElem_of_mem
abbrev Y4c:=@List.set_cons_succ
abbrev Y4d:=@Nat.lt_of_le_of_lt
abbrev Y4e:=@List.take_succ_eq_append_getElem
abbrev Y4f:=@Array.getElem?_eq_none
abbrev Y4g:=@List.append_eq_nil_iff
abbrev Y4h:=@List.getElem?_set_self
abbrev Y4i:=@Bool.eq_false_iff
abbrev Y4j:=@List.any_eq_false
abbrev Y4k:=@List.size_toArray
abbrev Y4l:=@List.takeWhile_append_dropWhile
abbrev Y4m:=@Array.getElem?_toList
abbrev Y4n:=@Int.mul_le_mul_of_nonneg_right
abbrev Y4o:=@List.countP_le_length
abbrev Y4p:=@List.length_filter_le
abbrev Y4q:=@Nat.add_comm
abbrev Y4r:=@Nat.mod_eq_of_lt
abbrev Y4s:=@List.mem_iff_getElem
abbrev Y4t:=@List.mem_of_mem_take
abbrev Y4u:=@List.dropLast_concat_getLast
abbrev Y4v:=@Array.getElem_setIfInBounds
abbrev Y4w:=@Int.natCast_mul
abbrev Y4x:=@Int.toNat_of_nonneg
abbrev Y4y:=@List.all_append
abbrev Y4z:=@List.filter_sublist
abbrev Y50:=@List.getElem?_range
abbrev Y51:=@List.mem_filter
abbrev Y52:=@List.take_length_add_append
abbrev Y53:=@Nat.testBit_two_pow
abbrev Y54:=@Nat.two_pow_add_eq_or_of_lt
abbrev Y55:=@Int.fdiv_eq_ediv_of_nonneg
abbrev Y56:=@Nat.add_mul_mod_self_right
abbrev Y57:=@List.find?_eq_none
abbrev Y58:=@List.set_cons_zero
abbrev Y59:=@Nat.le_of_lt
abbrev Y5a:=@Nat.pos_of_ne_zero
abbrev Y5b:=@Nat.sub_zero
abbrev Y5c:=@UInt8.toNat_ofNat'
abbrev Y5d:=@List.mem_of_find?_eq_some
abbrev Y5e:=@List.take_take
abbrev Y5f:=@Nat.mul_le_mul
abbrev Y5g:=@Array.setIfInBounds_comm
abbrev Y5h:=@List.length_erase_of_mem
abbrev Y5i:=@List.nodup_append
abbrev Y5j:=@List.getElem?_replicate
abbrev Y5k:=@List.sum_cons
abbrev Y5l:=@Bool.toNat_false
abbrev Y5m:=@List.perm_middle
abbrev Y5n:=@List.length_pos_of_mem
abbrev Y5o:=@Bool.toNat_true
abbrev Y5p:=@Int.le_of_lt
abbrev Y5q:=@Int.lt_or_le
abbrev Y5r:=@List.head?_cons
abbrev Y5s:=@Bool.false_and
abbrev Y5t:=@Option.map_map
abbrev Y5u:=@Nat.one_mul
abbrev Y5v:=@List.all_cons
abbrev Y5w:=@List.any_cons
namespace Gk
open Go
abbrev Env:=List (Nat×Value)
abbrev S (l:List UInt8):Value:=.string ⟨l.toArray⟩
abbrev I64 (n:Int):Value:=.int .i64 n
abbrev U8 (n:Int):Value:=.int .u8 n
theorem beqF {a b:Nat} (h:¬ a=b):Nat.beq a b=false:=by
 cases hb:Nat.beq a b
 ·rfl
 ·exact absurd (Nat.eq_of_beq_eq_true hb) h
def look0:Env->Nat->Option Value
 | [],_=>none
 | (k,v)::L,t=>bif Nat.beq k t then some v else look0 L t
abbrev DK:Nat:=1099511627776
def look (L:Env) (t:Nat):Option Value:=bif Nat.beq t DK then none else look0 L t
def dl (L:Env):List Deferred:=match look0 L DK with
 | some (.func f _ cap)=>[{ target:=.fn f cap,args:=#[] }]
 | _=>[]
theorem Xdh {L:Env} {t:Nat} {v:Value} (h:look L t=some v):t≠DK/\look0 L t=some v:=by
 unfold look at h;cases hb:Nat.beq t DK with
 | true=>rw [hb] at h; cases h
 | false=>rw [hb] at h; exact ⟨fun e=>by subst e; simp at hb,h⟩
theorem Xwt {L:Env} {t:Nat} {v:Value} (ht:t≠DK) (h:look0 L t=some v):look L t=some v:=by
 unfold look;rw [beqF ht];exact h
structure Holds (n:Nat) (L:Env) (a:Act):Prop where
 size:a.tmps.size=n
 small:n<=DK
 defers:a.defers=dl L
 get:∀ t v,look L t=some v->a.tmps.getD t undef=v
def ev (L:Env):Operand->Option Value
 | .tmp t=>look L t
 | .const v=>some v
 | .global g=>some (.pointer (some ⟨g,0,none⟩))
 | .func f=>some (.func (.func f) #[] #[])
theorem Xh8 {n:Nat} {L:Env} {a:Act} (h:Holds n L a) {x:Operand} {v:Value} (hx:ev L x=some v):a.eval x=v:=by
 cases x with
 | tmp t=>exact h.get t v hx
 | const u=>simpa [ev,Act.eval] using hx
 | global g=>simpa [ev,Act.eval] using hx
 | func f=>simpa [ev,Act.eval] using hx
theorem Holds.put {n:Nat} {L:Env} {a:Act} (h:Holds n L a) {d:Nat} (hd:Nat.blt d n=true) (v:Value):Holds n ((d,v)::L) (a.put (some d) v):=by
 have hd':d<n:=by have:=Y26 hd; omega
 have hk:¬ d=DK:=fun e=>by have:=h.small; omega
 refine ⟨by simp [Act.put,h.size],h.small,?_,fun t u hu=>?_⟩
 ·have:dl ((d,v)::L)=dl L:=by unfold dl; rw [look0,beqF hk]; rfl
  rw [this]; exact h.defers
 obtain ⟨h1,hu⟩:=Xdh hu;unfold look0 at hu
 by_cases e:d=t
 ·subst e;simp at hu
  subst hu;simp [Act.put,h.size,hd',Y16]
 ·have hb:=beqF e;rw [hb] at hu
  have:=h.get t u (Xwt h1 hu)
  simpa [Act.put,Y16,Y3s,e] using this
theorem Holds.skip {n:Nat} {L:Env} {a:Act} (h:Holds n L a) (v:Value):Holds n L (a.put none v):=h
def Sub:Env->Env->Prop
 | [],M=>match look0 M DK with
  | none=>True
  | some _=>False
 | (t,v)::L,M=>look M t=some v/\Sub L M
theorem Sub.look0:∀ {L M:Env},Sub L M->∀ {t v},look0 L t=some v->look M t=some v
 | [],_,_,_,_,h=>by cases h
 | (k,u)::L,M,hs,t,v,h=>by
  unfold Gk.look0 at h
  by_cases e:k=t
  ·subst e;simp at h
   subst h;exact hs.1
  ·have hb:=beqF e;rw [hb] at h;exact hs.2.look0 h
theorem Sub.none:∀ {L M:Env},Sub L M->Gk.look0 M DK=.none
 | [],M,h=>by
  unfold Sub at h;cases e:Gk.look0 M DK with
  | none=>rfl
  | some v=>rw [e] at h; exact h.elim
 | (k,u)::L,M,h=>h.2.none
theorem Sub.look {L M:Env} (hs:Sub L M) {t v} (h:look L t=some v):look M t=some v:=hs.look0 (Xdh h).2
theorem Sub.dl {L M:Env} (hs:Sub L M):dl M=dl L:=by
 unfold Gk.dl;rw [hs.none];cases e:Gk.look0 L DK with
 | none=>rfl
 | some v=>have:=(Xdh (hs.look0 e)).1; exact absurd rfl this
theorem Holds.sub {n:Nat} {L M:Env} {a:Act} (h:Holds n M a) (hs:Sub L M):Holds n L a:=⟨h.size,h.small,h.defers.trans hs.dl,fun t v hv=>h.get t v (hs.look hv)⟩
abbrev X34:=Exit->Env->World->Prop
def Xst (n:Nat) (K:X34):Exit->Act->World->Prop:=fun e a w=>∃ L,Holds n L a/\K e L w
def WL (P:Program) (n:Nat) (ops:Array Oper) (K:X34) (l:List Oper) (L:Env) (w:World):Prop:=∀ a,Holds n L a->wpList P ops (Xst n K) l a w
def WC (P:Program) (n:Nat) (c:Code) (K:X34) (L:Env) (w:World):Prop:=∀ a,Holds n L a->c.wp P (Xst n K) a w
def Xby (next:Env->World->Prop) (K:X34):X34
 | .normal,L,w=>next L w
 | e,L,w=>K e L w
def inBlk (id:Nat) (K:X34):X34
 | .exit i,L,w=>bif Nat.beq i id then K .normal L w else K (.exit i) L w
 | e,L,w=>K e L w
section
variable {P:Program} {n:Nat} {K:X34} {L:Env} {w:World}
theorem WC.mono {c:Code} {K':X34} (h:WC P n c K L w) (hk:∀ e L w,K e L w->K' e L w):WC P n c K' L w:=fun a ha=>wp_mono (h a ha) fun _ _ _ ⟨L',h1,h2⟩=>⟨L',h1,hk _ _ _ h2⟩
theorem WC.sub {c:Code} {M:Env} (h:WC P n c K M w) (hs:Sub M L):WC P n c K L w:=fun a ha=>h a (ha.sub hs)
theorem WL.sub {ops:Array Oper} {l:List Oper} {M:Env} (h:WL P n ops K l M w) (hs:Sub M L):WL P n ops K l L w:=fun a ha=>h a (ha.sub hs)
theorem WC.seq {x y:Code} (h:WC P n x (Xby (fun L w=>WC P n y K L w) K) L w):WC P n (.seq x y) K L w:=by
 intro a ha;refine wp_seq (wp_mono (h a ha) ?_);rintro e a' w' ⟨L',h1,h2⟩;cases e with
 | normal=>exact h2 a' h1
 | _=>exact ⟨L',h1,h2⟩
theorem WC.cut {x y:Code} (J:Env->World->Prop) (h:WC P n x (Xby J K) L w) (h2:∀ L w,J L w->WC P n y K L w):WC P n (.seq x y) K L w :=
 WC.seq (h.mono fun e L w he=>by cases e <;> first | exact h2 _ _ he | exact he)
theorem WC.skip (h:K .normal L w):WC P n .skip K L w:=fun _ ha=>wp_skip ⟨L,ha,h⟩
theorem WC.label {l:Nat} (h:K .normal L w):WC P n (.label l) K L w:=fun _ ha=>wp_label ⟨L,ha,h⟩
theorem WC.exit {id:Nat} (h:K (.exit id) L w):WC P n (.exit id) K L w:=fun _ ha=>wp_exit ⟨L,ha,h⟩
theorem WC.ret (h:K .ret L w):WC P n .ret K L w:=fun _ ha=>wp_ret ⟨L,ha,h⟩
theorem WC.block {id:Nat} {c:Code} (h:WC P n c (inBlk id K) L w):WC P n (.block id c) K L w:=by
 intro a ha;refine wp_block (wp_mono (h a ha) ?_);rintro e a' w' ⟨L',h1,h2⟩;cases e with
 | exit i =>
  unfold Exit.inBlock;unfold inBlk at h2
  by_cases e:i=id
  ·subst e;simp only [if_true]
   simp at h2
   exact ⟨L',h1,h2⟩
  ·simp only [e,if_false]
   have hb:=beqF e;exact ⟨L',h1,by simpa [hb] using h2⟩
 | _=>exact ⟨L',h1,h2⟩
theorem WC.cond {c:Operand} {x y:Code} {b:Bool} (hc:ev L c=some (.bool b)) (ht:b=true->WC P n x K L w) (hf:b=false->WC P n y K L w):WC P n (.cond c x y) K L w:=by
 intro a ha;have he:=Xh8 ha hc;cases b with
 | true=>exact wp_cond_true he (ht rfl a ha)
 | false=>exact wp_cond_false he (hf rfl a ha)
theorem WC.condT {c:Operand} {x y:Code} (hc:ev L c=some (.bool true)) (h:WC P n x K L w):WC P n (.cond c x y) K L w:=WC.cond hc (fun _=>h) (fun e=>by cases e)
theorem WC.condF {c:Operand} {x y:Code} (hc:ev L c=some (.bool false)) (h:WC P n y K L w):WC P n (.cond c x y) K L w:=WC.cond hc (fun e=>by cases e) (fun _=>h)
theorem WC.loop {c:Code} {σ:Type} (E:σ->Env) (inv:σ->World->Prop) (μ:σ->Nat) (s0:σ) (hs:Sub (E s0) L) (h0:inv s0 w)
  (round:∀ s w,inv s w->WC P n c (Xby (fun L' w'=>∃ s',Sub (E s') L'/\inv s' w'/\μ s'<μ s) K) (E s) w):WC P n (.loop c) K L w:=by
 intro a ha b k cs;have key:∀ m s a w,μ s=m->Holds n (E s) a->inv s w ->
   ∃ e a' w',Xst n K e a' w'/\Arrives P (lone (b.at a (.code c::.inLoop c::k)) cs w) b k cs e a' w':=by
  intro m
  induction m using Nat.strongRecOn with
  | _ m ih =>
   intro s a w hm ha hi;obtain ⟨e,a1,w1,⟨L1,hL,hq⟩,harr⟩:=round s w hi a ha b (.inLoop c::k) cs;cases e with
   | normal =>
    obtain ⟨s',hsub,hi',hlt⟩:=hq;obtain ⟨e2,a2,w2,hq2,harr2⟩:=ih (μ s') (hm ▸ hlt) s' a1 w1 rfl (hL.sub hsub) hi';exact ⟨e2,a2,w2,hq2,.of_steps (Steps.trans harr (.one step_inLoop)) harr2⟩
   | exit id=>exact ⟨_,a1,w1,⟨L1,hL,hq⟩,.pass (x:=.inLoop c) rfl (fun _ _=>.inl (by simp)) harr⟩
   | goto l=>exact ⟨_,a1,w1,⟨L1,hL,hq⟩,.pass (x:=.inLoop c) rfl (fun _ _=>.inl (by simp)) harr⟩
   | ret=>exact ⟨_,a1,w1,⟨L1,hL,hq⟩,.pass (x:=.inLoop c) rfl (fun _ _=>.inl (by simp)) harr⟩
   | panic ch=>exact ⟨_,a1,w1,⟨L1,hL,hq⟩,.pass (x:=.inLoop c) rfl (fun _ _=>.inl (by simp)) harr⟩
   | outgrown=>exact ⟨_,a1,w1,⟨L1,hL,hq⟩,.pass (x:=.inLoop c) rfl (fun _ _=>.inl (by simp)) harr⟩
 obtain ⟨e,a',w',hq,harr⟩:=key _ s0 a w rfl (ha.sub hs) h0;exact ⟨e,a',w',hq,.of_steps (.one step_loop) harr⟩
theorem WC.region {id:Nat} {l:List Oper} (h:WL P n l.toArray K l L w):WC P n (.region id l.toArray false) K L w:=fun a ha=>wp_region_lit (h a ha)
def X77 (P:Program) (n:Nat) (fn:Func) (R:Ending->World->Prop):X34
 | .normal,L,w | .ret,L,w=>dl L=[]/\∀ a,Holds n L a->∃ v,(results fn a.tmps).run P w=.ok v w/\R (.returned v) w
 | _,_,_=>False
def Xkz:Nat->List Value->Env
 | _,[]=>[]
 | i,v::l=>(i,v)::Xkz (i+1) l
theorem X8e:∀ (l:List Value) (i t:Nat) (v:Value),look0 (Xkz i l) t=some v->i<=t/\l[t - i]?=some v
 | [],_,_,_,h=>by cases h
 | u::l,i,t,v,h=>by
  unfold Xkz look0 at h
  by_cases e:i=t
  ·subst e;simp at h
   exact ⟨Yq _,by simp [h]⟩
  ·have hb:=beqF e;rw [hb] at h;obtain ⟨h1,h2⟩:=X8e l (i+1) t v h;exact ⟨by omega,by rw [show t - i=(t - (i+1))+1 by omega]; simpa using h2⟩
theorem Xhc {fn:Func} {args:List Value} (hn:fn.ntmps=n) (hle:(Nat.ble args.length n && Nat.ble n DK)=true):Holds n (Xkz 0 args) { tmps:=args.toArray ++ Array.replicate (fn.ntmps - args.toArray.size) undef,defers:=[] }:=by
 have hle':args.length<=n/\n<=DK:=by simpa using hle
 refine ⟨by simp [hn]; omega,hle'.2,?_,fun t v hv=>?_⟩
 ·unfold dl;cases e:look0 (Xkz 0 args) DK with
  | none=>rfl
  | some v =>
   obtain ⟨_,h2⟩:=X8e args 0 DK v e
   have:=(Y5.1 h2).1
   simp only [Y5b] at this
   omega
 obtain ⟨_,h2⟩:=X8e args 0 t v (Xdh hv).2;simp only [Y5b] at h2
 have ht:t<args.length:=(Y5.1 h2).1;rw [Y4 ht] at h2;simpa [Y16,Array.getElem?_append,ht] using h2
theorem calls {f:FuncId} {fn:Func} {c:Code} {args:List Value} {R:Ending->World->Prop} (hf:P.funcs[f]?=some fn) (hb:fn.body=some c) (hn:fn.ntmps=n) (hle:(Nat.ble args.length n && Nat.ble n DK)=true)
  (h:WC P n c (X77 P n fn R) (Xkz 0 args) w):Calls P f args.toArray w R:=by
 refine calls_of_wp hf hb (wp_mono (h _ (Xhc hn hle)) ?_);rintro e a' w' ⟨L',h1,h2⟩;cases e with
 | normal=>exact ⟨h1.defers.trans h2.1,h2.2 a' h1⟩
 | ret=>exact ⟨h1.defers.trans h2.1,h2.2 a' h1⟩
 | _=>exact h2.elim
section rets
variable {fn:Func} {R:Ending->World->Prop}
theorem ret0 (h:fn.results=#[]) (hR:R (.returned (.tuple #[])) w) (hd:dl L=[]:=by rfl):X77 P n fn R .ret L w:=⟨hd,fun a _=>⟨_,by simp [results,h],hR⟩⟩
theorem X9d (h:fn.results=#[]) (hR:R (.returned (.tuple #[])) w) (hd:dl L=[]:=by rfl):X77 P n fn R .normal L w:=⟨hd,fun a _=>⟨_,by simp [results,h],hR⟩⟩
theorem Xc {t:Nat} {v:Value} (h:fn.results=#[.tmp t]) (hv:look L t=some v) (hR:R (.returned v) w) (hd:dl L=[]:=by rfl):X77 P n fn R .ret L w :=
 ⟨hd,fun a ha=>⟨v,by have:=ha.get t v hv; simp [results,h]; simpa [Y16] using this,hR⟩⟩
theorem X1t {t u:Nat} {v x:Value} (h:fn.results=#[.tmp t,.tmp u]) (hv:look L t=some v) (hx:look L u=some x) (hR:R (.returned (.tuple #[v,x])) w) (hd:dl L=[]:=by rfl):X77 P n fn R .ret L w :=
 ⟨hd,fun a ha=>⟨_,by have h1:=ha.get t v hv; have h2:=ha.get u x hx; simp only [Y16] at h1 h2; simp [results,h,h1,h2],hR⟩⟩
theorem Xap {t u r:Nat} {v x y:Value} (h:fn.results=#[.tmp t,.tmp u,.tmp r]) (hv:look L t=some v) (hx:look L u=some x) (hy:look L r=some y) (hR:R (.returned (.tuple #[v,x,y])) w) (hd:dl L=[]:=by rfl):X77 P n fn R .ret L w :=
 ⟨hd,fun a ha=>⟨_,by have h1:=ha.get t v hv; have h2:=ha.get u x hx; have h3:=ha.get r y hy; simp only [Y16] at h1 h2 h3; simp [results,h,h1,h2,h3],hR⟩⟩
end rets
end
end Gk
namespace Gk
open Go
def Ev (n:Nat) (L:Env) (x:Operand) (v:Value):Prop:=∀ a,Holds n L a->a.eval x=v
def gd (b want:Bool) (v:Value):Value:=bif b == want then v else undef
def Ex (P:Program) (n:Nat) (L:Env) (w:World) (o:Oper) (v:Value) (w':World):Prop:=∀ a,Holds n L a->(execOp a.eval o).run P w=.ok (.value v) w'
def Es (P:Program) (n:Nat) (L:Env) (w:World) (o:Oper) (w':World):Prop:=∀ a,Holds n L a->(execOp a.eval o).run P w=.ok .skip w'
section
variable {P:Program} {n:Nat} {K:X34} {L:Env} {w w':World} {ops:Array Oper} {rest:List Oper}
theorem Ev.of {x:Operand} {v:Value} (h:ev L x=some v):Ev n L x v:=fun _ ha=>Xh8 ha h
theorem Ev.gd {x:Operand} {v:Value} {b want:Bool} (hb:b=want) (h:ev L x=some (gd b want v)):Ev n L x v:=fun a ha=>by
 rw [Xh8 ha h,hb];cases want <;> rfl
theorem X2n {o:Oper} (hg:o.guard=none) (y:Nat->Option Bool):Region.wanted o y=true:=by simp [Region.wanted,hg]
theorem WL.nil (h:K .normal L w):WL P n ops K [] L w:=fun a ha=>wpList_nil ⟨L,ha,h⟩
theorem WL.val {d:Nat} {op:Op} {ty:TypeId} {pos:String} {af:Array Edge} {v:Value} (hx:Ex P n L w ⟨some d,op,ty,pos,af,none⟩ v w') (hd:Nat.blt d n=true)
  (h:WL P n ops K rest ((d,v)::L) w'):WL P n ops K (⟨some d,op,ty,pos,af,none⟩::rest) L w:=by
 intro a ha;refine wpList_plain rfl fun K' hK=>?_
 unfold Oper.wp;rw [hx a ha];exact hK _ _ (h _ (ha.put hd v))
theorem WL.st {op:Op} {ty:TypeId} {pos:String} {af:Array Edge} (hx:Es P n L w ⟨none,op,ty,pos,af,none⟩ w')
  (h:WL P n ops K rest L w'):WL P n ops K (⟨none,op,ty,pos,af,none⟩::rest) L w:=by
 intro a ha;refine wpList_plain rfl fun K' hK=>?_
 unfold Oper.wp;rw [hx a ha];exact hK _ _ (h _ ha)
theorem X8r {a:Act} {L:Env} (ha:Holds n L a) {j t:Nat} {b:Bool} (hj:(ops[j]?).bind (·.dst)=some t) (hb:look L t=some (.bool b)):yielded ops a.tmps j=some b:=by
 have h1:=ha.get t _ hb;have hlt:t<a.tmps.size:=by
  apply Classical.byContradiction
  intro hn;rw [Y16,Y4f (by omega)] at h1;cases h1
 rw [Y16,Y19 hlt] at h1;simp only [Y2z] at h1
 have h2:a.tmps[t]?=some (.bool b):=by rw [Y19 hlt,h1]
 obtain ⟨o,ho,hd⟩:=Y2e.1 hj;simp [yielded,ho,hd,h2]
theorem WL.gval {d j t:Nat} {b want:Bool} {op:Op} {ty:TypeId} {pos:String} {af:Array Edge} {v:Value}
  (hj:(ops[j]?).bind (·.dst)=some t) (hb:look L t=some (.bool b)) (hx:b=want->Ex P n L w ⟨some d,op,ty,pos,af,some (j,want)⟩ v w) (hd:Nat.blt d n=true)
  (h:WL P n ops K rest ((d,gd b want v)::L) w):WL P n ops K (⟨some d,op,ty,pos,af,some (j,want)⟩::rest) L w:=by
 intro a ha;refine wpList_step fun K' hK=>?_
 have hy:=X8r ha hj hb;have hput:=h _ (ha.put hd (Gk.gd b want v));unfold Gk.gd at hput
 by_cases e:b=want
 ·rw [if_pos (by simp [Region.wanted,hy,e])];unfold Oper.wp;rw [hx e a ha];subst e;exact hK _ _ (by simpa using hput)
 ·rw [if_neg (by simp [Region.wanted,hy,e])];have e':(b == want)=false:=by simpa using e
  rw [e'] at hput;exact hK _ _ (by simpa using hput)
def gds:List (Bool×Bool)->Value->Value
 | [],v=>v
 | (b,want)::r,v=>gd b want (gds r v)
theorem X2m:∀ {c:List (Bool×Bool)} {v:Value},(∀ p∈c,p.1=p.2)->gds c v=v
 | [],_,_=>rfl
 | (b,want)::r,v,h=>by
  have h1:b=want:=h (b,want) (by simp);subst h1;simp only [gds,Gk.gd,beq_self_eq_true,cond_true]
  exact X2m fun p hp=>h p (Y30 _ hp)
theorem X4k:∀ {c:List (Bool×Bool)} {v:Value},¬ (∀ p∈c,p.1=p.2)->gds c v=undef
 | [],_,h=>absurd (fun _ hp=>by cases hp) h
 | (b,want)::r,v,h=>by
  by_cases e:b=want
  ·subst e;simp only [gds,Gk.gd,beq_self_eq_true,cond_true]
   exact X4k fun hr=>h fun p hp=>by
    rcases Y17.1 hp with rfl | hp
    ·rfl
    ·exact hr p hp
  ·have e':(b == want)=false:=by simpa using e
   simp only [gds,Gk.gd,e',cond_false]
theorem WL.gvals {d j t:Nat} {c:List (Bool×Bool)} {b want:Bool} {op:Op} {ty:TypeId} {pos:String} {af:Array Edge} {v:Value}
  (hj:(ops[j]?).bind (·.dst)=some t) (ht:Nat.blt t n=true) (hb:look L t=some (gds c (.bool b))) (hx:(∀ p∈c ++ [(b,want)],p.1=p.2)->Ex P n L w ⟨some d,op,ty,pos,af,some (j,want)⟩ v w) (hd:Nat.blt d n=true)
  (h:WL P n ops K rest ((d,gds (c ++ [(b,want)]) v)::L) w):WL P n ops K (⟨some d,op,ty,pos,af,some (j,want)⟩::rest) L w:=by
 intro a ha;refine wpList_step fun K' hK=>?_
 have hput:=h _ (ha.put hd (gds (c ++ [(b,want)]) v));have hlt:t<a.tmps.size:=by have:=Y26 ht; rw [ha.size]; omega
 have hv:=ha.get t _ hb;have hy:yielded ops a.tmps j=match gds c (.bool b) with | .bool b=>some b | _=>none:=by
  obtain ⟨o,ho,hdd⟩:=Y2e.1 hj;rw [Y16,Y19 hlt] at hv;simp only [Y2z] at hv
  have h2:a.tmps[t]?=some (gds c (.bool b)):=by rw [Y19 hlt,hv]
  simp only [yielded,ho,hdd,Y38,h2]
  generalize gds c (.bool b)=g;cases g <;> rfl
 by_cases e:∀ p∈c ++ [(b,want)],p.1=p.2
 ·have ec:∀ p∈c,p.1=p.2:=fun p hp=>e p (by simp [hp])
  have eb:b=want:=e (b,want) (by simp);rw [X2m ec] at hy;rw [if_pos (by simp [Region.wanted,hy,eb])];unfold Oper.wp;rw [hx e a ha];rw [X2m e] at hput;exact hK _ _ hput
 ·have hw:Region.wanted (⟨some d,op,ty,pos,af,some (j,want)⟩:Oper) (yielded ops a.tmps)=false:=by
   by_cases ec:∀ p∈c,p.1=p.2
   ·rw [X2m ec] at hy;have eb:¬ b=want:=fun eb=>e fun p hp=>by
     rcases Y12.1 hp with hp | hp
     ·exact ec p hp
     ·simp at hp; subst hp; exact eb
    simp [Region.wanted,hy,eb]
   ·rw [X4k ec] at hy;simp [Region.wanted,hy,undef]
  rw [if_neg (by simp [hw])];rw [X4k e] at hput;exact hK _ _ hput
theorem WL.gval2 {d j t:Nat} {b1 w1 b want:Bool} {op:Op} {ty:TypeId} {pos:String} {af:Array Edge} {v:Value}
  (hj:(ops[j]?).bind (·.dst)=some t) (ht:Nat.blt t n=true) (hb:look L t=some (gd b1 w1 (.bool b))) (hx:b1=w1->b=want->Ex P n L w ⟨some d,op,ty,pos,af,some (j,want)⟩ v w) (hd:Nat.blt d n=true)
  (h:WL P n ops K rest ((d,gd b1 w1 (gd b want v))::L) w):WL P n ops K (⟨some d,op,ty,pos,af,some (j,want)⟩::rest) L w :=
 WL.gvals (c:=[(b1,w1)]) hj ht hb (fun e=>hx (e (b1,w1) (by simp)) (e (b,want) (by simp))) hd h
theorem WL.gval3 {d j t:Nat} {b1 w1 b2 w2 b want:Bool} {op:Op} {ty:TypeId} {pos:String} {af:Array Edge} {v:Value}
  (hj:(ops[j]?).bind (·.dst)=some t) (ht:Nat.blt t n=true) (hb:look L t=some (gd b1 w1 (gd b2 w2 (.bool b)))) (hx:b1=w1->b2=w2->b=want->Ex P n L w ⟨some d,op,ty,pos,af,some (j,want)⟩ v w) (hd:Nat.blt d n=true)
  (h:WL P n ops K rest ((d,gd b1 w1 (gd b2 w2 (gd b want v)))::L) w):WL P n ops K (⟨some d,op,ty,pos,af,some (j,want)⟩::rest) L w :=
 WL.gvals (c:=[(b1,w1),(b2,w2)]) hj ht hb (fun e=>hx (e (b1,w1) (by simp)) (e (b2,w2) (by simp)) (e (b,want) (by simp))) hd h
theorem Ev.gd2 {x:Operand} {v:Value} {b1 w1 b2 w2:Bool} (h1:b1=w1) (h2:b2=w2) (h:ev L x=some (Gk.gd b1 w1 (Gk.gd b2 w2 v))):Ev n L x v:=by
 subst h1; subst h2;refine Ev.of (h.trans ?_);simp [Gk.gd]
theorem Ev.gd3 {x:Operand} {v:Value} {b1 w1 b2 w2 b3 w3:Bool} (h1:b1=w1) (h2:b2=w2) (h3:b3=w3) (h:ev L x=some (Gk.gd b1 w1 (Gk.gd b2 w2 (Gk.gd b3 w3 v)))):Ev n L x v:=by
 subst h1; subst h2; subst h3;refine Ev.of (h.trans ?_);simp [Gk.gd]
section pure
variable {d:Option Nat} {ty:TypeId} {pos:String} {af:Array Edge} {g:Option (Nat×Bool)}
theorem Ex.move {x:Operand} {v:Value} (hx:Ev n L x v):Ex P n L w ⟨d,.move x,ty,pos,af,g⟩ v w:=fun a ha=>by simp [execOp,hx a ha]
theorem Ex.assign {x:Operand} {v:Value} (hx:Ev n L x v):Ex P n L w ⟨d,.assign x,ty,pos,af,g⟩ v w:=fun a ha=>by simp [execOp,hx a ha]
theorem Ex.pick {c x y:Operand} {b:Bool} {u v:Value} (hc:Ev n L c (.bool b)) (hx:Ev n L x u) (hy:Ev n L y v):Ex P n L w ⟨d,.pick c x y,ty,pos,af,g⟩ (bif b then u else v) w :=
 fun a ha=>by cases b <;> simp [execOp,hx a ha,hy a ha,hc a ha,asBool]
theorem Ex.por {c x y:Operand} {b r:Bool} (hc:Ev n L c (.bool b)) (hx:Ev n L x (.bool true)) (hy:Ev n L y (Gk.gd b false (.bool r))):Ex P n L w ⟨d,.pick c x y,ty,pos,af,g⟩ (.bool (b || r)) w :=
 fun a ha=>by cases b <;> simp [execOp,hx a ha,hy a ha,hc a ha,asBool,Gk.gd]
theorem Ex.pand {c x y:Operand} {b r:Bool} (hc:Ev n L c (.bool b)) (hx:Ev n L x (Gk.gd b true (.bool r))) (hy:Ev n L y (.bool false)):Ex P n L w ⟨d,.pick c x y,ty,pos,af,g⟩ (.bool (b && r)) w :=
 fun a ha=>by cases b <;> simp [execOp,hx a ha,hy a ha,hc a ha,asBool,Gk.gd]
theorem Ex.extract {x:Operand} {i:Nat} {vs:Array Value} {v:Value} (hx:Ev n L x (.tuple vs)) (hi:vs[i]?=some v):Ex P n L w ⟨d,.extract x i,ty,pos,af,g⟩ v w :=
 fun a ha=>by simp [execOp,hx a ha,Instr.extract,hi]
theorem Ex.not {x:Operand} {b:Bool} {t:TypeId} (hx:Ev n L x (.bool b)):Ex P n L w ⟨d,.unOp .not t x,ty,pos,af,g⟩ (.bool (!b)) w :=
 fun a ha=>by simp [execOp,hx a ha,Op.unary]
theorem Ex.nilCheck {x:Operand} {p:Addr} (hx:Ev n L x (.pointer (some p))):Ex P n L w ⟨d,.nilCheck x,ty,pos,af,g⟩ (.pointer (some p)) w :=
 fun a ha=>by simp [execOp,hx a ha]
variable {t t':TypeId} {x y:Operand}
theorem X16 {op:BinOp} {u v r:Value} (hx:Ev n L x u) (hy:Ev n L y v) (he:∀ p q,(eqGuard op t p q u v).run P w=.ok () w) (hr:(binOp op t u v).run P w=.ok r w):Ex P n L w ⟨d,.binOp op t x y t',ty,pos,af,g⟩ r w :=
 fun a ha=>by simp [execOp,hx a ha,hy a ha,he,hr]
theorem Xk (op:BinOp) (k:IntKind) (a b:Int) (p q:Operand):(eqGuard op t p q (.int k a) (.int k b)).run P w=.ok () w:=by
 unfold eqGuard; split <;> simp
theorem X6l (op:BinOp) (a b:ByteArray) (p q:Operand):(eqGuard op t p q (.string a) (.string b)).run P w=.ok () w:=by
 unfold eqGuard; split <;> simp
variable {k:IntKind} {i j:Int}
theorem Ex.lss (hx:Ev n L x (.int k i)) (hy:Ev n L y (.int k j)):Ex P n L w ⟨d,.binOp .lss t x y t',ty,pos,af,g⟩ (.bool (decide (i<j))) w :=
 X16 hx hy (Xk _ _ _ _) (by simp [binOp,Op.intCmp])
theorem Ex.leq (hx:Ev n L x (.int k i)) (hy:Ev n L y (.int k j)):Ex P n L w ⟨d,.binOp .leq t x y t',ty,pos,af,g⟩ (.bool (decide (i<=j))) w :=
 X16 hx hy (Xk _ _ _ _) (by simp [binOp,Op.intCmp])
theorem Ex.gtr (hx:Ev n L x (.int k i)) (hy:Ev n L y (.int k j)):Ex P n L w ⟨d,.binOp .gtr t x y t',ty,pos,af,g⟩ (.bool (decide (j<i))) w :=
 X16 hx hy (Xk _ _ _ _) (by simp [binOp,Op.intCmp])
theorem Ex.geq (hx:Ev n L x (.int k i)) (hy:Ev n L y (.int k j)):Ex P n L w ⟨d,.binOp .geq t x y t',ty,pos,af,g⟩ (.bool (decide (j<=i))) w :=
 X16 hx hy (Xk _ _ _ _) (by simp [binOp,Op.intCmp])
theorem Ex.eql (hx:Ev n L x (.int k i)) (hy:Ev n L y (.int k j)):Ex P n L w ⟨d,.binOp .eql t x y t',ty,pos,af,g⟩ (.bool (i == j)) w :=
 X16 hx hy (Xk _ _ _ _) (by simp [binOp,Op.intCmp])
theorem Ex.neq (hx:Ev n L x (.int k i)) (hy:Ev n L y (.int k j)):Ex P n L w ⟨d,.binOp .neq t x y t',ty,pos,af,g⟩ (.bool (i != j)) w :=
 X16 hx hy (Xk _ _ _ _) (by simp [binOp,Op.intCmp])
theorem Ex.addw (hx:Ev n L x (.int k i)) (hy:Ev n L y (.int k j)):Ex P n L w ⟨d,.binOp .add t x y t',ty,pos,af,g⟩ (.int k (k.wrap (i+j))) w :=
 X16 hx hy (Xk _ _ _ _) (by simp [binOp,Op.intArith])
theorem Ex.subw (hx:Ev n L x (.int k i)) (hy:Ev n L y (.int k j)):Ex P n L w ⟨d,.binOp .sub t x y t',ty,pos,af,g⟩ (.int k (k.wrap (i - j))) w :=
 X16 hx hy (Xk _ _ _ _) (by simp [binOp,Op.intArith])
abbrev Xu0 (i:Int):Prop:=-9223372036854775808<=i/\i<=9223372036854775807
theorem Xij {i:Int} (h:Xu0 i):IntKind.i64.wrap i=i:=by
 obtain ⟨h1,h2⟩:=h;rw [IntKind.wrap_i64];omega
theorem Ex.add (hx:Ev n L x (I64 i)) (hy:Ev n L y (I64 j)) (h:Xu0 (i+j)):Ex P n L w ⟨d,.binOp .add t x y t',ty,pos,af,g⟩ (I64 (i+j)) w :=
 X16 hx hy (Xk _ _ _ _) (by simp [binOp,Op.intArith,Xij h])
theorem Ex.sub (hx:Ev n L x (I64 i)) (hy:Ev n L y (I64 j)) (h:Xu0 (i - j)):Ex P n L w ⟨d,.binOp .sub t x y t',ty,pos,af,g⟩ (I64 (i - j)) w :=
 X16 hx hy (Xk _ _ _ _) (by simp [binOp,Op.intArith,Xij h])
theorem Ex.mul (hx:Ev n L x (I64 i)) (hy:Ev n L y (I64 j)) (h:Xu0 (i*j)):Ex P n L w ⟨d,.binOp .mul t x y t',ty,pos,af,g⟩ (I64 (i*j)) w :=
 X16 hx hy (Xk _ _ _ _) (by simp [binOp,Op.intArith,Xij h])
theorem Ex.eqp {p:Option Addr} {e:TypeId} (hx:Ev n L x (.pointer p)) (hy:Ev n L y (.pointer none)) (hT:P.underlying t=some (.pointer e)):Ex P n L w ⟨d,.binOp .eql t x y t',ty,pos,af,g⟩ (.bool p.isNone) w :=
 X16 hx hy (fun _ _=>by unfold eqGuard; split <;> simp) (run_eql_pointer_nil w t p (by simp [Program.pointee,hT]))
variable {l m:List UInt8}
theorem Ex.eqs (hx:Ev n L x (S l)) (hy:Ev n L y (S m)):Ex P n L w ⟨d,.binOp .eql t x y t',ty,pos,af,g⟩ (.bool (l == m)) w :=
 X16 hx hy (X6l _ _ _) (by simp [binOp,Op.stringOp])
theorem Ex.nes (hx:Ev n L x (S l)) (hy:Ev n L y (S m)):Ex P n L w ⟨d,.binOp .neq t x y t',ty,pos,af,g⟩ (.bool (!(l == m))) w :=
 X16 hx hy (X6l _ _ _) (by simp [binOp,Op.stringOp])
theorem Ex.cat (hx:Ev n L x (S l)) (hy:Ev n L y (S m)) (h:((l.length+m.length:Nat):Int)<=9223372036854775807):Ex P n L w ⟨d,.binOp .add t x y t',ty,pos,af,g⟩ (S (l ++ m)) w :=
 X16 hx hy (X6l _ _ _) (by
  have h1:((ByteArray.size ⟨l.toArray⟩+ByteArray.size ⟨m.toArray⟩:Nat):Int)=((l.length+m.length:Nat):Int):=rfl;have h2:¬ (((l.length+m.length:Nat):Int) > IntKind.i64.max):=by show ¬ ((l.length+m.length:Nat):Int) > 9223372036854775807; omega
  have h3:(⟨l.toArray⟩ ++ ⟨m.toArray⟩:ByteArray)=⟨(l ++ m).toArray⟩:=by
   apply ByteArray.ext
   simp
  simp only [binOp,Op.stringOp,h1,if_neg h2,h3,Sem.run_pure])
theorem X2j {t e:TypeId} (hT:P.underlying t=some (.slice e)):P.elem t=e:=by simp [Program.elem,hT]
theorem Ex.len (hx:Ev n L x (S l)) (hT:P.underlying t=some .string):Ex P n L w ⟨d,.call ⟨.builtin .len,#[x],#[t]⟩,ty,pos,af,g⟩ (I64 l.length) w :=
 fun a ha=>by
  have h:=run_len_string (P:=P) w t ty ⟨l.toArray⟩ hT;simp [execOp,resolve,invoke,builtin,hx a ha,h,goInt,ByteArray.size]
theorem Ex.lenSlice {p:Option Addr} {c k:Nat} {e:TypeId} (hx:Ev n L x (.slice p k c)) (hT:P.underlying t=some (.slice e)):Ex P n L w ⟨d,.call ⟨.builtin .len,#[x],#[t]⟩,ty,pos,af,g⟩ (I64 k) w :=
 fun a ha=>by
  have h:=run_len_slice (P:=P) w t ty p k c (by rw [X2j hT]; exact hT);simp [execOp,resolve,invoke,builtin,hx a ha,h,goInt]
def at_ (l:List UInt8) (i:Int):UInt8:=l.getD i.toNat 0
theorem Ex.index_ {c:UInt8} (hx:Ev n L x (S l)) (hy:Ev n L y (I64 i)) (hi:0<=i) (hc:l[i.toNat]?=some c) (hT:P.underlying t=some .string):Ex P n L w ⟨d,.index t x y,ty,pos,af,g⟩ (U8 c.toNat) w :=
 fun a ha=>by
  have h1:i.toNat<l.length:=(Y5.1 hc).1;have h2:=(Y5.1 hc).2;have h3:0<=i/\i<((ByteArray.size ⟨l.toArray⟩:Nat):Int):=⟨hi,by show i<(l.length:Int); omega⟩
  have h:=run_index_string (P:=P) w t ⟨l.toArray⟩ .i64 i hT;rw [dif_pos h3] at h;have h4:(⟨l.toArray⟩:ByteArray)[i.toNat]'(by show i.toNat<l.length; omega)=c:=h2;rw [h4] at h;simp [execOp,hx a ha,hy a ha,h]
theorem Ex.index (hx:Ev n L x (S l)) (hy:Ev n L y (I64 i)) (hi:0<=i) (hl:i<(l.length:Int)) (hT:P.underlying t=some .string):Ex P n L w ⟨d,.index t x y,ty,pos,af,g⟩ (U8 (at_ l i).toNat) w:=by
 have h1:i.toNat<l.length:=by omega
 refine Ex.index_ hx hy hi ?_ hT;rw [at_,Y8,Y4 h1];rfl
theorem Xb2 (l:List UInt8) (a b:Nat):(Value.string ((⟨l.toArray⟩:ByteArray).extract a b))=S ((l.drop a).take (b - a)):=by
 rw [S,Lib.extract_eq]
theorem Ex.sub3 {z:Operand} (hx:Ev n L x (S l)) (hy:Ev n L y (I64 i)) (hz:Ev n L z (I64 j)) (h0:0<=i) (h1:i<=j) (h2:j<=(l.length:Int)) (hT:P.underlying t=some .string) :
  Ex P n L w ⟨d,.slice t x (some y) (some z) none,ty,pos,af,g⟩ (S ((l.drop i.toNat).take (j.toNat - i.toNat))) w:=fun a ha=>by
 have h:=run_slice_string (P:=P) w t ⟨l.toArray⟩ .i64 .i64 i j hT h0 h1 h2;rw [Xb2] at h;simp [execOp,hx a ha,hy a ha,hz a ha,run_sliceAt_string w t _ _ _ _ hT,h]
theorem Ex.subFrom (hx:Ev n L x (S l)) (hy:Ev n L y (I64 i)) (h0:0<=i) (h1:i<=(l.length:Int)) (hT:P.underlying t=some .string) :
  Ex P n L w ⟨d,.slice t x (some y) none none,ty,pos,af,g⟩ (S (l.drop i.toNat)) w:=fun a ha=>by
 have h:=run_slice_string_l (P:=P) w t ⟨l.toArray⟩ hT .i64 i h0 h1;rw [Xb2] at h;have e:(l.drop i.toNat).take ((⟨l.toArray⟩:ByteArray).size - i.toNat)=l.drop i.toNat:=Yx (by simp [ByteArray.size]);rw [e] at h;simp [execOp,hx a ha,hy a ha,run_sliceAt_string w t _ _ _ _ hT,h]
theorem Ex.subTo {z:Operand} (hx:Ev n L x (S l)) (hz:Ev n L z (I64 j)) (h1:0<=j) (h2:j<=(l.length:Int)) (hT:P.underlying t=some .string) :
  Ex P n L w ⟨d,.slice t x none (some z) none,ty,pos,af,g⟩ (S (l.take j.toNat)) w:=fun a ha=>by
 have h:=run_slice_string_h (P:=P) w t ⟨l.toArray⟩ hT .i64 j h1 h2;rw [Xb2] at h;simp only [Yh,Y5b] at h
 simp [execOp,hx a ha,hz a ha,run_sliceAt_string w t _ _ _ _ hT,h]
theorem Ex.min2 {z:Operand} {ts:Array TypeId} (hx:Ev n L x (.int k i)) (hz:Ev n L z (.int k j)):Ex P n L w ⟨d,.call ⟨.builtin .min,#[x,z],ts⟩,ty,pos,af,g⟩ (.int k (min i j)) w:=fun a ha=>by
 have e:(if j<i then j else i)=min i j:=by split <;> omega
 simp [execOp,resolve,invoke,builtin,hx a ha,hz a ha,Builtin.min_,Builtin.min2,e]
theorem Ex.max2 {z:Operand} {ts:Array TypeId} (hx:Ev n L x (.int k i)) (hz:Ev n L z (.int k j)):Ex P n L w ⟨d,.call ⟨.builtin .max,#[x,z],ts⟩,ty,pos,af,g⟩ (.int k (max i j)) w:=fun a ha=>by
 have e:(if i<j then j else i)=max i j:=by split <;> omega
 simp [execOp,resolve,invoke,builtin,hx a ha,hz a ha,Builtin.max_,Builtin.max2,e]
end pure
end
end Gk
namespace Gk
open Go
def binV:BinOp->Value->Value->Option (Value×Option Prop)
 | .lss,.int k a,.int k' b=>if k=k' then some (.bool (decide (a<b)),none) else none
 | .leq,.int k a,.int k' b=>if k=k' then some (.bool (decide (a<=b)),none) else none
 | .gtr,.int k a,.int k' b=>if k=k' then some (.bool (decide (b<a)),none) else none
 | .geq,.int k a,.int k' b=>if k=k' then some (.bool (decide (b<=a)),none) else none
 | .eql,.int k a,.int k' b=>if k=k' then some (.bool (a == b),none) else none
 | .neq,.int k a,.int k' b=>if k=k' then some (.bool (a != b),none) else none
 | .eql,.string ⟨⟨a⟩⟩,.string ⟨⟨b⟩⟩=>some (.bool (a == b),none)
 | .neq,.string ⟨⟨a⟩⟩,.string ⟨⟨b⟩⟩=>some (.bool (!(a == b)),none)
 | .add,.int .i64 a,.int .i64 b=>some (.int .i64 (a+b),some (Xu0 (a+b)))
 | .sub,.int .i64 a,.int .i64 b=>some (.int .i64 (a - b),some (Xu0 (a - b)))
 | .mul,.int .i64 a,.int .i64 b=>some (.int .i64 (a*b),some (Xu0 (a*b)))
 | .add,.string ⟨⟨a⟩⟩,.string ⟨⟨b⟩⟩=>some (.string ⟨⟨a ++ b⟩⟩,some (((a.length+b.length:Nat):Int)<=9223372036854775807))
 | _,_,_=>none
def Xhr (P:Program) (L:Env):Op->Option (Value×Option Prop)
 | .move x=>match ev L x with
  | some v=>some (v,none)
  | none=>none
 | .assign x=>match ev L x with
  | some v=>some (v,none)
  | none=>none
 | .extract x i=>match ev L x with
  | some (.tuple vs)=>match vs[i]? with
   | some v=>some (v,none)
   | none=>none
  | _=>none
 | .nilCheck x=>match ev L x with
  | some (.pointer (some p))=>some (.pointer (some p),none)
  | _=>none
 | .unOp .not _ x=>match ev L x with
  | some (.bool b)=>some (.bool (!b),none)
  | _=>none
 | .binOp op _ x y _=>match ev L x with
  | some u=>match ev L y with
   | some v=>binV op u v
   | none=>none
  | none=>none
 | .call ⟨.builtin .len,⟨[x]⟩,⟨[t]⟩⟩=>match ev L x with
  | some (.string ⟨⟨l⟩⟩)=>some (.int .i64 (l.length:Nat),some (P.underlying t=some .string))
  | some (.slice _ k _)=>some (.int .i64 (k:Nat),some (∃ e,P.underlying t=some (.slice e)))
  | _=>none
 | .index t x y=>match ev L x with
  | some (.string ⟨⟨l⟩⟩)=>match ev L y with
   | some (.int .i64 i)=>some (U8 (at_ l i).toNat,some ((0<=i/\i<(l.length:Int))/\P.underlying t=some .string))
   | _=>none
  | _=>none
 | _=>none
def Xic (P:Program) (n:Nat) (L:Env) (o:Oper):Option (Nat×Value×Option Prop) :=
 match o.dst,o.guard with
 | some d,none=>match Nat.blt d n with
  | true=>match Xhr P L o.op with
   | some (v,c)=>some (d,v,c)
   | none=>none
  | false=>none
 | _,_=>none
def Xqj (P:Program) (n:Nat):Nat->List Oper->Env->List Oper×Env×Prop
 | 0,l,L=>(l,L,True)
 | _+1,[],L=>([],L,True)
 | k+1,o::r,L=>match Xic P n L o with
  | some (d,v,none)=>Xqj P n k r ((d,v)::L)
  | some (d,v,some c)=>match Xqj P n k r ((d,v)::L) with
   | (r',L',C)=>(r',L',c/\C)
  | none=>(o::r,L,True)
section
variable {P:Program} {n:Nat} {K:X34} {L:Env} {w:World} {ops:Array Oper}
def Xme:Option Prop->Prop
 | none=>True
 | some c=>c
theorem Xvw {d:Option Nat} {ty t t':TypeId} {pos:String} {af:Array Edge} {g:Option (Nat×Bool)} {x y:Operand} {op:BinOp} {u v r:Value} {c:Option Prop} (hx:Ev n L x u) (hy:Ev n L y v) (h:binV op u v=some (r,c)) (hc:Xme c):Ex P n L w ⟨d,.binOp op t x y t',ty,pos,af,g⟩ r w:=by
 unfold binV at h;split at h
 ·split at h
  ·rename_i e; subst e; cases h; exact .lss hx hy
  ·cases h
 ·split at h
  ·rename_i e; subst e; cases h; exact .leq hx hy
  ·cases h
 ·split at h
  ·rename_i e; subst e; cases h; exact .gtr hx hy
  ·cases h
 ·split at h
  ·rename_i e; subst e; cases h; exact .geq hx hy
  ·cases h
 ·split at h
  ·rename_i e; subst e; cases h; exact .eql hx hy
  ·cases h
 ·split at h
  ·rename_i e; subst e; cases h; exact .neq hx hy
  ·cases h
 ·cases h; exact .eqs hx hy
 ·cases h; exact .nes hx hy
 ·cases h; exact .add hx hy hc
 ·cases h; exact .sub hx hy hc
 ·cases h; exact .mul hx hy hc
 ·cases h; exact .cat hx hy hc
 ·cases h
theorem Xll {d:Option Nat} {ty:TypeId} {pos:String} {af:Array Edge} {g:Option (Nat×Bool)} {op:Op} {v:Value} {c:Option Prop} (h:Xhr P L op=some (v,c)) (hc:Xme c):Ex P n L w ⟨d,op,ty,pos,af,g⟩ v w:=by
 unfold Xhr at h;split at h
 ·split at h
  ·rename_i hx; cases h; exact .move (.of hx)
  ·cases h
 ·split at h
  ·rename_i hx; cases h; exact .assign (.of hx)
  ·cases h
 ·split at h
  ·rename_i hx
   split at h
   ·rename_i hi; cases h; exact .extract (.of hx) hi
   ·cases h
  ·cases h
 ·split at h
  ·rename_i hx; cases h; exact .nilCheck (.of hx)
  ·cases h
 ·split at h
  ·rename_i hx; cases h; exact .not (.of hx)
  ·cases h
 ·split at h
  ·rename_i hx
   split at h
   ·rename_i hy; exact Xvw (.of hx) (.of hy) h hc
   ·cases h
  ·cases h
 ·split at h
  ·rename_i hx; cases h; exact .len (.of hx) hc
  ·rename_i hx; cases h
   obtain ⟨e,he⟩:=hc;exact .lenSlice (.of hx) he
  ·cases h
 ·split at h
  ·rename_i hx
   split at h
   ·rename_i hy; cases h; exact .index (.of hx) (.of hy) hc.1.1 hc.1.2 hc.2
   ·cases h
  ·cases h
 ·cases h
theorem WL.step_ok {o:Oper} {r:List Oper} {d:Nat} {v:Value} {c:Option Prop} (h1:Xic P n L o=some (d,v,c)) (hc:Xme c) (h:WL P n ops K r ((d,v)::L) w):WL P n ops K (o::r) L w:=by
 obtain ⟨dst,op,ty,pos,af,g⟩:=o;unfold Xic at h1;cases dst with
 | none=>cases h1
 | some d =>
  cases g with
  | some g=>cases h1
  | none =>
   simp only at h1
   split at h1
   ·rename_i hd
    split at h1
    ·rename_i v c hv
     cases h1
     exact WL.val (Xll hv hc) hd h
    ·cases h1
   ·cases h1
theorem WL.runs_ok:∀ (k:Nat) (l:List Oper) (L:Env),(Xqj P n k l L).2.2->WL P n ops K (Xqj P n k l L).1 (Xqj P n k l L).2.1 w->WL P n ops K l L w
 | 0,_,_,_,h=>h
 | _+1,[],_,_,h=>h
 | k+1,o::r,L,hc,h=>by
  unfold Xqj at h hc;split at h
  ·rename_i d v he
   rw [he] at hc;exact WL.step_ok he trivial (WL.runs_ok k r ((d,v)::L) hc h)
  ·rename_i d v c he
   rw [he] at hc;simp only at hc h
   exact WL.step_ok he hc.1 (WL.runs_ok k r ((d,v)::L) hc.2 h)
  ·exact h
theorem WL.run (k:Nat) {l r:List Oper} {M:Env} {C:Prop} (hr:Xqj P n k l L=(r,M,C)) (hc:C) (h:WL P n ops K r M w):WL P n ops K l L w:=by
 refine .runs_ok k l L ?_ ?_
 ·rw [hr]; exact hc
 ·rw [hr]; exact h
end
end Gk
namespace Gk
open Go
theorem WL.q {P:Program} {n:Nat} {K:X34} {L:Env} {w:World} {ops:Array Oper} (k:Nat) {l r:List Oper} {M:Env} (hr:Xqj P n k l L=(r,M,True)) (h:WL P n ops K r M w):WL P n ops K l L w:=WL.run k hr trivial h
theorem WC.q {P:Program} {n:Nat} {K:X34} {L:Env} {w:World} (k:Nat) {id:Nat} {l:List Oper} {M:Env} (hr:Xqj P n k l L=([],M,True)) (h:K .normal M w):WC P n (.region id l.toArray false) K L w:=WC.region (WL.run k hr trivial (WL.nil h))
theorem WC.t {P:Program} {n:Nat} {K:X34} {L:Env} {w:World} (k:Nat) {id:Nat} {l r:List Oper} {M:Env} (hr:Xqj P n k l L=(r,M,True)) (h:WL P n l.toArray K r M w):WC P n (.region id l.toArray false) K L w:=WC.region (WL.run k hr trivial h)
end Gk
namespace Gk
open Go
abbrev Xbi:=List (Nat×Obj)
abbrev X7:=Xbi->Prop
abbrev Im:=Nat->Option Obj
def own (b:Nat) (o:Obj):X7:=fun h=>h=[(b,o)]
def Xl (cs:List Value) (E:TypeId):Obj:=.cells cs.toArray E (0,0)
def blk (b:Nat) (cs:List Value) (E:TypeId):X7:=own b (Xl cs E)
abbrev ptr (b o:Nat):Value:=.pointer (some ⟨b,o,none⟩)
def SepAll:List X7->X7
 | [],h=>h=[]
 | A::As,h=>∃ h1 h2,h=h1 ++ h2/\A h1/\SepAll As h2
structure Good (B w:World) (I:Im) (h:Xbi):Prop where
 os:w.os=B.os
 tape:w.tape=B.tape
 output:w.output=B.output
 imm:∀ b o,I b=some o->w.heap[b]?=some o
 own:∀ b o,(b,o)∈h->w.heap[b]?=some o
 nodup:(h.map (·.1)).Nodup
 apart:∀ b o,(b,o)∈h->I b=none
def Sat (B w:World) (I:Im) (As:List X7):Prop:=∃ h,SepAll As h/\Good B w I h
def Le (I J:Im):Prop:=∀ b o,I b=some o->J b=some o
theorem Le.refl (I:Im):Le I I:=fun _ _ h=>h
theorem Le.trans {I J M:Im} (h:Le I J) (k:Le J M):Le I M:=fun b o e=>k b o (h b o e)
theorem Good.perm {B w:World} {I:Im} {h h':Xbi} (g:Good B w I h) (p:h.Perm h'):Good B w I h' :=
 ⟨g.os,g.tape,g.output,g.imm,fun b o hm=>g.own b o (p.mem_iff.2 hm),(p.map _).nodup_iff.1 g.nodup,fun b o hm=>g.apart b o (p.mem_iff.2 hm)⟩
theorem Good.left {B w:World} {I:Im} {h h':Xbi} (g:Good B w I (h ++ h')):Good B w I h :=
 ⟨g.os,g.tape,g.output,g.imm,fun b o hm=>g.own b o (Y1s _ hm),by have:=g.nodup; rw [Yw] at this; exact (Y5i.1 this).1,fun b o hm=>g.apart b o (Y1s _ hm)⟩
theorem Good.right {B w:World} {I:Im} {h h':Xbi} (g:Good B w I (h ++ h')):Good B w I h' :=
 (g.perm Y1u).left
theorem SepAll.at_:∀ {As:List X7} {k:Nat} {A:X7} {h:Xbi},As[k]?=some A->SepAll As h ->
  ∃ h1 h2,h.Perm (h1 ++ h2)/\A h1/\(∀ (A':X7) (h1':Xbi),A' h1'->∃ h',SepAll (As.set k A') h'/\h'.Perm (h1' ++ h2))/\(∃ h',SepAll (As.eraseIdx k) h'/\h'.Perm h2)
 | [],_,_,_,hk,_=>by simp at hk
 | A0::As,0,A,h,hk,hs=>by
  obtain ⟨h1,h2,rfl,ha,hr⟩:=hs;simp at hk
  subst hk;exact ⟨h1,h2,.refl _,ha,fun A' h1' ha'=>⟨h1' ++ h2,⟨h1',h2,rfl,ha',hr⟩,.refl _⟩,⟨h2,hr,.refl _⟩⟩
 | A0::As,k+1,A,h,hk,hs=>by
  obtain ⟨g1,g2,rfl,ha0,hr⟩:=hs;obtain ⟨h1,h2,hp,ha,hset,h3,he,hpe⟩:=SepAll.at_ (As:=As) (k:=k) (by simpa using hk) hr;refine ⟨h1,g1 ++ h2,?_,ha,fun A' h1' ha'=>?_,⟨g1 ++ h3,⟨g1,h3,rfl,ha0,he⟩,hpe.append_left g1⟩⟩
  ·refine (hp.append_left g1).trans ?_;rw [<- Yd,<- Yd];exact Y1u.append_right _
  ·obtain ⟨h',hs',hp'⟩:=hset A' h1' ha';refine ⟨g1 ++ h',⟨g1,h',rfl,ha0,hs'⟩,(hp'.append_left g1).trans ?_⟩;rw [<- Yd,<- Yd];exact Y1u.append_right _
section
variable {B w w':World} {I:Im} {As:List X7} {k:Nat} {A A':X7} {b:Nat} {o o':Obj}
theorem Sat.block (hS:Sat B w I As) (hk:As[k]?=some (own b o)):w.heap[b]?=some o:=by
 obtain ⟨h,hs,hg⟩:=hS;obtain ⟨h1,h2,hp,ha,_⟩:=hs.at_ hk;rw [own] at ha;subst ha;exact (hg.perm hp).own b o (by simp)
theorem Sat.say (hS:Sat B w I As) (hk:As[k]?=some A) (h:∀ h,A h->A' h):Sat B w I (As.set k A'):=by
 obtain ⟨g,hs,hg⟩:=hS;obtain ⟨h1,h2,hp,ha,hset,_⟩:=hs.at_ hk;obtain ⟨h',hs',hp'⟩:=hset A' h1 (h h1 ha);exact ⟨h',hs',hg.perm (hp.trans hp'.symm)⟩
theorem Sat.opened (hS:Sat B w I As) (hk:As[k]?=some A) {X:Type} {T:X->X7} (h:∀ h,A h->∃ x,T x h):∃ x,Sat B w I (As.set k (T x)):=by
 obtain ⟨g,hs,hg⟩:=hS;obtain ⟨h1,h2,hp,ha,hset,_⟩:=hs.at_ hk;obtain ⟨x,hx⟩:=h h1 ha;obtain ⟨h',hs',hp'⟩:=hset (T x) h1 hx;exact ⟨x,h',hs',hg.perm (hp.trans hp'.symm)⟩
theorem Sat.pure_ (hS:Sat B w I As) (hk:As[k]?=some A) {p:Prop} (h:∀ h,A h->p):p:=by
 obtain ⟨g,hs,hg⟩:=hS;obtain ⟨h1,h2,hp,ha,_⟩:=hs.at_ hk;exact h h1 ha
theorem Sat.drop (hS:Sat B w I As) (hk:As[k]?=some A):Sat B w I (As.eraseIdx k):=by
 obtain ⟨h,hs,hg⟩:=hS;obtain ⟨h1,h2,hp,_,_,h3,he,hpe⟩:=hs.at_ hk;exact ⟨h3,he,(hg.perm hp).right.perm hpe.symm⟩
theorem Sat.freeze (hS:Sat B w I As) (hk:As[k]?=some (own b o)):∃ J,Le I J/\J b=some o/\Sat B w J (As.eraseIdx k):=by
 obtain ⟨h,hs,hg⟩:=hS;obtain ⟨h1,h2,hp,ha,_,h3,he,hpe⟩:=hs.at_ hk;rw [own] at ha;subst ha;have g:=hg.perm hp;have hb:I b=none:=g.apart b o (by simp);refine ⟨fun x=>if x=b then some o else I x,fun x y hx=>?_,by simp,h3,he,Good.perm ?_ hpe.symm⟩
 ·by_cases e:x=b
  ·subst e; rw [hb] at hx; cases hx
  ·simpa [e] using hx
 ·have hn:b ∉ h2.map (·.1):=by
   have:=g.nodup
   simp only [Ys,Ye,Y1b,Y3j] at this
   exact this.1
  refine ⟨g.os,g.tape,g.output,fun x y hx=>?_,g.right.own,g.right.nodup,fun x y hm=>?_⟩
  ·by_cases e:x=b
   ·subst e;simp at hx
    subst hx;exact g.own _ _ (by simp)
   ·simp [e] at hx
    exact g.imm x y hx
  ·have e:x≠b:=fun e=>hn (e ▸ List.mem_map_of_mem hm)
   simpa [e] using g.right.apart x y hm
theorem Sat.world (hS:Sat B w I As) (h1:w'.os=w.os) (h2:w'.tape=w.tape) (h3:w'.output=w.output) (h4:w'.heap=w.heap):Sat B w' I As:=by
 obtain ⟨h,hs,hg⟩:=hS;exact ⟨h,hs,h1.trans hg.os,h2.trans hg.tape,h3.trans hg.output,fun b o e=>by rw [h4]; exact hg.imm b o e,fun b o e=>by rw [h4]; exact hg.own b o e,hg.nodup,hg.apart⟩
theorem Sat.drew (hS:Sat B w I As):Sat B w.drew I As:=hS.world rfl rfl rfl rfl
theorem Sat.alloc (hS:Sat B w I As) (o:Obj):Sat B (w.alloc o) I (own w.heap.size o::As):=by
 obtain ⟨h,hs,hg⟩:=hS;have old:∀ b x,w.heap[b]?=some x->b<w.heap.size:=fun b x e=>(Y1a.1 e).1
 have keep:∀ b x,w.heap[b]?=some x->(w.alloc o).heap[b]?=some x:=fun b x e=>by
  rw [heap_alloc_old w o (old b x e)]; exact e
 refine ⟨(w.heap.size,o)::h,⟨[(w.heap.size,o)],h,rfl,rfl,hs⟩,hg.os,hg.tape,hg.output,fun b x e=>keep b x (hg.imm b x e),fun b x hm=>?_,?_,fun b x hm=>?_⟩
 ·rcases Y17.1 hm with e | hm
  ·cases e
   exact heap_alloc_new w o
  ·exact keep b x (hg.own b x hm)
 ·simp only [Y1b,Y3j]
  refine ⟨fun hm=>?_,hg.nodup⟩;obtain ⟨⟨b,x⟩,hm,e⟩:=Y2b.1 hm
  have:=old b x (hg.own b x hm)
  simp at e
  omega
 ·rcases Y17.1 hm with e | hm
  ·cases e
   cases hi:I w.heap.size with
   | none=>rfl
   | some y=>have:=old _ _ (hg.imm _ _ hi); omega
  ·exact hg.apart b x hm
theorem Sat.write (hS:Sat B w I As) (hk:As[k]?=some (own b o)) (h1:w'.os=w.os) (h2:w'.tape=w.tape) (h3:w'.output=w.output) (hb:w'.heap[b]?=some o') (hne:∀ c,c≠b->w'.heap[c]?=w.heap[c]?) :
  Sat B w' I (As.set k (own b o')):=by
 obtain ⟨h,hs,hg⟩:=hS;obtain ⟨g1,g2,hp,ha,hset,_⟩:=hs.at_ hk;rw [own] at ha;subst ha;obtain ⟨h',hs',hp'⟩:=hset (own b o') [(b,o')] rfl;have g:=hg.perm hp;have hn:b ∉ g2.map (·.1):=by
  have:=g.nodup
  simp only [Ys,Ye,Y1b,Y3j] at this
  exact this.1
 refine ⟨h',hs',Good.perm ?_ hp'.symm⟩;refine ⟨h1.trans g.os,h2.trans g.tape,h3.trans g.output,fun x y e=>?_,fun x y hm=>?_,by simpa using g.nodup,fun x y hm=>?_⟩
 ·have e':x≠b:=fun e'=>by have:=g.apart b o (by simp); rw [<- e',e] at this; cases this
  rw [hne x e'];exact g.imm x y e
 ·rcases Y17.1 hm with e | hm
  ·cases e; exact hb
  ·have e':x≠b:=fun e'=>hn (e' ▸ List.mem_map_of_mem hm)
   rw [hne x e'];exact g.own x y (Y30 _ hm)
 ·rcases Y17.1 hm with e | hm
  ·cases e; exact g.apart b o (by simp)
  ·exact g.apart x y (Y30 _ hm)
end
def Vec (E size:Nat) (v:Value) (n:Nat) (xs:List Value):X7:=fun h =>
 xs.length=n*size/\((v=.slice none 0 0/\n=0/\h=[]) \/
  ∃ g cap rest,v=.slice (some ⟨g,0,none⟩) n cap/\h=[(g,Xl (xs ++ rest) E)]/\n<=cap/\cap<=maxLen/\xs.length+rest.length=cap*size)
section
variable {B w w':World} {I:Im} {As:List X7} {k:Nat} {A A':X7} {b:Nat} {o o':Obj} {E size n:Nat} {v:Value} {xs:List Value}
theorem Sat.vecNil (hS:Sat B w I As) (E size:Nat):Sat B w I (Vec E size (.slice none 0 0) 0 []::As):=by
 obtain ⟨h,hs,hg⟩:=hS;exact ⟨h,⟨[],h,rfl,⟨by simp,.inl ⟨rfl,rfl,rfl⟩⟩,hs⟩,hg⟩
theorem Sat.vecOf (hS:Sat B w I As) {g:Nat} {cs:List Value} (hk:As[k]?=some (blk g cs E)) (hn:cs.length=n*size) (hm:n<=maxLen):Sat B w I (As.set k (Vec E size (.slice (some ⟨g,0,none⟩) n n) n cs)) :=
 hS.say hk fun _ hh=>⟨hn,.inr ⟨g,n,[],rfl,by rw [Y9]; exact hh,Yq _,hm,by simpa using hn⟩⟩
theorem Sat.vecOpen (hS:Sat B w I As) (hk:As[k]?=some (Vec E size v n xs)) (hn:0<n) :
  ∃ (b cap:Nat) (r:List Value),v=.slice (some ⟨b,0,none⟩) n cap/\n<=cap/\cap<=maxLen/\xs.length=n*size/\xs.length+r.length=cap*size/\Sat B w I (As.set k (blk b (xs ++ r) E)):=by
 obtain ⟨g,hs,hg⟩:=hS;obtain ⟨h1,h2,hp,⟨hl,ha⟩,hset,_⟩:=hs.at_ hk;rcases ha with ⟨_,h0,_⟩ | ⟨b,cap,rest,rfl,rfl,h3,h4,h5⟩
 ·omega
 ·obtain ⟨h',hs',hp'⟩:=hset (blk b (xs ++ rest) E) _ rfl;exact ⟨b,cap,rest,rfl,h3,h4,hl,h5,h',hs',hg.perm (hp.trans hp'.symm)⟩
theorem Sat.vecShut (hS:Sat B w I As) {g cap:Nat} {rest:List Value} (hk:As[k]?=some (blk g (xs ++ rest) E)) (h3:n<=cap) (h4:cap<=maxLen) (hl:xs.length=n*size) (h5:xs.length+rest.length=cap*size) :
  Sat B w I (As.set k (Vec E size (.slice (some ⟨g,0,none⟩) n cap) n xs)) :=
 hS.say hk fun _ hh=>⟨hl,.inr ⟨g,cap,rest,rfl,hh,h3,h4,h5⟩⟩
theorem Sat.vecSlice (hS:Sat B w I As) (hk:As[k]?=some (Vec E size v n xs)):∃ a c,v=.slice a n c/\n<=c/\xs.length=n*size :=
 hS.pure_ hk fun _ ⟨hl,hh⟩=>by
  rcases hh with ⟨rfl,rfl,_⟩ | ⟨g,cap,rest,rfl,_,h3,_⟩
  ·exact ⟨none,0,rfl,Yq _,hl⟩
  ·exact ⟨_,_,rfl,h3,hl⟩
theorem X2r {P:Program} (hS:Sat B w I As) {t ty:TypeId} {i:TypeInfo} {z:Value} {bytes:Nat} (ht:P.underlying t=some (.slice E)) (hi:P.info? E=some i) (hz:i.zero=some z)
  (hsize:i.size=size) (hby:i.bytes=bytes) (hzs:z.cells.size=size) (hk:As[k]?=some (Vec E size v n xs)) {p:Addr} {m c:Nat} {news:List Value} (hl:news.length=m*size) (hm:0<m)
  (hnews:∀ j u,news[j]?=some u->w.cell? (p.add j)=some u) (h1:∀ u∈news,u.oneCell'=true) (h63:n+m<=maxLen) (hbytes:(n+m)*bytes<=140737488355328) :
  ∃ v' w',(Builtin.append_ #[t,t] ty #[v,.slice (some p) m c]).run P w=.ok v' w'/\Sat B w' I (As.set k (Vec E size v' (n+m) (xs ++ news))):=by
 subst hsize;subst hby;have hsmall:n+m<=9223372036854775807:=by simp only [maxLen] at h63; omega
 have hxl:xs.length=n*i.size:=hS.pure_ hk fun h ⟨hl,_⟩=>hl
 have hlen:(xs ++ news).length=(n+m)*i.size:=by rw [Y0,hxl,hl,Y2y]
 have grown:∀ (old:Nat),Sat B (w.drew.alloc (.cells (xs.toArray ++ news.toArray ++ Builtin.zeroCells z.cells (grownCap w (n+m) old E - (n+m))) E)) I
   (As.set k (Vec E i.size (.slice (some ⟨w.heap.size,0,none⟩) (n+m) (grownCap w (n+m) old E)) (n+m) (xs ++ news))):=by
  intro old;have hge:=grownCap_ge w (n+m) old E;have hcm:grownCap w (n+m) old E<=maxLen:=grownCap_le_maxLen w (n+m) old E h63;have hS2:=hS.drew.alloc (.cells (xs.toArray ++ news.toArray ++ Builtin.zeroCells z.cells (grownCap w (n+m) old E - (n+m))) E);have e1:(own w.drew.heap.size (.cells (xs.toArray ++ news.toArray ++ Builtin.zeroCells z.cells (grownCap w (n+m) old E - (n+m))) E))=blk w.heap.size ((xs ++ news) ++ (Builtin.zeroCells z.cells (grownCap w (n+m) old E - (n+m))).toList) E:=by
   unfold blk Xl
   congr 2
   apply Array.ext'
   simp
  rw [e1] at hS2;have hS3:=hS2.vecShut (k:=0) (n:=n+m) (size:=i.size) (cap:=grownCap w (n+m) old E) rfl hge hcm hlen (by
   rw [hlen,Y3l,size_zeroCells,hzs,<- Y2y]
   congr 1
   omega)
  -- the new one stands at the old one's place
  obtain ⟨h,hs,hg⟩:=hS3;obtain ⟨q1,q2,rfl,hq1,hq2⟩:=hs;obtain ⟨h1',h2',hp,_,hset,_⟩:=SepAll.at_ hk hq2;obtain ⟨h',hs',hp'⟩:=hset _ q1 hq1;have g2:Good B (w.drew.alloc (.cells (xs.toArray ++ news.toArray ++ Builtin.zeroCells z.cells (grownCap w (n+m) old E - (n+m))) E)) I (q1 ++ h2'):=by
   have g:=hg.perm (hp.append_left q1)
   have:(q1 ++ (h1' ++ h2')).Perm ((q1 ++ h2') ++ h1'):=by
    rw [Yd];exact (Y1u).append_left q1
   exact (g.perm this).left
  exact ⟨h',hs',g2.perm hp'.symm⟩
 have hcase:(v=.slice none 0 0/\n=0)\/∃ g cap rest,v=.slice (some ⟨g,0,none⟩) n cap/\n<=cap/\cap<=maxLen/\xs.length+rest.length=cap*i.size/\Sat B w I (As.set k (blk g (xs ++ rest) E)):=by
  by_cases hn:0<n
  ·obtain ⟨g,cap,rest,h1,h2,h3,_,h5,h6⟩:=hS.vecOpen hk hn;exact .inr ⟨g,cap,rest,h1,h2,h3,h5,h6⟩
  ·obtain ⟨g,hs,hg⟩:=hS;obtain ⟨h1,h2,hp,⟨hl,ha⟩,hset,_⟩:=hs.at_ hk;rcases ha with ⟨hv,h0,_⟩ | ⟨b,cap,rest,rfl,rfl,h3,h4,h5⟩
   ·exact .inl ⟨hv,h0⟩
   ·obtain ⟨h',hs',hp'⟩:=hset (blk b (xs ++ rest) E) _ rfl;exact .inr ⟨b,cap,rest,rfl,h3,h4,h5,h',hs',hg.perm (hp.trans hp'.symm)⟩
 rcases hcase with ⟨rfl,rfl⟩ | ⟨g,cap,rest,rfl,hnc,hcm,hcs,hSo⟩
 ·have hx:xs=[]:=Yj (by simpa using hxl);subst hx;have hr:=run_append_nil (P:=P) w t ty E i z ht hi hz p m c news hl hnews hm (by omega) (by have hb:=hbytes; simp only [Yc] at hb; omega);have hgr:=grown 0;simp only [Yc,Ye,Array.empty_append] at hgr ⊢
  exact ⟨_,_,hr,hgr⟩
 ·have hlk:k<As.length:=(Y5.1 hk).1;have hko:(As.set k (blk g (xs ++ rest) E))[k]?=some (blk g (xs ++ rest) E):=by simp [hlk]
  have hblk:=hSo.block hko
  by_cases hroom:n+m<=cap
  ·have hfit:n*i.size+news.length<=(xs ++ rest).toArray.size:=by
    simp only [Y4k,Y0]
    rw [hcs,hl,<- Y2y];exact Y3g _ hroom
   have hr:=run_append_room (P:=P) w t ty E i ht hi g n cap (xs ++ rest).toArray hblk p m c news hl hnews h1 hroom hfit;have e2:((xs ++ rest).take (n*i.size) ++ news ++ (xs ++ rest).drop (n*i.size+news.length)).toArray=((xs ++ news) ++ rest.drop news.length).toArray:=by
    rw [<- hxl,Y2d,List.drop_append,Y11 (by omega:xs.length<=xs.length+news.length)]
    simp
   rw [e2] at hr;refine ⟨_,_,hr,?_⟩;have hw:=hSo.write (w':=w.setRow g ((xs ++ news) ++ rest.drop news.length).toArray) (o':=Xl ((xs ++ news) ++ rest.drop news.length) E) hko rfl rfl rfl (setRow_heap w g _ _ E _ hblk) (fun x hx=>setRow_other w g x _ hx);have hsh:=hw.vecShut (k:=k) (g:=g) (E:=E) (n:=n+m) (size:=i.size) (cap:=cap) (xs:=xs ++ news) (rest:=rest.drop news.length) (by simp [hlk,blk]) hroom hcm hlen (by
    have h7:news.length<=rest.length:=by
     have h8:n*i.size+news.length<=(xs ++ rest).length:=hfit;rw [Y0] at h8; omega
    rw [Y0,Yg,<- hcs]; omega)
   simpa using hsh
  ·have holds:∀ j u,xs[j]?=some u->w.cell? ((⟨g,0,none⟩:Addr).add j)=some u:=by
    intro j u hu;have hj:j<xs.length:=(Y5.1 hu).1;rw [Addr.add_lit,Yc];have h9:w.heap[g]?=some (.cells (xs ++ rest).toArray E (0,0)):=hblk;simp only [World.cell?,h9,Option.isSome_none,Y1p,if_false]
    simp [hj] at hu ⊢
    simp [Y2o,hj,hu]
   have hr:=run_append_grow (P:=P) w t ty E i z ht hi hz ⟨g,0,none⟩ n cap xs hxl holds p m c news hl hnews (by omega) (by omega) (growslice_fits (by omega) hbytes);exact ⟨_,_,hr,grown cap⟩
end
end Gk
namespace Gk
open Go
def Ret (Q:Value->World->Prop):Ending->World->Prop:=fun e w=>∃ v,e=.returned v/\Q v w
def At (I:Im) (p:Addr) (vs:List Value):Prop:=p.spot=none/\∃ arr E fr,I p.block=some (.cells arr E fr)/\∀ j v,vs[j]?=some v->arr[p.off+j]?=some v
theorem At.mono {I J:Im} {p:Addr} {vs:List Value} (h:At I p vs) (hl:Le I J):At J p vs:=by
 obtain ⟨hs,arr,E,fr,hi,hv⟩:=h;exact ⟨hs,arr,E,fr,hl _ _ hi,hv⟩
def RS (I:Im) (a:Option Addr) (size n:Nat) (xs:List Value):Prop:=xs.length=n*size/\(0<n->∃ p,a=some p/\At I p xs)
theorem RS.mono {I J:Im} {a:Option Addr} {size n:Nat} {xs:List Value} (h:RS I a size n xs) (hl:Le I J):RS J a size n xs :=
 ⟨h.1,fun hn=>let ⟨p,e,ha⟩:=h.2 hn; ⟨p,e,ha.mono hl⟩⟩
theorem RS.nil (I:Im) (size:Nat):RS I none size 0 []:=⟨by simp,fun h=>absurd h (by omega)⟩
abbrev ad (b o:Nat):Addr:=⟨b,o,none⟩
theorem X15 (b o i:Nat):(ad b o).add i=ad b (o+i):=by
 unfold Addr.add;split
 ·simp_all
 ·rfl
def Xpq (cs:List Value) (off:Nat) (l:List Value):List Value:=cs.take off ++ l ++ cs.drop (off+l.length)
def Xl1 (pl:Nat->Option (Nat×Nat)):List Value->List (Nat×Value)->Option (List Value)
 | cs,[]=>some cs
 | cs,(i,v)::rest=>match pl i with
  | none=>none
  | some (off,size)=>bif Nat.beq v.cells.toList.length size && Nat.ble (off+size) cs.length then Xl1 pl (Xpq cs off v.cells.toList) rest else none
theorem Xfd:∀ (l:List Value) (cs:List Value) (off k:Nat),off+k+l.length<=cs.length ->
  (l.zipIdx k).foldl (fun (cs:Array Value) (p:Value×Nat)=>cs.setIfInBounds (off+p.2) p.1) cs.toArray=(Xpq cs (off+k) l).toArray
 | [],cs,off,k,_=>by simp [Xpq]
 | v::l,cs,off,k,h=>by
  rw [List.zipIdx_cons,Y3i];have e:cs.toArray.setIfInBounds (off+k) v=(cs.set (off+k) v).toArray:=by simp
  have ih:=Xfd l (cs.set (off+k) v) off (k+1) (by simp at h ⊢; omega);simp only at ih ⊢
  rw [e,ih]
  congr 1
  unfold Xpq;have h9:=list_seg_step cs (off+k) v l (by simp at h; omega);simpa [Y3z] using h9
theorem X89 {pl:Nat->Option (Nat×Nat)}:∀ {vs:List (Nat×Value)} {cs ds:List Value},Xl1 pl cs vs=some ds->Instr.fill pl cs.toArray vs=some ds.toArray
 | [],cs,ds,h=>by simp [Xl1] at h; simp [Instr.fill,h]
 | (i,v)::rest,cs,ds,h=>by
  unfold Xl1 at h;unfold Instr.fill;split at h
  ·cases h
  ·rename_i off size hp
   rw [hp];simp only
   by_cases hc:(Nat.beq v.cells.toList.length size && Nat.ble (off+size) cs.length)=true
   ·rw [hc,cond_true] at h;simp only [Yn] at hc
    have h1:v.cells.size=size:=by have:=Nat.eq_of_beq_eq_true hc.1; simpa using this
    have h2:off+size<=cs.length:=Y26 hc.2;have e:=Xfd v.cells.toList cs off 0 (by simp [h1]; omega);have hz:(v.cells.zipIdx.foldl (fun cs (x:Value×Nat)=>cs.setIfInBounds (off+x.2) x.1) cs.toArray)=(Xpq cs off v.cells.toList).toArray:=by
     rw [<- Array.foldl_toList,Array.toList_zipIdx];simpa using e
    rw [if_neg (by simp [h1]; omega)];rw [hz];exact X89 h
   ·have hc':(Nat.beq v.cells.toList.length size && Nat.ble (off+size) cs.length)=false:=Y4i.2 hc;rw [hc',cond_false] at h;cases h
theorem zerosL (z:Value) (s:Nat) (hz:z.cells.size=s):∀ len,(Array.range (len*s)).map (z.cells[· % z.cells.size]!)=((List.replicate len z.cells.toList).flatten).toArray:=by
 intro len
 apply Array.ext'
 simp only [Array.toList_map,Array.toList_range]
 induction len with
 | zero=>simp
 | succ k ih =>
  rw [List.replicate_succ',Y29,Y31,List.range_add,Yw,ih];simp only [Y1q,List.flatten_nil,Y9]
  congr 1
  apply Y1x
  intro j
  by_cases hj:j<s
  ·have:(k*s+j) % s=j:=by rw [Y4q,Y56,Y4r hj]
   have h3:j<z.cells.size:=by omega
   simp [hj,hz,this,h3]
  ·simp [hj,hz]
section
variable {P:Program} {n:Nat} {K:X34} {L:Env} {w w':World} {ops:Array Oper} {rest:List Oper}
variable {B:World} {I:Im} {As:List X7} {k:Nat} {d:Nat} {ty:TypeId} {pos:String} {af:Array Edge} {g:Option (Nat×Bool)} {t e:TypeId} {x y:Operand}
theorem X5y {α:Type} (o:Obj) (f:Nat->Sem α):(Sem.new o f).run P w=(f w.heap.size).run P (w.alloc o):=rfl
theorem X1b {b:Nat} {cs:List Value} {E:TypeId} (hb:w.heap[b]?=some (Xl cs E)) {o:Nat} {v:Value} (hv:cs[o]?=some v):w.cell? (ad b o)=some v:=by
 unfold Xl at hb;simp [World.cell?,hb,hv]
theorem Xl7 {b:Nat} {cs:List Value} {E:TypeId} (hb:w.heap[b]?=some (Xl cs E)) (o:Nat):w.frozen? (ad b o)=false:=by
 unfold Xl at hb;simp [World.frozen?,hb]
theorem X4g {p:Addr} {vs:List Value} (hS:Sat B w I As) (ha:At I p vs) {j:Nat} {v:Value} (hv:vs[j]?=some v):w.cell? (p.add j)=some v:=by
 obtain ⟨hs,arr,E,fr,hi,h⟩:=ha;obtain ⟨h',_,hg⟩:=hS;have hb:=hg.imm _ _ hi;have hj:=h j v hv;obtain ⟨pb,po,ps⟩:=p;simp only at hs hi hb hj
 subst hs;have e:(⟨pb,po,none⟩:Addr).add j=⟨pb,po+j,none⟩:=X15 pb po j;rw [e];simp [World.cell?,hb,hj]
theorem Ex.ld {d:Option Nat} {b o:Nat} {cs:List Value} {E:TypeId} {v:Value} (hx:Ev n L x (ptr b o)) (hS:Sat B w I As) (hk:As[k]?=some (blk b cs E)) (ht:∀ w,(isAgg t).run P w=.ok false w) (hv:cs[o]?=some v) :
  Ex P n L w ⟨d,.load t x,ty,pos,af,g⟩ v w:=fun a ha=>by
 have h:=X1b (hS.block hk) hv;simp [execOp,hx a ha,Instr.loadAt,Instr.sureAddr,loadVar,ht,load,Sem.run,h]
theorem Ex.lds {d:Option Nat} {b o s:Nat} {cs vs:List Value} {E:TypeId} (hx:Ev n L x (ptr b o)) (hS:Sat B w I As) (hk:As[k]?=some (blk b cs E)) (ht:∀ w,(isAgg t).run P w=.ok true w) (hs:∀ w,(Go.sizeOf t).run P w=.ok s w)
  (hl:vs.length=s) (hv:∀ (j:Nat) (v:Value),vs[j]?=some v->cs[o+j]?=some v):Ex P n L w ⟨d,.load t x,ty,pos,af,g⟩ (.agg vs.toArray) w:=fun a ha=>by
 have hb:=hS.block hk;have h:=run_loadCells_list (P:=P) w (ad b o) vs (fun j v hj=>by rw [X15]; exact X1b hb (hv j v hj));rw [hl] at h;simp [execOp,hx a ha,Instr.loadAt,Instr.sureAddr,loadVar,ht,hs,h]
theorem Ex.ldI {d:Option Nat} {p:Addr} {vs:List Value} {v:Value} (hx:Ev n L x (.pointer (some p))) (hS:Sat B w I As) (ha:At I p vs) (ht:∀ w,(isAgg t).run P w=.ok false w) (hv:vs[0]?=some v) :
  Ex P n L w ⟨d,.load t x,ty,pos,af,g⟩ v w:=fun a hh=>by
 have h:=X4g hS ha hv;rw [show p.add 0=p from rfl] at h;simp [execOp,hx a hh,Instr.loadAt,Instr.sureAddr,loadVar,ht,load,Sem.run,h]
theorem Ex.ldsI {d:Option Nat} {p:Addr} {s:Nat} {vs us:List Value} (hx:Ev n L x (.pointer (some p))) (hS:Sat B w I As) (ha:At I p vs) (ht:∀ w,(isAgg t).run P w=.ok true w) (hs:∀ w,(Go.sizeOf t).run P w=.ok s w)
  (hl:us.length=s) (hv:∀ (j:Nat) (v:Value),us[j]?=some v->vs[j]?=some v):Ex P n L w ⟨d,.load t x,ty,pos,af,g⟩ (.agg us.toArray) w:=fun a hh=>by
 have h:=run_loadCells_list (P:=P) w p us (fun j v hj=>X4g hS ha (hv j v hj));rw [hl] at h;simp [execOp,hx a hh,Instr.loadAt,Instr.sureAddr,loadVar,ht,hs,h]
theorem Ex.fieldAddr {d:Option Nat} {b o f:Nat} {fs:Array Field} {fd:Field} {s:Nat} (off:Nat) (hx:Ev n L x (ptr b o)) (ht:P.underlying t=some (.struct fs)) (hf:fs[f]?=some fd) (ho:fd.offset=off) (hs:∀ w,(Go.sizeOf fd.type).run P w=.ok s w) (h0:Nat.beq s 0=false) :
  Ex P n L w ⟨d,.fieldAddr t x f,ty,pos,af,g⟩ (ptr b (o+off)) w:=fun a ha=>by
 subst ho;have h0':s≠0:=fun e=>by rw [e] at h0; cases h0
 have h1:=X15 b o fd.offset;simp [execOp,hx a ha,Instr.fieldAt,run_underlying ht,hf,Instr.sureAddr,fieldPlace,hs,h0',h1]
theorem Ex.fieldAddrI {d:Option Nat} {p:Addr} {f:Nat} {fs:Array Field} {fd:Field} {s:Nat} (off:Nat) (hx:Ev n L x (.pointer (some p))) (ht:P.underlying t=some (.struct fs)) (hf:fs[f]?=some fd) (ho:fd.offset=off) (hs:∀ w,(Go.sizeOf fd.type).run P w=.ok s w) (h0:Nat.beq s 0=false) :
  Ex P n L w ⟨d,.fieldAddr t x f,ty,pos,af,g⟩ (.pointer (some (p.add off))) w:=fun a ha=>by
 subst ho;have h0':s≠0:=fun e=>by rw [e] at h0; cases h0
 simp [execOp,hx a ha,Instr.fieldAt,run_underlying ht,hf,Instr.sureAddr,fieldPlace,hs,h0']
theorem At.add {p:Addr} {vs:List Value} (h:At I p vs) (i:Nat):At I (p.add i) (vs.drop i):=by
 obtain ⟨hs,arr,E,fr,hi,hv⟩:=h;obtain ⟨pb,po,ps⟩:=p;simp only at hs hi hv
 subst hs;have e:(⟨pb,po,none⟩:Addr).add i=⟨pb,po+i,none⟩:=X15 pb po i;rw [e];exact ⟨rfl,arr,E,fr,hi,fun j v hj=>by rw [show po+i+j=po+(i+j) by omega]; exact hv (i+j) v (by simpa using hj)⟩
theorem Ex.indexAddr {d:Option Nat} {b o len cap s:Nat} {i:Int} (hx:Ev n L x (.slice (some (ad b o)) len cap)) (hy:Ev n L y (I64 i)) (hi:0<=i) (hl:i<len) (ht:P.underlying t=some (.slice e)) (hs:∀ w,(Go.sizeOf e).run P w=.ok s w) :
  Ex P n L w ⟨d,.indexAddr t x y,ty,pos,af,g⟩ (ptr b (o+i.toNat*s)) w:=fun a ha=>by
 have h:=run_indexAt_slice (P:=P) w t (ad b o) len cap .i64 i (by rw [X2j ht]; exact ht);rw [if_pos ⟨hi,hl⟩,X2j ht,hs] at h;simp only [Result.andThen_ok,X15] at h
 simp [execOp,hx a ha,hy a ha,h]
theorem Ex.indexAddrI {d:Option Nat} {p:Addr} {len cap s:Nat} {i:Int} (hx:Ev n L x (.slice (some p) len cap)) (hy:Ev n L y (I64 i)) (hi:0<=i) (hl:i<len) (ht:P.underlying t=some (.slice e)) (hs:∀ w,(Go.sizeOf e).run P w=.ok s w) :
  Ex P n L w ⟨d,.indexAddr t x y,ty,pos,af,g⟩ (.pointer (some (p.add (i.toNat*s)))) w:=fun a ha=>by
 have h:=run_indexAt_slice (P:=P) w t p len cap .i64 i (by rw [X2j ht]; exact ht);rw [if_pos ⟨hi,hl⟩,X2j ht,hs] at h;simp [execOp,hx a ha,hy a ha,h,Result.andThen]
theorem WL.box1 {E:TypeId} {v:Value} (hS:Sat B w I As) (hx:Ev n L x v) (h1:v.oneCell'=true) (hd:Nat.blt d n=true)
  (h:∀ b w',Sat B w' I (blk b [v] E::As)->WL P n ops K rest ((d,ptr b 0)::L) w'):WL P n ops K (⟨some d,.box E x,ty,pos,af,none⟩::rest) L w:=by
 refine WL.val (v:=ptr w.heap.size 0) (w':=w.alloc (Xl [v] E)) (fun a ha=>?_) hd (h _ _ (hS.alloc _));have hc:v.cells=#[v]:=by cases v <;> first | rfl | cases h1
 simp [execOp,hx a ha,Instr.box,newVar,newRow,newObj,X5y,hc,Xl]
theorem WL.boxA {E:TypeId} {cs:List Value} (hS:Sat B w I As) (hx:Ev n L x (.agg cs.toArray)) (hd:Nat.blt d n=true)
  (h:∀ b w',Sat B w' I (blk b cs E::As)->WL P n ops K rest ((d,ptr b 0)::L) w'):WL P n ops K (⟨some d,.box E x,ty,pos,af,none⟩::rest) L w:=by
 refine WL.val (v:=ptr w.heap.size 0) (w':=w.alloc (Xl cs E)) (fun a ha=>?_) hd (h _ _ (hS.alloc _));simp [execOp,hx a ha,Instr.box,newVar,newRow,newObj,X5y,Value.cells,Xl]
theorem WL.alloc1 {E:TypeId} {v:Value} (hS:Sat B w I As) (hz:∀ w,(zeroValue E).run P w=.ok v w) (h1:v.oneCell'=true) (hd:Nat.blt d n=true)
  (h:∀ b w',Sat B w' I (blk b [v] E::As)->WL P n ops K rest ((d,ptr b 0)::L) w'):WL P n ops K (⟨some d,.alloc E,ty,pos,af,none⟩::rest) L w:=by
 refine WL.val (v:=ptr w.heap.size 0) (w':=w.alloc (Xl [v] E)) (fun a ha=>?_) hd (h _ _ (hS.alloc _));have hc:v.cells=#[v]:=by cases v <;> first | rfl | cases h1
 simp [execOp,Instr.alloc,hz,newVar,newRow,newObj,X5y,hc,Xl]
theorem WL.allocA {E:TypeId} {cs:List Value} (hS:Sat B w I As) (hz:∀ w,(zeroValue E).run P w=.ok (.agg cs.toArray) w) (hd:Nat.blt d n=true)
  (h:∀ b w',Sat B w' I (blk b cs E::As)->WL P n ops K rest ((d,ptr b 0)::L) w'):WL P n ops K (⟨some d,.alloc E,ty,pos,af,none⟩::rest) L w:=by
 refine WL.val (v:=ptr w.heap.size 0) (w':=w.alloc (Xl cs E)) (fun a ha=>?_) hd (h _ _ (hS.alloc _));simp [execOp,Instr.alloc,hz,newVar,newRow,newObj,X5y,Value.cells,Xl]
theorem WL.buildSlice {len s:Nat} {parts:Array (Nat×Operand)} {vs:List (Nat×Value)} {z:Value} {cs:List Value} (hS:Sat B w I As) (hp:∀ a,Holds n L a->parts.toList.map (fun p=>(p.1,a.eval p.2))=vs)
  (ht:P.underlying t=some (.slice e)) (hs:∀ w,(Go.sizeOf e).run P w=.ok s w) (hz:∀ w,(zeroValue e).run P w=.ok z w) (h24:Nat.ble (len*s) 16777216=true) (hzs:z.cells.size=s)
  (hf:Xl1 (fun i=>some (i*s,s)) ((List.replicate len z.cells.toList).flatten) vs=some cs) (hd:Nat.blt d n=true)
  (h:∀ b w',Sat B w' I (blk b cs e::As)->WL P n ops K rest ((d,.slice (some (ad b 0)) len len)::L) w'):WL P n ops K (⟨some d,.buildSlice t len parts,ty,pos,af,none⟩::rest) L w:=by
 refine WL.val (v:=.slice (some (ad w.heap.size 0)) len len) (w':=w.alloc (Xl cs e)) (fun a ha=>?_) hd (h _ _ (hS.alloc _));have h24':¬ (16777216<len*s):=by have:=Y26 h24; omega
 have hv:=hp a ha;have hf:=X89 hf;rw [<- zerosL z s hzs] at hf
 by_cases h0:len*s=0
 ·have hr:(Array.range (len*s)).map (z.cells[· % z.cells.size]!)=#[]:=by simp [h0]
  rw [hr] at hf;simp [execOp,Instr.buildSlice,run_underlying ht,hs,h0,newRow,newObj,X5y,Array.range_zero',hv,hf,Xl]
 ·simp [execOp,Instr.buildSlice,run_underlying ht,hs,h24',h0,hz,newRow,newObj,X5y,hv,hf,Xl]
theorem X4:∀ a:Act,Holds n L a->(#[]:Array (Nat×Operand)).toList.map (fun p=>(p.1,a.eval p.2))=[]:=fun _ _=>rfl
theorem Xlk {i:Nat} {v:Value} {ps:List (Nat×Operand)} {vs:List (Nat×Value)} (hx:Ev n L x v) (h:∀ a,Holds n L a->ps.toArray.toList.map (fun p=>(p.1,a.eval p.2))=vs) :
  ∀ a,Holds n L a->((i,x)::ps).toArray.toList.map (fun p=>(p.1,a.eval p.2))=(i,v)::vs:=fun a ha=>by
 have:=h a ha
 simp only [Y1b] at this ⊢
 rw [hx a ha,this]
def Bld (P:Program) (t:TypeId) (pl:List (Nat×Nat)) (zs:List Value):Prop:=∀ (parts:Array (Nat×Value)) (cs:Array Value) (w:World),Instr.fill (fun i:Nat=>pl[i]?) zs.toArray parts.toList=some cs->(Instr.build t parts).run P w=.ok (.agg cs) w
theorem Ex.build {d:Option Nat} {parts:Array (Nat×Operand)} {vs:List (Nat×Value)} {pl:List (Nat×Nat)} {zs cs:List Value} (hp:∀ a,Holds n L a->parts.toList.map (fun p=>(p.1,a.eval p.2))=vs) (hb:Bld P t pl zs)
  (hf:Xl1 (fun i:Nat=>pl[i]?) zs vs=some cs):Ex P n L w ⟨d,.build t parts,ty,pos,af,g⟩ (.agg cs.toArray) w:=fun a ha=>by
 have hr:=hb (parts.map fun (i,x)=>(i,a.eval x)) cs.toArray w (by rw [Array.toList_map,hp a ha]; exact X89 hf);simp only [execOp,hr,Sem.run_bind,Result.andThen_ok,Sem.run_pure]
theorem X23 {fs:Array Field} {z:Value} {pl:List (Nat×Nat)} (ht:P.underlying t=some (.struct fs)) (hz:∀ w,(zeroValue t).run P w=.ok z w) (hm:∀ w,((fs.mapM fun f=>do pure (f.offset,<- Go.sizeOf f.type)):Sem (Array (Nat×Nat))).run P w=.ok pl.toArray w):Bld P t pl z.cells.toList:=by
 intro parts cs w hf;have e:(fun i:Nat=>pl.toArray[i]?)=(fun i:Nat=>pl[i]?):=by funext i; simp
 simp only [Array.toArray_toList] at hf
 rw [<- e] at hf;simp only [Instr.build,Sem.run_bind,hz,run_underlying ht,Result.andThen_ok,hm,hf,Sem.run_pure]
theorem WL.st1 {b o:Nat} {cs:List Value} {E:TypeId} {v:Value} (hS:Sat B w I As) (hk:As[k]?=some (blk b cs E)) (hx:Ev n L x (ptr b o)) (hy:Ev n L y v) (h1:v.oneCell'=true) (hs:∀ w,(Go.sizeOf t).run P w=.ok 1 w) (ho:o<cs.length)
  (h:∀ w',Sat B w' I (As.set k (blk b (cs.set o v) E))->WL P n ops K rest L w'):WL P n ops K (⟨none,.store t x y,ty,pos,af,none⟩::rest) L w:=by
 have hb:=hS.block hk;have hcell:=X1b hb (Y4 ho);have hfro:=Xl7 hb o;have hc:v.cells=#[v]:=by cases v <;> first | rfl | cases h1
 have hlt:b<w.heap.size:=(Y1a.1 hb).1;have hst:=run_store P w (ad b o) v .plain h1;rw [hcell] at hst;simp only [hfro] at hst
 have hset:=setCell_eq_setRow w b o _ _ (0,0) v hb;refine WL.st (w':=w.setCell (ad b o) v) (fun a ha=>?_) (h _ (hS.write (o':=Xl (cs.set o v) E) hk rfl rfl rfl ?_ fun c hc=>?_))
 ·have e0:(ad b o).add 0=ad b o:=rfl;simp [execOp,hx a ha,hy a ha,Instr.storeAt,Instr.sureAddr,storeVar,hs,hc,storeCells,e0,hst]
 ·rw [hset,setRow_heap w b _ _ _ _ hb];simp [Xl]
 ·rw [hset,setRow_other w b c _ hc]
theorem WL.stA {b o s:Nat} {cs vs:List Value} {E:TypeId} (hS:Sat B w I As) (hk:As[k]?=some (blk b cs E)) (hx:Ev n L x (ptr b o)) (hy:Ev n L y (.agg vs.toArray)) (h1:vs.all Value.oneCell'=true) (hs:∀ w,(Go.sizeOf t).run P w=.ok s w) (hl:vs.length=s) (ho:o+s<=cs.length)
  (h:∀ w',Sat B w' I (As.set k (blk b (cs.take o ++ vs ++ cs.drop (o+s)) E))->WL P n ops K rest L w'):WL P n ops K (⟨none,.store t x y,ty,pos,af,none⟩::rest) L w:=by
 subst hl;have hb:=hS.block hk;have hst:=run_storeCells_at P b o E vs 0 cs.toArray w hb (by simpa using ho) (Y1c.1 h1);simp only [Y21] at hst
 refine WL.st (w':=w.setRow b (cs.take o ++ vs ++ cs.drop (o+vs.length)).toArray) (fun a ha=>?_) (h _ (hS.write (o':=Xl _ E) hk rfl rfl rfl (setRow_heap w b _ _ E _ hb) fun c hc=>setRow_other w b c _ hc));simp [execOp,hx a ha,hy a ha,Instr.storeAt,Instr.sureAddr,storeVar,hs,Value.cells,hst]
theorem WL.append {E size m c nn b:Nat} {v:Value} {xs news:List Value} {i:TypeInfo} {z:Value} {bytes:Nat} {E':TypeId} (hS:Sat B w I (blk b news E'::As)) (hx:Ev n L x v) (hy:Ev n L y (.slice (some (ad b 0)) m c))
  (hk:As[k]?=some (Vec E size v nn xs)) (ht:P.underlying t=some (.slice E)) (hi:P.info? E=some i) (hz:i.zero=some z) (hsize:i.size=size) (hby:i.bytes=bytes) (hzs:z.cells.size=size)
  (hl:news.length=m*size) (hm:Nat.blt 0 m=true) (h1:news.all Value.oneCell'=true) (h63:(nn+m)*bytes<=140737488355328/\nn+m<=maxLen) (hd:Nat.blt d n=true)
  (h:∀ v' w',Sat B w' I (As.set k (Vec E size v' (nn+m) (xs ++ news)))->WL P n ops K rest ((d,v')::L) w') :
  WL P n ops K (⟨some d,.call ⟨.builtin .append,#[x,y],#[t,t]⟩,ty,pos,af,none⟩::rest) L w:=by
 have hb:=hS.block (k:=0) rfl;obtain ⟨v',w',hr,hS'⟩:=X2r (P:=P) (ty:=ty) (k:=k+1) hS ht hi hz hsize hby hzs hk (p:=ad b 0) (m:=m) (c:=c) hl (Y26 hm) (fun j u hu=>by rw [X15,Yc]; exact X1b hb hu) (Y1c.1 h1) h63.2 h63.1
 have hS2:=hS'.drop (k:=0) (A:=blk b news E') (by simp);simp only [Y4c,List.eraseIdx_cons_zero] at hS2
 refine WL.val (v:=v') (w':=w') (fun a ha=>?_) hd (h _ _ hS2);simp [execOp,resolve,invoke,builtin,hx a ha,hy a ha,hr]
theorem WL.make {l:Nat} {i:TypeInfo} {z:Value} {y:Operand} (hS:Sat B w I As) (hx:Ev n L x (I64 l)) (hy:Ev n L y (I64 l)) (ht:P.underlying t=some (.slice e)) (hi:P.info? e=some i) (hz:i.zero=some z) (hb:(i.bytes:Int)*l<=281474976710656) (hl:(l:Int)<=9223372036854775807)
  (hone:z.cells=#[z]) (hs:i.size=1) (hd:Nat.blt d n=true)
  (h:∀ b w',Sat B w' I (blk b (List.replicate l z) e::As)->WL P n ops K rest ((d,.slice (some (ad b 0)) l l)::L) w'):WL P n ops K (⟨some d,.makeSlice t x y,ty,pos,af,none⟩::rest) L w:=by
 have hr:=run_make (P:=P) w t e i z ht hi hz .i64 .i64 l l (by omega) (by omega) hb hl;have hm:madeCells z.cells ((l:Int).toNat*i.size)=(List.replicate l z).toArray:=by
  rw [hone,hs]
  apply Array.ext'
  simp [madeCells]
  apply Y1x
  intro j
  by_cases hj:j<l <;> simp [hj,Nat.mod_one]
 rw [hm] at hr;refine WL.val (v:=.slice (some (ad w.heap.size 0)) l l) (w':=w.alloc (Xl (List.replicate l z) e)) (fun a ha=>?_) hd (h _ _ (hS.alloc _));simp only [Yf] at hr
 simp [execOp,hx a ha,hy a ha,hr,Xl]
theorem Ex.slc {d:Option Nat} {a0:Option Addr} {len cap s:Nat} {lo hi:Int} {z:Operand} (hx:Ev n L x (.slice a0 len cap)) (hy:Ev n L y (I64 lo)) (hz:Ev n L z (I64 hi)) (h0:0<=lo) (h1:lo<=hi) (h2:hi<=cap) (ht:P.underlying t=some (.slice e)) (hs:∀ w,(Go.sizeOf e).run P w=.ok s w) :
  Ex P n L w ⟨d,.slice t x (some y) (some z) none,ty,pos,af,g⟩ (sliced a0 lo.toNat hi.toNat cap s) w:=fun a ha=>by
 have hT:P.underlying t=some (.slice (P.elem t)):=by rw [X2j ht]; exact ht
 have h:=run_slice_lh (P:=P) w t a0 len cap hT .i64 .i64 lo hi h0 h1 h2;rw [X2j ht,hs] at h;simp [execOp,hx a ha,hy a ha,hz a ha,run_sliceAt_slice w t _ _ _ _ hT,h,Result.andThen]
theorem Ex.slcTo {d:Option Nat} {a0:Option Addr} {len cap s:Nat} {hi:Int} {z:Operand} (hx:Ev n L x (.slice a0 len cap)) (hz:Ev n L z (I64 hi)) (h1:0<=hi) (h2:hi<=cap) (ht:P.underlying t=some (.slice e)) (hs:∀ w,(Go.sizeOf e).run P w=.ok s w) :
  Ex P n L w ⟨d,.slice t x none (some z) none,ty,pos,af,g⟩ (sliced a0 0 hi.toNat cap s) w:=fun a ha=>by
 have hT:P.underlying t=some (.slice (P.elem t)):=by rw [X2j ht]; exact ht
 have h:=run_slice_h (P:=P) w t a0 len cap hT .i64 hi h1 h2;rw [X2j ht,hs] at h;simp [execOp,hx a ha,hz a ha,run_sliceAt_slice w t _ _ _ _ hT,h,Result.andThen]
theorem Ex.slcFrom {d:Option Nat} {a0:Option Addr} {len cap s:Nat} {lo:Int} (hx:Ev n L x (.slice a0 len cap)) (hy:Ev n L y (I64 lo)) (h0:0<=lo) (h1:lo<=len) (ht:P.underlying t=some (.slice e)) (hs:∀ w,(Go.sizeOf e).run P w=.ok s w) :
  Ex P n L w ⟨d,.slice t x (some y) none none,ty,pos,af,g⟩ (sliced a0 lo.toNat len cap s) w:=fun a ha=>by
 have hT:P.underlying t=some (.slice (P.elem t)):=by rw [X2j ht]; exact ht
 have h:=run_slice_l (P:=P) w t a0 len cap hT .i64 lo h0 h1;rw [X2j ht,hs] at h;simp [execOp,hx a ha,hy a ha,run_sliceAt_slice w t _ _ _ _ hT,h,Result.andThen]
def Xj (fn : Func) : Bool := fn.name != "runtime.NumGoroutine" && fn.body.isSome
theorem WL.call {f:FuncId} {fn:Func} {xs:List Operand} {ts:Array TypeId} {vs:List Value} {Q:Value->World->Prop} (hf:P.funcs[f]?=some fn) (hc:Xj fn=true) (hx:∀ a,Holds n L a->xs.map a.eval=vs) (hd:Nat.blt d n=true)
  (hcall:Calls P f vs.toArray w (Ret Q)) (h:∀ v w',Q v w'->WL P n ops K rest ((d,v)::L) w'):WL P n ops K (⟨some d,.call ⟨.value (.func f),xs.toArray,ts⟩,ty,pos,af,none⟩::rest) L w:=by
 intro a ha;refine wpList_plain rfl fun K' hK=>?_
 have he:(execOp a.eval (⟨some d,.call ⟨.value (.func f),xs.toArray,ts⟩,ty,pos,af,none⟩:Oper)).run P w=.ok (.enter f vs.toArray) w:=by
  unfold Xj at hc;simp only [Yn] at hc
  obtain ⟨h1,h2⟩:=hc;have h1' : ¬ fn.name = "runtime.NumGoroutine" := by simpa using h1
  have h2':¬ fn.body=none:=by intro e; rw [e] at h2; cases h2
  have hv:=hx a ha;simp [execOp,resolve,Act.eval,Deferred.ofValue,invoke,callFunc,program,Sem.run,hf,h1',h2',<- hv]
 unfold Oper.wp;rw [he];refine hcall.mono fun e w'' hq=>?_
 obtain ⟨v,rfl,hv⟩:=hq;exact hK _ _ (h v w'' hv _ (ha.put hd v))
theorem X0:∀ a:Act,Holds n L a->([]:List Operand).map a.eval=[]:=fun _ _=>rfl
theorem Xd {xs:List Operand} {v:Value} {vs:List Value} (hx:Ev n L x v) (h:∀ a,Holds n L a->xs.map a.eval=vs):∀ a,Holds n L a->(x::xs).map a.eval=v::vs:=fun a ha=>by
 rw [Y1b,hx a ha,h a ha]
end
end Gk
namespace Gk
open Go
section
variable {P:Program} {n:Nat} {K:X34} {L:Env} {w w':World} {ops:Array Oper} {rest:List Oper}
variable {B:World} {I:Im} {As:List X7} {k:Nat} {ty:TypeId} {pos:String} {af:Array Edge} {g:Option (Nat×Bool)} {t e:TypeId} {x y:Operand}
theorem Ex.mo {d:Option Nat} {x:Operand} {v:Value} (hx:ev L x=some v):Ex P n L w ⟨d,.move x,ty,pos,af,g⟩ v w:=Ex.move (hx:=.of hx)
theorem Ex.ao {d:Option Nat} {x:Operand} {v:Value} (hx:ev L x=some v):Ex P n L w ⟨d,.assign x,ty,pos,af,g⟩ v w:=Ex.assign (hx:=.of hx)
theorem Ex.po {d:Option Nat} {c x y:Operand} {b r:Bool} (hc:ev L c=some (.bool b)) (hx:ev L x=some (.bool true)) (hy:ev L y=some (Gk.gd b false (.bool r))):Ex P n L w ⟨d,.pick c x y,ty,pos,af,g⟩ (.bool (b || r)) w:=Ex.por (hc:=.of hc) (hx:=.of hx) (hy:=.of hy)
theorem Ex.pa {d:Option Nat} {c x y:Operand} {b r:Bool} (hc:ev L c=some (.bool b)) (hx:ev L x=some (Gk.gd b true (.bool r))) (hy:ev L y=some (.bool false)):Ex P n L w ⟨d,.pick c x y,ty,pos,af,g⟩ (.bool (b && r)) w:=Ex.pand (hc:=.of hc) (hx:=.of hx) (hy:=.of hy)
theorem Ex.no {d:Option Nat} {x:Operand} {p:Addr} (hx:ev L x=some (.pointer (some p))):Ex P n L w ⟨d,.nilCheck x,ty,pos,af,g⟩ (.pointer (some p)) w:=Ex.nilCheck (hx:=.of hx)
theorem Ex.fo {d:Option Nat} {b o f:Nat} {fs:Array Field} {fd:Field} {s:Nat} (off:Nat) (hx:ev L x=some (ptr b o)) (ht:P.underlying t=some (.struct fs)) (hf:fs[f]?=some fd) (ho:fd.offset=off) (hs:∀ w,(Go.sizeOf fd.type).run P w=.ok s w) (h0:Nat.beq s 0=false) :
    Ex P n L w ⟨d,.fieldAddr t x f,ty,pos,af,g⟩ (ptr b (o+off)) w:=Ex.fieldAddr (off:=off) (hx:=.of hx) (ht:=ht) (hf:=hf) (ho:=ho) (hs:=hs) (h0:=h0)
theorem Ex.fi {d:Option Nat} {p:Addr} {f:Nat} {fs:Array Field} {fd:Field} {s:Nat} (off:Nat) (hx:ev L x=some (.pointer (some p))) (ht:P.underlying t=some (.struct fs)) (hf:fs[f]?=some fd) (ho:fd.offset=off) (hs:∀ w,(Go.sizeOf fd.type).run P w=.ok s w) (h0:Nat.beq s 0=false) :
    Ex P n L w ⟨d,.fieldAddr t x f,ty,pos,af,g⟩ (.pointer (some (p.add off))) w:=Ex.fieldAddrI (off:=off) (hx:=.of hx) (ht:=ht) (hf:=hf) (ho:=ho) (hs:=hs) (h0:=h0)
theorem Ex.lo {d:Option Nat} {b o:Nat} {cs:List Value} {E:TypeId} {v:Value} (hx:ev L x=some (ptr b o)) (hS:Sat B w I As) (hk:As[k]?=some (blk b cs E)) (ht:∀ w,(isAgg t).run P w=.ok false w) (hv:cs[o]?=some v) :
    Ex P n L w ⟨d,.load t x,ty,pos,af,g⟩ v w:=Ex.ld (hx:=.of hx) (hS:=hS) (hk:=hk) (ht:=ht) (hv:=hv)
theorem Ex.io {d:Option Nat} {b o len cap s:Nat} {i:Int} (hx:ev L x=some (.slice (some (ad b o)) len cap)) (hy:ev L y=some (I64 i)) (hi:0<=i) (hl:i<len) (ht:P.underlying t=some (.slice e)) (hs:∀ w,(Go.sizeOf e).run P w=.ok s w) :
    Ex P n L w ⟨d,.indexAddr t x y,ty,pos,af,g⟩ (ptr b (o+i.toNat*s)) w:=Ex.indexAddr (hx:=.of hx) (hy:=.of hy) (hi:=hi) (hl:=hl) (ht:=ht) (hs:=hs)
theorem Ex.ii {d:Option Nat} {p:Addr} {len cap s:Nat} {i:Int} (hx:ev L x=some (.slice (some p) len cap)) (hy:ev L y=some (I64 i)) (hi:0<=i) (hl:i<len) (ht:P.underlying t=some (.slice e)) (hs:∀ w,(Go.sizeOf e).run P w=.ok s w) :
    Ex P n L w ⟨d,.indexAddr t x y,ty,pos,af,g⟩ (.pointer (some (p.add (i.toNat*s)))) w:=Ex.indexAddrI (hx:=.of hx) (hy:=.of hy) (hi:=hi) (hl:=hl) (ht:=ht) (hs:=hs)
theorem ec9 {xs:List Operand} {v:Value} {vs:List Value} (hx:ev L x=some v) (h:∀ a,Holds n L a->xs.map a.eval=vs):∀ a,Holds n L a->(x::xs).map a.eval=v::vs:=Xd (hx:=.of hx) (h:=h)
theorem pc9 {i:Nat} {v:Value} {ps:List (Nat×Operand)} {vs:List (Nat×Value)} (hx:ev L x=some v) (h:∀ a,Holds n L a->ps.toArray.toList.map (fun p=>(p.1,a.eval p.2))=vs) :
    ∀ a,Holds n L a->((i,x)::ps).toArray.toList.map (fun p=>(p.1,a.eval p.2))=(i,v)::vs:=Xlk (hx:=.of hx) (h:=h)
theorem WL.so {b o s:Nat} {cs vs:List Value} {E:TypeId} (hS:Sat B w I As) (hk:As[k]?=some (blk b cs E)) (hx:ev L x=some (ptr b o)) (hy:ev L y=some (.agg vs.toArray)) (h1:vs.all Value.oneCell'=true) (hs:∀ w,(Go.sizeOf t).run P w=.ok s w) (hl:vs.length=s) (ho:o+s<=cs.length)
    (h:∀ w',Sat B w' I (As.set k (blk b (cs.take o ++ vs ++ cs.drop (o+s)) E))->WL P n ops K rest L w'):WL P n ops K (⟨none,.store t x y,ty,pos,af,none⟩::rest) L w:=WL.stA (hS:=hS) (hk:=hk) (hx:=.of hx) (hy:=.of hy) (h1:=h1) (hs:=hs) (hl:=hl) (ho:=ho) (h:=h)
theorem WL.s1 {b o:Nat} {cs:List Value} {E:TypeId} {v:Value} (hS:Sat B w I As) (hk:As[k]?=some (blk b cs E)) (hx:ev L x=some (ptr b o)) (hy:ev L y=some v) (h1:v.oneCell'=true) (hs:∀ w,(Go.sizeOf t).run P w=.ok 1 w) (ho:o<cs.length)
    (h:∀ w',Sat B w' I (As.set k (blk b (cs.set o v) E))->WL P n ops K rest L w'):WL P n ops K (⟨none,.store t x y,ty,pos,af,none⟩::rest) L w:=WL.st1 (hS:=hS) (hk:=hk) (hx:=.of hx) (hy:=.of hy) (h1:=h1) (hs:=hs) (ho:=ho) (h:=h)
theorem WL.vm {d:Nat} {v:Value} (hx:ev L x=some v) (hd:Nat.blt d n=true) (h:WL P n ops K rest ((d,v)::L) w):WL P n ops K (⟨some d,.move x,ty,pos,af,none⟩::rest) L w:=WL.val (.move (.of hx)) hd h
theorem WL.gm {d j t:Nat} {b want:Bool} {v:Value} (hj:(ops[j]?).bind (·.dst)=some t) (hb:look L t=some (.bool b)) (hx:ev L x=some v) (hd:Nat.blt d n=true) (h:WL P n ops K rest ((d,gd b want v)::L) w):WL P n ops K (⟨some d,.move x,ty,pos,af,some (j,want)⟩::rest) L w:=WL.gval hj hb (fun _=>.move (.of hx)) hd h
end
end Gk
namespace Gk
open Go
section
variable {P:Program} {n:Nat} {K:X34} {L:Env} {w w':World} {ops:Array Oper} {rest:List Oper}
variable {B:World} {I:Im} {As:List X7} {k:Nat} {d:Nat} {ty:TypeId} {pos:String} {af:Array Edge} {g:Option (Nat×Bool)} {t e:TypeId} {x y:Operand}
theorem WC.cutS {c c':Code} {σ:Type} (E:σ->Env) (inv:σ->World->Prop) (h:WC P n c (Xby (fun L w=>∃ s,Sub (E s) L/\inv s w) K) L w) (h2:∀ s w,inv s w->WC P n c' K (E s) w):WC P n (.seq c c') K L w :=
 WC.cut _ h fun _ _ ⟨s,hs,hi⟩=>(h2 s _ hi).sub hs
theorem Xx7 {α:Type} (f:α->Value) (l:List α) (dflt:α) (rest:List Value) {i:Int} (hi:0<=i) (hl:i<(l.length:Int)) (s:Nat) (hs:s=1):(l.map f ++ rest)[0+i.toNat*s]?=some (f (l.getD i.toNat dflt)):=by
 subst hs;have h:i.toNat<l.length:=by omega
 simp [Y2o,h,Y8]
theorem Ex.ldE {d:Option Nat} {α:Type} {b s:Nat} {E:TypeId} (f:α->Value) (l:List α) (dflt:α) (r:List Value) {i:Int} (hx:Ev n L x (ptr b (0+i.toNat*s))) (hS:Sat B w I As) (hk:As[k]?=some (blk b (l.map f ++ r) E)) (hs:s=1) (ht:∀ w,(isAgg t).run P w=.ok false w) (hi:0<=i) (hl:i<(l.length:Int)) :
  Ex P n L w ⟨d,.load t x,ty,pos,af,g⟩ (f (l.getD i.toNat dflt)) w:=Ex.ld hx hS hk ht (Xx7 f l dflt r hi hl s hs)
theorem Ex.ldEI {d:Option Nat} {α:Type} {p:Addr} {s:Nat} (f:α->Value) (l:List α) (dflt:α) {i:Int} (hx:Ev n L x (.pointer (some (p.add (i.toNat*s))))) (hS:Sat B w I As) (ha:At I p (l.map f)) (hs:s=1) (ht:∀ w,(isAgg t).run P w=.ok false w) (hi:0<=i) (hl:i<(l.length:Int)) :
  Ex P n L w ⟨d,.load t x,ty,pos,af,g⟩ (f (l.getD i.toNat dflt)) w :=
 Ex.ldI hx hS (ha.add _) ht (by
  subst hs;have h:i.toNat<l.length:=by omega
  simp [h,Y8])
theorem WL.stE {α:Type} {b s:Nat} {E:TypeId} (f:α->Value) (l:List α) (r:List Value) {i:Int} {u:α} (hS:Sat B w I As) (hk:As[k]?=some (blk b (l.map f ++ r) E)) (hx:Ev n L x (ptr b (0+i.toNat*s))) (hy:Ev n L y (f u)) (h1:(f u).oneCell'=true) (hs:s=1) (ht:∀ w,(Go.sizeOf t).run P w=.ok 1 w) (hi:0<=i) (hl:i<(l.length:Int))
  (h:∀ w',Sat B w' I (As.set k (blk b ((l.set i.toNat u).map f ++ r) E))->WL P n ops K rest L w'):WL P n ops K (⟨none,.store t x y,ty,pos,af,none⟩::rest) L w:=by
 subst hs;have h0:i.toNat<l.length:=by omega
 refine .st1 hS hk hx hy h1 ht (by simp; omega) fun w' hS'=>h w' ?_
 have e:(l.map f ++ r).set (0+i.toNat*1) (f u)=(l.set i.toNat u).map f ++ r:=by
  rw [Y42 _ _ (by simp; omega),List.map_set]
  simp
 rw [e] at hS';exact hS'
theorem Sat.vecTake {E size m c nn:Nat} {a:Option Addr} {xs:List Value} (hS:Sat B w I As) (hk:As[k]?=some (Vec E size (.slice a nn c) nn xs)) (hm:m<=nn):Sat B w I (As.set k (Vec E size (sliced a 0 m c size) m (xs.take (m*size)))) :=
 hS.say hk fun h ⟨hl,hh⟩=>by
  have hml:m*size<=xs.length:=by rw [hl]; exact Y3g _ hm
  refine ⟨by rw [Yr]; omega,?_⟩;rcases hh with ⟨hv,rfl,rfl⟩ | ⟨b,cap,r,hv,rfl,h1,h2,h3⟩
  ·injection hv with hv hv2 hv3
   subst hv; subst hv3;have hm0:m=0:=by omega
   subst hm0;exact .inl ⟨rfl,rfl,rfl⟩
  ·injection hv with hv hv2 hv3
   subst hv; subst hv3;refine .inr ⟨b,c,xs.drop (m*size) ++ r,?_,?_,by omega,h2,?_⟩
   ·simp only [sliced,Y32,Y5b,Y3y]
    congr 1
    split <;> rfl
   ·rw [<- Yd,Yv]
   ·rw [Y0,Yr,Yg]; omega
theorem Sat.vecTakeI {α:Type} {f:α->Value} {E m c:Nat} {a:Option Addr} {l:List α} (hS:Sat B w I As) (hk:As[k]?=some (Vec E 1 (.slice a l.length c) l.length (l.map f))) (hm:m<=l.length) :
  ∃ a2 c2,sliced a 0 m c 1=.slice a2 (l.take m).length c2/\Sat B w I (As.set k (Vec E 1 (.slice a2 (l.take m).length c2) (l.take m).length ((l.take m).map f))):=by
 have h:=hS.vecTake hk hm;have e:(l.take m).length=m:=by rw [Yr]; omega
 rw [Y1n,<- List.map_take] at h;rw [e];exact ⟨_,_,rfl,h⟩
theorem Sat.vecCap {E size c nn:Nat} {a:Option Addr} {xs:List Value} (hS:Sat B w I As) (hk:As[k]?=some (Vec E size (.slice a nn c) nn xs)):nn<=c :=
 hS.pure_ hk fun _ ⟨_,hh⟩=>by
  rcases hh with ⟨_,rfl,_⟩ | ⟨b,cap,r,hv,_,h1,_⟩
  ·omega
  ·injection hv with _ _ hv3
   omega
theorem WL.appendV {E size m c nn j:Nat} {a:Option Addr} {v:Value} {xs ys:List Value} {i:TypeInfo} {z:Value} {bytes:Nat} (hS:Sat B w I As) (hx:Ev n L x v) (hy:Ev n L y (.slice a m c))
  (hk:As[k]?=some (Vec E size v nn xs)) (hj:As[j]?=some (Vec E size (.slice a m c) m ys)) (ht:P.underlying t=some (.slice E)) (hi:P.info? E=some i) (hz:i.zero=some z) (hsize:i.size=size) (hby:i.bytes=bytes) (hzs:z.cells.size=size)
  (h1:ys.all Value.oneCell'=true) (h63:(nn+m)*bytes<=140737488355328/\nn+m<=maxLen) (hd:Nat.blt d n=true)
  (h:∀ v' w',Sat B w' I (As.set k (Vec E size v' (nn+m) (xs ++ ys)))->WL P n ops K rest ((d,v')::L) w') :
  WL P n ops K (⟨some d,.call ⟨.builtin .append,#[x,y],#[t,t]⟩,ty,pos,af,none⟩::rest) L w:=by
 have hys:ys.length=m*size:=hS.pure_ hj fun _ hh=>hh.1
 rcases Y1v m with h0 | h0
 ·subst h0;have hy0:ys=[]:=Yj (by simpa using hys);subst hy0;obtain ⟨a0,c0,rfl,hc0,_⟩:=hS.vecSlice hk;have hr:(Builtin.append_ #[t,t] ty #[.slice a0 nn c0,.slice a 0 c]).run P w=.ok (.slice a0 nn c0) w:=by
   subst hsize;cases a0 <;> cases a <;> simp [Builtin.append_,run_underlying ht,Go.sizeOf,typeInfo,hi,Builtin.lenOf,Builtin.firstCells,loadCells,loadCellsFrom,storeCells,hc0]
  have h2:=h (.slice a0 nn c0) w (by
   have hlk:k<As.length:=(Y5.1 hk).1
   have:As.set k (Vec E size (.slice a0 nn c0) (nn+0) (xs ++ []))=As:=by
    rw [Y21,Y9]
    have:=(Y5.1 hk).2
    rw [<- this,List.set_getElem_self]
   rw [this]; exact hS)
  exact WL.val (w':=w) (fun a' ha=>by simp [execOp,resolve,invoke,builtin,hx a' ha,hy a' ha,hr]) hd h2
 ·obtain ⟨b,cap,r,hv,_,_,_,_,hSo⟩:=hS.vecOpen hj h0;injection hv with hv hv2 hv3
  subst hv; subst hv3;have hlj:j<As.length:=(Y5.1 hj).1;have hb:=hSo.block (k:=j) (b:=b) (o:=Xl (ys ++ r) E) (by simp [hlj,blk]);obtain ⟨v',w',hr,hS'⟩:=X2r (P:=P) (ty:=ty) hS ht hi hz hsize hby hzs hk (p:=ad b 0) (m:=m) (c:=c) hys h0 (fun q u hu=>by
   rw [X15,Yc];refine X1b hb ?_;have hq:q<ys.length:=(Y5.1 hu).1;rw [Yi hq]; exact hu) (Y1c.1 h1) h63.2 h63.1
  exact WL.val (w':=w') (fun a' ha=>by simp [execOp,resolve,invoke,builtin,hx a' ha,hy a' ha,hr]) hd (h _ _ hS')
theorem Xvr {α:Type} (f:α->Value) (hf:∀ x,(f x).oneCell'=true) (l:List α):(l.map f).all Value.oneCell'=true:=by
 rw [List.all_map,Y1c];exact fun x _=>hf x
theorem Xwu (l:List Int):(l.map I64).all Value.oneCell'=true:=Xvr _ (fun _=>rfl) l
theorem Xe (l:List UInt8) {k:Nat} (h:k<l.length):l.drop k=at_ l (k:Int)::l.drop (k+1):=by
 rw [Y13 h];simp [at_,Y8,h]
end
end Gk
namespace Gk
open Go
def WQ (P:Program) (n:Nat) (ops:Array Oper) (C:World->Prop) (K:Env->Prop) (l:List Oper) (L:Env):Prop :=
 ∀ a,Holds n L a->wpQuiet P ops C (fun a'=>∃ L',Holds n L' a'/\K L') l a
def WT (P:Program) (n:Nat) (ops:Array Oper) (w:World) (K:X34) (rest l:List Oper) (L:Env):Prop :=
 ∀ a,Holds n L a->wpStill P ops w (fun a'=>wpList P ops (Xst n K) rest a' w) l a
section
variable {P:Program} {n:Nat} {K:X34} {L:Env} {w:World} {ops:Array Oper} {rest tl:List Oper} {C:World->Prop} {k:Env->Prop}
variable {B:World} {I:Im} {As:List X7}
theorem WC.quiet {id:Nat} {l:List Oper} (hm:P.follows .mixedOrders=true) (hB:Region.lexB .any l.toArray=true) (hS:Sat B w I As)
  (h:WQ P n l.toArray (fun w=>Sat B w I As) (fun L'=>∀ w',Sat B w' I As->K .normal L' w') l L):WC P n (.region id l.toArray true) K L w:=by
 intro a ha;refine wp_region_quiet (C:=fun w=>Sat B w I As) hm hB (hS.world rfl rfl rfl rfl) ?_;have h1:=h a ha;have mono:∀ (l':List Oper) (a:Act) (Q Q':Act->Prop),(∀ a,Q a->Q' a)->wpQuiet P l.toArray (fun w=>Sat B w I As) Q l' a->wpQuiet P l.toArray (fun w=>Sat B w I As) Q' l' a:=by
  intro l'
  induction l' with
  | nil=>intro a Q Q' hq hh; exact hq _ hh
  | cons o r ih =>
   intro a Q Q' hq hh;unfold wpQuiet at hh ⊢;split
   ·rename_i hw; rw [if_pos hw] at hh; exact Oper.quiet_mono (fun a=>ih a Q Q' hq) hh
   ·rename_i hw; rw [if_neg hw] at hh; exact ih _ Q Q' hq hh
 refine mono l a (fun a'=>∃ L',Holds n L' a'/\∀ w',Sat B w' I As->K .normal L' w') _ (fun a' hh w' hw'=>?_) h1;obtain ⟨L',hL,hk⟩:=hh;exact ⟨L',hL,hk w' hw'⟩
theorem WQ.nil (h:k L):WQ P n ops C k [] L:=fun a ha=>wpQuiet_nil ⟨L,ha,h⟩
theorem WQ.val {d:Nat} {op:Op} {ty:TypeId} {pos:String} {af:Array Edge} {v:Value} (hx:∀ w,C w->Ex P n L w ⟨some d,op,ty,pos,af,none⟩ v w) (hd:Nat.blt d n=true)
  (h:WQ P n ops C k rest ((d,v)::L)):WQ P n ops C k (⟨some d,op,ty,pos,af,none⟩::rest) L:=by
 intro a ha;refine wpQuiet_step fun K' hK=>?_
 rw [if_pos (X2n rfl _)];refine ⟨v,fun w hw=>?_,hK _ (h _ (ha.put hd v))⟩;unfold Oper.quietAt;rw [hx w hw a ha];exact ⟨rfl,rfl⟩
theorem WQ.gvals {d j t:Nat} {c:List (Bool×Bool)} {b want:Bool} {op:Op} {ty:TypeId} {pos:String} {af:Array Edge} {v:Value}
  (hj:(ops[j]?).bind (·.dst)=some t) (ht:Nat.blt t n=true) (hb:look L t=some (gds c (.bool b))) (hx:(∀ p∈c ++ [(b,want)],p.1=p.2)->∀ w,C w->Ex P n L w ⟨some d,op,ty,pos,af,some (j,want)⟩ v w) (hd:Nat.blt d n=true)
  (h:WQ P n ops C k rest ((d,gds (c ++ [(b,want)]) v)::L)):WQ P n ops C k (⟨some d,op,ty,pos,af,some (j,want)⟩::rest) L:=by
 intro a ha;refine wpQuiet_step fun K' hK=>?_
 have hput:=h _ (ha.put hd (gds (c ++ [(b,want)]) v));have hlt:t<a.tmps.size:=by have:=Y26 ht; rw [ha.size]; omega
 have hv:=ha.get t _ hb;have hy:yielded ops a.tmps j=match gds c (.bool b) with | .bool b=>some b | _=>none:=by
  obtain ⟨o,ho,hdd⟩:=Y2e.1 hj;rw [Y16,Y19 hlt] at hv;simp only [Y2z] at hv
  have h2:a.tmps[t]?=some (gds c (.bool b)):=by rw [Y19 hlt,hv]
  simp only [yielded,ho,hdd,Y38,h2]
  generalize gds c (.bool b)=g;cases g <;> rfl
 by_cases e:∀ p∈c ++ [(b,want)],p.1=p.2
 ·have ec:∀ p∈c,p.1=p.2:=fun p hp=>e p (by simp [hp])
  have eb:b=want:=e (b,want) (by simp);rw [X2m ec] at hy;rw [if_pos (by simp [Region.wanted,hy,eb])];rw [X2m e] at hput;refine ⟨v,fun w hw=>?_,hK _ hput⟩;unfold Oper.quietAt;rw [hx e w hw a ha];exact ⟨rfl,rfl⟩
 ·have hw:Region.wanted (⟨some d,op,ty,pos,af,some (j,want)⟩:Oper) (yielded ops a.tmps)=false:=by
   by_cases ec:∀ p∈c,p.1=p.2
   ·rw [X2m ec] at hy;have eb:¬ b=want:=fun eb=>e fun p hp=>by
     rcases Y12.1 hp with hp | hp
     ·exact ec p hp
     ·simp at hp; subst hp; exact eb
    simp [Region.wanted,hy,eb]
   ·rw [X4k ec] at hy;simp [Region.wanted,hy,undef]
  rw [if_neg (by simp [hw])];rw [X4k e] at hput;exact hK _ hput
theorem WQ.gval {d j t:Nat} {b want:Bool} {op:Op} {ty:TypeId} {pos:String} {af:Array Edge} {v:Value}
  (hj:(ops[j]?).bind (·.dst)=some t) (ht:Nat.blt t n=true) (hb:look L t=some (.bool b)) (hx:b=want->∀ w,C w->Ex P n L w ⟨some d,op,ty,pos,af,some (j,want)⟩ v w) (hd:Nat.blt d n=true)
  (h:WQ P n ops C k rest ((d,gd b want v)::L)):WQ P n ops C k (⟨some d,op,ty,pos,af,some (j,want)⟩::rest) L :=
 WQ.gvals (c:=[]) hj ht hb (fun e=>hx (e (b,want) (by simp))) hd h
theorem WQ.gval2 {d j t:Nat} {b1 w1 b want:Bool} {op:Op} {ty:TypeId} {pos:String} {af:Array Edge} {v:Value}
  (hj:(ops[j]?).bind (·.dst)=some t) (ht:Nat.blt t n=true) (hb:look L t=some (gd b1 w1 (.bool b))) (hx:b1=w1->b=want->∀ w,C w->Ex P n L w ⟨some d,op,ty,pos,af,some (j,want)⟩ v w) (hd:Nat.blt d n=true)
  (h:WQ P n ops C k rest ((d,gd b1 w1 (gd b want v))::L)):WQ P n ops C k (⟨some d,op,ty,pos,af,some (j,want)⟩::rest) L :=
 WQ.gvals (c:=[(b1,w1)]) hj ht hb (fun e=>hx (e (b1,w1) (by simp)) (e (b,want) (by simp))) hd h
theorem WQ.call {d:Nat} {ty:TypeId} {pos:String} {af:Array Edge} {f:FuncId} {fn:Func} {xs:List Operand} {ts:Array TypeId} {vs:List Value} {v:Value} (hf:P.funcs[f]?=some fn) (hc:Xj fn=true) (hx:∀ a,Holds n L a->xs.map a.eval=vs) (hd:Nat.blt d n=true)
  (hcall:∀ w,C w->Calls P f vs.toArray w (Ret fun u w'=>u=v/\C w')) (h:WQ P n ops C k rest ((d,v)::L)):WQ P n ops C k (⟨some d,.call ⟨.value (.func f),xs.toArray,ts⟩,ty,pos,af,none⟩::rest) L:=by
 intro a ha;refine wpQuiet_step fun K' hK=>?_
 rw [if_pos (X2n rfl _)];refine ⟨v,fun w hw=>?_,hK _ (h _ (ha.put hd v))⟩;have he:(execOp a.eval (⟨some d,.call ⟨.value (.func f),xs.toArray,ts⟩,ty,pos,af,none⟩:Oper)).run P w=.ok (.enter f vs.toArray) w:=by
  unfold Xj at hc;simp only [Yn] at hc
  obtain ⟨h1,h2⟩:=hc;have h1' : ¬ fn.name = "runtime.NumGoroutine" := by simpa using h1
  have h2':¬ fn.body=none:=by intro e; rw [e] at h2; cases h2
  have hv:=hx a ha;simp [execOp,resolve,Act.eval,Deferred.ofValue,invoke,callFunc,program,Sem.run,hf,h1',h2',<- hv]
 unfold Oper.quietAt;rw [he];refine ⟨rfl,(hcall w hw).mono ?_⟩;rintro e w'' ⟨u,rfl,rfl,hC⟩;exact ⟨rfl,hC⟩
theorem WC.tail {id:Nat} {l:List Oper} (N:Nat) (hm:P.follows .mixedOrders=true) (hB:Region.lexTailB .any l.toArray N=true)
  (h:WT P n l.toArray w.drew K (l.drop N) (l.take N) L):WC P n (.region id l.toArray true) K L w:=by
 intro a ha;exact wp_region_still_tail N hm hB (h a ha)
theorem WT.nil (h:WL P n ops K tl L w):WT P n ops w K tl [] L:=fun a ha=>wpStill_nil (h a ha)
theorem WT.val {d:Nat} {op:Op} {ty:TypeId} {pos:String} {af:Array Edge} {v:Value} (hx:Ex P n L w ⟨some d,op,ty,pos,af,none⟩ v w) (hd:Nat.blt d n=true)
  (h:WT P n ops w K tl rest ((d,v)::L)):WT P n ops w K tl (⟨some d,op,ty,pos,af,none⟩::rest) L:=by
 intro a ha;refine wpStill_step fun K' hK=>?_
 rw [if_pos (X2n rfl _)];unfold Oper.still;rw [hx a ha];exact ⟨rfl,hK _ (h _ (ha.put hd v))⟩
end
end Gk
namespace Gk
open Go
theorem WT.vm {P:Program} {n:Nat} {K:X34} {L:Env} {w:World} {ops:Array Oper} {rest tl:List Oper} {d:Nat} {x:Operand} {ty:TypeId} {pos:String} {af:Array Edge} {v:Value} (hx:ev L x=some v) (hd:Nat.blt d n=true) (h:WT P n ops w K tl rest ((d,v)::L)):WT P n ops w K tl (⟨some d,.move x,ty,pos,af,none⟩::rest) L:=WT.val (.move (.of hx)) hd h
end Gk
namespace Gk
open Go
section
variable {P:Program} {ops:Array Oper} {Q:Exit->Act->World->Prop} {md:Region.Mode} {S:World->Prop} {nd:Nat->Bool}
def X96 (P:Program) (md:Region.Mode) (ops:Array Oper) (Q:Exit->Act->World->Prop) (S:World->Prop) (nd:Nat->Bool):Nat->Array Bool->Act->World->Prop
 | 0,listed,a,w=>Region.ready md ops listed=[]/\Q .normal a w
 | fuel+1,listed,a,w =>
  (Region.ready md ops listed=[]->Q .normal a w) /\
  ∀ i∈Region.ready md ops listed,wpOp P ops Q i (fun a' w'=>(nd i=true->S w->S w')/\X96 P md ops Q S nd fuel (listed.setIfInBounds i true) a' w') a w
theorem Xcm:∀ (fuel:Nat) (listed:Array Bool) (a:Act) (w:World),X96 P md ops Q S nd fuel listed a w->wpAny P md ops Q fuel listed a w
 | 0,_,_,_,h=>h
 | fuel+1,_,_,_,h=>⟨h.1,fun i hi=>wpOp_mono (fun a' w' h'=>Xcm fuel _ a' w' h'.2) (h.2 i hi)⟩
def Xbb (md:Region.Mode) (ops:Array Oper) (nd:Nat->Bool) (i:Nat):Bool :=
 (List.range ops.size).all fun j=>nd j || j == i || match ops[j]? with
  | some oj=>oj.after.any (fun e=>Region.binds md e && e.on == i)
  | none=>true
theorem Xii {i:Nat} {oi:Oper} {v:Value} (hi:ops[i]?=some oi) (hsel:∀ (j:Nat) (o:Oper) cs b,ops[j]?=some o->o.op≠.select cs b)
  (hQ:∀ c a w,Q (.panic c) (a.put oi.dst v) w->Q (.panic c) a w) :
  ∀ (fuel:Nat) (listed:Array Bool) (a:Act) (w:World),
   (∀ j oj,ops[j]?=some oj->j≠i->listed.getD j true=false->(∀ e∈oj.after,Region.binds md e=true->e.on≠i)->oi.apart ops oj=true) ->
   i∈Region.ready md ops listed->YieldsIf P ops (fun _=>True) oi v a ->
   X96 P md ops Q S nd fuel (listed.setIfInBounds i true) (a.put oi.dst v) w->X96 P md ops Q S nd (fuel+1) listed a w:=by
 intro fuel
 induction fuel with
 | zero =>
  intro listed a w _ hr hy H;refine ⟨fun h=>(by rw [h] at hr; cases hr),fun j hj=>?_⟩
  by_cases hji:j=i
  ·subst hji; exact hy.wpOp hi trivial ⟨fun _ h=>h,H⟩
  ·have:=ready_mono hj hji
   rw [H.1] at this;cases this
 | succ fuel ih =>
  intro listed a w hfree hr hy H;refine ⟨fun h=>(by rw [h] at hr; cases hr),fun j hj=>?_⟩
  by_cases hji:j=i
  ·subst hji; exact hy.wpOp hi trivial ⟨fun _ h=>h,H⟩
  ·have h1:=H.2 j (ready_mono hj hji);obtain ⟨hjun,oj,hoj,hall⟩:=mem_ready.1 hj;have hnot:∀ e∈oj.after,Region.binds md e=true->e.on≠i:=fun e he hb heq=>by
    have h1:=hall e he hb;have h0:=(mem_ready.1 hr).1;rw [heq] at h1;rcases Yp i listed.size with h' | h'
    ·simp [h'] at h0 h1; rw [h0] at h1; cases h1
    ·simp [Y4f h'] at h1
   have h2:=wpOp_putIf hoj (hfree j oj hoj hji hjun hnot) (fun cs b=>hsel i oi cs b hi) (fun cs b=>hsel j oj cs b hoj) hQ hy h1;have hfree':∀ k ok,ops[k]?=some ok->k≠i->(listed.setIfInBounds j true).getD k true=false ->
     (∀ e∈ok.after,Region.binds md e=true->e.on≠i)->oi.apart ops ok=true:=fun k ok hk hki hun hno=>by
    refine hfree k ok hk hki ?_ hno
    by_cases hjk:j=k
    ·subst hjk; exact hjun
    ·rw [getD_set_ne true hjk] at hun; exact hun
   refine wpOp_mono (fun a' w' h3=>⟨h3.2.1,ih (listed.setIfInBounds j true) a' w' hfree' (ready_mono hr (Ne.symm hji)) h3.1 ?_⟩) h2;rw [Y5g _ _ hji];exact h3.2.2
theorem X97 {i:Nat} {oi:Oper} {v:Value} (hi:ops[i]?=some oi) (hsel:∀ (j:Nat) (o:Oper) cs b,ops[j]?=some o->o.op≠.select cs b)
  (hQ:∀ c a w,Q (.panic c) (a.put oi.dst v) w->Q (.panic c) a w) (hnd:Xbb md ops nd i=true) :
  ∀ (fuel:Nat) (listed:Array Bool) (a:Act) (w:World),
   (∀ j oj,ops[j]?=some oj->j≠i->listed.getD j true=false->(∀ e∈oj.after,Region.binds md e=true->e.on≠i)->oi.apart ops oj=true) ->
   i∈Region.ready md ops listed->YieldsIf P ops S oi v a->S w ->
   X96 P md ops Q S nd fuel (listed.setIfInBounds i true) (a.put oi.dst v) w->X96 P md ops Q S nd (fuel+1) listed a w:=by
 intro fuel
 induction fuel with
 | zero =>
  intro listed a w _ hr hy hS H;refine ⟨fun h=>(by rw [h] at hr; cases hr),fun j hj=>?_⟩
  by_cases hji:j=i
  ·subst hji; exact hy.wpOp hi hS ⟨fun _ h=>h,H⟩
  ·have:=ready_mono hj hji
   rw [H.1] at this;cases this
 | succ fuel ih =>
  intro listed a w hfree hr hy hS H;refine ⟨fun h=>(by rw [h] at hr; cases hr),fun j hj=>?_⟩
  by_cases hji:j=i
  ·subst hji; exact hy.wpOp hi hS ⟨fun _ h=>h,H⟩
  ·have h1:=H.2 j (ready_mono hj hji);obtain ⟨hjun,oj,hoj,hall⟩:=mem_ready.1 hj;have hnot:∀ e∈oj.after,Region.binds md e=true->e.on≠i:=fun e he hb heq=>by
    have h1:=hall e he hb;have h0:=(mem_ready.1 hr).1;rw [heq] at h1;rcases Yp i listed.size with h' | h'
    ·simp [h'] at h0 h1; rw [h0] at h1; cases h1
    ·simp [Y4f h'] at h1
   have hndj:nd j=true:=by
    have hlt:j<ops.size:=(Y1a.1 hoj).1;have h9:=(Y1c.1 hnd) j (Y48.2 hlt);simp only [hoj,Y1j,beq_iff_eq,hji,or_false] at h9
    rcases h9 with h9 | h9
    ·exact h9
    ·obtain ⟨e,he,hb⟩:=Array.any_eq_true'.1 h9;simp only [Yn,beq_iff_eq] at hb
     exact absurd hb.2 (hnot e he hb.1)
   have h2:=wpOp_putIf hoj (hfree j oj hoj hji hjun hnot) (fun cs b=>hsel i oi cs b hi) (fun cs b=>hsel j oj cs b hoj) hQ hy h1;have hfree':∀ k ok,ops[k]?=some ok->k≠i->(listed.setIfInBounds j true).getD k true=false ->
     (∀ e∈ok.after,Region.binds md e=true->e.on≠i)->oi.apart ops ok=true:=fun k ok hk hki hun hno=>by
    refine hfree k ok hk hki ?_ hno
    by_cases hjk:j=k
    ·subst hjk; exact hjun
    ·rw [getD_set_ne true hjk] at hun; exact hun
   refine wpOp_mono (fun a' w' h3=>⟨fun _ _=>h3.2.1 hndj hS,ih (listed.setIfInBounds j true) a' w' hfree' (ready_mono hr (Ne.symm hji)) h3.1 (h3.2.1 hndj hS) ?_⟩) h2;rw [Y5g _ _ hji];exact h3.2.2
end
def noP (K:X34):X34
 | .panic _,_,_=>False
 | e,L,w=>K e L w
def WD (P:Program) (n:Nat) (ops:Array Oper) (S:World->Prop) (nd:Nat->Bool) (K:X34) (fuel:Nat) (listed:Array Bool) (L:Env) (w:World):Prop :=
 ∀ a,Holds n L a->X96 P .any ops (Xst n (noP K)) S nd fuel listed a w
section
variable {P:Program} {n:Nat} {K:X34} {L:Env} {w:World} {ops:Array Oper} {S:World->Prop} {nd:Nat->Bool} {fuel:Nat} {listed:Array Bool}
theorem WC.drawn (S:World->Prop) (nd:Nat->Bool) {id:Nat} {l:List Oper} (hm:P.follows .mixedOrders=true) (h:WD P n l.toArray S nd K l.toArray.size (Array.replicate l.toArray.size false) L w.drew):WC P n (.region id l.toArray true) K L w:=by
 refine .mono (K:=noP K) (fun a ha=>wp_region_any hm (Xcm _ _ _ _ (h a ha))) ?_;intro e L w hh;cases e <;> first | exact hh | exact hh.elim
theorem WD.done (hr:Region.ready .any ops listed=[]) (h:K .normal L w):WD P n ops S nd K fuel listed L w:=fun a ha=>by
 cases fuel with
 | zero=>exact ⟨hr,L,ha,h⟩
 | succ f=>exact ⟨fun _=>⟨L,ha,h⟩,by rw [hr]; simp⟩
theorem WD.take {i d:Nat} {op:Op} {ty:TypeId} {pos:String} {af:Array Edge} {v:Value} (hi:ops[i]?=some ⟨some d,op,ty,pos,af,none⟩) (hs:Region.noSelect ops=true) (hf:Region.free .any ops listed i=true) (hr:(Region.ready .any ops listed).contains i=true)
  (hnd:Xbb .any ops nd i=true) (hS:S w) (hx:∀ w,S w->Ex P n L w ⟨some d,op,ty,pos,af,none⟩ v w) (hd:Nat.blt d n=true)
  (h:WD P n ops S nd K fuel (listed.setIfInBounds i true) ((d,v)::L) w):WD P n ops S nd K (fuel+1) listed L w:=fun a ha =>
 X97 hi (Region.noSelect_spec hs) (fun _ _ _ ⟨_,_,hk⟩=>hk.elim) hnd fuel listed a w (Region.free_spec hi hf) (by simpa using hr)
  (.inl ⟨X2n rfl _,fun w hw=>hx w hw a ha⟩) hS (h _ (ha.put hd v))
theorem WD.takeP {i d:Nat} {op:Op} {ty:TypeId} {pos:String} {af:Array Edge} {v:Value} (hi:ops[i]?=some ⟨some d,op,ty,pos,af,none⟩) (hs:Region.noSelect ops=true) (hf:Region.free .any ops listed i=true) (hr:(Region.ready .any ops listed).contains i=true)
  (hx:∀ w,Ex P n L w ⟨some d,op,ty,pos,af,none⟩ v w) (hd:Nat.blt d n=true)
  (h:WD P n ops S nd K fuel (listed.setIfInBounds i true) ((d,v)::L) w):WD P n ops S nd K (fuel+1) listed L w:=fun a ha =>
 Xii hi (Region.noSelect_spec hs) (fun _ _ _ ⟨_,_,hk⟩=>hk.elim) fuel listed a w (Region.free_spec hi hf) (by simpa using hr)
  (.inl ⟨X2n rfl _,fun w _=>hx w a ha⟩) (h _ (ha.put hd v))
theorem WD.takeG {i d j t:Nat} {b want:Bool} {op:Op} {ty:TypeId} {pos:String} {af:Array Edge} {v:Value} (hi:ops[i]?=some ⟨some d,op,ty,pos,af,some (j,want)⟩) (hs:Region.noSelect ops=true) (hf:Region.free .any ops listed i=true) (hr:(Region.ready .any ops listed).contains i=true)
  (hnd:Xbb .any ops nd i=true) (hS:S w) (hj:(ops[j]?).bind (·.dst)=some t) (hb:look L t=some (.bool b)) (hx:b=want->∀ w,S w->Ex P n L w ⟨some d,op,ty,pos,af,some (j,want)⟩ v w) (hd:Nat.blt d n=true)
  (h:WD P n ops S nd K fuel (listed.setIfInBounds i true) ((d,gd b want v)::L) w):WD P n ops S nd K (fuel+1) listed L w:=fun a ha=>by
 have hy:=X8r ha hj hb;have hput:=h _ (ha.put hd (gd b want v));refine X97 hi (Region.noSelect_spec hs) (fun _ _ _ ⟨_,_,hk⟩=>hk.elim) hnd fuel listed a w (Region.free_spec hi hf) (by simpa using hr) (v:=gd b want v) ?_ hS hput
 by_cases e:b=want
 ·left
  refine ⟨by simp [Region.wanted,hy,e],fun w hw=>?_⟩
  have:=hx e w hw a ha
  subst e;simpa [gd] using this
 ·right
  have e':(b == want)=false:=by simpa using e
  refine ⟨by simp [Region.wanted,hy,e],?_⟩;simp only [gd,e',cond_false]
def WO (P:Program) (n:Nat) (ops:Array Oper) (S:World->Prop) (nd:Nat->Bool) (K:X34) (fuel:Nat) (listed:Array Bool) (L:Env) (w:World) (rs:List Nat):Prop :=
 ∀ i∈rs,∀ o,ops[i]?=some o->WL P n ops (Xby (fun L' w'=>(nd i=true->S w->S w')/\WD P n ops S nd K fuel (listed.setIfInBounds i true) L' w') (noP K)) [o] L w
theorem WO.nil:WO P n ops S nd K fuel listed L w []:=fun _ h=>by cases h
theorem WO.cons {i:Nat} {o:Oper} {rs:List Nat} (ho:ops[i]?=some o)
  (h:WL P n ops (Xby (fun L' w'=>(nd i=true->S w->S w')/\WD P n ops S nd K fuel (listed.setIfInBounds i true) L' w') (noP K)) [o] L w) (hr:WO P n ops S nd K fuel listed L w rs):WO P n ops S nd K fuel listed L w (i::rs):=by
 intro j hj o' ho';rcases Y17.1 hj with rfl | hj
 ·rw [ho] at ho'; cases ho'; exact h
 ·exact hr j hj o' ho'
theorem WD.branch (rs:List Nat) (hr:Region.ready .any ops listed=rs) (hne:rs.isEmpty=false) (h:WO P n ops S nd K fuel listed L w rs):WD P n ops S nd K (fuel+1) listed L w:=by
 intro a ha;refine ⟨fun h0=>?_,fun i hi=>?_⟩
 ·rw [hr] at h0; rw [h0] at hne; cases hne
 ·rw [hr] at hi;obtain ⟨_,o,ho,_⟩:=mem_ready.1 (hr ▸ hi);have h1:=h i hi o ho a ha;unfold wpOp;simp only [ho]
  unfold wpList at h1;have conv:∀ (a':Act) (w':World),wpList P ops (Xst n (Xby (fun L' w'=>(nd i=true->S w->S w')/\WD P n ops S nd K fuel (listed.setIfInBounds i true) L' w') (noP K))) [] a' w' ->
    (nd i=true->S w->S w')/\X96 P .any ops (Xst n (noP K)) S nd fuel (listed.setIfInBounds i true) a' w':=fun a' w' ⟨L',hL,hS,hd⟩=>⟨hS,hd a' hL⟩
  have convQ:∀ (e:Exit) (a':Act) (w':World),e≠.normal->Xst n (Xby (fun L' w'=>(nd i=true->S w->S w')/\WD P n ops S nd K fuel (listed.setIfInBounds i true) L' w') (noP K)) e a' w'->Xst n (noP K) e a' w':=fun e a' w' he ⟨L',hL,hk⟩=>⟨L',hL,by cases e <;> first | exact hk | exact absurd rfl he⟩
  split at h1
  ·rename_i hw
   rw [if_pos hw];rcases h1 with h1 | ⟨hasks,a1,w1,ho1⟩
   ·left
    have h2:=Oper.wp_mono conv h1;unfold Oper.wp at h2 ⊢;generalize (execOp a.eval o).run P w=r at *;cases r with
    | ok nx w' =>
     cases nx <;> simp only [Oper.upon] at h2 ⊢
     case value=>exact h2
     case skip=>exact h2
     case defer=>exact h2
     case enter f args =>
      refine Calls.mono h2 fun e w'' he=>?_
      cases e with
      | returned u=>exact he
      | panicked c=>exact convQ _ _ _ (by simp) he
      | outgrown =>
       obtain ⟨a1,w1,h9⟩:=he;exact ⟨a1,w1,convQ _ _ _ (by simp) h9⟩
     case row=>exact h2
    | halt x w' =>
     cases x <;> simp only [Oper.upon] at h2 ⊢
     case panic=>exact convQ _ _ _ (by simp) h2
   ·right
    exact ⟨hasks,a1,w1,convQ _ _ _ (by simp) ho1⟩
  ·rename_i hw
   rw [if_neg hw];exact conv _ _ h1
theorem WD.go {i:Nat} {w0:World} (hS:nd i=true->S w0->S w) (h:WD P n ops S nd K fuel (listed.setIfInBounds i true) L w) :
  Xby (fun L' w'=>(nd i=true->S w0->S w')/\WD P n ops S nd K fuel (listed.setIfInBounds i true) L' w') (noP K) .normal L w:=⟨hS,h⟩
theorem Sat.pick {B:World} {I:Im} {As:List X7} {A:X7} (hS:Sat B w I As) (k:Nat) (hk:As[k]?=some A):Sat B w I (A::As.eraseIdx k):=by
 obtain ⟨h,hs,hg⟩:=hS;obtain ⟨h1,h2,hp,ha,_,h3,he,hpe⟩:=hs.at_ hk;exact ⟨h1 ++ h3,⟨h1,h3,rfl,ha,he⟩,hg.perm (hp.trans (hpe.symm.append_left h1))⟩
theorem SepAll.snoc:∀ {As:List X7} {A:X7} {h1 h2:Xbi},SepAll As h1->A h2->SepAll (As ++ [A]) (h1 ++ h2)
 | [],A,h1,h2,h,ha=>by
  simp only [SepAll] at h
  subst h;exact ⟨h2,[],by simp,ha,rfl⟩
 | A0::As,A,h1,h2,h,ha=>by
  obtain ⟨g1,g2,rfl,h0,hr⟩:=h;exact ⟨g1,g2 ++ h2,by rw [Yd],h0,hr.snoc ha⟩
theorem SepAll.unsnoc:∀ {As:List X7} {A:X7} {h:Xbi},SepAll (As ++ [A]) h->∃ h1 h2,h=h1 ++ h2/\SepAll As h1/\A h2
 | [],A,h,hh=>by
  obtain ⟨h1,h2,rfl,ha,hn⟩:=hh;simp only [SepAll] at hn
  subst hn;exact ⟨[],h1,by simp,rfl,ha⟩
 | A0::As,A,h,hh=>by
  obtain ⟨g1,g2,rfl,h0,hr⟩:=hh;obtain ⟨h1,h2,rfl,h3,h4⟩:=SepAll.unsnoc hr;exact ⟨g1 ++ h1,h2,by rw [Yd],⟨g1,h1,rfl,h0,h3⟩,h4⟩
theorem Sat.push {B:World} {I:Im} {As Bs:List X7} {A:X7} {k:Nat} (hS:Sat B w I (A::As)) (hk:As[k]?=some (SepAll Bs)):Sat B w I (As.set k (SepAll (Bs ++ [A]))):=by
 obtain ⟨h,⟨g1,g2,rfl,ha,hs⟩,hg⟩:=hS;obtain ⟨h1,h2,hp,hb,hset,_⟩:=hs.at_ hk;obtain ⟨h',hs',hp'⟩:=hset (SepAll (Bs ++ [A])) (h1 ++ g1) (hb.snoc ha);refine ⟨h',hs',hg.perm ((hp.append_left g1).trans (List.Perm.trans ?_ hp'.symm))⟩;rw [<- Yd];exact Y1u.append_right _
theorem Sat.pop {B:World} {I:Im} {As Bs:List X7} {A:X7} {k:Nat} (hS:Sat B w I As) (hk:As[k]?=some (SepAll (Bs ++ [A]))):Sat B w I (A::As.set k (SepAll Bs)):=by
 obtain ⟨h,hs,hg⟩:=hS;obtain ⟨h1,h2,hp,hb,hset,_⟩:=hs.at_ hk;obtain ⟨g1,g2,rfl,hb1,ha⟩:=SepAll.unsnoc hb;obtain ⟨h',hs',hp'⟩:=hset (SepAll Bs) g1 hb1;refine ⟨g2 ++ h',⟨g2,h',rfl,ha,hs'⟩,hg.perm (hp.trans ?_)⟩;refine List.Perm.trans ?_ (hp'.symm.append_left g2);rw [<- Yd];exact Y1u.append_right _
theorem Sat.freezeVec {B:World} {I:Im} {As:List X7} {k E size nn c:Nat} {a:Option Addr} {xs:List Value} (hS:Sat B w I As) (hk:As[k]?=some (Vec E size (.slice a nn c) nn xs)):∃ J,Le I J/\RS J a size nn xs/\Sat B w J (As.eraseIdx k):=by
 have hl:xs.length=nn*size:=hS.pure_ hk fun _ hh=>hh.1
 rcases Y1v nn with h0 | h0
 ·exact ⟨I,Le.refl I,⟨hl,fun h=>absurd h (by omega)⟩,hS.drop hk⟩
 ·obtain ⟨b,cap,r,hv,h1,h2,_,_,hSo⟩:=hS.vecOpen hk h0;injection hv with hv _ hv3
  subst hv; subst hv3;have hlk:k<As.length:=(Y5.1 hk).1;obtain ⟨J,hJ,hb,hS'⟩:=hSo.freeze (k:=k) (b:=b) (o:=Xl (xs ++ r) E) (by simp [hlk,blk]);refine ⟨J,hJ,⟨hl,fun _=>⟨_,rfl,rfl,_,_,_,hb,?_⟩⟩,by simpa [Y3f] using hS'⟩;intro j u hj;have hjl:j<xs.length:=(Y5.1 hj).1;simp only [Yc,List.getElem?_toArray]
  rw [Yi hjl];exact hj
end
end Gk
namespace Gk
open Go
theorem Xxj {a b c:Bool} (h:(a && b && c)=true):a=true/\b=true/\c=true:=by cases a <;> cases b <;> cases c <;> simp_all
theorem WD.tp {P:Program} {n:Nat} {K:X34} {L:Env} {w:World} {ops:Array Oper} {S:World->Prop} {nd:Nat->Bool} {fuel:Nat} {listed:Array Bool} (i:Nat) {d:Nat} {op:Op} {ty:TypeId} {pos:String} {af:Array Edge} {v:Value} (hi:ops[i]?=some ⟨some d,op,ty,pos,af,none⟩)
    (hx:∀ w,Ex P n L w ⟨some d,op,ty,pos,af,none⟩ v w)
    (h:WD P n ops S nd K fuel (listed.setIfInBounds i true) ((d,v)::L) w) (hs:(Region.noSelect ops && Region.free .any ops listed i && (Region.ready .any ops listed).contains i)=true:=by kernel_rfl) (hd:Nat.blt d n=true:=by rfl):WD P n ops S nd K (fuel+1) listed L w:=WD.takeP hi (Xxj hs).1 (Xxj hs).2.1 (Xxj hs).2.2 hx hd h
theorem Xu8 {a b c d:Bool} (h:(a && b && c && d)=true):a=true/\b=true/\c=true/\d=true:=by cases a <;> cases b <;> cases c <;> cases d <;> simp_all
theorem WD.tk {P:Program} {n:Nat} {K:X34} {L:Env} {w:World} {ops:Array Oper} {S:World->Prop} {nd:Nat->Bool} {fuel:Nat} {listed:Array Bool} (i:Nat) {d:Nat} {op:Op} {ty:TypeId} {pos:String} {af:Array Edge} {v:Value} (hi:ops[i]?=some ⟨some d,op,ty,pos,af,none⟩)
    (hS:S w) (hx:∀ w,S w->Ex P n L w ⟨some d,op,ty,pos,af,none⟩ v w)
    (h:WD P n ops S nd K fuel (listed.setIfInBounds i true) ((d,v)::L) w) (hs:(Region.noSelect ops && Region.free .any ops listed i && (Region.ready .any ops listed).contains i && Xbb .any ops nd i)=true:=by kernel_rfl) (hd:Nat.blt d n=true:=by rfl):WD P n ops S nd K (fuel+1) listed L w:=WD.take hi (Xu8 hs).1 (Xu8 hs).2.1 (Xu8 hs).2.2.1 (Xu8 hs).2.2.2 hS hx hd h
theorem WD.tg {P:Program} {n:Nat} {K:X34} {L:Env} {w:World} {ops:Array Oper} {S:World->Prop} {nd:Nat->Bool} {fuel:Nat} {listed:Array Bool} (i:Nat) {d j t:Nat} {b want:Bool} {op:Op} {ty:TypeId} {pos:String} {af:Array Edge} {v:Value} (hi:ops[i]?=some ⟨some d,op,ty,pos,af,some (j,want)⟩)
    (hS:S w) (hj:(ops[j]?).bind (·.dst)=some t) (hb:look L t=some (.bool b)) (hx:b=want->∀ w,S w->Ex P n L w ⟨some d,op,ty,pos,af,some (j,want)⟩ v w)
    (h:WD P n ops S nd K fuel (listed.setIfInBounds i true) ((d,gd b want v)::L) w) (hs:(Region.noSelect ops && Region.free .any ops listed i && (Region.ready .any ops listed).contains i && Xbb .any ops nd i)=true:=by kernel_rfl) (hd:Nat.blt d n=true:=by rfl):WD P n ops S nd K (fuel+1) listed L w:=WD.takeG hi (Xu8 hs).1 (Xu8 hs).2.1 (Xu8 hs).2.2.1 (Xu8 hs).2.2.2 hS hj hb hx hd h
theorem WD.b1 {P:Program} {n:Nat} {K:X34} {L:Env} {w:World} {ops:Array Oper} {S:World->Prop} {nd:Nat->Bool} {fuel:Nat} {listed:Array Bool} (i:Nat) {o:Oper} (ho:ops[i]?=some o) (h:WL P n ops (Xby (fun L' w'=>(nd i=true->S w->S w')/\WD P n ops S nd K fuel (listed.setIfInBounds i true) L' w') (noP K)) [o] L w) (hr:Region.ready .any ops listed=[i]:=by kernel_rfl):WD P n ops S nd K (fuel+1) listed L w:=WD.branch [i] hr rfl (WO.cons ho h WO.nil)
theorem WD.dn {P:Program} {n:Nat} {K:X34} {L:Env} {w:World} {ops:Array Oper} {S:World->Prop} {nd:Nat->Bool} {fuel:Nat} {listed:Array Bool} (h:K .normal L w) (hr:Region.ready .any ops listed=[]:=by kernel_rfl):WD P n ops S nd K fuel listed L w:=WD.done hr h
theorem WC.dw {P:Program} {n:Nat} {K:X34} {L:Env} {w:World} (S:World->Prop) (nd:Nat->Bool) {id:Nat} {l:List Oper} (h:WD P n l.toArray S nd K l.toArray.size (Array.replicate l.toArray.size false) L w.drew) (hm:P.follows .mixedOrders=true:=by kernel_rfl):WC P n (.region id l.toArray true) K L w:=WC.drawn S nd hm h
theorem WC.qt {P:Program} {n:Nat} {K:X34} {L:Env} {w B:World} {I:Im} {As:List X7} {id:Nat} {l:List Oper} (hS:Sat B w I As)
    (h:WQ P n l.toArray (fun w=>Sat B w I As) (fun L'=>∀ w',Sat B w' I As->K .normal L' w') l L) (hm:P.follows .mixedOrders=true:=by kernel_rfl) (hB:Region.lexB .any l.toArray=true:=by kernel_rfl):WC P n (.region id l.toArray true) K L w:=WC.quiet hm hB hS h
def pkL:List Nat->List X7->List X7
  | [],As=>As
  | k::ks,As=>pkL ks (match As[k]? with
    | some A=>A::As.eraseIdx k
    | none=>As)
theorem Sat.x {B w:World} {I:Im}:∀ {As:List X7} (_:Sat B w I As) (ks:List Nat),Sat B w I (pkL ks As)
  | _,hS,[]=>hS
  | As,hS,k::ks=>by
    unfold pkL;split
    · rename_i A hk; exact Sat.x (hS.pick k hk) ks
    · exact Sat.x hS ks
def dpL (k:Nat):Nat->List X7->List X7
  | 0,As=>As
  | m+1,As=>dpL k m (As.eraseIdx k)
theorem Sat.y {B w:World} {I:Im} {As:List X7} (hS:Sat B w I As) (k:Nat):∀ m,Sat B w I (dpL k m As):=fun m=>by
  induction m generalizing As with
  | zero=>exact hS
  | succ m ih =>
    unfold dpL;cases hk:As[k]? with
    | none=>rw [List.eraseIdx_of_length_le (by have:=List.getElem?_eq_none_iff.1 hk; omega)]; exact ih hS
    | some A=>exact ih (hS.drop hk)
theorem Sat.z {B w:World} {I:Im} {As:List X7} (hS:Sat B w I As) (ks:List Nat) (k m:Nat):Sat B w I (dpL k m (pkL ks As)):=(hS.x ks).y k m
end Gk
namespace Gk
open Go
def noGo (K:X34):X34:=fun e L w=>match e with | .goto _=>False | e=>K e L w
theorem WC.scope {P:Program} {n:Nat} {K:X34} {L:Env} {w:World} {c:Code} (h:WC P n c (noGo K) L w):WC P n (.scope c) K L w:=by
 intro a ha;refine wp_scope_straight (wp_mono (h a ha) ?_);rintro e a' w' ⟨L',h1,h2⟩;cases e <;> first | exact h2.elim | exact ⟨L',h1,h2⟩
section
variable {P:Program} {n:Nat} {K:X34} {L:Env} {w:World} {ops:Array Oper} {rest:List Oper}
theorem WL.gcalls {d j t:Nat} {c:List (Bool×Bool)} {b want:Bool} {ty:TypeId} {pos:String} {af:Array Edge} {v0:Value} {f:FuncId} {fn:Func} {xs:List Operand} {ts:Array TypeId} {vs:List Value} {T:World->Prop}
  (hj:(ops[j]?).bind (·.dst)=some t) (ht:Nat.blt t n=true) (hb:look L t=some (gds c (.bool b))) (hf:P.funcs[f]?=some fn) (hc:Xj fn=true)
  (hx:(∀ p∈c ++ [(b,want)],p.1=p.2)->∀ a,Holds n L a->xs.map a.eval=vs) (hd:Nat.blt d n=true)
  (hcall:(∀ p∈c ++ [(b,want)],p.1=p.2)->Calls P f vs.toArray w (Ret fun v w'=>v=v0/\T w')) (h0:T w)
  (h:∀ w',T w'->WL P n ops K rest ((d,gds (c ++ [(b,want)]) v0)::L) w'):WL P n ops K (⟨some d,.call ⟨.value (.func f),xs.toArray,ts⟩,ty,pos,af,some (j,want)⟩::rest) L w:=by
 intro a ha;refine wpList_step fun K' hK=>?_
 have hlt:t<a.tmps.size:=by have:=Y26 ht; rw [ha.size]; omega
 have hv:=ha.get t _ hb;have hy:yielded ops a.tmps j=match gds c (.bool b) with | .bool b=>some b | _=>none:=by
  obtain ⟨o,ho,hdd⟩:=Y2e.1 hj;rw [Y16,Y19 hlt] at hv;simp only [Y2z] at hv
  have h2:a.tmps[t]?=some (gds c (.bool b)):=by rw [Y19 hlt,hv]
  simp only [yielded,ho,hdd,Y38,h2]
  generalize gds c (.bool b)=g;cases g <;> rfl
 by_cases e:∀ p∈c ++ [(b,want)],p.1=p.2
 ·have ec:∀ p∈c,p.1=p.2:=fun p hp=>e p (by simp [hp])
  have eb:b=want:=e (b,want) (by simp);rw [X2m ec] at hy;rw [if_pos (by simp [Region.wanted,hy,eb])];have he:(execOp a.eval (⟨some d,.call ⟨.value (.func f),xs.toArray,ts⟩,ty,pos,af,some (j,want)⟩:Oper)).run P w=.ok (.enter f vs.toArray) w:=by
   unfold Xj at hc;simp only [Yn] at hc
   obtain ⟨h1,h2⟩:=hc;have h1' : ¬ fn.name = "runtime.NumGoroutine" := by simpa using h1
   have h2':¬ fn.body=none:=by intro e; rw [e] at h2; cases h2
   have hv:=hx e a ha;simp [execOp,resolve,Act.eval,Deferred.ofValue,invoke,callFunc,program,Sem.run,hf,h1',h2',<- hv]
  unfold Oper.wp;rw [he];refine (hcall e).mono fun e' w'' hq=>?_
  obtain ⟨v,rfl,rfl,hT⟩:=hq;have hput:=h w'' hT _ (ha.put hd (gds (c ++ [(b,want)]) v));rw [X2m e] at hput;exact hK _ _ hput
 ·have hw:Region.wanted (⟨some d,.call ⟨.value (.func f),xs.toArray,ts⟩,ty,pos,af,some (j,want)⟩:Oper) (yielded ops a.tmps)=false:=by
   by_cases ec:∀ p∈c,p.1=p.2
   ·rw [X2m ec] at hy;have eb:¬ b=want:=fun eb=>e fun p hp=>by
     rcases Y12.1 hp with hp | hp
     ·exact ec p hp
     ·simp at hp; subst hp; exact eb
    simp [Region.wanted,hy,eb]
   ·rw [X4k ec] at hy;simp [Region.wanted,hy,undef]
  rw [if_neg (by simp [hw])];have hput:=h w h0 _ (ha.put hd (gds (c ++ [(b,want)]) v0));rw [X4k e] at hput;exact hK _ _ hput
theorem WL.gcall {d j t:Nat} {b want:Bool} {ty:TypeId} {pos:String} {af:Array Edge} {v0:Value} {f:FuncId} {fn:Func} {xs:List Operand} {ts:Array TypeId} {vs:List Value} {T:World->Prop}
  (hj:(ops[j]?).bind (·.dst)=some t) (ht:Nat.blt t n=true) (hb:look L t=some (.bool b)) (hf:P.funcs[f]?=some fn) (hc:Xj fn=true)
  (hx:b=want->∀ a,Holds n L a->xs.map a.eval=vs) (hd:Nat.blt d n=true)
  (hcall:b=want->Calls P f vs.toArray w (Ret fun v w'=>v=v0/\T w')) (h0:T w)
  (h:∀ w',T w'->WL P n ops K rest ((d,gd b want v0)::L) w'):WL P n ops K (⟨some d,.call ⟨.value (.func f),xs.toArray,ts⟩,ty,pos,af,some (j,want)⟩::rest) L w :=
 WL.gcalls (c:=[]) hj ht hb hf hc (fun e=>hx (e (b,want) (by simp))) hd (fun e=>hcall (e (b,want) (by simp))) h0 h
theorem WL.gcall2 {d j t:Nat} {b1 w1 b want:Bool} {ty:TypeId} {pos:String} {af:Array Edge} {v0:Value} {f:FuncId} {fn:Func} {xs:List Operand} {ts:Array TypeId} {vs:List Value} {T:World->Prop}
  (hj:(ops[j]?).bind (·.dst)=some t) (ht:Nat.blt t n=true) (hb:look L t=some (gd b1 w1 (.bool b))) (hf:P.funcs[f]?=some fn) (hc:Xj fn=true)
  (hx:b1=w1->b=want->∀ a,Holds n L a->xs.map a.eval=vs) (hd:Nat.blt d n=true)
  (hcall:b1=w1->b=want->Calls P f vs.toArray w (Ret fun v w'=>v=v0/\T w')) (h0:T w)
  (h:∀ w',T w'->WL P n ops K rest ((d,gd b1 w1 (gd b want v0))::L) w'):WL P n ops K (⟨some d,.call ⟨.value (.func f),xs.toArray,ts⟩,ty,pos,af,some (j,want)⟩::rest) L w :=
 WL.gcalls (c:=[(b1,w1)]) hj ht hb hf hc (fun e=>hx (e (b1,w1) (by simp)) (e (b,want) (by simp))) hd (fun e=>hcall (e (b1,w1) (by simp)) (e (b,want) (by simp))) h0 h
end
end Gk
namespace Gk
open Go
section
variable {P:Program} {n:Nat} {K:X34} {L:Env} {w:World} {B:World} {I:Im} {As:List X7} {k:Nat} {x y:Operand} {ty:TypeId} {pos:String} {af:Array Edge} {g:Option (Nat×Bool)} {ops:Array Oper} {rest:List Oper}
theorem Ex.extern {d : Option Nat} {f : FuncId} {fn : Func} {e : Array Value → Sem Value} {xs : List Operand} {ts : Array TypeId} {vs : List Value} {v : Value} (hf : P.funcs[f]? = some fn) (hname : (fn.name == "runtime.NumGoroutine") = false) (hb : fn.body.isNone = true) (hn : Extern.findNext fn = none) (he : Extern.find fn = some e)
  (hx:∀ a,Holds n L a->xs.map a.eval=vs) (hv:(e vs.toArray).run P w=.ok v w):Ex P n L w ⟨d,.call ⟨.value (.func f),xs.toArray,ts⟩,ty,pos,af,g⟩ v w:=fun a ha=>by
 have h:=run_callFunc_extern hf hname hb hn he vs.toArray w;have hv2:=hx a ha;rw [hv] at h;simp only [Result.andThen] at h
 subst hv2;simp [execOp,resolve,Act.eval,Deferred.ofValue,invoke,h]
theorem Xaw {b:Nat} {cs:List Value} {E:TypeId} (hb:w.heap[b]?=some (Xl cs E)):w.shape? b=some (E,cs.length):=by
 simp [World.shape?,hb,Xl]
theorem Ex.toUnsafe {d:Option Nat} {src dst t E:TypeId} {j:TypeInfo} {b o:Nat} {cs:List Value} (hx:Ev n L x (ptr b o)) (hS:Sat B w I As) (hk:As[k]?=some (blk b cs E)) (hs:P.underlying src=some (.pointer t)) (hd:P.underlying dst=some .unsafePointer) (ht:P.info? t=some j) (hj:j.size≠0) (ho:o<cs.length) :
  Ex P n L w ⟨d,.convert src dst x,ty,pos,af,g⟩ (ptr b o) w:=fun a ha=>by
 have h:=Go.Lib.run_to_unsafe (P:=P) w ⟨b,o,none⟩ hs hd ht hj (Xaw (hS.block hk)) ho;simp [execOp,hx a ha,h]
theorem Ex.fromUnsafe {d:Option Nat} {src dst u E:TypeId} {j:TypeInfo} {b o:Nat} {cs:List Value} (hx:Ev n L x (ptr b o)) (hS:Sat B w I As) (hk:As[k]?=some (blk b cs E)) (hs:P.underlying src=some .unsafePointer) (hd:P.underlying dst=some (.pointer u)) (hu:P.info? u=some j) (hl:liesAt P P.depth E (cs.length / P.cellsOf E) o u 1=true) :
  Ex P n L w ⟨d,.convert src dst x,ty,pos,af,g⟩ (ptr b o) w:=fun a ha=>by
 have h:=Go.Lib.run_from_unsafe (P:=P) w ⟨b,o,none⟩ hs hd hu (Xaw (hS.block hk)) hl;simp [execOp,hx a ha,h]
theorem Ex.nepSame {d:Option Nat} {t te:TypeId} {j:TypeInfo} {a:Addr} (hx:Ev n L x (.pointer (some a))) (hy:Ev n L y (.pointer (some a))) (hT:P.underlying t=some (.pointer te)) (hj:P.info? te=some j) (ht':True):Ex P n L w ⟨d,.binOp .neq t x y t,ty,pos,af,g⟩ (.bool false) w :=
 X16 hx hy (fun _ _=>by rw [eqGuard_at_pointer]; rfl) (Go.Lib.run_neq_ptr_same w a hT hj)
abbrev bcs (l:List UInt8):List Value:=l.map fun c=>U8 (c.toNat:Int)
theorem Ex.sliceData {d:Option Nat} {ts:Array TypeId} {a:Addr} {m c:Nat} (hx:Ev n L x (.slice (some a) m c)) (hc:c≠0):Ex P n L w ⟨d,.call ⟨.builtin .unsafeSliceData,#[x],ts⟩,ty,pos,af,g⟩ (.pointer (some a)) w:=fun b hb=>by
 have h:=Go.Lib.run_unsafeSliceData_row (P:=P) w ts ty a m c hc;simp [execOp,resolve,invoke,builtin,hx b hb,h]
theorem Ex.sliceDataNil {d:Option Nat} {ts:Array TypeId} {m c:Nat} (hx:Ev n L x (.slice none m c)):Ex P n L w ⟨d,.call ⟨.builtin .unsafeSliceData,#[x],ts⟩,ty,pos,af,g⟩ (.pointer none) w:=fun b hb=>by
 have h:=Go.Lib.run_unsafeSliceData_nil (P:=P) w ts ty m c;simp [execOp,resolve,invoke,builtin,hx b hb,h]
theorem Ex.unsafeStringNone {d:Option Nat} {pt it:TypeId} {p:Option Addr} (hx:Ev n L x (.pointer p)) (hy:Ev n L y (I64 0)):Ex P n L w ⟨d,.call ⟨.builtin .unsafeString,#[x,y],#[pt,it]⟩,ty,pos,af,g⟩ (S []) w:=fun b hb=>by
 have h:=Go.Lib.run_unsafeString_none (P:=P) w pt it ty p;simp [execOp,resolve,invoke,builtin,hx b hb,hy b hb,h]
 rfl
theorem Sat.freezeCells {b m:Nat} {cs:List Value} {E:TypeId} (hS:Sat B w I As) (hk:As[k]?=some (blk b cs E)):Sat B (w.freeze ⟨b,0,none⟩ m) I (As.eraseIdx k):=by
 by_cases h0:m=0
 ·subst h0;have e:w.freeze ⟨b,0,none⟩ 0=w:=by simp [World.freeze]
  rw [e]; exact hS.drop hk
 ·have hb:=hS.block hk;have hw:∃ o',(w.freeze ⟨b,0,none⟩ m).heap[b]?=some o':=by
   refine ⟨.cells cs.toArray E (0,m),?_⟩;simp [World.freeze,h0,Array.getElem?_modify,hb,Xl]
  obtain ⟨o',ho⟩:=hw;have h1:=hS.write (w':=w.freeze ⟨b,0,none⟩ m) hk (by simp [World.freeze,h0]) (by simp [World.freeze,h0]) (by simp [World.freeze,h0]) ho (fun c hc=>by
   have hne:¬ b=c:=fun e=>hc e.symm
   simp [World.freeze,h0,Array.getElem?_modify,hne])
  have hlk:k<As.length:=(Y5.1 hk).1;have h2:=h1.drop (k:=k) (A:=own b o') (by simp [hlk]);simpa [Y3f] using h2
theorem WL.unsafeString {d b:Nat} {pt it E:TypeId} {l:List UInt8} {r:List Value} (hS:Sat B w I As) (hk:As[k]?=some (blk b (bcs l ++ r) E)) (hx:Ev n L x (ptr b 0)) (hy:Ev n L y (I64 l.length)) (h0:l≠[]) (hp:P.underlying pt=some (.pointer E)) (hc:P.cellsOf E=1) (h63:l.length<=9223372036854775807) (hd:Nat.blt d n=true)
  (h:∀ w',Sat B w' I (As.eraseIdx k)->WL P n ops K rest ((d,S l)::L) w'):WL P n ops K (⟨some d,.call ⟨.builtin .unsafeString,#[x,y],#[pt,it]⟩,ty,pos,af,none⟩::rest) L w:=by
 have hb:=hS.block hk;have hr:=Go.Lib.run_unsafeString_row (P:=P) w pt it ty E hp hc b (bcs l ++ r).length (Xaw hb) l h0 (by simp) h63 (fun j y hj=>by
  rw [X15,Yc];refine X1b hb ?_;rw [Yi (by have:=(Y5.1 hj).1; simpa using this)];simp [hj])
 refine .val (w':=w.freeze ⟨b,0,none⟩ l.length) (fun a ha=>?_) hd (h _ (hS.freezeCells hk));simp [execOp,resolve,invoke,builtin,hx a ha,hy a ha,hr]
theorem Ex.bytesStr {d:Option Nat} {src dst E:TypeId} {b o cap:Nat} {l:List UInt8} {cs:List Value} (hx:Ev n L x (.slice (some (ad b o)) l.length cap)) (hS:Sat B w I As) (hk:As[k]?=some (blk b cs E)) (hs:P.underlying src=some (.slice E)) (he:P.underlying E=some (.int .u8)) (hd:P.underlying dst=some .string)
  (hc:∀ j (hj:j<l.length),cs[o+j]?=some (U8 (l[j].toNat:Int))):Ex P n L w ⟨d,.convert src dst x,ty,pos,af,g⟩ (S l) w:=fun a ha=>by
 have hb:=hS.block hk;have h:=run_convert_bytes_back (P:=P) w src dst E (ad b o) cap l hs he hd (fun j hj=>by rw [X15]; exact X1b hb (hc j hj));simp [execOp,hx a ha,h]
end
end Gk
namespace Flt
open Ieee
def rg (b:Nat):Nat:=b % 9223372036854775808
def sg (b:Nat):Bool:=b / 9223372036854775808 % 2 == 1
def nan (b:Nat):Bool:=decide (9218868437227405312<rg b)
def mag (r:Nat):Nat:=if r<4503599627370496 then r else (4503599627370496+r % 4503599627370496)*2 ^ (r / 4503599627370496 - 1)
def sv (b:Nat):Int:=if sg b then -(mag (rg b):Int) else (mag (rg b):Int)
theorem Xow {r s:Nat} (h:r<s):mag r<mag s:=by
 unfold mag
 by_cases h1:s<4503599627370496
 ·rw [if_pos h1,if_pos (by omega)]; exact h
 ·rw [if_neg h1];have hp:0<2 ^ (s / 4503599627370496 - 1):=Y1z _
  by_cases h2:r<4503599627370496
  ·rw [if_pos h2]
   have:4503599627370496*1<=(4503599627370496+s % 4503599627370496)*2 ^ (s / 4503599627370496 - 1):=Y5f (by omega) hp
   omega
  ·rw [if_neg h2];rcases Yp (r / 4503599627370496) (s / 4503599627370496) with hq | hq
   ·have e1:(4503599627370496+r % 4503599627370496)*2 ^ (r / 4503599627370496 - 1)<(2*4503599627370496)*2 ^ (r / 4503599627370496 - 1):=by
     apply Y24 (by have:=Y2p r (show 0<4503599627370496 by decide); omega) (Y1z _)
    have e2:(2*4503599627370496)*2 ^ (r / 4503599627370496 - 1)=4503599627370496*2 ^ (r / 4503599627370496):=by
     have:r / 4503599627370496=(r / 4503599627370496 - 1)+1:=by have:=(Nat.le_div_iff_mul_le (show 0<4503599627370496 by decide) (x:=1) (y:=r)).2 (by omega); omega
     rw [this,Y22,show r / 4503599627370496 - 1+1 - 1=r / 4503599627370496 - 1 by omega,Y2g 2 4503599627370496,Y27,Y2g 2]
    have e3:2 ^ (r / 4503599627370496)<=2 ^ (s / 4503599627370496 - 1):=Y1w (by decide) (by omega);have e4:4503599627370496*2 ^ (r / 4503599627370496)<=(4503599627370496+s % 4503599627370496)*2 ^ (s / 4503599627370496 - 1):=Y5f (by omega) e3;omega
   ·have hq2:r / 4503599627370496=s / 4503599627370496:=Nat.le_antisymm (Nat.div_le_div_right (Y59 h)) hq;rw [hq2];refine Y24 ?_ hp;have a1:=Y3w r 4503599627370496; have a2:=Y3w s 4503599627370496;rw [hq2] at a1;omega
theorem Xjg:mag 0=0:=rfl
theorem Xwo {r:Nat} (h:0<r):0<mag r:=by have:=Xow h; rw [Xjg] at this; exact this
theorem mag_at {E k:Nat} (h1:k<=2*4503599627370496) (h2:0<E->4503599627370496<=k):mag (E*4503599627370496+k)=k*2 ^ E:=by
 unfold mag
 by_cases hk:k<4503599627370496
 ·have:E=0:=by omega
  subst this;simp only [Y32,Yc,Nat.pow_zero,Y1n]
  rw [if_pos hk]
 ·rw [if_neg (by omega)]
  by_cases hk2:k<2*4503599627370496
  ·have e1:(E*4503599627370496+k) / 4503599627370496=E+1:=by
    rw [show E*4503599627370496+k=(k - 4503599627370496)+(E+1)*4503599627370496 by omega,Nat.add_mul_div_right _ _ (by decide),Y37 (by omega)]; omega
   have e2:(E*4503599627370496+k) % 4503599627370496=k - 4503599627370496:=by
    rw [show E*4503599627370496+k=(k - 4503599627370496)+(E+1)*4503599627370496 by omega,Y56,Y4r (by omega)]
   rw [e1,e2,show 4503599627370496+(k - 4503599627370496)=k by omega,show E+1 - 1=E by omega]
  ·have:k=2*4503599627370496:=by omega
   subst this;have e1:(E*4503599627370496+2*4503599627370496) / 4503599627370496=E+2:=by rw [<- Y2y,Nat.mul_div_cancel _ (by decide)]
   have e2:(E*4503599627370496+2*4503599627370496) % 4503599627370496=0:=by rw [<- Y2y,Nat.mul_mod_left]
   rw [e1,e2,show E+2 - 1=E+1 by omega,Y22]
   have:4503599627370496*(2 ^ E*2)=2*4503599627370496*2 ^ E:=by rw [Y2g (2 ^ E) 2,<- Y27,Y2g 4503599627370496 2]
   simpa using this
theorem sw:double.signWeight=9223372036854775808:=by decide
theorem bn:double.binade=4503599627370496:=by decide
theorem ir:double.infRung=9218868437227405312:=by decide
theorem lp:double.leastPlace=-1074:=by decide
theorem X5x {b:Nat} (h:rg b<9218868437227405312):∃ m i,double.read b=.number (sg b) m i/\-1074<=i/\i<=971/\mag (rg b)=m*2 ^ (i+1074).toNat/\(m=0 ↔ rg b=0):=by
 unfold Format.read;rw [sw,bn,ir,lp];dsimp only
 show ∃ m i,(if rg b<4503599627370496 then _ else _)=_/\_
 by_cases h1:rg b<4503599627370496
 ·rw [if_pos h1];refine ⟨rg b,-1074,rfl,by omega,by omega,?_,Iff.rfl⟩;unfold mag;rw [if_pos h1]; simp
 ·rw [if_neg h1];show ∃ m i,(if rg b<9218868437227405312 then _ else _)=_/\_
  rw [if_pos h];refine ⟨4503599627370496+rg b % 4503599627370496,-1074+(rg b / 4503599627370496 - 1:Nat),rfl,by omega,?_,?_,?_⟩
  ·have:rg b / 4503599627370496<=2046:=by
    have:=Nat.div_lt_of_lt_mul (m:=rg b) (n:=4503599627370496) (k:=2047) (by omega)
    omega
   omega
  ·unfold mag;rw [if_neg h1]
   congr 2
   omega
  ·omega
theorem X9m {b:Nat} (h:rg b=9218868437227405312):double.read b=.infinity (sg b):=by
 unfold Format.read;rw [sw,bn,ir,lp];dsimp only
 show (if rg b<4503599627370496 then _ else _)=_
 rw [if_neg (by omega)];show (if rg b<9218868437227405312 then _ else if rg b=9218868437227405312 then _ else _)=_
 rw [if_neg (by omega),if_pos h];rfl
theorem X9n {b:Nat} (h:9218868437227405312<rg b):∃ s t,double.read b=.nan s t:=by
 unfold Format.read;rw [sw,bn,ir,lp];dsimp only
 refine ⟨sg b,rg b - 9218868437227405312,?_⟩;show (if rg b<4503599627370496 then _ else _)=_
 rw [if_neg (by omega)];show (if rg b<9218868437227405312 then _ else if rg b=9218868437227405312 then _ else _)=_
 rw [if_neg (by omega),if_neg (by omega)];rfl
theorem X7q (s:Bool) (m k:Nat):signed s m k=if s then -((m*2 ^ k:Nat):Int) else ((m*2 ^ k:Nat):Int):=by
 unfold signed;rw [Y3p]
theorem Xo1 {a b c:Int} (h:0<c):compare (a*c) (b*c)=compare a b:=by
 have h1:(a*c<b*c) ↔ a<b:=⟨fun h'=>Y40 h' (Y5p h),fun h'=>Int.mul_lt_mul_of_pos_right h' h⟩
 have h2:(a*c=b*c) ↔ a=b:=⟨fun h'=>Int.eq_of_mul_eq_mul_right (by omega) h',fun h'=>by rw [h']⟩
 show compareOfLessAndEq _ _=compareOfLessAndEq _ _
 unfold compareOfLessAndEq;simp only [h1,h2]
theorem X95 (s:Bool) (m k j:Nat):signed s m (k+j)=signed s m k*((2 ^ j:Nat):Int):=by
 rw [X7q,X7q,Y2s,<- Y27];cases s <;> simp [Int.neg_mul]
theorem Xf2 {a b:Int} (h:a<b):compare a b=.lt:=by
 show compareOfLessAndEq _ _=_
 unfold compareOfLessAndEq; rw [if_pos h]
theorem Xf1 {a b:Int} (h:b<a):compare a b=.gt:=by
 show compareOfLessAndEq _ _=_
 unfold compareOfLessAndEq; rw [if_neg (by omega),if_neg (by omega)]
theorem Xiw {a b:Int} (h:a=b):compare a b=.eq:=by
 show compareOfLessAndEq _ _=_
 unfold compareOfLessAndEq; rw [if_neg (by omega),if_pos h]
theorem Xjk (x y:Nat):double.order x y=if nan x || nan y then none else some (compare (sv x) (sv y)):=by
 unfold Format.order nan
 by_cases hx:9218868437227405312<rg x
 ·obtain ⟨s,t,e⟩:=X9n hx;rw [e,decide_eq_true hx];simp [Datum.order]
 ·rw [decide_eq_false hx]
  by_cases hy:9218868437227405312<rg y
  ·obtain ⟨s,t,e⟩:=X9n hy;rw [e,decide_eq_true hy];cases double.read x <;> simp [Datum.order]
  ·rw [decide_eq_false hy];simp only [Bool.or_self,Y1p,if_false]
   have M:∀ {r},r<9218868437227405312->mag r<mag 9218868437227405312:=fun h=>Xow h
   rcases Yp (rg x) 9218868437227405312 with hx1 | hx1
   ·obtain ⟨m,i,e,h1,_,h3,_⟩:=X5x hx1;rcases Yp (rg y) 9218868437227405312 with hy1 | hy1
    ·obtain ⟨n,j,e',h1',_,h3',_⟩:=X5x hy1;rw [e,e'];simp only [Datum.order,Option.some.injEq]
     have sx:sv x=signed (sg x) m (i+1074).toNat:=by rw [X7q,<- h3]; rfl
     have sy:sv y=signed (sg y) n (j+1074).toNat:=by rw [X7q,<- h3']; rfl
     rw [sx,sy,show (i+1074).toNat=(i - min i j).toNat+(min i j+1074).toNat by omega,show (j+1074).toNat=(j - min i j).toNat+(min i j+1074).toNat by omega,X95,X95];exact (Xo1 (Y3v.2 (Y1z _))).symm
    ·have hy2:rg y=9218868437227405312:=by omega
     rw [e,X9m hy2];have hm:=M hx1;simp only [Datum.order,Option.some.injEq]
     unfold sv;rw [hy2];cases hs:sg y
     ·simp only [Y1p,if_false]
      refine (Xf2 ?_).symm;split <;> omega
     ·simp only [if_true]
      refine (Xf1 ?_).symm;split <;> omega
   ·have hx2:rg x=9218868437227405312:=by omega
    rw [X9m hx2];rcases Yp (rg y) 9218868437227405312 with hy1 | hy1
    ·obtain ⟨n,j,e',h1',_,h3',_⟩:=X5x hy1;rw [e'];have hm:=M hy1;simp only [Datum.order,Option.some.injEq]
     unfold sv;rw [hx2];cases hs:sg x
     ·simp only [Y1p,if_false]
      refine (Xf1 ?_).symm;split <;> omega
     ·simp only [if_true]
      refine (Xf2 ?_).symm;split <;> omega
    ·have hy2:rg y=9218868437227405312:=by omega
     rw [X9m hy2];have hm:0<mag 9218868437227405312:=Xwo (by decide);simp only [Datum.order,Option.some.injEq]
     unfold sv;rw [hx2,hy2];cases sg x <;> cases sg y <;> simp only [if_true,Y1p,if_false]
     ·exact (Xiw rfl).symm
     ·exact (Xf1 (by omega)).symm
     ·exact (Xf2 (by omega)).symm
     ·exact (Xiw rfl).symm
theorem gt_iff (x y:Nat):(double.order x y == some .gt)=(!nan x && !nan y && decide (sv y<sv x)):=by
 rw [Xjk];cases nan x <;> cases nan y <;> simp
 rcases Int.lt_trichotomy (sv x) (sv y) with h | h | h
 ·rw [Xf2 h]; simp; omega
 ·rw [Xiw h]; simp; omega
 ·rw [Xf1 h]; simp [h]
theorem eq_iff (x y:Nat):(double.order x y == some .eq)=(!nan x && !nan y && decide (sv x=sv y)):=by
 rw [Xjk];cases nan x <;> cases nan y <;> simp
 rcases Int.lt_trichotomy (sv x) (sv y) with h | h | h
 ·rw [Xf2 h]; simp; omega
 ·rw [Xiw h]; simp [h]
 ·rw [Xf1 h]; simp; omega
theorem Xh3 (n drop:Nat):(drop<=n.log2+2/\1 <<< min drop (n.log2+2)=2 ^ drop)\/(2*n<1 <<< min drop (n.log2+2)/\2*n<2 ^ drop/\1 <<< min drop (n.log2+2)=2 ^ (n.log2+2)):=by
 have h2:n<2 ^ (n.log2+1):=Nat.lt_log2_self;rcases Yp (n.log2+2) drop with h | h
 ·right
  rw [Nat.min_eq_right (Y59 h),Y3p,Y5u];have e:2 ^ (n.log2+2)=2*2 ^ (n.log2+1):=by rw [Y22,Y2g]
  have e2:2 ^ (n.log2+2)<=2 ^ drop:=Y1w (by decide) (Y59 h);exact ⟨by omega,by omega,rfl⟩
 ·left
  rw [Y2h h,Y3p,Y5u];exact ⟨h,rfl⟩
theorem cutE (neg:Bool) (n drop:Nat):2*n<=(2*Toward.even.cut neg n drop+1)*2 ^ drop/\n / 2 ^ drop<=Toward.even.cut neg n drop/\Toward.even.cut neg n drop<=n / 2 ^ drop+1/\2*(Toward.even.cut neg n drop*2 ^ drop)<=2*n+2 ^ drop:=by
 unfold Toward.cut;dsimp only
 rcases Xh3 n drop with ⟨_,e⟩ | ⟨h1,h2,e⟩
 ·rw [e];generalize hg:2 ^ drop=g;have hg0:0<g:=by rw [<- hg]; exact Y1z _
  have h1:=Y3w n g;have h3:=Y2p n hg0;generalize n / g=low at *;generalize n % g=rest at *
  by_cases hm:(decide (g<2*rest) || (g == 2*rest && low % 2 == 1))=true
  ·rw [hm];simp only [Y1j,decide_eq_true_eq,Yn,beq_iff_eq] at hm
   have h9:g<=2*rest:=by omega
   have:(2*(low+1)+1)*g=2*(g*low)+3*g:=by rw [Y2y,Y27,Y2y,Y2g low g]; omega
   have h8:(low+1)*g=g*low+g:=by rw [Y2y,Y2g low g]; omega
   simp only [Y5o]
   exact ⟨by omega,by omega,by omega,by rw [h8]; omega⟩
  ·have hm':(decide (g<2*rest) || (g == 2*rest && low % 2 == 1))=false:=by simpa using hm
   rw [hm'];simp only [Y10,decide_eq_false_iff_not] at hm'
   have:(2*low+1)*g=2*(g*low)+g:=by rw [Y2y,Y27,Y2g low g]; omega
   simp only [Y5l,Y21]
   exact ⟨by omega,by omega,by omega,by rw [Y2g low g]; omega⟩
 ·rw [Y37 (by omega:n<1 <<< min drop (n.log2+2)),Y4r (by omega:n<1 <<< min drop (n.log2+2)),Y37 (by omega:n<2 ^ drop)];have hm:(decide (1 <<< min drop (n.log2+2)<2*n) || (1 <<< min drop (n.log2+2) == 2*n && 0 % 2 == 1))=false:=by
   simp only [Y10,decide_eq_false_iff_not]
   exact ⟨by omega,by simp⟩
  rw [hm];simp only [Y5l,Y21,Nat.mul_zero,Yc,Y5u,Y32]
  exact ⟨by omega,Yq _,by omega,by omega⟩
theorem cutUp (n drop:Nat):n<=Toward.up.cut false n drop*2 ^ drop/\(Toward.up.cut false n drop*2 ^ drop<n+2 ^ drop):=by
 unfold Toward.cut;dsimp only
 rcases Xh3 n drop with ⟨_,e⟩ | ⟨h1,h2,e⟩
 ·rw [e];generalize hg:2 ^ drop=g;have hg0:0<g:=by rw [<- hg]; exact Y1z _
  have h1:=Y3w n g;have h3:=Y2p n hg0;generalize n / g=low at *;generalize n % g=rest at *
  by_cases hr:rest=0
  ·subst hr
   simp
   rw [Y2g]; omega
  ·have hb:(rest != 0)=true:=by simpa using hr
   simp only [Y3q,Y2n,hb,Y5o]
   rw [Y2y,Y2g low g]; omega
 ·rw [Y37 (by omega:n<1 <<< min drop (n.log2+2)),Y4r (by omega:n<1 <<< min drop (n.log2+2))]
  by_cases hr:n=0
  ·subst hr
   simp
   exact Y1z _
  ·have hb:(n != 0)=true:=by simpa using hr
   simp only [Y3q,Y2n,hb,Y5o]
   omega
theorem Xw0 (s:Bool) (n drop:Nat):Toward.zero.cut s n drop*2 ^ drop<=n/\n<(Toward.zero.cut s n drop+1)*2 ^ drop:=by
 unfold Toward.cut;dsimp only
 rcases Xh3 n drop with ⟨_,e⟩ | ⟨h1,h2,e⟩
 ·rw [e];generalize hg:2 ^ drop=g;have hg0:0<g:=by rw [<- hg]; exact Y1z _
  have h1:=Y3w n g;have h3:=Y2p n hg0;generalize n / g=low at *;generalize n % g=rest at *;simp only [Y5l,Y21,Y2y,Y5u,Y2g low g]
  omega
 ·rw [Y37 (by omega:n<1 <<< min drop (n.log2+2))]
  simp; omega
theorem near (neg:Bool) {m:Nat} {place:Int} (hm:m≠0):∃ E k:Nat,double.nearest neg m place=double.word neg (min (E*4503599627370496+k) 9218868437227405312)/\k<=2*4503599627370496/\(0<E->4503599627370496<=k) /\
  (∀ a b:Nat,place+1074=(b:Int) - a->m*2 ^ b<(k+1)*2 ^ (E+a))/\(m<9007199254740992->-1074<=place->k*2 ^ E=m*2 ^ (place+1074).toNat/\(E:Int)<=max 0 (place+1075)):=by
 have hl1:2 ^ m.log2<=m:=Nat.log2_self_le hm;have hl2:m<2 ^ (m.log2+1):=Nat.lt_log2_self;unfold Format.nearest;rw [if_neg hm,ir,lp,bn];dsimp only
 rw [show ((double.fractionBits:Nat):Int)=52 from rfl];generalize hlast:max (place+(m.log2:Int) - 52) (-1074)=last;refine ⟨(last - -1074).toNat,Toward.even.cut neg (m <<< (place - last).toNat) (last - place).toNat,rfl,?_⟩;have c:=cutE neg (m <<< (place - last).toNat) (last - place).toNat;generalize hk:Toward.even.cut neg (m <<< (place - last).toNat) (last - place).toNat=k at c ⊢;rw [Y3p] at c;rcases Y5q place last with hp | hp
 ·have e0:(place - last).toNat=0:=by omega
  rw [e0,Nat.pow_zero,Y1n] at c;generalize hd:(last - place).toNat=drop at c;obtain ⟨c1,c2,c3,_⟩:=c;have hdp:0<2 ^ drop:=Y1z _;have up:m / 2 ^ drop<2 ^ 53:=by
   rw [Nat.div_lt_iff_lt_mul hdp,<- Y2s];exact Y2f hl2 (Y1w (by decide) (by omega))
  refine ⟨by omega,fun hE=>?_,fun a b hab=>?_,fun hm53 hpl=>?_⟩
  ·refine Y3x ?_ c2;rw [Nat.le_div_iff_mul_le hdp,show (4503599627370496:Nat)=2 ^ 52 by decide,<- Y2s];exact Y3x (Y1w (by decide) (by omega)) hl1
  ·have e:(last - -1074).toNat+a=drop+b:=by omega
   rw [e,Y2s,<- Y27];refine Y24 ?_ (Y1z _)
   have:(2*k+1)*2 ^ drop<2*((k+1)*2 ^ drop):=by rw [<- Y27]; exact Y24 (by omega) hdp
   omega
  ·exfalso
   have:m.log2<53:=by
    refine (Nat.pow_lt_pow_iff_right (a:=2) (by decide)).1 (Y4d hl1 ?_);exact Nat.lt_of_lt_of_eq hm53 (by decide)
   omega
 ·have e0:(last - place).toNat=0:=by omega
  rw [e0,Nat.pow_zero,Y1n,Nat.div_one,Y1n] at c;generalize hu:(place - last).toNat=u at c hk;have ek:k=m*2 ^ u:=by omega
  clear c;have up:m*2 ^ u<2 ^ 53:=by
   refine Y2f (Y24 hl2 (Y1z _)) ?_;rw [<- Y2s];exact Y1w (by decide) (by omega)
  refine ⟨by omega,fun hE=>?_,fun a b hab=>?_,fun hm53 hpl=>⟨?_,by omega⟩⟩
  ·rw [ek,show (4503599627370496:Nat)=2 ^ 52 by decide];refine Y3x ?_ (Y3g _ hl1);rw [<- Y2s];exact Y1w (by decide) (by omega)
  ·have e:b=u+((last - -1074).toNat+a):=by omega
   rw [e,ek,Y2s,<- Y27];exact Y24 (by omega) (Y1z _)
  ·rw [ek,Y27,<- Y2s]
   congr 2
   omega
theorem Xx5 (s:Bool) {r:Nat} (h:r<=9218868437227405312):rg (double.word s r)=r/\sg (double.word s r)=s:=by
 unfold Format.word rg sg;rw [sw];cases s
 ·simp; omega
 ·simp; omega
theorem Xdi (s:Bool) {r:Nat} (h:r<=9218868437227405312):nan (double.word s r)=false:=by
 unfold nan;rw [(Xx5 s h).1]
 simp; omega
theorem Xt4 (s:Bool) (m:Nat) (p:Int):nan (double.nearest s m p)=false:=by
 by_cases hm:m=0
 ·unfold Format.nearest;rw [if_pos hm];exact Xdi s (by decide)
 ·obtain ⟨E,k,e,_⟩:=near s hm (place:=p);rw [e];exact Xdi s (by omega)
def e0:Nat:=1074
def one:Nat:=2 ^ e0
theorem Xhn:0<one:=Y1z _
theorem Xuh:one=2 ^ e0:=rfl
theorem Xxq {c:Nat} (h:c<=1099511627776):∃ r,double.nearest false c 0=r/\r<9218868437227405312/\mag r=c*one:=by
 by_cases h0:c=0
 ·subst h0;exact ⟨0,by decide,by decide,by simp [Xjg]⟩
 ·obtain ⟨E,k,e,h1,h2,_,h4⟩:=near false h0 (place:=0);obtain ⟨h5,h6⟩:=h4 (by omega) (by omega);have hE:E<=1075:=by omega
  have hr:E*4503599627370496+k<9218868437227405312:=by omega
  refine ⟨_,rfl,?_,?_⟩
  ·rw [e,Y2h (by omega)];unfold Format.word;simp only [Y1p,if_false]
   exact hr
  ·rw [e,Y2h (by omega)];unfold Format.word;simp only [Y1p,if_false]
   rw [mag_at h1 h2,h5,show ((0:Int)+1074).toNat=e0 from rfl,<- Xuh]
theorem Xjy {r:Nat} (h:r<=9218868437227405312):sv r=mag r/\nan r=false/\rg r=r/\sg r=false:=by
 have h1:rg r=r:=by unfold rg; omega
 have h2:sg r=false:=by unfold sg; simp; omega
 refine ⟨by unfold sv; rw [h1,h2]; simp,by unfold nan; rw [h1]; simp; omega,h1,h2⟩
def ofI (n:Int):Nat:=double.write (.number (decide (n<0)) n.natAbs 0)
theorem Xta {c:Int} (h0:0<=c) (h:c<=1099511627776):nan (ofI c)=false/\sv (ofI c)=c*(one:Int):=by
 have e:ofI c=double.nearest false c.natAbs 0:=by
  unfold ofI Format.write;rw [decide_eq_false (by omega)]
 obtain ⟨r,hr,h1,h2⟩:=Xxq (c:=c.natAbs) (by omega);rw [e,hr]
 have:=Xjy (Y59 h1)
 refine ⟨this.2.1,?_⟩;rw [this.1,h2,Y4w]
 congr 1
 omega
def Xez (x:Nat):Nat:=double.write ((double.read x).integral .up)
theorem pos_sg {x:Nat} (h:0<sv x):sg x=false:=by
 cases hs:sg x
 ·rfl
 ·unfold sv at h;rw [hs] at h;simp at h
  omega
theorem Xfq {i:Int} (h1:-1074<=i):i.toNat+(1074 - (-i).toNat)=(i+1074).toNat/\(-i).toNat+(1074 - (-i).toNat)=e0:=by unfold e0; omega
theorem Xnw {x:Nat} (hn:nan x=false) (h0:0<sv x) (h:sv x<=1099511627776*(one:Int)) :
  ∃ c:Nat,(double.read (Xez x)).toInt .zero=some (c:Int)/\c<=1099511627776/\sv x<=(c:Int)*one/\((c:Int) - 1)*one<sv x:=by
 have hs:=pos_sg h0;have ho:(0:Int)<(one:Int):=Y3v.2 Xhn;have hx:rg x<9218868437227405312:=by
  obtain ⟨r,hr,h1,h2⟩:=Xxq (c:=1099511627776) (by omega)
  have:mag (rg x)<=mag r:=by
   rw [h2];unfold sv at h;rw [hs] at h;simp only [Y1p,if_false] at h
   have h':(mag (rg x):Int)<=((1099511627776*one:Nat):Int):=by rw [Y4w]; exact h
   exact Int.ofNat_le.1 h'
  rcases Yp (rg x) 9218868437227405312 with h9 | h9
  ·exact h9
  ·have:=Xow (Y2f h1 h9); omega
 obtain ⟨m,i,e,h1,_,h3,_⟩:=X5x hx;have svx:sv x=((m*2 ^ (i+1074).toNat:Nat):Int):=by
  unfold sv; rw [hs,<- h3]; simp
 obtain ⟨q1,q2⟩:=Xfq h1;have cu:=cutUp (m <<< i.toNat) (-i).toNat;have ec:Xez x=double.nearest false (Toward.up.cut false (m <<< i.toNat) (-i).toNat) 0:=by
  unfold Xez;rw [e,hs];rfl
 generalize Toward.up.cut false (m <<< i.toNat) (-i).toNat=c at cu ec;rw [Y3p] at cu;have hp:0<2 ^ (1074 - (-i).toNat):=Y1z _;have u1:sv x<=(c:Int)*one:=by
  rw [svx,<- Y4w];refine Int.ofNat_le.2 ?_
  have:=Y3g (2 ^ (1074 - (-i).toNat)) cu.1
  rw [Y27,Y27,<- Y2s,<- Y2s,q1,q2] at this;exact this
 have u2:((c:Int) - 1)*one<sv x:=by
  have:=Y24 cu.2 hp
  rw [Y27,Y2y,Y27,<- Y2s,<- Y2s,q1,q2,<- Xuh] at this;rw [svx,Int.sub_mul,<- Y4w,Int.one_mul]
  have:=Y3v.2 this
  rw [Int.natCast_add] at this;omega
 have hc:c<=1099511627776:=by
  have:((c:Int) - 1)*one<1099511627776*(one:Int):=Int.lt_of_lt_of_le u2 h
  have:=Y40 this (Y5p ho)
  omega
 refine ⟨c,?_,hc,u1,u2⟩;obtain ⟨r,hr,r1,r2⟩:=Xxq hc;rw [ec,hr];have rr:=Xjy (Y59 r1);obtain ⟨m',i',e',h1',_,h3',_⟩:=X5x (b:=r) (by rw [rr.2.2.1]; exact r1);rw [rr.2.2.1,r2] at h3';rw [rr.2.2.2] at e';unfold Datum.toInt;rw [e'];simp only [Datum.integral]
 have cz:=Xw0 false (m' <<< i'.toNat) (-i').toNat;generalize Toward.zero.cut false (m' <<< i'.toNat) (-i').toNat=k at cz;rw [Y3p] at cz;obtain ⟨q1',q2'⟩:=Xfq h1';have em:m'*2 ^ i'.toNat=c*2 ^ (-i').toNat:=by
  refine Nat.eq_of_mul_eq_mul_right (Y1z (1074 - (-i').toNat)) ?_;rw [Y27,Y27,<- Y2s,<- Y2s,q1',q2',<- h3'];rfl
 rw [em] at cz;have hd:0<2 ^ (-i').toNat:=Y1z _;have k1:k<=c:=Nat.le_of_mul_le_mul_right cz.1 hd;have k2:c<k+1:=Nat.lt_of_mul_lt_mul_right cz.2
 have:k=c:=by omega
 subst this;simp [signed]
theorem mul_nan {x y r:Nat} (h:double.mul x y=some r):nan r=false:=by
 unfold Format.mul at h;obtain ⟨d,hd,rfl⟩:=Y1f.1 h;cases d with
 | number s m p=>exact Xt4 s m p
 | infinity s=>exact Xdi s (Yq _)
 | nan s t =>
  exfalso
  generalize double.read x=a at hd;generalize double.read y=b at hd;cases a <;> cases b <;> simp [Datum.product] at hd
theorem Xt3 {x y:Nat} (h:nan x=true\/nan y=true):double.mul x y=none:=by
 unfold Format.mul;rcases h with h | h
 ·obtain ⟨s,t,e⟩:=X9n (b:=x) (by simpa [nan] using h);rw [e]; simp [Datum.product]
 ·obtain ⟨s,t,e⟩:=X9n (b:=y) (by simpa [nan] using h);rw [e]; cases double.read x <;> simp [Datum.product]
end Flt
namespace Flt
def lt (a b:Nat):Bool:=!nan a && !nan b && decide (sv a<sv b)
def feq (a b:Nat):Bool:=!nan a && !nan b && decide (sv a=sv b)
def nf (a:Nat):Option Nat:=if nan a then none else some a
end Flt
namespace Gk
open Go
abbrev F64 (n:Nat):Value:=.float .f64 n
abbrev U64 (n:Int):Value:=.int .u64 n
section
variable {P:Program} {n:Nat} {K:X34} {L:Env} {w w':World} {ops:Array Oper} {rest:List Oper}
variable {B:World} {I:Im} {As:List X7} {k:Nat} {ty:TypeId} {pos:String} {af:Array Edge} {g:Option (Nat×Bool)} {t t':TypeId} {x y:Operand}
theorem X33 (op:BinOp) (k:FloatKind) (a b:Nat) (p q:Operand):(eqGuard op t p q (.float k a) (.float k b)).run P w=.ok () w:=by
 unfold eqGuard; split <;> simp
section
variable {d:Option Nat} {a b:Nat}
theorem Ex.fgtr (hx:Ev n L x (F64 a)) (hy:Ev n L y (F64 b)):Ex P n L w ⟨d,.binOp .gtr t x y t',ty,pos,af,g⟩ (.bool (Flt.lt b a)) w :=
 X16 hx hy (X33 _ _ _ _) (by
  rw [binOp_float_cmp_gtr]; show Result.ok _ _=_;have e:(Ieee.double.order a b == some .gt)=Flt.lt b a:=by rw [Flt.gt_iff]; unfold Flt.lt; rw [Bool.and_comm (!Flt.nan a)]
  exact congrArg (fun z=>Result.ok (Value.bool z) w) e)
theorem Ex.fneq (hx:Ev n L x (F64 a)) (hy:Ev n L y (F64 b)):Ex P n L w ⟨d,.binOp .neq t x y t',ty,pos,af,g⟩ (.bool (!Flt.feq a b)) w :=
 X16 hx hy (X33 _ _ _ _) (by
  rw [binOp_float_cmp_neq]; show Result.ok _ _=_;have e:(Ieee.double.order a b != some .eq)=!Flt.feq a b:=by rw [bne,Flt.eq_iff]; rfl
  exact congrArg (fun z=>Result.ok (Value.bool z) w) e)
theorem Ex.toF {src dst:TypeId} {q:IntKind} {i:Int} (hx:Ev n L x (.int q i)) (hs:(P.underlying src).isSome=true) (hd:P.underlying dst=some (.float .f64)):Ex P n L w ⟨d,.convert src dst x,ty,pos,af,g⟩ (F64 (Flt.ofI i)) w:=fun e ha=>by
 have h:=run_convert_int_float (P:=P) w src dst q .f64 i hs hd;simp only [execOp,hx e ha,Sem.run_bind,h,Result.andThen_ok,Sem.run_pure]
 rfl
theorem Ex.ofF {src dst:TypeId} {i:Int} (hx:Ev n L x (F64 a)) (hs:(P.underlying src).isSome=true) (hd:P.underlying dst=some (.int .i64)) (hi:(Ieee.double.read a).toInt .zero=some i) (h0:0<=i) (h1:i<=9223372036854775807):Ex P n L w ⟨d,.convert src dst x,ty,pos,af,g⟩ (I64 i) w:=fun e ha=>by
 have h:=run_convert_float_int (P:=P) w src dst .f64 .i64 a i hs hd (by
  unfold floatToIntVal
  have:(FloatKind.f64.decode a).toInt .zero=some i:=hi
  rw [this];have hb:IntKind.i64.min<=i/\i<=IntKind.i64.max:=⟨by show (-9223372036854775808:Int)<=i; omega,by show i<=9223372036854775807; omega⟩
  simp only [hb,and_self,if_true])
 simp only [execOp,hx e ha,Sem.run_bind,h,Result.andThen_ok,Sem.run_pure]
end
theorem WL.fmul {d a b:Nat} (hS:Sat B w I As) (hx:Ev n L x (F64 a)) (hy:Ev n L y (F64 b)) (hd:Nat.blt d n=true)
  (h:∀ r w',r<18446744073709551616->Flt.nf r=Ieee.double.mul a b->Sat B w' I As->WL P n ops K rest ((d,F64 r)::L) w'):WL P n ops K (⟨some d,.binOp .mul t x y t',ty,pos,af,none⟩::rest) L w:=by
 cases hm:Ieee.double.mul a b with
 | some r =>
  have hn:=Flt.mul_nan hm;have hr:r<18446744073709551616:=by have:=Ieee.Format.mul_lt _ hm; exact this
  refine .val (v:=F64 r) (w':=w) ?_ hd (h r w hr (by unfold Flt.nf; rw [hn,hm]; rfl) hS);exact X16 hx hy (X33 _ _ _ _) (run_float_arith (P:=P) w .mul t .f64 a b r hm)
 | none =>
  obtain ⟨r,hr,hn,hrun⟩:∃ r,r<18446744073709551616/\Flt.nan r=true/\(binOp .mul t (F64 a) (F64 b)).run P w=.ok (F64 r) w.drew:=by
   generalize hT:w.tape w.drawn (Question.nanBits .f64 a b)=T;refine ⟨(T % 2)*9223372036854775808+9218868437227405312+1+(T / 2) % 4503599627370495,by omega,?_,?_⟩
   ·unfold Flt.nan Flt.rg;simp only [decide_eq_true_eq]
    have h1:=Y2p (T / 2) (show 0<4503599627370495 by decide);have h2:=Y2p T (show 0<2 by decide);generalize (T / 2) % 4503599627370495=q at *;generalize T % 2=s at *;rcases (show s=0\/s=1 by omega) with rfl | rfl <;> omega
   ·have hm':FloatKind.f64.format.mul a b=none:=hm;simp [binOp,Op.floatArith,hm',Question.forced,Question.cut,hT]
  refine .val (v:=F64 r) (w':=w.drew) ?_ hd (h r _ hr (by unfold Flt.nf; rw [hn,hm]; rfl) hS.drew);exact fun e ha=>by simp [execOp,hx e ha,hy e ha,X33,hrun]
section
variable {d:Option Nat} {i j:Int} {q:IntKind}
theorem X5h {a:Nat} (h:a<18446744073709551616):(BitVec.ofInt IntKind.u64.bits (a:Int)).toNat=a:=by
 rw [BitVec.toNat_ofInt];show ((a:Int) % ((2 ^ 64:Nat):Int)).toNat=a
 omega
theorem Xe0 {a:Nat} (h:a<18446744073709551616):IntKind.u64.wrap (a:Int)=(a:Int):=by rw [IntKind.wrap_u64]; omega
theorem Ex.and64 {a b:Nat} (ha:a<18446744073709551616) (hb:b<18446744073709551616) (hx:Ev n L x (U64 a)) (hy:Ev n L y (U64 b)):Ex P n L w ⟨d,.binOp .and t x y t',ty,pos,af,g⟩ (U64 ((a &&& b:Nat):Int)) w :=
 X16 hx hy (Xk _ _ _ _) (by
  have h1:a &&& b<18446744073709551616:=Y4d Nat.and_le_left ha;have e:(BitVec.ofInt IntKind.u64.bits (a:Int) &&& BitVec.ofInt IntKind.u64.bits (b:Int)).toNat=a &&& b:=by rw [BitVec.toNat_and,X5h ha,X5h hb]
  show (Op.intBits .and .u64 a b).run P w=_
  unfold Op.intBits;simp only [e,Xe0 h1,Sem.run_pure])
theorem Ex.or64 {a b:Nat} (ha:a<18446744073709551616) (hb:b<18446744073709551616) (hx:Ev n L x (U64 a)) (hy:Ev n L y (U64 b)):Ex P n L w ⟨d,.binOp .or t x y t',ty,pos,af,g⟩ (U64 ((a ||| b:Nat):Int)) w :=
 X16 hx hy (Xk _ _ _ _) (by
  have h1:a ||| b<18446744073709551616:=Nat.or_lt_two_pow (n:=64) ha hb;have e:(BitVec.ofInt IntKind.u64.bits (a:Int) ||| BitVec.ofInt IntKind.u64.bits (b:Int)).toNat=a ||| b:=by rw [BitVec.toNat_or,X5h ha,X5h hb]
  show (Op.intBits .or .u64 a b).run P w=_
  unfold Op.intBits;simp only [e,Xe0 h1,Sem.run_pure])
theorem Ex.not64 {t:TypeId} {a:Nat} (ha:a<18446744073709551616) (hx:Ev n L x (U64 a)):Ex P n L w ⟨d,.unOp .xor t x,ty,pos,af,g⟩ (U64 ((18446744073709551615 - a:Nat):Int)) w:=fun e he=>by
 have h1:(BitVec.ofInt IntKind.u64.bits IntKind.u64.max ^^^ BitVec.ofInt IntKind.u64.bits (a:Int)).toNat=18446744073709551615 - a:=by
  have e1:BitVec.ofInt 64 18446744073709551615=BitVec.allOnes 64:=by decide
  have e2:(BitVec.ofInt 64 (a:Int)).toNat=a:=X5h ha;change (BitVec.ofInt 64 18446744073709551615 ^^^ BitVec.ofInt 64 (a:Int)).toNat=_;rw [e1,BitVec.allOnes_xor,BitVec.toNat_not,e2]
 have h2:(Op.unary .xor (U64 a)).run P w=.ok (U64 ((18446744073709551615 - a:Nat):Int)) w:=by
  show (Op.intBits .xor .u64 (if IntKind.u64.signed then -1 else IntKind.u64.max) a).run P w=_
  rw [if_neg (by decide)];unfold Op.intBits;simp only [h1,Xe0 (show 18446744073709551615 - a<18446744073709551616 by omega),Sem.run_pure]
 simp only [execOp,hx e he,Sem.run_bind,h2,Result.andThen_ok,Sem.run_pure]
theorem Ex.addx {q:IntKind} (hx:Ev n L x (.int q i)) (hy:Ev n L y (.int q j)) (h:q.wrap (i+j)=i+j):Ex P n L w ⟨d,.binOp .add t x y t',ty,pos,af,g⟩ (.int q (i+j)) w :=
 X16 hx hy (Xk _ _ _ _) (by simp [binOp,Op.intArith,h])
theorem Ex.subx {q:IntKind} (hx:Ev n L x (.int q i)) (hy:Ev n L y (.int q j)) (h:q.wrap (i - j)=i - j):Ex P n L w ⟨d,.binOp .sub t x y t',ty,pos,af,g⟩ (.int q (i - j)) w :=
 X16 hx hy (Xk _ _ _ _) (by simp [binOp,Op.intArith,h])
theorem Ex.mulx {q:IntKind} (hx:Ev n L x (.int q i)) (hy:Ev n L y (.int q j)) (h:q.wrap (i*j)=i*j):Ex P n L w ⟨d,.binOp .mul t x y t',ty,pos,af,g⟩ (.int q (i*j)) w :=
 X16 hx hy (Xk _ _ _ _) (by simp [binOp,Op.intArith,h])
theorem Ex.andHi {a:Nat} (ha:a<18446744073709551616) (hx:Ev n L x (U64 a)) (hy:Ev n L y (U64 9223372036854775808)):Ex P n L w ⟨d,.binOp .and t x y t',ty,pos,af,g⟩ (U64 ((a &&& 9223372036854775808:Nat):Int)) w :=
 Ex.and64 ha (by decide) hx hy
theorem Ex.orHi {a:Nat} (ha:a<18446744073709551616) (hx:Ev n L x (U64 a)) (hy:Ev n L y (U64 9223372036854775808)):Ex P n L w ⟨d,.binOp .or t x y t',ty,pos,af,g⟩ (U64 ((a ||| 9223372036854775808:Nat):Int)) w :=
 Ex.or64 ha (by decide) hx hy
theorem Ex.quo {q:IntKind} (hx:Ev n L x (.int q i)) (hy:Ev n L y (.int q j)) (h0:0<=i) (h1:0<j) (hw:q.wrap (i / j)=i / j):Ex P n L w ⟨d,.binOp .quo t x y t',ty,pos,af,g⟩ (.int q (i / j)) w :=
 X16 hx hy (Xk _ _ _ _) (by
  have h2:¬ j=0:=by omega
  have e:i.tdiv j=i / j:=Int.tdiv_eq_ediv_of_nonneg h0;simp [binOp,Op.intDiv,h2,e,hw])
theorem Ex.rem {q:IntKind} (hx:Ev n L x (.int q i)) (hy:Ev n L y (.int q j)) (h0:0<=i) (h1:0<j):Ex P n L w ⟨d,.binOp .rem t x y t',ty,pos,af,g⟩ (.int q (i % j)) w :=
 X16 hx hy (Xk _ _ _ _) (by
  have h2:¬ j=0:=by omega
  have e:i.tmod j=i % j:=Int.tmod_eq_emod_of_nonneg h0;simp [binOp,Op.intDiv,h2,e])
theorem Ex.cvi {src dst:TypeId} {q r:IntKind} (hx:Ev n L x (.int q i)) (hs:P.underlying src=some (.int q)) (hd:P.underlying dst=some (.int r)) (hw:r.wrap i=i):Ex P n L w ⟨d,.convert src dst x,ty,pos,af,g⟩ (.int r i) w:=fun e he=>by
 simp [execOp,hx e he,convert,run_underlying hs,run_underlying hd,Conv.intToInt,hw]
theorem Ex.shr1 {q r:IntKind} (hx:Ev n L x (.int q i)) (hy:Ev n L y (.int r 1)) (hb:1<=q.bits):Ex P n L w ⟨d,.binOp .shr t x y t',ty,pos,af,g⟩ (.int q (i / 2)) w:=fun e he=>by
 have h1:min 1 q.bits=1:=by omega
 have h2:i.fdiv 2=i / 2:=Y55 _ (by decide);simp [execOp,hx e he,hy e he,binOp,Op.shift,h1,h2,eqGuard]
theorem Ex.makeFunc {f:Fn} {captured:List Operand} {vs:List Value} (hx:∀ a,Holds n L a->captured.map a.eval=vs):Ex P n L w ⟨d,.makeFunc f #[] captured.toArray,ty,pos,af,g⟩ (.func f #[] vs.toArray) w:=fun e he=>by
 have h:=hx e he;simp [execOp,Instr.makeFunc,<- h]
end
theorem X55 {a:Act} (he:Holds n L a) {d:Option Nat} {f:FuncId} {fn:Func} {c:Operand} {cap:List Value} {xs:List Operand} {ts:Array TypeId} {vs:List Value} (hf:P.funcs[f]?=some fn) (hc:Xj fn=true) (hv:Ev n L c (.func (.func f) #[] cap.toArray)) (hx:xs.map a.eval=vs) :
  (execOp a.eval (⟨d,.call ⟨.value c,xs.toArray,ts⟩,ty,pos,af,g⟩:Oper)).run P w=.ok (.enter f (vs ++ cap).toArray) w:=by
 unfold Xj at hc;simp only [Yn] at hc
 obtain ⟨h1,h2⟩:=hc;have h1' : ¬ fn.name = "runtime.NumGoroutine" := by simpa using h1
 have h2':¬ fn.body=none:=by intro e; rw [e] at h2; cases h2
 simp [execOp,resolve,hv a he,Deferred.ofValue,invoke,callFunc,program,Sem.run,hf,h1',h2',<- hx]
theorem WQ.vcall {C:World->Prop} {kk:Env->Prop} {d:Nat} {f:FuncId} {fn:Func} {c:Operand} {cap:List Value} {xs:List Operand} {ts:Array TypeId} {vs:List Value} {v:Value} (hf:P.funcs[f]?=some fn) (hc:Xj fn=true) (hv:Ev n L c (.func (.func f) #[] cap.toArray)) (hx:∀ a,Holds n L a->xs.map a.eval=vs) (hd:Nat.blt d n=true)
  (hcall:∀ w,C w->Calls P f (vs ++ cap).toArray w (Ret fun u w'=>u=v/\C w')) (h:WQ P n ops C kk rest ((d,v)::L)):WQ P n ops C kk (⟨some d,.call ⟨.value c,xs.toArray,ts⟩,ty,pos,af,none⟩::rest) L:=by
 intro a ha;refine wpQuiet_step fun K' hK=>?_
 rw [if_pos (X2n rfl _)];refine ⟨v,fun w hw=>?_,hK _ (h _ (ha.put hd v))⟩;unfold Oper.quietAt;rw [X55 ha hf hc hv (hx a ha)];refine ⟨rfl,(hcall w hw).mono ?_⟩;rintro e w'' ⟨u,rfl,rfl,hC⟩;exact ⟨rfl,hC⟩
theorem WQ.gvcall {C:World->Prop} {kk:Env->Prop} {d j s:Nat} {b want:Bool} {f:FuncId} {fn:Func} {c:Operand} {cap:List Value} {xs:List Operand} {ts:Array TypeId} {vs:List Value} {v:Value} (hj:(ops[j]?).bind (·.dst)=some s) (ht:Nat.blt s n=true) (hb:look L s=some (.bool b)) (hf:P.funcs[f]?=some fn) (hc:Xj fn=true)
  (hv:b=want->Ev n L c (.func (.func f) #[] cap.toArray)) (hx:b=want->∀ a,Holds n L a->xs.map a.eval=vs) (hd:Nat.blt d n=true)
  (hcall:b=want->∀ w,C w->Calls P f (vs ++ cap).toArray w (Ret fun u w'=>u=v/\C w')) (h:WQ P n ops C kk rest ((d,gd b want v)::L)):WQ P n ops C kk (⟨some d,.call ⟨.value c,xs.toArray,ts⟩,ty,pos,af,some (j,want)⟩::rest) L:=by
 intro a ha;refine wpQuiet_step fun K' hK=>?_
 have hput:=h _ (ha.put hd (gd b want v));have hy:=X8r ha hj hb;unfold Gk.gd at hput
 by_cases e:b=want
 ·rw [if_pos (by simp [Region.wanted,hy,e])];subst e;refine ⟨v,fun w hw=>?_,hK _ (by simpa using hput)⟩;unfold Oper.quietAt;rw [X55 ha hf hc (hv rfl) (hx rfl a ha)];refine ⟨rfl,(hcall rfl w hw).mono ?_⟩;rintro e w'' ⟨u,rfl,rfl,hC⟩;exact ⟨rfl,hC⟩
 ·rw [if_neg (by simp [Region.wanted,hy,e])];have e':(b == want)=false:=by simpa using e
  rw [e'] at hput;exact hK _ (by simpa using hput)
theorem X4m {f:FuncId} {args:Array Value} {w:World} {v:Value} {C:World->Prop} (h:Calls P f args w (Ret fun u w'=>u=v/\w=w')) (hC:C w):Calls P f args w (Ret fun u w'=>u=v/\C w') :=
 h.mono fun e w' he=>by
  obtain ⟨u,rfl,rfl,rfl⟩:=he;exact ⟨_,rfl,rfl,hC⟩
theorem WQ.gcalls {C:World->Prop} {kk:Env->Prop} {d j t:Nat} {c:List (Bool×Bool)} {b want:Bool} {f:FuncId} {fn:Func} {xs:List Operand} {ts:Array TypeId} {vs:List Value} {v:Value}
  (hj:(ops[j]?).bind (·.dst)=some t) (ht:Nat.blt t n=true) (hb:look L t=some (gds c (.bool b))) (hf:P.funcs[f]?=some fn) (hc:Xj fn=true)
  (hx:(∀ p∈c ++ [(b,want)],p.1=p.2)->∀ a,Holds n L a->xs.map a.eval=vs) (hd:Nat.blt d n=true)
  (hcall:(∀ p∈c ++ [(b,want)],p.1=p.2)->∀ w,C w->Calls P f vs.toArray w (Ret fun u w'=>u=v/\C w'))
  (h:WQ P n ops C kk rest ((d,gds (c ++ [(b,want)]) v)::L)):WQ P n ops C kk (⟨some d,.call ⟨.value (.func f),xs.toArray,ts⟩,ty,pos,af,some (j,want)⟩::rest) L:=by
 intro a ha;refine wpQuiet_step fun K' hK=>?_
 have hput:=h _ (ha.put hd (gds (c ++ [(b,want)]) v));have hlt:t<a.tmps.size:=by have:=Y26 ht; rw [ha.size]; omega
 have hv:=ha.get t _ hb;have hy:yielded ops a.tmps j=match gds c (.bool b) with | .bool b=>some b | _=>none:=by
  obtain ⟨o,ho,hdd⟩:=Y2e.1 hj;rw [Y16,Y19 hlt] at hv;simp only [Y2z] at hv
  have h2:a.tmps[t]?=some (gds c (.bool b)):=by rw [Y19 hlt,hv]
  simp only [yielded,ho,hdd,Y38,h2]
  generalize gds c (.bool b)=g;cases g <;> rfl
 by_cases e:∀ p∈c ++ [(b,want)],p.1=p.2
 ·have ec:∀ p∈c,p.1=p.2:=fun p hp=>e p (by simp [hp])
  have eb:b=want:=e (b,want) (by simp);rw [X2m ec] at hy;rw [if_pos (by simp [Region.wanted,hy,eb])];rw [X2m e] at hput;refine ⟨v,fun w hw=>?_,hK _ hput⟩;have he:(execOp a.eval (⟨some d,.call ⟨.value (.func f),xs.toArray,ts⟩,ty,pos,af,some (j,want)⟩:Oper)).run P w=.ok (.enter f vs.toArray) w:=by
   unfold Xj at hc;simp only [Yn] at hc
   obtain ⟨h1,h2⟩:=hc;have h1' : ¬ fn.name = "runtime.NumGoroutine" := by simpa using h1
   have h2':¬ fn.body=none:=by intro e; rw [e] at h2; cases h2
   have hv:=hx e a ha;simp [execOp,resolve,Act.eval,Deferred.ofValue,invoke,callFunc,program,Sem.run,hf,h1',h2',<- hv]
  unfold Oper.quietAt;rw [he];refine ⟨rfl,(hcall e w hw).mono ?_⟩;rintro e' w'' ⟨u,rfl,rfl,hC⟩;exact ⟨rfl,hC⟩
 ·have hw:Region.wanted (⟨some d,.call ⟨.value (.func f),xs.toArray,ts⟩,ty,pos,af,some (j,want)⟩:Oper) (yielded ops a.tmps)=false:=by
   by_cases ec:∀ p∈c,p.1=p.2
   ·rw [X2m ec] at hy;have eb:¬ b=want:=fun eb=>e fun p hp=>by
     rcases Y12.1 hp with hp | hp
     ·exact ec p hp
     ·simp at hp; subst hp; exact eb
    simp [Region.wanted,hy,eb]
   ·rw [X4k ec] at hy;simp [Region.wanted,hy,undef]
  rw [if_neg (by simp [hw])];rw [X4k e] at hput;exact hK _ hput
theorem WQ.gcall {C:World->Prop} {kk:Env->Prop} {d j t:Nat} {b want:Bool} {f:FuncId} {fn:Func} {xs:List Operand} {ts:Array TypeId} {vs:List Value} {v:Value}
  (hj:(ops[j]?).bind (·.dst)=some t) (ht:Nat.blt t n=true) (hb:look L t=some (.bool b)) (hf:P.funcs[f]?=some fn) (hc:Xj fn=true)
  (hx:b=want->∀ a,Holds n L a->xs.map a.eval=vs) (hd:Nat.blt d n=true)
  (hcall:b=want->∀ w,C w->Calls P f vs.toArray w (Ret fun u w'=>u=v/\C w'))
  (h:WQ P n ops C kk rest ((d,gd b want v)::L)):WQ P n ops C kk (⟨some d,.call ⟨.value (.func f),xs.toArray,ts⟩,ty,pos,af,some (j,want)⟩::rest) L :=
 WQ.gcalls (c:=[]) hj ht hb hf hc (fun e=>hx (e (b,want) (by simp))) hd (fun e=>hcall (e (b,want) (by simp))) h
theorem WQ.gcall2 {C:World->Prop} {kk:Env->Prop} {d j t:Nat} {b1 w1 b want:Bool} {f:FuncId} {fn:Func} {xs:List Operand} {ts:Array TypeId} {vs:List Value} {v:Value}
  (hj:(ops[j]?).bind (·.dst)=some t) (ht:Nat.blt t n=true) (hb:look L t=some (gd b1 w1 (.bool b))) (hf:P.funcs[f]?=some fn) (hc:Xj fn=true)
  (hx:b1=w1->b=want->∀ a,Holds n L a->xs.map a.eval=vs) (hd:Nat.blt d n=true)
  (hcall:b1=w1->b=want->∀ w,C w->Calls P f vs.toArray w (Ret fun u w'=>u=v/\C w'))
  (h:WQ P n ops C kk rest ((d,gd b1 w1 (gd b want v))::L)):WQ P n ops C kk (⟨some d,.call ⟨.value (.func f),xs.toArray,ts⟩,ty,pos,af,some (j,want)⟩::rest) L :=
 WQ.gcalls (c:=[(b1,w1)]) hj ht hb hf hc (fun e=>hx (e (b1,w1) (by simp)) (e (b,want) (by simp))) hd (fun e=>hcall (e (b1,w1) (by simp)) (e (b,want) (by simp))) h
theorem WQ.gval3 {C:World->Prop} {kk:Env->Prop} {d j t:Nat} {b1 w1 b2 w2 b want:Bool} {op:Op} {v:Value}
  (hj:(ops[j]?).bind (·.dst)=some t) (ht:Nat.blt t n=true) (hb:look L t=some (gd b1 w1 (gd b2 w2 (.bool b)))) (hx:b1=w1->b2=w2->b=want->∀ w,C w->Ex P n L w ⟨some d,op,ty,pos,af,some (j,want)⟩ v w) (hd:Nat.blt d n=true)
  (h:WQ P n ops C kk rest ((d,gd b1 w1 (gd b2 w2 (gd b want v)))::L)):WQ P n ops C kk (⟨some d,op,ty,pos,af,some (j,want)⟩::rest) L :=
 WQ.gvals (c:=[(b1,w1),(b2,w2)]) hj ht hb (fun e=>hx (e (b1,w1) (by simp)) (e (b2,w2) (by simp)) (e (b,want) (by simp))) hd h
theorem Sat.weaken {J:Im} (hS:Sat B w J As) (hl:Le I J):Sat B w I As:=by
 obtain ⟨h,hs,hg⟩:=hS;refine ⟨h,hs,hg.os,hg.tape,hg.output,fun b o e=>hg.imm b o (hl b o e),hg.own,hg.nodup,fun b o hm=>?_⟩
 have:=hg.apart b o hm
 cases hi:I b with
 | none=>rfl
 | some z=>rw [hl b z hi] at this; cases this
end
end Gk
namespace Gk
open Go
section
variable {P:Program} {n:Nat} {K:X34} {L:Env} {w w':World} {ops:Array Oper} {rest:List Oper}
variable {B:World} {I:Im} {As:List X7} {k:Nat} {ty:TypeId} {pos:String} {af:Array Edge} {g:Option (Nat×Bool)} {t t':TypeId} {x y:Operand}
theorem Ex.sub3k {d:Option Nat} {i j:Int} {q r:IntKind} {l:List UInt8} {z:Operand} (hx:Ev n L x (S l)) (hy:Ev n L y (.int q i)) (hz:Ev n L z (.int r j)) (h0:0<=i) (h1:i<=j) (h2:j<=(l.length:Int)) (hT:P.underlying t=some .string) :
  Ex P n L w ⟨d,.slice t x (some y) (some z) none,ty,pos,af,g⟩ (S ((l.drop i.toNat).take (j.toNat - i.toNat))) w:=fun a ha=>by
 have h:=run_slice_string (P:=P) w t ⟨l.toArray⟩ q r i j hT h0 h1 h2;rw [Xb2] at h;simp [execOp,hx a ha,hy a ha,hz a ha,run_sliceAt_string w t _ _ _ _ hT,h]
theorem Ex.str1 {d:Option Nat} {src dst E:TypeId} {b cap:Nat} {c:UInt8} {i:Int} (hx:Ev n L x (.slice (some (ad b 0)) 1 cap)) (hS:Sat B w I As) (hk:As[k]?=some (blk b [.int .u8 i] E)) (hi:i=(c.toNat:Int)) (hs:P.underlying src=some (.slice E)) (he:P.underlying E=some (.int .u8)) (hd:P.underlying dst=some .string) :
  Ex P n L w ⟨d,.convert src dst x,ty,pos,af,g⟩ (S [c]) w:=by
 subst hi;exact Ex.bytesStr (l:=[c]) hx hS hk hs he hd (fun j hj=>by
  have:j=0:=by simp at hj; omega
  subst this; rfl)
theorem Ex.index8 {d:Option Nat} {i:Int} {q:IntKind} {l:List UInt8} (hx:Ev n L x (S l)) (hy:Ev n L y (.int q i)) (hi:0<=i) (hl:i<(l.length:Int)) (hT:P.underlying t=some .string):Ex P n L w ⟨d,.index t x y,ty,pos,af,g⟩ (U8 (at_ l i).toNat) w :=
 fun a ha=>by
  have h1:i.toNat<l.length:=by omega
  have h3:0<=i/\i<((ByteArray.size ⟨l.toArray⟩:Nat):Int):=⟨hi,by show i<(l.length:Int); omega⟩
  have h:=run_index_string (P:=P) w t ⟨l.toArray⟩ q i hT;rw [dif_pos h3] at h;have h4:(⟨l.toArray⟩:ByteArray)[i.toNat]'(by show i.toNat<l.length; omega)=at_ l i:=by
   rw [at_,Y8,Y4 h1]; rfl
  rw [h4] at h;simp [execOp,hx a ha,hy a ha,h]
theorem Xd8 {t e:TypeId} {m:Nat} (hT:P.underlying t=some (.array m e)):P.elem t=e/\P.arrayLen t=m:=by
 simp [Program.elem,Program.arrayLen,hT]
theorem Ex.arrAddrI {d:Option Nat} {p:Addr} {m s:Nat} {e:TypeId} {i:Int} {q:IntKind} (hx:Ev n L x (.pointer (some p))) (hy:Ev n L y (.int q i)) (hi:0<=i) (hl:i<(m:Int)) (ht:P.underlying t=some (.array m e)) (hs:∀ w,(Go.sizeOf e).run P w=.ok s w) :
  Ex P n L w ⟨d,.indexAddr t x y,ty,pos,af,g⟩ (.pointer (some (p.add (i.toNat*s)))) w:=fun a ha=>by
 obtain ⟨e1,e2⟩:=Xd8 ht;have h:=run_indexAt_array (P:=P) w t p q i (by rw [e1,e2]; exact ht);rw [e2,if_pos ⟨hi,hl⟩,e1,hs] at h;simp [execOp,hx a ha,hy a ha,h,Result.andThen]
theorem Ex.indexArr {d:Option Nat} {m:Nat} {e:TypeId} {vs:List Value} {v:Value} {i:Int} {q:IntKind} (hx:Ev n L x (.agg vs.toArray)) (hy:Ev n L y (.int q i)) (hi:0<=i) (hl:i<(m:Int)) (ht:P.underlying t=some (.array m e)) (hs:∀ w,(Go.sizeOf e).run P w=.ok 1 w) (ha:∀ w,(isAgg e).run P w=.ok false w) (hv:vs[i.toNat]?=some v) :
  Ex P n L w ⟨d,.index t x y,ty,pos,af,g⟩ v w:=fun b hb=>by
 have hlt:i.toNat<vs.length:=(Y5.1 hv).1;have hg:=(Y5.1 hv).2;simp [execOp,hx b hb,hy b hb,Instr.index,run_underlying ht,asIntOf,hi,hl,hs,ha,hlt,hg,part]
theorem Ex.ibits {d:Option Nat} {op:BinOp} {q:IntKind} {i j:Int} (hop:op=.and\/op=.or\/op=.xor) (hx:Ev n L x (.int q i)) (hy:Ev n L y (.int q j)):Ex P n L w ⟨d,.binOp op t x y t',ty,pos,af,g⟩ (.int q (bits op q i j)) w :=
 X16 hx hy (Xk _ _ _ _) (by rcases hop with rfl | rfl | rfl <;> simp [binOp,Op.intBits,bits])
theorem Ex.shl {d:Option Nat} {q r:IntKind} {i j:Int} (hx:Ev n L x (.int q i)) (hy:Ev n L y (.int r j)) (h0:0<=j) (h1:j<=q.bits):Ex P n L w ⟨d,.binOp .shl t x y t',ty,pos,af,g⟩ (.int q (q.wrap (i*2 ^ j.toNat))) w:=fun e he=>by
 have h:=shift_shl q r i j h0 h1;simp [execOp,hx e he,hy e he,binOp,h,eqGuard]
theorem Ex.shr {d:Option Nat} {q r:IntKind} {i j:Int} (hx:Ev n L x (.int q i)) (hy:Ev n L y (.int r j)) (h0:0<=j) (h1:j<=q.bits):Ex P n L w ⟨d,.binOp .shr t x y t',ty,pos,af,g⟩ (.int q (i / 2 ^ j.toNat)) w:=fun e he=>by
 have hm:min j.toNat q.bits=j.toNat:=by omega
 have hn:¬ j<0:=by omega
 have h2:i.fdiv (2 ^ j.toNat)=i / 2 ^ j.toNat:=Y55 _ (Y5p (Int.pow_pos (by decide)));simp [execOp,hx e he,hy e he,binOp,Op.shift,hm,hn,h2,eqGuard]
theorem Ex.cvw {d:Option Nat} {i:Int} {src dst:TypeId} {q r:IntKind} (hx:Ev n L x (.int q i)) (hs:P.underlying src=some (.int q)) (hd:P.underlying dst=some (.int r)):Ex P n L w ⟨d,.convert src dst x,ty,pos,af,g⟩ (.int r (r.wrap i)) w:=fun e he=>by
 simp [execOp,hx e he,convert,run_underlying hs,run_underlying hd,Conv.intToInt]
theorem WL.vcall {d:Nat} {f:FuncId} {fn:Func} {c:Operand} {cap:List Value} {xs:List Operand} {ts:Array TypeId} {vs:List Value} {Q:Value->World->Prop} (hf:P.funcs[f]?=some fn) (hc:Xj fn=true) (hv:Ev n L c (.func (.func f) #[] cap.toArray)) (hx:∀ a,Holds n L a->xs.map a.eval=vs) (hd:Nat.blt d n=true)
  (hcall:Calls P f (vs ++ cap).toArray w (Ret Q)) (h:∀ v w',Q v w'->WL P n ops K rest ((d,v)::L) w'):WL P n ops K (⟨some d,.call ⟨.value c,xs.toArray,ts⟩,ty,pos,af,none⟩::rest) L w:=by
 intro a ha;refine wpList_plain rfl fun K' hK=>?_
 unfold Oper.wp;rw [X55 ha hf hc hv (hx a ha)];refine hcall.mono fun e w'' hq=>?_
 obtain ⟨v,rfl,hv⟩:=hq;exact hK _ _ (h v w'' hv _ (ha.put hd v))
open Go.RowKit in
theorem Sat.grown {As:List X7} (hS:Sat B w I As) (h:Below w.heap.size w w'):Sat B w' I As:=by
 obtain ⟨hh,hs,hg⟩:=hS;have old:∀ b o,w.heap[b]?=some o->w'.heap[b]?=some o:=fun b o e=>by
  rw [h.block b (Y1a.1 e).1]; exact e
 exact ⟨hh,hs,h.os.trans hg.os,h.tape.trans hg.tape,h.output.trans hg.output,fun b o e=>old b o (hg.imm b o e),fun b o e=>old b o (hg.own b o e),hg.nodup,hg.apart⟩
open Go.RowKit in
theorem Sat.grownRow {E size m:Nat} {v:Value} {xs:List Value} (hS:Sat B w I As) (h:Below w.heap.size w w') (ho:w'.ownsRow w.heap.size E size v m xs):Sat B w' I (Vec E size v m xs::As):=by
 have hS2:=hS.grown h;obtain ⟨hl,hv | ⟨g,cap,cur,rfl,hb,hh,h1,h2,h3,h4⟩⟩:=ho
 ·obtain ⟨hv,h0⟩:=hv;subst hv; subst h0;have hx:xs=[]:=Yj (by simpa using hl);subst hx;exact hS2.vecNil E size
 ·obtain ⟨hh0,hs,hg⟩:=hS;obtain ⟨hh2,hs2,hg2⟩:∃ h,SepAll As h/\Good B w' I h/\h=hh0:=by
   refine ⟨hh0,hs,?_,rfl⟩;have old:∀ b o,w.heap[b]?=some o->w'.heap[b]?=some o:=fun b o e=>by
    rw [h.block b (Y1a.1 e).1]; exact e
   exact ⟨h.os.trans hg.os,h.tape.trans hg.tape,h.output.trans hg.output,fun b o e=>old b o (hg.imm b o e),fun b o e=>old b o (hg.own b o e),hg.nodup,hg.apart⟩
  obtain ⟨hg2,rfl⟩:=hg2;have cut:cur=(xs ++ cur.toList.drop (m*size)).toArray:=by
   apply Array.ext'
   simp only [List.toList_toArray]
   rw [<- h4,Yv]
  have hcell:w'.heap[g]?=some (Xl (xs ++ cur.toList.drop (m*size)) E):=by
   unfold Xl; rw [<- cut]; exact hh
  have hn:∀ b o,(b,o)∈hh2->b≠g:=fun b o hm e=>by
   subst e
   have:=(Y1a.1 (hg.own b o hm)).1
   omega
  refine ⟨(g,Xl (xs ++ cur.toList.drop (m*size)) E)::hh2,⟨[(g,Xl (xs ++ cur.toList.drop (m*size)) E)],hh2,rfl,⟨hl,.inr ⟨g,cap,cur.toList.drop (m*size),rfl,rfl,h1,h2,?_⟩⟩,hs2⟩,hg2.os,hg2.tape,hg2.output,hg2.imm,fun b o hm=>?_,?_,fun b o hm=>?_⟩
  ·rw [Yg,hl,Y3l,h3]
   have:=Y3g size h1
   omega
  ·rcases Y17.1 hm with e | hm
   ·cases e; exact hcell
   ·exact hg2.own b o hm
  ·simp only [Y1b,Y3j]
   refine ⟨fun hm=>?_,hg2.nodup⟩;obtain ⟨⟨b,x⟩,hm,e⟩:=Y2b.1 hm;exact hn b x hm e
  ·rcases Y17.1 hm with e | hm
   ·cases e
    cases hi:I g with
    | none=>rfl
    | some y=>have:=(Y1a.1 (hg.imm _ _ hi)).1; omega
   ·exact hg2.apart b o hm
open Go.RowKit in
theorem Xbs {row:Option Nat} (h:w.grownBy w' row) (hr:row=none):Below w.heap.size w w' :=
 ⟨h.os,h.tape,h.output,h.size,fun k hk=>h.block k hk (by rw [hr]; simp)⟩
theorem X5f (s:List UInt8):Lib.strCells ⟨s.toArray⟩=bcs s:=by simp [Lib.strCells]
theorem Xbx {t u ty E:TypeId} {i:TypeInfo} {v:Value} {m:Nat} {xs:List Value} (hS:Sat B w I As) (ht:P.underlying t=some (.slice E)) (hu:P.underlying u=some .string) (hi:P.info? E=some i) (hz:i.zero=some (.int .u8 0)) (hsize:i.size=1) (hby:i.bytes=1)
  (hk:As[k]?=some (Vec E 1 v m xs)) (s:List UInt8) (hb:m+s.length<=140737488355328) :
  ∃ v' w',(Builtin.append_ #[t,u] ty #[v,S s]).run P w=.ok v' w'/\Sat B w' I (As.set k (Vec E 1 v' (m+s.length) (xs ++ bcs s))):=by
 have hml:m+s.length<=maxLen:=by simp only [maxLen]; omega
 have hxl:xs.length=m*1:=hS.pure_ hk fun h ⟨hl,_⟩=>hl
 have hlk:k<As.length:=(Y5.1 hk).1;have hsz:ByteArray.size ⟨s.toArray⟩=s.length:=rfl;have hcase:(v=.slice none 0 0/\m=0)\/∃ g cap rest,v=.slice (some ⟨g,0,none⟩) m cap/\m<=cap/\cap<=maxLen/\xs.length+rest.length=cap*1/\Sat B w I (As.set k (blk g (xs ++ rest) E)):=by
  obtain ⟨g,hs,hg⟩:=hS;obtain ⟨h1,h2,hp,⟨hl,ha⟩,hset,_⟩:=hs.at_ hk;rcases ha with ⟨hv,h0,_⟩ | ⟨b,cap,rest,rfl,rfl,h3,h4,h5⟩
  ·exact .inl ⟨hv,h0⟩
  ·obtain ⟨h',hs',hp'⟩:=hset (blk b (xs ++ rest) E) _ rfl;exact .inr ⟨b,cap,rest,rfl,h3,h4,h5,h',hs',hg.perm (hp.trans hp'.symm)⟩
 rcases hcase with ⟨rfl,rfl⟩ | ⟨g,cap,rest,rfl,hnc,hcm,hcs,hSo⟩
 ·have hx:xs=[]:=Yj (by simpa using hxl);subst hx;obtain ⟨v',w',hr,ho,hgr,_⟩:=Go.Lib.run_append_own_string (P:=P) w w.heap.size t u ty E i ht hu hi hz hsize hby (.slice none 0 0) 0 [] ⟨rfl,.inl ⟨rfl,rfl⟩⟩ ⟨s.toArray⟩ (by rw [hsz]; exact hml) (by rw [hsz]; exact hb) (Yq _)
  rw [X5f,hsz] at ho;have hS2:=hS.grownRow (Xbs hgr rfl) ho;refine ⟨v',w',hr,?_⟩
  -- the new one stands at the old one's place
  obtain ⟨h,hs,hg⟩:=hS2;obtain ⟨q1,q2,rfl,hq1,hq2⟩:=hs;obtain ⟨h1',h2',hp,_,hset,_⟩:=SepAll.at_ hk hq2;obtain ⟨h',hs',hp'⟩:=hset _ q1 hq1;have g2:Good B w' I (q1 ++ h2'):=by
   have g:=hg.perm (hp.append_left q1)
   have:(q1 ++ (h1' ++ h2')).Perm ((q1 ++ h2') ++ h1'):=by
    rw [Yd];exact (Y1u).append_left q1
   exact (g.perm this).left
  exact ⟨h',hs',g2.perm hp'.symm⟩
 ·have hko:(As.set k (blk g (xs ++ rest) E))[k]?=some (blk g (xs ++ rest) E):=by simp [hlk]
  have hblk:=hSo.block hko
  by_cases hroom:m+s.length<=cap
  ·have hfit:m+ByteArray.size ⟨s.toArray⟩<=(xs ++ rest).toArray.size:=by
    simp only [Y4k,Y0,hsz]; omega
   have hr:=Go.Lib.run_append_room_string (P:=P) w t u ty E i ht hu hi hsize g m cap (xs ++ rest).toArray hblk ⟨s.toArray⟩ hroom hfit;rw [X5f,hsz] at hr;have e2:((xs ++ rest).toArray.toList.take m ++ bcs s ++ (xs ++ rest).toArray.toList.drop (m+s.length)).toArray=((xs ++ bcs s) ++ rest.drop s.length).toArray:=by
    have hm:m=xs.length:=by omega
    subst hm;simp only [List.toList_toArray,Y2d]
    rw [List.drop_append,Y11 (by omega:xs.length<=xs.length+s.length)]
    simp
   rw [e2] at hr;refine ⟨_,_,hr,?_⟩;have hw:=hSo.write (w':=w.setRow g ((xs ++ bcs s) ++ rest.drop s.length).toArray) (o':=Xl ((xs ++ bcs s) ++ rest.drop s.length) E) hko rfl rfl rfl (setRow_heap w g _ _ E _ hblk) (fun x hx=>setRow_other w g x _ hx);have hsh:=hw.vecShut (k:=k) (g:=g) (E:=E) (n:=m+s.length) (size:=1) (cap:=cap) (xs:=xs ++ bcs s) (rest:=rest.drop s.length) (by simp [hlk,blk]) hroom hcm (by rw [Y0,Y14]; omega) (by
    rw [Y0,Yg,Y14]; omega)
   simpa using hsh
  ·have holds:∀ j u,xs[j]?=some u->w.cell? ((⟨g,0,none⟩:Addr).add j)=some u:=by
    intro j u hu';have hj:j<xs.length:=(Y5.1 hu').1;rw [Addr.add_lit,Yc];have h9:w.heap[g]?=some (.cells (xs ++ rest).toArray E (0,0)):=hblk;simp only [World.cell?,h9,Option.isSome_none,Y1p,if_false]
    simp [hj] at hu' ⊢
    simp [Y2o,hj,hu']
   have hr:=Go.Lib.run_append_grow_string (P:=P) w t u ty E i (.int .u8 0) ht hu hi hz ⟨g,0,none⟩ m cap xs (by rw [hsize]; exact hxl) holds ⟨s.toArray⟩ (by rw [hsz]; omega) (by rw [hsz]; omega) (growslice_fits (by rw [hsz]; omega) (by rw [hby,hsz]; omega));rw [X5f,hsz] at hr;refine ⟨_,_,hr,?_⟩;have hge:=grownCap_ge w (m+s.length) cap E;have hcm2:grownCap w (m+s.length) cap E<=maxLen:=grownCap_le_maxLen w (m+s.length) cap E hml;have hS2:=hS.drew.alloc (.cells (xs.toArray ++ (bcs s).toArray ++ Builtin.zeroCells (Value.int .u8 0).cells (grownCap w (m+s.length) cap E - (m+s.length))) E);have e1:(own w.drew.heap.size (.cells (xs.toArray ++ (bcs s).toArray ++ Builtin.zeroCells (Value.int .u8 0).cells (grownCap w (m+s.length) cap E - (m+s.length))) E))=blk w.heap.size ((xs ++ bcs s) ++ (Builtin.zeroCells (Value.int .u8 0).cells (grownCap w (m+s.length) cap E - (m+s.length))).toList) E:=by
    unfold blk Xl
    congr 2
    apply Array.ext'
    simp
   rw [e1] at hS2;have hS3:=hS2.vecShut (k:=0) (n:=m+s.length) (size:=1) (cap:=grownCap w (m+s.length) cap E) rfl hge hcm2 (by rw [Y0,Y14]; omega) (by
    have hzc:∀ q,(Builtin.zeroCells (Value.int .u8 0).cells q).toList.length=q:=fun q=>by rw [Y3l,size_zeroCells]; exact Y1n q
    rw [Y0,Y14,hzc];omega)
   obtain ⟨h,hs,hg⟩:=hS3;obtain ⟨q1,q2,rfl,hq1,hq2⟩:=hs;obtain ⟨h1',h2',hp,_,hset,_⟩:=SepAll.at_ hk hq2;obtain ⟨h',hs',hp'⟩:=hset _ q1 hq1;refine ⟨h',hs',Good.perm ?_ hp'.symm⟩;have g:=hg.perm (hp.append_left q1)
   have:(q1 ++ (h1' ++ h2')).Perm ((q1 ++ h2') ++ h1'):=by
    rw [Yd];exact (Y1u).append_left q1
   exact (g.perm this).left
theorem WL.appendStr {d:Nat} {t u E:TypeId} {i:TypeInfo} {v:Value} {m:Nat} {xs:List Value} {s:List UInt8} (hS:Sat B w I As) (hx:Ev n L x v) (hy:Ev n L y (S s)) (hk:As[k]?=some (Vec E 1 v m xs)) (ht:P.underlying t=some (.slice E)) (hu:P.underlying u=some .string) (hi:P.info? E=some i) (hz:i.zero=some (.int .u8 0)) (hsize:i.size=1) (hby:i.bytes=1)
  (hb:m+s.length<=140737488355328) (hd:Nat.blt d n=true) (h:∀ v' w',Sat B w' I (As.set k (Vec E 1 v' (m+s.length) (xs ++ bcs s)))->WL P n ops K rest ((d,v')::L) w') :
  WL P n ops K (⟨some d,.call ⟨.builtin .append,#[x,y],#[t,u]⟩,ty,pos,af,none⟩::rest) L w:=by
 obtain ⟨v',w',hr,hS'⟩:=Xbx (P:=P) (ty:=ty) hS ht hu hi hz hsize hby hk s hb
 exact WL.val (w':=w') (fun a ha=>by simp [execOp,resolve,invoke,builtin,hx a ha,hy a ha,hr]) hd (h _ _ hS')
end
end Gk
namespace Gk
open Go
section
variable {P:Program} {n:Nat} {K:X34} {L:Env} {w w':World} {ops:Array Oper} {rest:List Oper}
variable {B:World} {I:Im} {As:List X7} {k:Nat} {ty:TypeId} {pos:String} {af:Array Edge} {g:Option (Nat×Bool)} {t t':TypeId} {x y:Operand}
def X6a (cs:List Value) (E:TypeId):Obj:=.cells cs.toArray E (cs.length,cs.length+1)
def blkM (b:Nat) (cs:List Value) (E:TypeId):X7:=own b (X6a cs E)
theorem Sat.blockO {b:Nat} {o:Obj} (hS:Sat B w I As) (hk:As[k]?=some (own b o)):w.heap[b]?=some o:=by
 obtain ⟨h,hs,hg⟩:=hS;obtain ⟨g1,g2,hp,ha,_,_⟩:=hs.at_ hk;rw [own] at ha;subst ha;exact hg.own _ _ (hp.mem_iff.2 (by simp))
theorem Xnx {b:Nat} {cs:List Value} {E:TypeId} (hb:w.heap[b]?=some (X6a cs E)) {o:Nat} {v:Value} (hv:cs[o]?=some v):w.cell? (ad b o)=some v:=by
 unfold X6a at hb;simp [World.cell?,hb,hv]
theorem WL.strBytes {d:Nat} {src dst e:TypeId} {s:List UInt8} (hS:Sat B w I As) (hx:Ev n L x (S s)) (hs:P.underlying src=some .string) (hd':P.underlying dst=some (.slice e)) (he:P.underlying e=some (.int .u8)) (hd:Nat.blt d n=true)
  (h:∀ b cap r w',Sat B w' I (blkM b (bcs s ++ List.replicate r (.int .u8 0)) e::As)->WL P n ops K rest ((d,.slice (some (ad b 0)) s.length cap)::L) w') :
  WL P n ops K (⟨some d,.convert src dst x,ty,pos,af,none⟩::rest) L w:=by
 have hr:=run_bytes_of_string (P:=P) w src dst e ⟨s.toArray⟩ hs hd' he;have hrow:bytesRow ⟨s.toArray⟩ (grownCap w s.length 0 e)=(bcs s ++ List.replicate (grownCap w s.length 0 e - s.length) (Value.int .u8 0)).toArray:=by
  simp [bytesRow,bcs,U8]
  rfl
 refine .val (v:=.slice (some (ad w.heap.size 0)) s.length (grownCap w s.length 0 e)) (w':=w.drew.alloc (X6a (bcs s ++ List.replicate (grownCap w s.length 0 e - s.length) (Value.int .u8 0)) e)) (fun a ha=>?_) hd (h _ _ _ _ (hS.drew.alloc _));have hz:ByteArray.size ⟨s.toArray⟩=s.length:=rfl;rw [hz,hrow] at hr;have hx':=hx a ha;simp [execOp,hx',hr,X6a]
theorem Ex.ldM {d:Option Nat} {b o:Nat} {cs:List Value} {E:TypeId} {v:Value} (hx:Ev n L x (ptr b o)) (hS:Sat B w I As) (hk:As[k]?=some (blkM b cs E)) (ht:∀ w,(isAgg t).run P w=.ok false w) (hv:cs[o]?=some v) :
  Ex P n L w ⟨d,.load t x,ty,pos,af,g⟩ v w:=fun a ha=>by
 have h:=Xnx (hS.blockO hk) hv;simp [execOp,hx a ha,Instr.loadAt,Instr.sureAddr,loadVar,ht,load,Sem.run,h]
theorem Ex.bytesStrM {d:Option Nat} {src dst E:TypeId} {b o cap:Nat} {l:List UInt8} {cs:List Value} (hx:Ev n L x (.slice (some (ad b o)) l.length cap)) (hS:Sat B w I As) (hk:As[k]?=some (blkM b cs E)) (hs:P.underlying src=some (.slice E)) (he:P.underlying E=some (.int .u8)) (hd:P.underlying dst=some .string)
  (hc:∀ j (hj:j<l.length),cs[o+j]?=some (U8 (l[j].toNat:Int))):Ex P n L w ⟨d,.convert src dst x,ty,pos,af,g⟩ (S l) w:=fun a ha=>by
 have hb:=hS.blockO hk;have h:=run_convert_bytes_back (P:=P) w src dst E (ad b o) cap l hs he hd (fun j hj=>by rw [X15]; exact Xnx hb (hc j hj));simp [execOp,hx a ha,h]
theorem WL.st1M {b o:Nat} {cs:List Value} {E:TypeId} {v:Value} (hS:Sat B w I As) (hk:As[k]?=some (blkM b cs E)) (hx:Ev n L x (ptr b o)) (hy:Ev n L y v) (h1:v.oneCell'=true) (hs:∀ w,(Go.sizeOf t).run P w=.ok 1 w) (ho:o<cs.length)
  (h:∀ w',Sat B w' I (As.set k (blkM b (cs.set o v) E))->WL P n ops K rest L w'):WL P n ops K (⟨none,.store t x y,ty,pos,af,none⟩::rest) L w:=by
 have hb:=hS.blockO hk;have hcell:=Xnx hb (Y4 ho);have hfro:w.frozen? (ad b o)=false:=by
  unfold X6a at hb;simp [World.frozen?,hb]
  omega
 have hc:v.cells=#[v]:=by cases v <;> first | rfl | cases h1
 have hlt:b<w.heap.size:=(Y1a.1 hb).1;have hst:=run_store P w (ad b o) v .plain h1;rw [hcell] at hst;simp only [hfro] at hst
 have hb':=hb;unfold X6a at hb';have hset:(w.setCell (ad b o) v).heap=w.heap.setIfInBounds b (X6a (cs.set o v) E):=by
  apply Array.ext
  ·simp [World.setCell]
  ·intro i h1 h2;simp only [World.setCell,Array.getElem_modify,Y4v,X6a]
   by_cases e:b=i
   ·subst e
    have:=(Y1a.1 hb').2
    simp [this]
   ·have h3:i<w.heap.size:=by simpa using h2
    simp [e,Y4v h3]
 refine .st (w':=w.setCell (ad b o) v) (fun a ha=>?_) (h _ (hS.write (o':=X6a (cs.set o v) E) hk ?_ ?_ ?_ ?_ fun c hc=>?_))
 ·have e0:(ad b o).add 0=ad b o:=rfl;simp [execOp,hx a ha,hy a ha,Instr.storeAt,Instr.sureAddr,storeVar,hs,hc,storeCells,e0,hst]
 ·simp [World.setCell]
 ·simp [World.setCell]
 ·simp [World.setCell]
 ·rw [hset];simp [hlt]
 ·rw [hset];simp [Y3s,Ne.symm hc]
theorem WL.range {d:Nat} {s:List UInt8} (hS:Sat B w I As) (hx:Ev n L x (S s)) (hT:P.underlying t=some .string) (hd:Nat.blt d n=true)
  (h:∀ b w',Sat B w' I (own b (.stringIter ⟨s.toArray⟩ 0)::As)->WL P n ops K rest ((d,ptr b 0)::L) w') :
  WL P n ops K (⟨some d,.range t x,ty,pos,af,none⟩::rest) L w:=by
 refine .val (v:=ptr w.heap.size 0) (w':=w.iter ⟨s.toArray⟩ 0) (fun a ha=>?_) hd (h _ _ (hS.alloc _));have hr:=run_range_string (P:=P) w t ⟨s.toArray⟩ hT;have hx':=hx a ha;simp [execOp,hx',hr]
theorem WL.next {d:Nat} {s:List UInt8} {i b:Nat} (hS:Sat B w I As) (hk:As[k]?=some (own b (.stringIter ⟨s.toArray⟩ i))) (hx:Ev n L x (ptr b 0)) (hd:Nat.blt d n=true)
  (h0:¬ i<s.length->WL P n ops K rest ((d,.tuple #[.bool false])::L) w)
  (h1:i<s.length->∀ w',Sat B w' I (As.set k (own b (.stringIter ⟨s.toArray⟩ (i+(Utf8.decode ⟨s.toArray⟩ i).2))))->WL P n ops K rest ((d,.tuple #[.bool true,I64 (i:Nat),.int .i32 (Utf8.decode ⟨s.toArray⟩ i).1])::L) w') :
  WL P n ops K (⟨some d,.next x true,ty,pos,af,none⟩::rest) L w:=by
 have hb:=hS.blockO hk;have hlt:b<w.heap.size:=(Y1a.1 hb).1;have hz:ByteArray.size ⟨s.toArray⟩=s.length:=rfl
 by_cases hi:i<s.length
 ·have hi':i<ByteArray.size ⟨s.toArray⟩:=hi;refine .val (v:=.tuple #[.bool true,I64 (i:Nat),.int .i32 (Utf8.decode ⟨s.toArray⟩ i).1]) (w':={ w with heap:=w.heap.setIfInBounds b (.stringIter ⟨s.toArray⟩ (i+(Utf8.decode ⟨s.toArray⟩ i).2)) }) (fun a ha=>?_) hd (h1 hi _ (hS.write hk rfl rfl rfl ?_ fun c hc=>?_))
  ·simp only [execOp,hx a ha]
   simp [Instr.next,getObj,setObj,Sem.run,hb,hi',goInt,Result.andThen]
   try rfl
  ·simp [hlt]
  ·simp [Y3s,Ne.symm hc]
 ·have hi':¬ i<ByteArray.size ⟨s.toArray⟩:=hi;refine .val (v:=.tuple #[.bool false]) (w':=w) (fun a ha=>?_) hd (h0 hi);simp only [execOp,hx a ha]
  simp [Instr.next,getObj,Sem.run,hb,hi']
theorem Xa9 (s:List UInt8) (i:Nat) (h:i<s.length) (ha:(at_ s i).toNat<128):Utf8.decode ⟨s.toArray⟩ i=((at_ s i).toNat,1):=by
 have h':i<ByteArray.size ⟨s.toArray⟩:=h;have e:(⟨s.toArray⟩:ByteArray)[i]'h'=at_ s i:=by
  rw [at_,Yf,Y8,Y4 h]; rfl
 rw [decode_ascii _ i h' (by rw [e]; exact ha),e]
theorem Xdb (s:List UInt8) (i:Nat):(ByteArray.get! ⟨s.toArray⟩ i)=at_ s i:=by
 show s.toArray[i]! = _
 simp [at_,Y8]
 try rfl
theorem Xf3 (s:List UInt8) (i:Nat) (h:i<s.length) (ha:128<=(at_ s i).toNat) :
  128<=(Utf8.decode ⟨s.toArray⟩ i).1/\(Utf8.decode ⟨s.toArray⟩ i).1<=1114111/\1<=(Utf8.decode ⟨s.toArray⟩ i).2/\i+(Utf8.decode ⟨s.toArray⟩ i).2<=s.length/\∀ j,i<=j->j<i+(Utf8.decode ⟨s.toArray⟩ i).2->128<=(at_ s j).toNat:=by
 have hz:ByteArray.size ⟨s.toArray⟩=s.length:=rfl;rw [Go.Lib.decode_at,hz,Xdb,Xdb,Xdb,Xdb];generalize hb0:(at_ s i).toNat=b0 at *;generalize hb1:(at_ s (i+1:Nat)).toNat=b1 at *;generalize hb2:(at_ s (i+2:Nat)).toNat=b2 at *;generalize hb3:(at_ s (i+3:Nat)).toNat=b3 at *;rcases Go.Lib.decodeN_shape (s.length - i) b0 b1 b2 b3 with ⟨c,e⟩ | ⟨c1,c2,c3,cv,e⟩ | ⟨c1,c2,c3,c4,cv,cs,e⟩ | ⟨c1,c2,c3,c4,c5,cv,cw,e⟩ | e
 ·omega
 all_goals rw [e]; dsimp only
 ·refine ⟨by omega,by omega,by omega,by omega,fun j h1 h2=>?_⟩;obtain rfl | rfl:j=i\/j=i+1:=by omega
  ·omega
  ·omega
 ·refine ⟨by omega,by omega,by omega,by omega,fun j h1 h2=>?_⟩;obtain rfl | rfl | rfl:j=i\/j=i+1\/j=i+2:=by omega
  all_goals omega
 ·refine ⟨by omega,by omega,by omega,by omega,fun j h1 h2=>?_⟩;obtain rfl | rfl | rfl | rfl:j=i\/j=i+1\/j=i+2\/j=i+3:=by omega
  all_goals omega
 ·refine ⟨by omega,by omega,by omega,by omega,fun j h1 h2=>?_⟩;obtain rfl:j=i:=by omega
  omega
theorem Xvv (x:ByteArray) (i:Nat) (h:i<x.size):x.data.toList.getD i 0=x[i]'h:=by
 rw [Y8,Y4 h];rfl
def Xbu (r:Int):List UInt8:=(Utf8.encode r).data.toList
theorem Ex.runeStr {d:Option Nat} {src dst:TypeId} {q:IntKind} {r:Int} (hx:Ev n L x (.int q r)) (hs:(P.underlying src).isSome=true) (hd:P.underlying dst=some .string) :
  Ex P n L w ⟨d,.convert src dst x,ty,pos,af,g⟩ (S (Xbu r)) w:=fun a ha=>by
 have h:=run_convert_int_string (P:=P) w src dst q r hs hd;have hx':=hx a ha;simp [execOp,hx',h,Xbu]
theorem Xo7 (r:Int) (hv:Utf8.valid r=true) (h128:128<=r):2<=(Xbu r).length/\(Xbu r).length<=4/\128<=(at_ (Xbu r) ((Xbu r).length - 1:Int)).toNat:=by
 obtain ⟨h1,h2,h3⟩:=encode_facts r hv h128;have hz:(Xbu r).length=(Utf8.encode r).size:=by unfold Xbu; generalize Utf8.encode r=x; rfl
 have hlt:(Utf8.encode r).size - 1<(Utf8.encode r).size:=by omega
 refine ⟨by omega,by omega,?_⟩;have e:at_ (Xbu r) ((Xbu r).length - 1:Int)=(Utf8.encode r)[(Utf8.encode r).size - 1]'hlt:=by
  rw [at_,show ((Xbu r).length - 1:Int).toNat=(Utf8.encode r).size - 1 by omega];exact Xvv _ _ hlt
 rw [e];exact h3 hlt
theorem Xtv (r:Int) (h:Go.Lib.validRune r=true):Utf8.valid r=true:=by
 simp only [Go.Lib.validRune,decide_eq_true_eq] at h
 simp only [Utf8.valid,Y1j,Yn,decide_eq_true_eq]
 omega
theorem Ex.ldsW {d:Option Nat} {b s:Nat} {cs:List Value} {E:TypeId} (hx:Ev n L x (ptr b 0)) (hS:Sat B w I As) (hk:As[k]?=some (blk b cs E)) (ht:∀ w,(isAgg t).run P w=.ok true w) (hs:∀ w,(Go.sizeOf t).run P w=.ok s w)
  (hl:cs.length=s):Ex P n L w ⟨d,.load t x,ty,pos,af,g⟩ (.agg cs.toArray) w:=Ex.lds hx hS hk ht hs hl (fun j v h=>by rw [Yc]; exact h)
theorem X4p (p:Addr) (m c s:Nat):sliced (some p) 0 m c s=.slice (some p) m c:=by
 simp only [sliced,Y32,Y5b,Y3y]
 congr 1
 split <;> rfl
theorem WL.append0p {E m c b gb:Nat} {d:Nat} {news rest':List Value} {i:TypeInfo} {z:Value} {bytes:Nat} (hS:Sat B w I (blk b [] E::As)) (hx:Ev n L x (.slice (some (ad b 0)) 0 0)) (hy:Ev n L y (.slice (some (ad gb 0)) m c))
  (hk:As[k]?=some (blk gb (news ++ rest') E)) (hm:m<=news.length) (ht:P.underlying t=some (.slice E)) (hi:P.info? E=some i) (hz:i.zero=some z) (hsize:i.size=1) (hby:i.bytes=bytes) (hzs:z.cells.size=1)
  (h1:∀ u∈news,u.oneCell'=true) (h63:m*bytes<=140737488355328/\m<=maxLen) (hd:Nat.blt d n=true)
  (h:∀ v' w',Sat B w' I (Vec E 1 v' m (news.take m)::As)->WL P n ops K rest ((d,v')::L) w') :
  WL P n ops K (⟨some d,.call ⟨.builtin .append,#[x,y],#[t,t]⟩,ty,pos,af,none⟩::rest) L w:=by
 have hgb:w.heap[gb]?=some (Xl (news ++ rest') E):=hS.block (k:=k+1) (show As[k]?=some (blk gb (news ++ rest') E) from hk);have hnews:∀ j u,(news.take m)[j]?=some u->w.cell? ((ad gb 0).add j)=some u:=fun j u hu=>by
  rw [X15,Yc];refine X1b hgb ?_;rw [Y1r] at hu;split at hu
  ·rw [Yi (Y5.1 hu).1]; exact hu
  ·cases hu
 have hlt:(news.take m).length=m:=by rw [Yr]; omega
 have h1':∀ u∈news.take m,u.oneCell'=true:=fun u hu=>h1 u (Y4t hu)
 rcases Y1v m with h0 | hp
 ·subst h0;have hb:=hS.block (k:=0) rfl;have hr:=run_append_room (P:=P) w t ty E i ht hi b 0 0 #[] hb (ad gb 0) 0 c [] (by simp) (fun j u hu=>by simp at hu) (fun u hu=>by simp at hu) (Yq _) (by rw [Y32]; exact Yq _);have hlt:b<w.heap.size:=(Y1a.1 hb).1;have hw:=hS.write (k:=0) (w':=w.setRow b #[]) (o':=Xl [] E) rfl rfl rfl rfl (setRow_heap w b _ _ E _ hb) (fun q hq=>setRow_other w b q _ hq);have hv:=Sat.vecOf (k:=0) (n:=0) (size:=1) (E:=E) (g:=b) (cs:=[]) hw rfl rfl (Yo _);refine .val (v:=.slice (some (ad b 0)) 0 0) (w':=w.setRow b #[]) (fun a ha=>?_) hd (h _ _ (by simpa using hv));have hx':=hx a ha;have hy':=hy a ha;simp at hr
  simp [execOp,resolve,invoke,builtin,hx',hy',hr]
 ·have hv:=Sat.vecOf (k:=0) (n:=0) (size:=1) (E:=E) (g:=b) (cs:=[]) hS rfl rfl (Yo _);obtain ⟨v',w',hr,hS'⟩:=X2r (P:=P) (ty:=ty) (k:=0) hv ht hi hz hsize hby hzs rfl (p:=ad gb 0) (m:=m) (c:=c) (news:=news.take m) (by rw [hlt,Y1n]) hp hnews h1' (by rw [Yc]; exact h63.2) (by rw [Yc]; exact h63.1)
  refine .val (v:=v') (w':=w') (fun a ha=>?_) hd (h _ _ (by simpa using hS'));have hx':=hx a ha;have hy':=hy a ha;simp [execOp,resolve,invoke,builtin,hx',hy',hr]
section rets
variable {fn:Func} {R:Ending->World->Prop}
theorem X1k {t u b s:Nat} {ty E:TypeId} {cs:List Value} {x:Value} (h:fn.results=#[.cell t ty,.tmp u]) (hS:Sat B w I As) (hk:As[k]?=some (blk b cs E)) (ht:∀ w,(isAgg ty).run P w=.ok true w) (hs:∀ w,(Go.sizeOf ty).run P w=.ok s w) (hl:cs.length=s)
  (hv:look L t=some (ptr b 0)) (hx:look L u=some x) (hR:R (.returned (.tuple #[.agg cs.toArray,x])) w) (hd:dl L=[]:=by rfl):X77 P n fn R .ret L w:=⟨hd,fun a ha=>by
 have hb:=hS.block hk;have hld:=run_loadCells_list (P:=P) w (ad b 0) cs (fun j v hj=>by rw [X15]; exact X1b hb (by simpa using hj));rw [hl] at hld;have h1:=ha.get t _ hv;have h2:=ha.get u x hx;simp only [Y16] at h1 h2
 exact ⟨_,by simp [results,h,h1,h2,loadVar,ht,hs]; simp [asAddr,hld],hR⟩⟩
theorem ret1c {t b s:Nat} {ty E:TypeId} {cs:List Value} (h:fn.results=#[.cell t ty]) (hS:Sat B w I As) (hk:As[k]?=some (blk b cs E)) (ht:∀ w,(isAgg ty).run P w=.ok true w) (hs:∀ w,(Go.sizeOf ty).run P w=.ok s w) (hl:cs.length=s)
  (hv:look L t=some (ptr b 0)) (hR:R (.returned (.agg cs.toArray)) w) (hd:dl L=[]:=by rfl):X77 P n fn R .ret L w:=⟨hd,fun a ha=>by
 have hb:=hS.block hk;have hld:=run_loadCells_list (P:=P) w (ad b 0) cs (fun j v hj=>by rw [X15]; exact X1b hb (by simpa using hj));rw [hl] at hld;have h1:=ha.get t _ hv;simp only [Y16] at h1
 exact ⟨_,by simp [results,h,h1,loadVar,ht,hs]; simp [asAddr,hld],hR⟩⟩
theorem Xg3 {t u r b s:Nat} {ty E:TypeId} {cs:List Value} {x y:Value} (h:fn.results=#[.cell t ty,.tmp u,.tmp r]) (hS:Sat B w I As) (hk:As[k]?=some (blk b cs E)) (ht:∀ w,(isAgg ty).run P w=.ok true w) (hs:∀ w,(Go.sizeOf ty).run P w=.ok s w) (hl:cs.length=s)
  (hv:look L t=some (ptr b 0)) (hx:look L u=some x) (hy:look L r=some y) (hR:R (.returned (.tuple #[.agg cs.toArray,x,y])) w) (hd:dl L=[]:=by rfl):X77 P n fn R .ret L w:=⟨hd,fun a ha=>by
 have hb:=hS.block hk;have hld:=run_loadCells_list (P:=P) w (ad b 0) cs (fun j v hj=>by rw [X15]; exact X1b hb (by simpa using hj));rw [hl] at hld;have h1:=ha.get t _ hv;have h2:=ha.get u x hx;have h3:=ha.get r y hy;simp only [Y16] at h1 h2 h3
 exact ⟨_,by simp [results,h,h1,h2,h3,loadVar,ht,hs]; simp [asAddr,hld],hR⟩⟩
end rets
end
end Gk
namespace Pc
def plain (c:UInt8):Bool:=(97<=c && c<=122) || (65<=c && c<=90) || (48<=c && c<=57) || c == 45 || c == 46 || c == 95 || c == 126
def X3l (c:UInt8):Int:=if 48<=c && c<=57 then c.toNat - 48 else if 97<=c && c<=102 then c.toNat - 87 else if 65<=c && c<=70 then c.toNat - 55 else -1
def hexd (n:Nat):UInt8:=if n<10 then UInt8.ofNat (48+n) else UInt8.ofNat (55+n)
def Xjn (c:UInt8):List UInt8:=[37,hexd (c.toNat / 16),hexd (c.toNat % 16)]
def one (c:UInt8):List UInt8:=if plain c then [c] else Xjn c
def byteOf (a b:UInt8):UInt8:=UInt8.ofNat (16*X3l a+X3l b).toNat
def told:List UInt8->Option UInt8
 | a::b::_=>if X3l a<0\/X3l b<0 then none else some (byteOf a b)
 | _=>none
def Xhm:Nat->List UInt8->Option (List UInt8)
 | 0,_=>some []
 | _+1,[]=>some []
 | f+1,c::r=>if c=37 then match told r with
   | none=>none
   | some v=>(Xhm f (r.drop 2)).map (one v ++ ·)
  else (Xhm f r).map (c::·)
def X4c (s:List UInt8):Option (List UInt8):=Xhm (s.length+1) s
theorem X3o {r:List UInt8} {v:UInt8} (h:told r=some v):2<=r.length:=by
 match r,h with
 | a::b::_,_=>simp
 | [_],h=>simp [told] at h
 | [],h=>simp [told] at h
theorem X8h:∀ (f g:Nat) (s:List UInt8),s.length<f->s.length<g->Xhm f s=Xhm g s
 | 0,_,_,h,_=>by omega
 | _+1,0,_,_,h=>by omega
 | f+1,g+1,[],_,_=>rfl
 | f+1,g+1,c::r,hf,hg=>by
  simp only [Xhm]
  split
  ·cases ht:told r with
   | none=>rfl
   | some v =>
    simp only
    have:=X3o ht
    simp only [List.length_cons] at hf hg
    rw [X8h f g (r.drop 2) (by rw [Yg]; omega) (by rw [Yg]; omega)]
  ·simp only [List.length_cons] at hf hg
   rw [X8h f g r (by omega) (by omega)]
theorem X5w:X4c []=some []:=rfl
theorem X1r (c:UInt8) (r:List UInt8):X4c (c::r)=if c=37 then match told r with
   | none=>none
   | some v=>(X4c (r.drop 2)).map (one v ++ ·)
  else (X4c r).map (c::·):=by
 unfold X4c;simp only [List.length_cons,Xhm]
 split
 ·cases ht:told r with
  | none=>rfl
  | some v =>
   simp only
   have:=X3o ht
   rw [X8h (r.length+1) ((r.drop 2).length+1) (r.drop 2) (by rw [Yg]; omega) (by omega)]
 ·rfl
theorem X25 (c:UInt8):X3l c=-1\/(0<=X3l c/\X3l c<=15):=by
 unfold X3l;have h:=c.toNat_lt;simp only [Yn,decide_eq_true_eq,Y1o]
 have e1:(48:UInt8).toNat=48:=rfl;have e2:(57:UInt8).toNat=57:=rfl;have e3:(97:UInt8).toNat=97:=rfl;have e4:(102:UInt8).toNat=102:=rfl;have e5:(65:UInt8).toNat=65:=rfl;have e6:(70:UInt8).toNat=70:=rfl;rw [e1,e2,e3,e4,e5,e6];split
 ·right; omega
 ·split
  ·right; omega
  ·split
   ·right; omega
   ·left; rfl
theorem Xdj:∀ (s t:List UInt8),X4c s=some t->t.length<=s.length:=by
 intro s
 induction hn:s.length using Nat.strongRecOn generalizing s with
 | _ n ih =>
  intro t h;cases s with
  | nil=>rw [X5w] at h; injection h with h; subst h; simp
  | cons c r =>
   rw [X1r] at h;simp only [List.length_cons] at hn
   split at h
   ·cases ht:told r with
    | none=>rw [ht] at h; cases h
    | some v =>
     rw [ht] at h;simp only at h
     have hl:=X3o ht;cases hr:X4c (r.drop 2) with
     | none=>rw [hr] at h; cases h
     | some u =>
      rw [hr] at h;simp at h
      subst h
      have:=ih (r.drop 2).length (by rw [Yg]; omega) (r.drop 2) rfl u hr
      rw [Yg] at this;rw [Y0]
      have:(one v).length<=3:=by unfold one; split <;> simp [Xjn]
      omega
   ·cases hr:X4c r with
    | none=>rw [hr] at h; cases h
    | some u =>
     rw [hr] at h;simp at h
     subst h
     have:=ih r.length (by omega) r rfl u hr
     simp only [List.length_cons]
     omega
theorem Xfp:∀ c:UInt8,plain c=([97,98,99,100,101,102,103,104,105,106,107,108,109,110,111,112,113,114,115,116,117,118,119,120,121,122,65,66,67,68,69,70,71,72,73,74,75,76,77,78,79,80,81,82,83,84,85,86,87,88,89,90,48,49,50,51,52,53,54,55,56,57,45,46,95,126]:List UInt8).contains c:=by
 intro c
 have:∀ n:Fin 256,plain (UInt8.ofNat n.val)=([97,98,99,100,101,102,103,104,105,106,107,108,109,110,111,112,113,114,115,116,117,118,119,120,121,122,65,66,67,68,69,70,71,72,73,74,75,76,77,78,79,80,81,82,83,84,85,86,87,88,89,90,48,49,50,51,52,53,54,55,56,57,45,46,95,126]:List UInt8).contains (UInt8.ofNat n.val):=by decide +kernel
 have h:=this ⟨c.toNat,c.toNat_lt⟩;simpa using h
theorem Xh {p:UInt8->Bool} (h:(List.range 256).all (fun n=>p (UInt8.ofNat n))=true) (c:UInt8):p c=true:=by
 have:=Y1c.1 h c.toNat (Y48.2 c.toNat_lt)
 simpa using this
def LOW:List UInt8:=[48,49,50,51,52,53,54,55,56,57,97,98,99,100,101,102]
def HIGH:List UInt8:=[48,49,50,51,52,53,54,55,56,57,65,66,67,68,69,70]
def PLAINS:List UInt8:=[97,98,99,100,101,102,103,104,105,106,107,108,109,110,111,112,113,114,115,116,117,118,119,120,121,122,65,66,67,68,69,70,71,72,73,74,75,76,77,78,79,80,81,82,83,84,85,86,87,88,89,90,48,49,50,51,52,53,54,55,56,57,45,46,95,126]
theorem Xwf {c:UInt8} {i:Nat} (h:i<16) (hc:LOW.getD i 0=c\/HIGH.getD i 0=c):X3l c=(i:Int):=by
 have:=Xh (p:=fun c=>(List.range 16).all fun i=>!(LOW.getD i 0 == c || HIGH.getD i 0 == c) || X3l c == (i:Int)) (by decide +kernel) c
 have:=Y1c.1 this i (Y48.2 h)
 simp only [Y1j,Y3h,Y10,beq_eq_false_iff_ne,beq_iff_eq] at this
 rcases this with ⟨h1,h2⟩ | h1
 ·rcases hc with hc | hc
  ·exact absurd hc h1
  ·exact absurd hc h2
 ·exact h1
theorem Xsi {c:UInt8} (h:∀ i,i<16->LOW.getD i 0≠c/\HIGH.getD i 0≠c):X3l c=-1:=by
 have:=Xh (p:=fun c=>(List.range 16).any (fun i=>LOW.getD i 0 == c || HIGH.getD i 0 == c) || X3l c == -1) (by decide +kernel) c
 simp only [Y1j,beq_iff_eq] at this
 rcases this with h1 | h1
 ·obtain ⟨i,hi,h2⟩:=Y35.1 h1;simp only [Y1j,beq_iff_eq] at h2
  have:=h i (Y48.1 hi)
  rcases h2 with h2 | h2
  ·exact absurd h2 this.1
  ·exact absurd h2 this.2
 ·exact h1
theorem pct_of (c:UInt8):([37] ++ (HIGH.drop (c.toNat / 16)).take 1) ++ (HIGH.drop (c.toNat % 16)).take 1=Xjn c:=by
 have:=Xh (p:=fun c=>([37] ++ (HIGH.drop (c.toNat / 16)).take 1) ++ (HIGH.drop (c.toNat % 16)).take 1 == Xjn c) (by decide +kernel) c
 simpa using this
theorem X8w (a b:UInt8) (ha:0<=X3l a) (hb:0<=X3l b):((byteOf a b).toNat:Int)=16*X3l a+X3l b:=by
 have h1:=X25 a;have h2:=X25 b;unfold byteOf
 rw [Y5c];omega
end Pc
