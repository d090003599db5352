/- Part 1 of what the proof stands on: GkA, GkB, GkV, GkC, GkD, GkE, GkF, GkG, GkH, GkS, Flt, Flu, GkR, GkT, GkU, Pct, Url, Urn. -/
import Derived.WalkKit
import Derived.Lib.Strings
import Derived.Deep.Quiet
import Derived.StillTail
import Derived.OrdersHeld
import Derived.Scope
import Derived.Lib.Builder
import Derived.Lib.Bytealg
import Derived.Lib.UnsafeStr
import Derived.Laws.IdiomStrings
import Ieee.Arith
import Derived.Laws.FloatArith
import Derived.Lib.AppendStr
import Derived.Below
import Derived.Laws.RangeAny
import Derived.Lib.MapLaws
import Derived.Lib.IndexAny
import Derived.Lib.IndexLaws
import Derived.Lib.CountLaws
import Derived.Lib.Split
import Derived.Lib.ItoaNum
import Derived.Lib.IndexBytes
set_option linter.unusedVariables false
set_option linter.unusedSimpArgs false
namespace Gk
theorem cs0 : (∀ (p : Prop) [Decidable p], (decide p = true) = p) ∧ (∀ (p : Prop) [Decidable p], (decide p = false) ↔ ¬ p) ∧ (∀ {α : Type} [BEq α] [LawfulBEq α] {a b : α}, (a == b) = true ↔ a = b) ∧ (∀ {α : Type} [BEq α] [LawfulBEq α] {a b : α}, (a == b) = false ↔ a ≠ b) ∧ (∀ {α : Type} [BEq α] [LawfulBEq α] {a b : α}, (a != b) = true ↔ a ≠ b) ∧ (∀ (b : Bool), ((!b) = true) = (b = false)) ∧ (∀ (b : Bool), ((!b) = false) = (b = true)) ∧ (∀ (a b : Bool), ((a || b) = true) = (a = true ∨ b = true)) ∧ (∀ (a b : Bool), ((a && b) = true) = (a = true ∧ b = true)) ∧ (∀ (a b : Bool), ((a || b) = false) = (a = false ∧ b = false)) ∧ (∀ (a b : Bool), ((a && b) = false) = (a = false ∨ b = false)) ∧ (∀ {α : Type} (a b : α), (a ≠ b) = ¬ (a = b)) ∧ (∀ {a b : Int}, ¬ a < b ↔ b ≤ a) ∧ (∀ {a b : Int}, ¬ a ≤ b ↔ b < a) ∧ (∀ {α : Type} [BEq α] [LawfulBEq α] {a b : α}, (a != b) = false ↔ a = b) ∧ (∀ (b : Bool), (¬ (b = true)) = (b = false)) ∧ (∀ (b : Bool), (¬ (b = false)) = (b = true)) :=
 ⟨fun p _ => decide_eq_true_eq, fun p _ => decide_eq_false_iff_not, beq_iff_eq, beq_eq_false_iff_ne, bne_iff_ne, (by intro b; cases b <;> decide), (by intro b; cases b <;> decide), (by intro a b; cases a <;> cases b <;> decide), (by intro a b; cases a <;> cases b <;> decide), (by intro a b; cases a <;> cases b <;> decide), (by intro a b; cases a <;> cases b <;> decide), fun _ _ => ne_eq _ _, Int.not_lt, Int.not_le, bne_eq_false_iff_eq, (by intro b; cases b <;> decide), (by intro b; cases b <;> decide)⟩
end Gk
abbrev Y0:=@List.length_append
abbrev Y4:=@List.getElem?_eq_getElem
abbrev Y5:=@List.getElem?_eq_some_iff
abbrev Y6:=@Gk.cs0
abbrev Y7:=@List.drop_succ_cons
abbrev Y8:=@List.length_cons
abbrev Y9:=@List.append_nil
abbrev Yc:=@List.getD_eq_getElem?_getD
abbrev Yd:=@Nat.zero_add
abbrev Ye:=@List.nil_append
abbrev Yf:=@List.append_assoc
abbrev Yg:=@List.drop_zero
abbrev Yh:=@List.take_zero
abbrev Yi:=@List.mem_of_getElem?
abbrev Yj:=@List.length_nil
abbrev Yk:=@List.getElem?_append_left
abbrev Yl:=@List.eq_nil_of_length_eq_zero
abbrev Ym:=@Int.toNat_natCast
abbrev Yn:=@List.drop_nil
abbrev Yo:=@Nat.zero_le
abbrev Yp:=@List.length_drop
abbrev Yq:=@Bool.and_eq_true
abbrev Yr:=@Nat.lt_or_ge
abbrev Ys:=@List.cons_append
abbrev Yt:=@List.length_take
abbrev Yu:=@Nat.le_refl
abbrev Yv:=@List.map_append
abbrev Yw:=@List.getElem?_append_right
abbrev Yx:=@List.mem_iff_getElem?
abbrev Yy:=@List.getElem?_map
abbrev Yz:=@List.take_of_length_le
abbrev Y10:=@List.length_map
abbrev Y11:=@List.take_append_drop
abbrev Y12:=@List.take_add_one
abbrev Y13:=@List.take_length
abbrev Y14:=@Array.getD_eq_getD_getElem?
abbrev Y15:=@Bool.or_eq_false_iff
abbrev Y16:=@List.mem_append
abbrev Y17:=@List.drop_of_length_le
abbrev Y18:=@List.mem_cons
abbrev Y19:=@UInt8.toNat_inj
abbrev Y1a:=@Array.getElem?_eq_getElem
abbrev Y1b:=@List.all_eq_true
abbrev Y1c:=@Array.getElem?_eq_some_iff
abbrev Y1d:=@List.map_cons
abbrev Y1e:=@List.getElem?_drop
abbrev Y1f:=@List.drop_eq_getElem_cons
abbrev Y1g:=@Bool.not_eq_true
abbrev Y1h:=@List.length_singleton
abbrev Y1i:=@Nat.mul_one
abbrev Y1j:=@Bool.or_eq_true
abbrev Y1k:=@Option.toList_some
abbrev Y1l:=@List.perm_append_comm
abbrev Y1m:=@List.drop_drop
abbrev Y1n:=@Option.map_eq_some_iff
abbrev Y1o:=@List.flatMap_append
abbrev Y1p:=@List.getElem?_modify
abbrev Y1q:=@UInt8.le_iff_toNat_le
abbrev Y1r:=@Nat.eq_zero_or_pos
abbrev Y1s:=@List.mem_append_left
abbrev Y1t:=@List.pairwise_append
abbrev Y1u:=@List.getElem?_eq_none
abbrev Y1v:=@List.flatten_cons
abbrev Y1w:=@List.any_eq_true
abbrev Y1x:=@List.take_succ_cons
abbrev Y1y:=@List.getElem?_take
abbrev Y1z:=@List.length_replicate
abbrev Y20:=@List.mem_append_right
abbrev Y21:=@Nat.le_trans
abbrev Y22:=@Nat.le_of_ble_eq_true
abbrev Y23:=@Bool.or_eq_true_iff
abbrev Y24:=@List.take_append_of_le_length
abbrev Y25:=@List.drop_append_of_le_length
abbrev Y26:=@List.ext_getElem?
abbrev Y27:=@List.getElem?_set
abbrev Y28:=@List.mem_map
abbrev Y29:=@List.length_pos_iff
abbrev Y2a:=@List.length_set
abbrev Y2b:=@Option.bind_eq_some_iff
abbrev Y2c:=@Nat.add_zero
abbrev Y2d:=@List.set_append_right
abbrev Y2e:=@List.all_eq_false
abbrev Y2f:=@List.contains_iff_mem
abbrev Y2g:=@Nat.pow_succ
abbrev Y2h:=@List.flatMap_cons
abbrev Y2i:=@List.any_eq_false
abbrev Y2j:=@Nat.add_sub_cancel_left
abbrev Y2k:=@List.mem_cons_of_mem
abbrev Y2l:=@List.getElem?_append
abbrev Y2m:=@Bool.and_eq_false_iff
abbrev Y2n:=@List.filter_append
abbrev Y2o:=@Option.getD_some
abbrev Y2p:=@List.filter_cons
abbrev Y2q:=@List.map_nil
abbrev Y2r:=@List.flatten_append
abbrev Y2s:=@Option.bind_some
abbrev Y2t:=@List.getElem_mem
abbrev Y2u:=@Bool.true_and
abbrev Y2v:=@Nat.lt_of_lt_of_le
abbrev Y2w:=@List.pairwise_cons
abbrev Y2x:=@List.mem_cons_self
abbrev Y2y:=@List.map_replicate
abbrev Y2z:=@List.length_filter_le
abbrev Y30:=@List.take_left
abbrev Y31:=@List.pairwise_iff_getElem
abbrev Y32:=@List.nodup_cons
abbrev Y33:=@Bool.not_eq_true'
abbrev Y34:=@List.foldl_append
abbrev Y35:=@Bool.eq_iff_iff
abbrev Y36:=@Nat.succ_mul
abbrev Y37:=@Array.length_toList
abbrev Y38:=@Bool.false_or
abbrev Y39:=@List.getElem_of_mem
abbrev Y3a:=@List.drop_length
abbrev Y3b:=@List.getElem_map
abbrev Y3c:=@Nat.mod_lt
abbrev Y3d:=@Nat.div_div_eq_div_mul
abbrev Y3e:=@Array.getElem?_setIfInBounds
abbrev Y3f:=@List.set_cons_succ
abbrev Y3g:=@Option.map_some
abbrev Y3h:=@Nat.min_eq_left
abbrev Y3i:=@List.filter_nil
abbrev Y3j:=@Nat.add_assoc
abbrev Y3k:=@List.eraseIdx_set_eq
abbrev Y3l:=@Nat.pow_le_pow_right
abbrev Y3m:=@List.mem_range
abbrev Y3n:=@Bool.and_false
abbrev Y3o:=@List.getLastD_eq_getLast?
abbrev Y3p:=@List.getLast?_eq_getElem?
abbrev Y3q:=@Int.toNat_zero
abbrev Y3r:=@List.mem_flatMap
abbrev Y3s:=@List.dropWhile_cons
abbrev Y3t:=@Nat.zero_mul
abbrev Y3u:=@Nat.lt_of_le_of_lt
abbrev Y3v:=@List.find?_cons
abbrev Y3w:=@List.mem_filter
abbrev Y3x:=@List.take_succ_eq_append_getElem
abbrev Y3y:=@Array.getElem?_eq_none
abbrev Y3z:=@List.size_toArray
abbrev Y40:=@List.takeWhile_append_dropWhile
abbrev Y41:=@Bool.not_false
abbrev Y42:=@List.drop_left
abbrev Y43:=@List.set_getElem_self
abbrev Y44:=@Nat.sub_self
abbrev Y45:=@List.countP_le_length
abbrev Y46:=@Nat.mul_le_mul_right
abbrev Y47:=@List.set_append_left
abbrev Y48:=@List.mem_of_mem_take
abbrev Y49:=@List.mem_iff_getElem
abbrev Y4a:=@List.dropLast_concat_getLast
abbrev Y4b:=@Array.getElem_setIfInBounds
abbrev Y4c:=@List.takeWhile_cons
abbrev Y4d:=@Int.toNat_of_nonneg
abbrev Y4e:=@Nat.two_pow_add_eq_or_of_lt
abbrev Y4f:=@List.getElem?_range
abbrev Y4g:=@Nat.testBit_two_pow
abbrev Y4h:=@Int.le_refl
abbrev Y4i:=@List.take_length_add_append
abbrev Y4j:=@List.filter_sublist
abbrev Y4k:=@Int.fdiv_eq_ediv_of_nonneg
abbrev Y4l:=@List.isPrefixOf_iff_prefix
abbrev Y4m:=@Nat.sub_zero
abbrev Y4n:=@Array.empty_append
abbrev Y4o:=@Nat.add_comm
abbrev Y4p:=@UInt8.toNat_ofNat'
abbrev Y4q:=@List.set_cons_zero
abbrev Y4r:=@List.find?_eq_none
abbrev Y4s:=@List.nodup_append
abbrev Y4t:=@Bool.eq_false_iff
abbrev Y4u:=@Array.setIfInBounds_comm
abbrev Y4v:=@Nat.lt_trichotomy
abbrev Y4w:=@List.length_erase_of_mem
abbrev Y4x:=@List.sum_cons
abbrev Y4y:=@List.any_cons
abbrev Y4z:=@Bool.and_true
abbrev Y50:=@List.getElem?_replicate
abbrev Y51:=@List.drop_append
abbrev Y52:=@List.perm_middle
abbrev Y53:=@List.append_eq_nil_iff
abbrev Y54:=@List.length_pos_of_mem
abbrev Y55:=@Nat.div_le_self
abbrev Y56:=@List.take_take
abbrev Y57:=@Option.map_map
abbrev Y58:=@Bool.false_and
namespace Gk
open Go
abbrev Env:=List (Nat×Value)
abbrev S (l:List UInt8):Value:=.string ⟨l.toArray⟩
abbrev I64 (n:Int):Value:=.int .i64 n
abbrev U8 (n:Int):Value:=.int .u8 n
theorem Xtq {a b:Nat} (h:¬ a=b):Nat.beq a b=false:=by
 cases hb:Nat.beq a b
 ·rfl
 ·exact absurd (Nat.eq_of_beq_eq_true hb) h
def look0:Env→Nat→Option Value
 | [],_=>none
 | (k,v)::L,t=>bif Nat.beq k t then some v else look0 L t
abbrev DK:Nat:=1099511627776
def look (L:Env) (t:Nat):Option Value:=bif Nat.beq t DK then none else look0 L t
def dl (L:Env):List Deferred:=match look0 L DK with
 | some (.func f _ cap)=>[{ target:=.fn f cap,args:=#[] }]
 | _=>[]
theorem Xa6 {L:Env} {t:Nat} {v:Value} (h:look L t=some v):t≠DK∧look0 L t=some v:=by
 unfold look at h;cases hb:Nat.beq t DK with
 | true=>rw [hb] at h; cases h
 | false=>rw [hb] at h; exact ⟨fun e=>by subst e; simp at hb,h⟩
theorem Xmn {L:Env} {t:Nat} {v:Value} (ht:t≠DK) (h:look0 L t=some v):look L t=some v:=by
 unfold look;rw [Xtq ht];exact h
structure Holds (n:Nat) (L:Env) (a:Act):Prop where
 size:a.tmps.size=n
 small:n≤DK
 defers:a.defers=dl L
 get:∀ t v,look L t=some v→a.tmps.getD t undef=v
def ev (L:Env):Operand→Option Value
 | .tmp t=>look L t
 | .const v=>some v
 | .global g=>some (.pointer (some ⟨g,0,none⟩))
 | .func f=>some (.func (.func f) #[] #[])
theorem Xgg {n:Nat} {L:Env} {a:Act} (h:Holds n L a) {x:Operand} {v:Value} (hx:ev L x=some v):a.eval x=v:=by
 cases x with
 | tmp t=>exact h.get t v hx
 | const u=>simpa [ev,Act.eval] using hx
 | global g=>simpa [ev,Act.eval] using hx
 | func f=>simpa [ev,Act.eval] using hx
theorem Holds.put {n:Nat} {L:Env} {a:Act} (h:Holds n L a) {d:Nat} (hd:Nat.blt d n=true) (v:Value):Holds n ((d,v)::L) (a.put (some d) v):=by
 have hd':d<n:=by have:=Y22 hd; omega
 have hk:¬ d=DK:=fun e=>by have:=h.small; omega
 refine ⟨by simp [Act.put,h.size],h.small,?_,fun t u hu=>?_⟩
 ·have:dl ((d,v)::L)=dl L:=by unfold dl; rw [look0,Xtq hk]; rfl
  rw [this]; exact h.defers
 obtain ⟨h1,hu⟩:=Xa6 hu;unfold look0 at hu
 by_cases e:d=t
 ·subst e;simp at hu
  subst hu;simp [Act.put,h.size,hd',Y14]
 ·have hb:=Xtq e;rw [hb] at hu
  have:=h.get t u (Xmn h1 hu)
  simpa [Act.put,Y14,Y3e,e] using this
theorem Holds.skip {n:Nat} {L:Env} {a:Act} (h:Holds n L a) (v:Value):Holds n L (a.put none v):=h
def Sub:Env→Env→Prop
 | [],M=>match look0 M DK with
  | none=>True
  | some _=>False
 | (t,v)::L,M=>look M t=some v∧Sub L M
theorem Sub.look0:∀ {L M:Env},Sub L M→∀ {t v},look0 L t=some v→look M t=some v
 | [],_,_,_,_,h=>by cases h
 | (k,u)::L,M,hs,t,v,h=>by
  unfold Gk.look0 at h
  by_cases e:k=t
  ·subst e;simp at h
   subst h;exact hs.1
  ·have hb:=Xtq e;rw [hb] at h;exact hs.2.look0 h
theorem Sub.none:∀ {L M:Env},Sub L M→Gk.look0 M DK=.none
 | [],M,h=>by
  unfold Sub at h;cases e:Gk.look0 M DK with
  | none=>rfl
  | some v=>rw [e] at h; exact h.elim
 | (k,u)::L,M,h=>h.2.none
theorem Sub.look {L M:Env} (hs:Sub L M) {t v} (h:look L t=some v):look M t=some v:=hs.look0 (Xa6 h).2
theorem Sub.dl {L M:Env} (hs:Sub L M):dl M=dl L:=by
 unfold Gk.dl;rw [hs.none];cases e:Gk.look0 L DK with
 | none=>rfl
 | some v=>have:=(Xa6 (hs.look0 e)).1; exact absurd rfl this
theorem Holds.sub {n:Nat} {L M:Env} {a:Act} (h:Holds n M a) (hs:Sub L M):Holds n L a:=⟨h.size,h.small,h.defers.trans hs.dl,fun t v hv=>h.get t v (hs.look hv)⟩
abbrev X36:=Exit→Env→World→Prop
def Xod (n:Nat) (K:X36):Exit→Act→World→Prop:=fun e a w=>∃ L,Holds n L a∧K e L w
def WL (P:Program) (n:Nat) (ops:Array Oper) (K:X36) (l:List Oper) (L:Env) (w:World):Prop:=∀ a,Holds n L a→wpList P ops (Xod n K) l a w
def WC (P:Program) (n:Nat) (c:Code) (K:X36) (L:Env) (w:World):Prop:=∀ a,Holds n L a→c.wp P (Xod n K) a w
def Xb1 (next:Env→World→Prop) (K:X36):X36
 | .normal,L,w=>next L w
 | e,L,w=>K e L w
def inBlk (id:Nat) (K:X36):X36
 | .exit i,L,w=>bif Nat.beq i id then K .normal L w else K (.exit i) L w
 | e,L,w=>K e L w
section
variable {P:Program} {n:Nat} {K:X36} {L:Env} {w:World}
theorem WC.mono {c:Code} {K':X36} (h:WC P n c K L w) (hk:∀ e L w,K e L w→K' e L w):WC P n c K' L w:=fun a ha=>wp_mono (h a ha) fun _ _ _ ⟨L',h1,h2⟩=>⟨L',h1,hk _ _ _ h2⟩
theorem WC.sub {c:Code} {M:Env} (h:WC P n c K M w) (hs:Sub M L):WC P n c K L w:=fun a ha=>h a (ha.sub hs)
theorem WL.sub {ops:Array Oper} {l:List Oper} {M:Env} (h:WL P n ops K l M w) (hs:Sub M L):WL P n ops K l L w:=fun a ha=>h a (ha.sub hs)
theorem WC.seq {x y:Code} (h:WC P n x (Xb1 (fun L w=>WC P n y K L w) K) L w):WC P n (.seq x y) K L w:=by
 intro a ha;refine wp_seq (wp_mono (h a ha) ?_);rintro e a' w' ⟨L',h1,h2⟩;cases e with
 | normal=>exact h2 a' h1
 | _=>exact ⟨L',h1,h2⟩
theorem WC.cut {x y:Code} (J:Env→World→Prop) (h:WC P n x (Xb1 J K) L w) (h2:∀ L w,J L w→WC P n y K L w):WC P n (.seq x y) K L w :=
 WC.seq (h.mono fun e L w he=>by cases e <;> first | exact h2 _ _ he | exact he)
theorem WC.skip (h:K .normal L w):WC P n .skip K L w:=fun _ ha=>wp_skip ⟨L,ha,h⟩
theorem WC.label {l:Nat} (h:K .normal L w):WC P n (.label l) K L w:=fun _ ha=>wp_label ⟨L,ha,h⟩
theorem WC.exit {id:Nat} (h:K (.exit id) L w):WC P n (.exit id) K L w:=fun _ ha=>wp_exit ⟨L,ha,h⟩
theorem WC.ret (h:K .ret L w):WC P n .ret K L w:=fun _ ha=>wp_ret ⟨L,ha,h⟩
theorem WC.block {id:Nat} {c:Code} (h:WC P n c (inBlk id K) L w):WC P n (.block id c) K L w:=by
 intro a ha;refine wp_block (wp_mono (h a ha) ?_);rintro e a' w' ⟨L',h1,h2⟩;cases e with
 | exit i =>
  unfold Exit.inBlock;unfold inBlk at h2
  by_cases e:i=id
  ·subst e;simp only [if_true]
   simp at h2
   exact ⟨L',h1,h2⟩
  ·simp only [e,if_false]
   have hb:=Xtq e;exact ⟨L',h1,by simpa [hb] using h2⟩
 | _=>exact ⟨L',h1,h2⟩
theorem WC.cond {c:Operand} {x y:Code} {b:Bool} (hc:ev L c=some (.bool b)) (ht:b=true→WC P n x K L w) (hf:b=false→WC P n y K L w):WC P n (.cond c x y) K L w:=by
 intro a ha;have he:=Xgg ha hc;cases b with
 | true=>exact wp_cond_true he (ht rfl a ha)
 | false=>exact wp_cond_false he (hf rfl a ha)
theorem WC.condT {c:Operand} {x y:Code} (hc:ev L c=some (.bool true)) (h:WC P n x K L w):WC P n (.cond c x y) K L w:=WC.cond hc (fun _=>h) (fun e=>by cases e)
theorem WC.condF {c:Operand} {x y:Code} (hc:ev L c=some (.bool false)) (h:WC P n y K L w):WC P n (.cond c x y) K L w:=WC.cond hc (fun e=>by cases e) (fun _=>h)
theorem WC.loop {c:Code} {σ:Type} (E:σ→Env) (inv:σ→World→Prop) (μ:σ→Nat) (s0:σ) (hs:Sub (E s0) L) (h0:inv s0 w)
  (round:∀ s w,inv s w→WC P n c (Xb1 (fun L' w'=>∃ s',Sub (E s') L'∧inv s' w'∧μ s'<μ s) K) (E s) w):WC P n (.loop c) K L w:=by
 intro a ha b k cs;have key:∀ m s a w,μ s=m→Holds n (E s) a→inv s w →
   ∃ e a' w',Xod n K e a' w'∧Arrives P (lone (b.at a (.code c::.inLoop c::k)) cs w) b k cs e a' w':=by
  intro m
  induction m using Nat.strongRecOn with
  | _ m ih =>
   intro s a w hm ha hi;obtain ⟨e,a1,w1,⟨L1,hL,hq⟩,harr⟩:=round s w hi a ha b (.inLoop c::k) cs;cases e with
   | normal =>
    obtain ⟨s',hsub,hi',hlt⟩:=hq;obtain ⟨e2,a2,w2,hq2,harr2⟩:=ih (μ s') (hm ▸ hlt) s' a1 w1 rfl (hL.sub hsub) hi';exact ⟨e2,a2,w2,hq2,.of_steps (Steps.trans harr (.one step_inLoop)) harr2⟩
   | exit id=>exact ⟨_,a1,w1,⟨L1,hL,hq⟩,.pass (x:=.inLoop c) rfl (fun _ _=>.inl (by simp)) harr⟩
   | goto l=>exact ⟨_,a1,w1,⟨L1,hL,hq⟩,.pass (x:=.inLoop c) rfl (fun _ _=>.inl (by simp)) harr⟩
   | ret=>exact ⟨_,a1,w1,⟨L1,hL,hq⟩,.pass (x:=.inLoop c) rfl (fun _ _=>.inl (by simp)) harr⟩
   | panic ch=>exact ⟨_,a1,w1,⟨L1,hL,hq⟩,.pass (x:=.inLoop c) rfl (fun _ _=>.inl (by simp)) harr⟩
   | outgrown=>exact ⟨_,a1,w1,⟨L1,hL,hq⟩,.pass (x:=.inLoop c) rfl (fun _ _=>.inl (by simp)) harr⟩
 obtain ⟨e,a',w',hq,harr⟩:=key _ s0 a w rfl (ha.sub hs) h0;exact ⟨e,a',w',hq,.of_steps (.one step_loop) harr⟩
theorem WC.region {id:Nat} {l:List Oper} (h:WL P n l.toArray K l L w):WC P n (.region id l.toArray false) K L w:=fun a ha=>wp_region_lit (h a ha)
def X53 (P:Program) (n:Nat) (fn:Func) (R:Ending→World→Prop):X36
 | .normal,L,w | .ret,L,w=>dl L=[]∧∀ a,Holds n L a→∃ v,(results fn a.tmps).run P w=.ok v w∧R (.returned v) w
 | _,_,_=>False
def Xeh:Nat→List Value→Env
 | _,[]=>[]
 | i,v::l=>(i,v)::Xeh (i+1) l
theorem X83:∀ (l:List Value) (i t:Nat) (v:Value),look0 (Xeh i l) t=some v→i≤t∧l[t - i]?=some v
 | [],_,_,_,h=>by cases h
 | u::l,i,t,v,h=>by
  unfold Xeh look0 at h
  by_cases e:i=t
  ·subst e;simp at h
   exact ⟨Yu _,by simp [h]⟩
  ·have hb:=Xtq e;rw [hb] at h;obtain ⟨h1,h2⟩:=X83 l (i+1) t v h;exact ⟨by omega,by rw [show t - i=(t - (i+1))+1 by omega]; simpa using h2⟩
theorem X6c {fn:Func} {args:List Value} (hn:fn.ntmps=n) (hle:(Nat.ble args.length n && Nat.ble n DK)=true):Holds n (Xeh 0 args) { tmps:=args.toArray ++ Array.replicate (fn.ntmps - args.toArray.size) undef,defers:=[] }:=by
 have hle':args.length≤n∧n≤DK:=by simpa using hle
 refine ⟨by simp [hn]; omega,hle'.2,?_,fun t v hv=>?_⟩
 ·unfold dl;cases e:look0 (Xeh 0 args) DK with
  | none=>rfl
  | some v =>
   obtain ⟨_,h2⟩:=X83 args 0 DK v e
   have:=(Y5.1 h2).1
   simp only [Y4m] at this
   omega
 obtain ⟨_,h2⟩:=X83 args 0 t v (Xa6 hv).2;simp only [Y4m] at h2
 have ht:t<args.length:=(Y5.1 h2).1;rw [Y4 ht] at h2;simpa [Y14,Array.getElem?_append,ht] using h2
theorem calls {f:FuncId} {fn:Func} {c:Code} {args:List Value} {R:Ending→World→Prop} (hf:P.funcs[f]?=some fn) (hb:fn.body=some c) (hn:fn.ntmps=n) (hle:(Nat.ble args.length n && Nat.ble n DK)=true)
  (h:WC P n c (X53 P n fn R) (Xeh 0 args) w):Calls P f args.toArray w R:=by
 refine calls_of_wp hf hb (wp_mono (h _ (X6c hn hle)) ?_);rintro e a' w' ⟨L',h1,h2⟩;cases e with
 | normal=>exact ⟨h1.defers.trans h2.1,h2.2 a' h1⟩
 | ret=>exact ⟨h1.defers.trans h2.1,h2.2 a' h1⟩
 | _=>exact h2.elim
section rets
variable {fn:Func} {R:Ending→World→Prop}
theorem ret0 (h:fn.results=#[]) (hR:R (.returned (.tuple #[])) w) (hd:dl L=[]:=by rfl):X53 P n fn R .ret L w:=⟨hd,fun a _=>⟨_,by simp [results,h],hR⟩⟩
theorem X7n (h:fn.results=#[]) (hR:R (.returned (.tuple #[])) w) (hd:dl L=[]:=by rfl):X53 P n fn R .normal L w:=⟨hd,fun a _=>⟨_,by simp [results,h],hR⟩⟩
theorem X9 {t:Nat} {v:Value} (h:fn.results=#[.tmp t]) (hv:look L t=some v) (hR:R (.returned v) w) (hd:dl L=[]:=by rfl):X53 P n fn R .ret L w :=
 ⟨hd,fun a ha=>⟨v,by have:=ha.get t v hv; simp [results,h]; simpa [Y14] using this,hR⟩⟩
theorem X1e {t u:Nat} {v x:Value} (h:fn.results=#[.tmp t,.tmp u]) (hv:look L t=some v) (hx:look L u=some x) (hR:R (.returned (.tuple #[v,x])) w) (hd:dl L=[]:=by rfl):X53 P n fn R .ret L w :=
 ⟨hd,fun a ha=>⟨_,by have h1:=ha.get t v hv; have h2:=ha.get u x hx; simp only [Y14] at h1 h2; simp [results,h,h1,h2],hR⟩⟩
theorem X7j {t u r:Nat} {v x y:Value} (h:fn.results=#[.tmp t,.tmp u,.tmp r]) (hv:look L t=some v) (hx:look L u=some x) (hy:look L r=some y) (hR:R (.returned (.tuple #[v,x,y])) w) (hd:dl L=[]:=by rfl):X53 P n fn R .ret L w :=
 ⟨hd,fun a ha=>⟨_,by have h1:=ha.get t v hv; have h2:=ha.get u x hx; have h3:=ha.get r y hy; simp only [Y14] at h1 h2 h3; simp [results,h,h1,h2,h3],hR⟩⟩
end rets
end
end Gk
namespace Gk
open Go
def Ev (n:Nat) (L:Env) (x:Operand) (v:Value):Prop:=∀ a,Holds n L a→a.eval x=v
def gd (b want:Bool) (v:Value):Value:=bif b == want then v else undef
def Ex (P:Program) (n:Nat) (L:Env) (w:World) (o:Oper) (v:Value) (w':World):Prop:=∀ a,Holds n L a→(execOp a.eval o).run P w=.ok (.value v) w'
def Es (P:Program) (n:Nat) (L:Env) (w:World) (o:Oper) (w':World):Prop:=∀ a,Holds n L a→(execOp a.eval o).run P w=.ok .skip w'
section
variable {P:Program} {n:Nat} {K:X36} {L:Env} {w w':World} {ops:Array Oper} {rest:List Oper}
theorem Ev.of {x:Operand} {v:Value} (h:ev L x=some v):Ev n L x v:=fun _ ha=>Xgg ha h
theorem Ev.gd {x:Operand} {v:Value} {b want:Bool} (hb:b=want) (h:ev L x=some (gd b want v)):Ev n L x v:=fun a ha=>by
 rw [Xgg ha h,hb];cases want <;> rfl
theorem X2d {o:Oper} (hg:o.guard=none) (y:Nat→Option Bool):Region.wanted o y=true:=by simp [Region.wanted,hg]
theorem WL.nil (h:K .normal L w):WL P n ops K [] L w:=fun a ha=>wpList_nil ⟨L,ha,h⟩
theorem WL.val {d:Nat} {op:Op} {ty:TypeId} {pos:String} {af:Array Edge} {v:Value} (hx:Ex P n L w ⟨some d,op,ty,pos,af,none⟩ v w') (hd:Nat.blt d n=true)
  (h:WL P n ops K rest ((d,v)::L) w'):WL P n ops K (⟨some d,op,ty,pos,af,none⟩::rest) L w:=by
 intro a ha;refine wpList_plain rfl fun K' hK=>?_
 unfold Oper.wp;rw [hx a ha];exact hK _ _ (h _ (ha.put hd v))
theorem WL.st {op:Op} {ty:TypeId} {pos:String} {af:Array Edge} (hx:Es P n L w ⟨none,op,ty,pos,af,none⟩ w')
  (h:WL P n ops K rest L w'):WL P n ops K (⟨none,op,ty,pos,af,none⟩::rest) L w:=by
 intro a ha;refine wpList_plain rfl fun K' hK=>?_
 unfold Oper.wp;rw [hx a ha];exact hK _ _ (h _ ha)
theorem X85 {a:Act} {L:Env} (ha:Holds n L a) {j t:Nat} {b:Bool} (hj:(ops[j]?).bind (·.dst)=some t) (hb:look L t=some (.bool b)):yielded ops a.tmps j=some b:=by
 have h1:=ha.get t _ hb;have hlt:t<a.tmps.size:=by
  apply Classical.byContradiction
  intro hn;rw [Y14,Y3y (by omega)] at h1;cases h1
 rw [Y14,Y1a hlt] at h1;simp only [Y2o] at h1
 have h2:a.tmps[t]?=some (.bool b):=by rw [Y1a hlt,h1]
 obtain ⟨o,ho,hd⟩:=Y2b.1 hj;simp [yielded,ho,hd,h2]
theorem WL.gval {d j t:Nat} {b want:Bool} {op:Op} {ty:TypeId} {pos:String} {af:Array Edge} {v:Value}
  (hj:(ops[j]?).bind (·.dst)=some t) (hb:look L t=some (.bool b)) (hx:b=want→Ex P n L w ⟨some d,op,ty,pos,af,some (j,want)⟩ v w) (hd:Nat.blt d n=true)
  (h:WL P n ops K rest ((d,gd b want v)::L) w):WL P n ops K (⟨some d,op,ty,pos,af,some (j,want)⟩::rest) L w:=by
 intro a ha;refine wpList_step fun K' hK=>?_
 have hy:=X85 ha hj hb;have hput:=h _ (ha.put hd (Gk.gd b want v));unfold Gk.gd at hput
 by_cases e:b=want
 ·rw [if_pos (by simp [Region.wanted,hy,e])];unfold Oper.wp;rw [hx e a ha];subst e;exact hK _ _ (by simpa using hput)
 ·rw [if_neg (by simp [Region.wanted,hy,e])];have e':(b == want)=false:=by simpa using e
  rw [e'] at hput;exact hK _ _ (by simpa using hput)
def gds:List (Bool×Bool)→Value→Value
 | [],v=>v
 | (b,want)::r,v=>gd b want (gds r v)
theorem X1t:∀ {c:List (Bool×Bool)} {v:Value},(∀ p∈c,p.1=p.2)→gds c v=v
 | [],_,_=>rfl
 | (b,want)::r,v,h=>by
  have h1:b=want:=h (b,want) (by simp);subst h1;simp only [gds,Gk.gd,beq_self_eq_true,cond_true]
  exact X1t fun p hp=>h p (Y2k _ hp)
theorem X2z:∀ {c:List (Bool×Bool)} {v:Value},¬ (∀ p∈c,p.1=p.2)→gds c v=undef
 | [],_,h=>absurd (fun _ hp=>by cases hp) h
 | (b,want)::r,v,h=>by
  by_cases e:b=want
  ·subst e;simp only [gds,Gk.gd,beq_self_eq_true,cond_true]
   exact X2z fun hr=>h fun p hp=>by
    rcases Y18.1 hp with rfl | hp
    ·rfl
    ·exact hr p hp
  ·have e':(b == want)=false:=by simpa using e
   simp only [gds,Gk.gd,e',cond_false]
theorem WL.gvals {d j t:Nat} {c:List (Bool×Bool)} {b want:Bool} {op:Op} {ty:TypeId} {pos:String} {af:Array Edge} {v:Value}
  (hj:(ops[j]?).bind (·.dst)=some t) (ht:Nat.blt t n=true) (hb:look L t=some (gds c (.bool b))) (hx:(∀ p∈c ++ [(b,want)],p.1=p.2)→Ex P n L w ⟨some d,op,ty,pos,af,some (j,want)⟩ v w) (hd:Nat.blt d n=true)
  (h:WL P n ops K rest ((d,gds (c ++ [(b,want)]) v)::L) w):WL P n ops K (⟨some d,op,ty,pos,af,some (j,want)⟩::rest) L w:=by
 intro a ha;refine wpList_step fun K' hK=>?_
 have hput:=h _ (ha.put hd (gds (c ++ [(b,want)]) v));have hlt:t<a.tmps.size:=by have:=Y22 ht; rw [ha.size]; omega
 have hv:=ha.get t _ hb;have hy:yielded ops a.tmps j=match gds c (.bool b) with | .bool b=>some b | _=>none:=by
  obtain ⟨o,ho,hdd⟩:=Y2b.1 hj;rw [Y14,Y1a hlt] at hv;simp only [Y2o] at hv
  have h2:a.tmps[t]?=some (gds c (.bool b)):=by rw [Y1a hlt,hv]
  simp only [yielded,ho,hdd,Y2s,h2]
  generalize gds c (.bool b)=g;cases g <;> rfl
 by_cases e:∀ p∈c ++ [(b,want)],p.1=p.2
 ·have ec:∀ p∈c,p.1=p.2:=fun p hp=>e p (by simp [hp])
  have eb:b=want:=e (b,want) (by simp);rw [X1t ec] at hy;rw [if_pos (by simp [Region.wanted,hy,eb])];unfold Oper.wp;rw [hx e a ha];rw [X1t e] at hput;exact hK _ _ hput
 ·have hw:Region.wanted (⟨some d,op,ty,pos,af,some (j,want)⟩:Oper) (yielded ops a.tmps)=false:=by
   by_cases ec:∀ p∈c,p.1=p.2
   ·rw [X1t ec] at hy;have eb:¬ b=want:=fun eb=>e fun p hp=>by
     rcases Y16.1 hp with hp | hp
     ·exact ec p hp
     ·simp at hp; subst hp; exact eb
    simp [Region.wanted,hy,eb]
   ·rw [X2z ec] at hy;simp [Region.wanted,hy,undef]
  rw [if_neg (by simp [hw])];rw [X2z e] at hput;exact hK _ _ hput
theorem WL.gval2 {d j t:Nat} {b1 w1 b want:Bool} {op:Op} {ty:TypeId} {pos:String} {af:Array Edge} {v:Value}
  (hj:(ops[j]?).bind (·.dst)=some t) (ht:Nat.blt t n=true) (hb:look L t=some (gd b1 w1 (.bool b))) (hx:b1=w1→b=want→Ex P n L w ⟨some d,op,ty,pos,af,some (j,want)⟩ v w) (hd:Nat.blt d n=true)
  (h:WL P n ops K rest ((d,gd b1 w1 (gd b want v))::L) w):WL P n ops K (⟨some d,op,ty,pos,af,some (j,want)⟩::rest) L w :=
 WL.gvals (c:=[(b1,w1)]) hj ht hb (fun e=>hx (e (b1,w1) (by simp)) (e (b,want) (by simp))) hd h
theorem WL.gval3 {d j t:Nat} {b1 w1 b2 w2 b want:Bool} {op:Op} {ty:TypeId} {pos:String} {af:Array Edge} {v:Value}
  (hj:(ops[j]?).bind (·.dst)=some t) (ht:Nat.blt t n=true) (hb:look L t=some (gd b1 w1 (gd b2 w2 (.bool b)))) (hx:b1=w1→b2=w2→b=want→Ex P n L w ⟨some d,op,ty,pos,af,some (j,want)⟩ v w) (hd:Nat.blt d n=true)
  (h:WL P n ops K rest ((d,gd b1 w1 (gd b2 w2 (gd b want v)))::L) w):WL P n ops K (⟨some d,op,ty,pos,af,some (j,want)⟩::rest) L w :=
 WL.gvals (c:=[(b1,w1),(b2,w2)]) hj ht hb (fun e=>hx (e (b1,w1) (by simp)) (e (b2,w2) (by simp)) (e (b,want) (by simp))) hd h
theorem Ev.gd2 {x:Operand} {v:Value} {b1 w1 b2 w2:Bool} (h1:b1=w1) (h2:b2=w2) (h:ev L x=some (Gk.gd b1 w1 (Gk.gd b2 w2 v))):Ev n L x v:=by
 subst h1; subst h2;refine Ev.of (h.trans ?_);simp [Gk.gd]
theorem Ev.gd3 {x:Operand} {v:Value} {b1 w1 b2 w2 b3 w3:Bool} (h1:b1=w1) (h2:b2=w2) (h3:b3=w3) (h:ev L x=some (Gk.gd b1 w1 (Gk.gd b2 w2 (Gk.gd b3 w3 v)))):Ev n L x v:=by
 subst h1; subst h2; subst h3;refine Ev.of (h.trans ?_);simp [Gk.gd]
section pure
variable {d:Option Nat} {ty:TypeId} {pos:String} {af:Array Edge} {g:Option (Nat×Bool)}
theorem Ex.move {x:Operand} {v:Value} (hx:Ev n L x v):Ex P n L w ⟨d,.move x,ty,pos,af,g⟩ v w:=fun a ha=>by simp [execOp,hx a ha]
theorem Ex.assign {x:Operand} {v:Value} (hx:Ev n L x v):Ex P n L w ⟨d,.assign x,ty,pos,af,g⟩ v w:=fun a ha=>by simp [execOp,hx a ha]
theorem Ex.pick {c x y:Operand} {b:Bool} {u v:Value} (hc:Ev n L c (.bool b)) (hx:Ev n L x u) (hy:Ev n L y v):Ex P n L w ⟨d,.pick c x y,ty,pos,af,g⟩ (bif b then u else v) w :=
 fun a ha=>by cases b <;> simp [execOp,hx a ha,hy a ha,hc a ha,asBool]
theorem Ex.por {c x y:Operand} {b r:Bool} (hc:Ev n L c (.bool b)) (hx:Ev n L x (.bool true)) (hy:Ev n L y (Gk.gd b false (.bool r))):Ex P n L w ⟨d,.pick c x y,ty,pos,af,g⟩ (.bool (b || r)) w :=
 fun a ha=>by cases b <;> simp [execOp,hx a ha,hy a ha,hc a ha,asBool,Gk.gd]
theorem Ex.pand {c x y:Operand} {b r:Bool} (hc:Ev n L c (.bool b)) (hx:Ev n L x (Gk.gd b true (.bool r))) (hy:Ev n L y (.bool false)):Ex P n L w ⟨d,.pick c x y,ty,pos,af,g⟩ (.bool (b && r)) w :=
 fun a ha=>by cases b <;> simp [execOp,hx a ha,hy a ha,hc a ha,asBool,Gk.gd]
theorem Ex.extract {x:Operand} {i:Nat} {vs:Array Value} {v:Value} (hx:Ev n L x (.tuple vs)) (hi:vs[i]?=some v):Ex P n L w ⟨d,.extract x i,ty,pos,af,g⟩ v w :=
 fun a ha=>by simp [execOp,hx a ha,Instr.extract,hi]
theorem Ex.not {x:Operand} {b:Bool} {t:TypeId} (hx:Ev n L x (.bool b)):Ex P n L w ⟨d,.unOp .not t x,ty,pos,af,g⟩ (.bool (!b)) w :=
 fun a ha=>by simp [execOp,hx a ha,Op.unary]
theorem Ex.nilCheck {x:Operand} {p:Addr} (hx:Ev n L x (.pointer (some p))):Ex P n L w ⟨d,.nilCheck x,ty,pos,af,g⟩ (.pointer (some p)) w :=
 fun a ha=>by simp [execOp,hx a ha]
variable {t t':TypeId} {x y:Operand}
theorem X1a {op:BinOp} {u v r:Value} (hx:Ev n L x u) (hy:Ev n L y v) (he:∀ p q,(eqGuard op t p q u v).run P w=.ok () w) (hr:(binOp op t u v).run P w=.ok r w):Ex P n L w ⟨d,.binOp op t x y t',ty,pos,af,g⟩ r w :=
 fun a ha=>by simp [execOp,hx a ha,hy a ha,he,hr]
theorem Xg (op:BinOp) (k:IntKind) (a b:Int) (p q:Operand):(eqGuard op t p q (.int k a) (.int k b)).run P w=.ok () w:=by
 unfold eqGuard; split <;> simp
theorem X6n (op:BinOp) (a b:ByteArray) (p q:Operand):(eqGuard op t p q (.string a) (.string b)).run P w=.ok () w:=by
 unfold eqGuard; split <;> simp
variable {k:IntKind} {i j:Int}
theorem Ex.lss (hx:Ev n L x (.int k i)) (hy:Ev n L y (.int k j)):Ex P n L w ⟨d,.binOp .lss t x y t',ty,pos,af,g⟩ (.bool (decide (i<j))) w :=
 X1a hx hy (Xg _ _ _ _) (by simp [binOp,Op.intCmp])
theorem Ex.leq (hx:Ev n L x (.int k i)) (hy:Ev n L y (.int k j)):Ex P n L w ⟨d,.binOp .leq t x y t',ty,pos,af,g⟩ (.bool (decide (i≤j))) w :=
 X1a hx hy (Xg _ _ _ _) (by simp [binOp,Op.intCmp])
theorem Ex.gtr (hx:Ev n L x (.int k i)) (hy:Ev n L y (.int k j)):Ex P n L w ⟨d,.binOp .gtr t x y t',ty,pos,af,g⟩ (.bool (decide (j<i))) w :=
 X1a hx hy (Xg _ _ _ _) (by simp [binOp,Op.intCmp])
theorem Ex.geq (hx:Ev n L x (.int k i)) (hy:Ev n L y (.int k j)):Ex P n L w ⟨d,.binOp .geq t x y t',ty,pos,af,g⟩ (.bool (decide (j≤i))) w :=
 X1a hx hy (Xg _ _ _ _) (by simp [binOp,Op.intCmp])
theorem Ex.eql (hx:Ev n L x (.int k i)) (hy:Ev n L y (.int k j)):Ex P n L w ⟨d,.binOp .eql t x y t',ty,pos,af,g⟩ (.bool (i == j)) w :=
 X1a hx hy (Xg _ _ _ _) (by simp [binOp,Op.intCmp])
theorem Ex.neq (hx:Ev n L x (.int k i)) (hy:Ev n L y (.int k j)):Ex P n L w ⟨d,.binOp .neq t x y t',ty,pos,af,g⟩ (.bool (i != j)) w :=
 X1a hx hy (Xg _ _ _ _) (by simp [binOp,Op.intCmp])
theorem Ex.addw (hx:Ev n L x (.int k i)) (hy:Ev n L y (.int k j)):Ex P n L w ⟨d,.binOp .add t x y t',ty,pos,af,g⟩ (.int k (k.wrap (i+j))) w :=
 X1a hx hy (Xg _ _ _ _) (by simp [binOp,Op.intArith])
theorem Ex.subw (hx:Ev n L x (.int k i)) (hy:Ev n L y (.int k j)):Ex P n L w ⟨d,.binOp .sub t x y t',ty,pos,af,g⟩ (.int k (k.wrap (i - j))) w :=
 X1a hx hy (Xg _ _ _ _) (by simp [binOp,Op.intArith])
abbrev Xr3 (i:Int):Prop:=-9223372036854775808≤i∧i≤9223372036854775807
theorem Xhd {i:Int} (h:Xr3 i):IntKind.i64.wrap i=i:=by
 obtain ⟨h1,h2⟩:=h;rw [IntKind.wrap_i64];omega
theorem Ex.add (hx:Ev n L x (I64 i)) (hy:Ev n L y (I64 j)) (h:Xr3 (i+j)):Ex P n L w ⟨d,.binOp .add t x y t',ty,pos,af,g⟩ (I64 (i+j)) w :=
 X1a hx hy (Xg _ _ _ _) (by simp [binOp,Op.intArith,Xhd h])
theorem Ex.sub (hx:Ev n L x (I64 i)) (hy:Ev n L y (I64 j)) (h:Xr3 (i - j)):Ex P n L w ⟨d,.binOp .sub t x y t',ty,pos,af,g⟩ (I64 (i - j)) w :=
 X1a hx hy (Xg _ _ _ _) (by simp [binOp,Op.intArith,Xhd h])
theorem Ex.mul (hx:Ev n L x (I64 i)) (hy:Ev n L y (I64 j)) (h:Xr3 (i*j)):Ex P n L w ⟨d,.binOp .mul t x y t',ty,pos,af,g⟩ (I64 (i*j)) w :=
 X1a hx hy (Xg _ _ _ _) (by simp [binOp,Op.intArith,Xhd h])
theorem Ex.eqp {p:Option Addr} {e:TypeId} (hx:Ev n L x (.pointer p)) (hy:Ev n L y (.pointer none)) (hT:P.underlying t=some (.pointer e)):Ex P n L w ⟨d,.binOp .eql t x y t',ty,pos,af,g⟩ (.bool p.isNone) w :=
 X1a hx hy (fun _ _=>by unfold eqGuard; split <;> simp) (run_eql_pointer_nil w t p (by simp [Program.pointee,hT]))
variable {l m:List UInt8}
theorem Ex.eqs (hx:Ev n L x (S l)) (hy:Ev n L y (S m)):Ex P n L w ⟨d,.binOp .eql t x y t',ty,pos,af,g⟩ (.bool (l == m)) w :=
 X1a hx hy (X6n _ _ _) (by simp [binOp,Op.stringOp])
theorem Ex.nes (hx:Ev n L x (S l)) (hy:Ev n L y (S m)):Ex P n L w ⟨d,.binOp .neq t x y t',ty,pos,af,g⟩ (.bool (!(l == m))) w :=
 X1a hx hy (X6n _ _ _) (by simp [binOp,Op.stringOp])
theorem Ex.cat (hx:Ev n L x (S l)) (hy:Ev n L y (S m)) (h:((l.length+m.length:Nat):Int)≤9223372036854775807):Ex P n L w ⟨d,.binOp .add t x y t',ty,pos,af,g⟩ (S (l ++ m)) w :=
 X1a hx hy (X6n _ _ _) (by
  have h1:((ByteArray.size ⟨l.toArray⟩+ByteArray.size ⟨m.toArray⟩:Nat):Int)=((l.length+m.length:Nat):Int):=rfl;have h2:¬ (((l.length+m.length:Nat):Int) > IntKind.i64.max):=by show ¬ ((l.length+m.length:Nat):Int) > 9223372036854775807; omega
  have h3:(⟨l.toArray⟩ ++ ⟨m.toArray⟩:ByteArray)=⟨(l ++ m).toArray⟩:=by
   apply ByteArray.ext
   simp
  simp only [binOp,Op.stringOp,h1,if_neg h2,h3,Sem.run_pure])
theorem X4d {t e:TypeId} (hT:P.underlying t=some (.slice e)):P.elem t=e:=by simp [Program.elem,hT]
theorem Ex.len (hx:Ev n L x (S l)) (hT:P.underlying t=some .string):Ex P n L w ⟨d,.call ⟨.builtin .len,#[x],#[t]⟩,ty,pos,af,g⟩ (I64 l.length) w :=
 fun a ha=>by
  have h:=run_len_string (P:=P) w t ty ⟨l.toArray⟩ hT;simp [execOp,resolve,invoke,builtin,hx a ha,h,goInt,ByteArray.size]
theorem Ex.lenSlice {p:Option Addr} {c k:Nat} {e:TypeId} (hx:Ev n L x (.slice p k c)) (hT:P.underlying t=some (.slice e)):Ex P n L w ⟨d,.call ⟨.builtin .len,#[x],#[t]⟩,ty,pos,af,g⟩ (I64 k) w :=
 fun a ha=>by
  have h:=run_len_slice (P:=P) w t ty p k c (by rw [X4d hT]; exact hT);simp [execOp,resolve,invoke,builtin,hx a ha,h,goInt]
def at_ (l:List UInt8) (i:Int):UInt8:=l.getD i.toNat 0
theorem Ex.index_ {c:UInt8} (hx:Ev n L x (S l)) (hy:Ev n L y (I64 i)) (hi:0≤i) (hc:l[i.toNat]?=some c) (hT:P.underlying t=some .string):Ex P n L w ⟨d,.index t x y,ty,pos,af,g⟩ (U8 c.toNat) w :=
 fun a ha=>by
  have h1:i.toNat<l.length:=(Y5.1 hc).1;have h2:=(Y5.1 hc).2;have h3:0≤i∧i<((ByteArray.size ⟨l.toArray⟩:Nat):Int):=⟨hi,by show i<(l.length:Int); omega⟩
  have h:=run_index_string (P:=P) w t ⟨l.toArray⟩ .i64 i hT;rw [dif_pos h3] at h;have h4:(⟨l.toArray⟩:ByteArray)[i.toNat]'(by show i.toNat<l.length; omega)=c:=h2;rw [h4] at h;simp [execOp,hx a ha,hy a ha,h]
theorem Ex.index (hx:Ev n L x (S l)) (hy:Ev n L y (I64 i)) (hi:0≤i) (hl:i<(l.length:Int)) (hT:P.underlying t=some .string):Ex P n L w ⟨d,.index t x y,ty,pos,af,g⟩ (U8 (at_ l i).toNat) w:=by
 have h1:i.toNat<l.length:=by omega
 refine Ex.index_ hx hy hi ?_ hT;rw [at_,Yc,Y4 h1];rfl
theorem X9v (l:List UInt8) (a b:Nat):(Value.string ((⟨l.toArray⟩:ByteArray).extract a b))=S ((l.drop a).take (b - a)):=by
 rw [S,Lib.extract_eq]
theorem Ex.sub3 {z:Operand} (hx:Ev n L x (S l)) (hy:Ev n L y (I64 i)) (hz:Ev n L z (I64 j)) (h0:0≤i) (h1:i≤j) (h2:j≤(l.length:Int)) (hT:P.underlying t=some .string) :
  Ex P n L w ⟨d,.slice t x (some y) (some z) none,ty,pos,af,g⟩ (S ((l.drop i.toNat).take (j.toNat - i.toNat))) w:=fun a ha=>by
 have h:=run_slice_string (P:=P) w t ⟨l.toArray⟩ .i64 .i64 i j hT h0 h1 h2;rw [X9v] at h;simp [execOp,hx a ha,hy a ha,hz a ha,run_sliceAt_string w t _ _ _ _ hT,h]
theorem Ex.subFrom (hx:Ev n L x (S l)) (hy:Ev n L y (I64 i)) (h0:0≤i) (h1:i≤(l.length:Int)) (hT:P.underlying t=some .string) :
  Ex P n L w ⟨d,.slice t x (some y) none none,ty,pos,af,g⟩ (S (l.drop i.toNat)) w:=fun a ha=>by
 have h:=run_slice_string_l (P:=P) w t ⟨l.toArray⟩ hT .i64 i h0 h1;rw [X9v] at h;have e:(l.drop i.toNat).take ((⟨l.toArray⟩:ByteArray).size - i.toNat)=l.drop i.toNat:=Yz (by simp [ByteArray.size]);rw [e] at h;simp [execOp,hx a ha,hy a ha,run_sliceAt_string w t _ _ _ _ hT,h]
theorem Ex.subTo {z:Operand} (hx:Ev n L x (S l)) (hz:Ev n L z (I64 j)) (h1:0≤j) (h2:j≤(l.length:Int)) (hT:P.underlying t=some .string) :
  Ex P n L w ⟨d,.slice t x none (some z) none,ty,pos,af,g⟩ (S (l.take j.toNat)) w:=fun a ha=>by
 have h:=run_slice_string_h (P:=P) w t ⟨l.toArray⟩ hT .i64 j h1 h2;rw [X9v] at h;simp only [Yg,Y4m] at h
 simp [execOp,hx a ha,hz a ha,run_sliceAt_string w t _ _ _ _ hT,h]
theorem Ex.min2 {z:Operand} {ts:Array TypeId} (hx:Ev n L x (.int k i)) (hz:Ev n L z (.int k j)):Ex P n L w ⟨d,.call ⟨.builtin .min,#[x,z],ts⟩,ty,pos,af,g⟩ (.int k (min i j)) w:=fun a ha=>by
 have e:(if j<i then j else i)=min i j:=by split <;> omega
 simp [execOp,resolve,invoke,builtin,hx a ha,hz a ha,Builtin.min_,Builtin.min2,e]
theorem Ex.max2 {z:Operand} {ts:Array TypeId} (hx:Ev n L x (.int k i)) (hz:Ev n L z (.int k j)):Ex P n L w ⟨d,.call ⟨.builtin .max,#[x,z],ts⟩,ty,pos,af,g⟩ (.int k (max i j)) w:=fun a ha=>by
 have e:(if i<j then j else i)=max i j:=by split <;> omega
 simp [execOp,resolve,invoke,builtin,hx a ha,hz a ha,Builtin.max_,Builtin.max2,e]
end pure
end
end Gk
namespace Gk
open Go
def binV:BinOp→Value→Value→Option (Value×Option Prop)
 | .lss,.int k a,.int k' b=>if k=k' then some (.bool (decide (a<b)),none) else none
 | .leq,.int k a,.int k' b=>if k=k' then some (.bool (decide (a≤b)),none) else none
 | .gtr,.int k a,.int k' b=>if k=k' then some (.bool (decide (b<a)),none) else none
 | .geq,.int k a,.int k' b=>if k=k' then some (.bool (decide (b≤a)),none) else none
 | .eql,.int k a,.int k' b=>if k=k' then some (.bool (a == b),none) else none
 | .neq,.int k a,.int k' b=>if k=k' then some (.bool (a != b),none) else none
 | .eql,.string ⟨⟨a⟩⟩,.string ⟨⟨b⟩⟩=>some (.bool (a == b),none)
 | .neq,.string ⟨⟨a⟩⟩,.string ⟨⟨b⟩⟩=>some (.bool (!(a == b)),none)
 | .add,.int .i64 a,.int .i64 b=>some (.int .i64 (a+b),some (Xr3 (a+b)))
 | .sub,.int .i64 a,.int .i64 b=>some (.int .i64 (a - b),some (Xr3 (a - b)))
 | .mul,.int .i64 a,.int .i64 b=>some (.int .i64 (a*b),some (Xr3 (a*b)))
 | .add,.string ⟨⟨a⟩⟩,.string ⟨⟨b⟩⟩=>some (.string ⟨⟨a ++ b⟩⟩,some (((a.length+b.length:Nat):Int)≤9223372036854775807))
 | _,_,_=>none
def Xhg (P:Program) (L:Env):Op→Option (Value×Option Prop)
 | .move x=>match ev L x with
  | some v=>some (v,none)
  | none=>none
 | .assign x=>match ev L x with
  | some v=>some (v,none)
  | none=>none
 | .extract x i=>match ev L x with
  | some (.tuple vs)=>match vs[i]? with
   | some v=>some (v,none)
   | none=>none
  | _=>none
 | .nilCheck x=>match ev L x with
  | some (.pointer (some p))=>some (.pointer (some p),none)
  | _=>none
 | .unOp .not _ x=>match ev L x with
  | some (.bool b)=>some (.bool (!b),none)
  | _=>none
 | .binOp op _ x y _=>match ev L x with
  | some u=>match ev L y with
   | some v=>binV op u v
   | none=>none
  | none=>none
 | .call ⟨.builtin .len,⟨[x]⟩,⟨[t]⟩⟩=>match ev L x with
  | some (.string ⟨⟨l⟩⟩)=>some (.int .i64 (l.length:Nat),some (P.underlying t=some .string))
  | some (.slice _ k _)=>some (.int .i64 (k:Nat),some (∃ e,P.underlying t=some (.slice e)))
  | _=>none
 | .index t x y=>match ev L x with
  | some (.string ⟨⟨l⟩⟩)=>match ev L y with
   | some (.int .i64 i)=>some (U8 (at_ l i).toNat,some ((0≤i∧i<(l.length:Int))∧P.underlying t=some .string))
   | _=>none
  | _=>none
 | _=>none
def Xgp (P:Program) (n:Nat) (L:Env) (o:Oper):Option (Nat×Value×Option Prop) :=
 match o.dst,o.guard with
 | some d,none=>match Nat.blt d n with
  | true=>match Xhg P L o.op with
   | some (v,c)=>some (d,v,c)
   | none=>none
  | false=>none
 | _,_=>none
def Xnn (P:Program) (n:Nat):Nat→List Oper→Env→List Oper×Env×Prop
 | 0,l,L=>(l,L,True)
 | _+1,[],L=>([],L,True)
 | k+1,o::r,L=>match Xgp P n L o with
  | some (d,v,none)=>Xnn P n k r ((d,v)::L)
  | some (d,v,some c)=>match Xnn P n k r ((d,v)::L) with
   | (r',L',C)=>(r',L',c∧C)
  | none=>(o::r,L,True)
section
variable {P:Program} {n:Nat} {K:X36} {L:Env} {w:World} {ops:Array Oper}
def Xlb:Option Prop→Prop
 | none=>True
 | some c=>c
theorem Xs0 {d:Option Nat} {ty t t':TypeId} {pos:String} {af:Array Edge} {g:Option (Nat×Bool)} {x y:Operand} {op:BinOp} {u v r:Value} {c:Option Prop} (hx:Ev n L x u) (hy:Ev n L y v) (h:binV op u v=some (r,c)) (hc:Xlb c):Ex P n L w ⟨d,.binOp op t x y t',ty,pos,af,g⟩ r w:=by
 unfold binV at h;split at h
 ·split at h
  ·rename_i e; subst e; cases h; exact .lss hx hy
  ·cases h
 ·split at h
  ·rename_i e; subst e; cases h; exact .leq hx hy
  ·cases h
 ·split at h
  ·rename_i e; subst e; cases h; exact .gtr hx hy
  ·cases h
 ·split at h
  ·rename_i e; subst e; cases h; exact .geq hx hy
  ·cases h
 ·split at h
  ·rename_i e; subst e; cases h; exact .eql hx hy
  ·cases h
 ·split at h
  ·rename_i e; subst e; cases h; exact .neq hx hy
  ·cases h
 ·cases h; exact .eqs hx hy
 ·cases h; exact .nes hx hy
 ·cases h; exact .add hx hy hc
 ·cases h; exact .sub hx hy hc
 ·cases h; exact .mul hx hy hc
 ·cases h; exact .cat hx hy hc
 ·cases h
theorem Xiz {d:Option Nat} {ty:TypeId} {pos:String} {af:Array Edge} {g:Option (Nat×Bool)} {op:Op} {v:Value} {c:Option Prop} (h:Xhg P L op=some (v,c)) (hc:Xlb c):Ex P n L w ⟨d,op,ty,pos,af,g⟩ v w:=by
 unfold Xhg at h;split at h
 ·split at h
  ·rename_i hx; cases h; exact .move (.of hx)
  ·cases h
 ·split at h
  ·rename_i hx; cases h; exact .assign (.of hx)
  ·cases h
 ·split at h
  ·rename_i hx
   split at h
   ·rename_i hi; cases h; exact .extract (.of hx) hi
   ·cases h
  ·cases h
 ·split at h
  ·rename_i hx; cases h; exact .nilCheck (.of hx)
  ·cases h
 ·split at h
  ·rename_i hx; cases h; exact .not (.of hx)
  ·cases h
 ·split at h
  ·rename_i hx
   split at h
   ·rename_i hy; exact Xs0 (.of hx) (.of hy) h hc
   ·cases h
  ·cases h
 ·split at h
  ·rename_i hx; cases h; exact .len (.of hx) hc
  ·rename_i hx; cases h
   obtain ⟨e,he⟩:=hc;exact .lenSlice (.of hx) he
  ·cases h
 ·split at h
  ·rename_i hx
   split at h
   ·rename_i hy; cases h; exact .index (.of hx) (.of hy) hc.1.1 hc.1.2 hc.2
   ·cases h
  ·cases h
 ·cases h
theorem WL.step_ok {o:Oper} {r:List Oper} {d:Nat} {v:Value} {c:Option Prop} (h1:Xgp P n L o=some (d,v,c)) (hc:Xlb c) (h:WL P n ops K r ((d,v)::L) w):WL P n ops K (o::r) L w:=by
 obtain ⟨dst,op,ty,pos,af,g⟩:=o;unfold Xgp at h1;cases dst with
 | none=>cases h1
 | some d =>
  cases g with
  | some g=>cases h1
  | none =>
   simp only at h1
   split at h1
   ·rename_i hd
    split at h1
    ·rename_i v c hv
     cases h1
     exact WL.val (Xiz hv hc) hd h
    ·cases h1
   ·cases h1
theorem WL.runs_ok:∀ (k:Nat) (l:List Oper) (L:Env),(Xnn P n k l L).2.2→WL P n ops K (Xnn P n k l L).1 (Xnn P n k l L).2.1 w→WL P n ops K l L w
 | 0,_,_,_,h=>h
 | _+1,[],_,_,h=>h
 | k+1,o::r,L,hc,h=>by
  unfold Xnn at h hc;split at h
  ·rename_i d v he
   rw [he] at hc;exact WL.step_ok he trivial (WL.runs_ok k r ((d,v)::L) hc h)
  ·rename_i d v c he
   rw [he] at hc;simp only at hc h
   exact WL.step_ok he hc.1 (WL.runs_ok k r ((d,v)::L) hc.2 h)
  ·exact h
theorem WL.run (k:Nat) {l r:List Oper} {M:Env} {C:Prop} (hr:Xnn P n k l L=(r,M,C)) (hc:C) (h:WL P n ops K r M w):WL P n ops K l L w:=by
 refine .runs_ok k l L ?_ ?_
 ·rw [hr]; exact hc
 ·rw [hr]; exact h
end
end Gk
namespace Gk
open Go
theorem WL.q {P:Program} {n:Nat} {K:X36} {L:Env} {w:World} {ops:Array Oper} (k:Nat) {l r:List Oper} {M:Env} (hr:Xnn P n k l L=(r,M,True)) (h:WL P n ops K r M w):WL P n ops K l L w:=WL.run k hr trivial h
theorem WC.q {P:Program} {n:Nat} {K:X36} {L:Env} {w:World} (k:Nat) {id:Nat} {l:List Oper} {M:Env} (hr:Xnn P n k l L=([],M,True)) (h:K .normal M w):WC P n (.region id l.toArray false) K L w:=WC.region (WL.run k hr trivial (WL.nil h))
theorem WC.t {P:Program} {n:Nat} {K:X36} {L:Env} {w:World} (k:Nat) {id:Nat} {l r:List Oper} {M:Env} (hr:Xnn P n k l L=(r,M,True)) (h:WL P n l.toArray K r M w):WC P n (.region id l.toArray false) K L w:=WC.region (WL.run k hr trivial h)
end Gk
namespace Gk
open Go
abbrev Xb9:=List (Nat×Obj)
abbrev X7:=Xb9→Prop
abbrev Im:=Nat→Option Obj
def own (b:Nat) (o:Obj):X7:=fun h=>h=[(b,o)]
def Xi (cs:List Value) (E:TypeId):Obj:=.cells cs.toArray E (0,0)
def blk (b:Nat) (cs:List Value) (E:TypeId):X7:=own b (Xi cs E)
abbrev ptr (b o:Nat):Value:=.pointer (some ⟨b,o,none⟩)
def SepAll:List X7→X7
 | [],h=>h=[]
 | A::As,h=>∃ h1 h2,h=h1 ++ h2∧A h1∧SepAll As h2
structure Good (B w:World) (I:Im) (h:Xb9):Prop where
 os:w.os=B.os
 tape:w.tape=B.tape
 output:w.output=B.output
 imm:∀ b o,I b=some o→w.heap[b]?=some o
 own:∀ b o,(b,o)∈h→w.heap[b]?=some o
 nodup:(h.map (·.1)).Nodup
 apart:∀ b o,(b,o)∈h→I b=none
def Sat (B w:World) (I:Im) (As:List X7):Prop:=∃ h,SepAll As h∧Good B w I h
def Le (I J:Im):Prop:=∀ b o,I b=some o→J b=some o
theorem Le.refl (I:Im):Le I I:=fun _ _ h=>h
theorem Le.trans {I J M:Im} (h:Le I J) (k:Le J M):Le I M:=fun b o e=>k b o (h b o e)
theorem Good.perm {B w:World} {I:Im} {h h':Xb9} (g:Good B w I h) (p:h.Perm h'):Good B w I h' :=
 ⟨g.os,g.tape,g.output,g.imm,fun b o hm=>g.own b o (p.mem_iff.2 hm),(p.map _).nodup_iff.1 g.nodup,fun b o hm=>g.apart b o (p.mem_iff.2 hm)⟩
theorem Good.left {B w:World} {I:Im} {h h':Xb9} (g:Good B w I (h ++ h')):Good B w I h :=
 ⟨g.os,g.tape,g.output,g.imm,fun b o hm=>g.own b o (Y1s _ hm),by have:=g.nodup; rw [Yv] at this; exact (Y4s.1 this).1,fun b o hm=>g.apart b o (Y1s _ hm)⟩
theorem Good.right {B w:World} {I:Im} {h h':Xb9} (g:Good B w I (h ++ h')):Good B w I h' :=
 (g.perm Y1l).left
theorem SepAll.at_:∀ {As:List X7} {k:Nat} {A:X7} {h:Xb9},As[k]?=some A→SepAll As h →
  ∃ h1 h2,h.Perm (h1 ++ h2)∧A h1∧(∀ (A':X7) (h1':Xb9),A' h1'→∃ h',SepAll (As.set k A') h'∧h'.Perm (h1' ++ h2))∧(∃ h',SepAll (As.eraseIdx k) h'∧h'.Perm h2)
 | [],_,_,_,hk,_=>by simp at hk
 | A0::As,0,A,h,hk,hs=>by
  obtain ⟨h1,h2,rfl,ha,hr⟩:=hs;simp at hk
  subst hk;exact ⟨h1,h2,.refl _,ha,fun A' h1' ha'=>⟨h1' ++ h2,⟨h1',h2,rfl,ha',hr⟩,.refl _⟩,⟨h2,hr,.refl _⟩⟩
 | A0::As,k+1,A,h,hk,hs=>by
  obtain ⟨g1,g2,rfl,ha0,hr⟩:=hs;obtain ⟨h1,h2,hp,ha,hset,h3,he,hpe⟩:=SepAll.at_ (As:=As) (k:=k) (by simpa using hk) hr;refine ⟨h1,g1 ++ h2,?_,ha,fun A' h1' ha'=>?_,⟨g1 ++ h3,⟨g1,h3,rfl,ha0,he⟩,hpe.append_left g1⟩⟩
  ·refine (hp.append_left g1).trans ?_;rw [← Yf,← Yf];exact Y1l.append_right _
  ·obtain ⟨h',hs',hp'⟩:=hset A' h1' ha';refine ⟨g1 ++ h',⟨g1,h',rfl,ha0,hs'⟩,(hp'.append_left g1).trans ?_⟩;rw [← Yf,← Yf];exact Y1l.append_right _
section
variable {B w w':World} {I:Im} {As:List X7} {k:Nat} {A A':X7} {b:Nat} {o o':Obj}
theorem Sat.block (hS:Sat B w I As) (hk:As[k]?=some (own b o)):w.heap[b]?=some o:=by
 obtain ⟨h,hs,hg⟩:=hS;obtain ⟨h1,h2,hp,ha,_⟩:=hs.at_ hk;rw [own] at ha;subst ha;exact (hg.perm hp).own b o (by simp)
theorem Sat.say (hS:Sat B w I As) (hk:As[k]?=some A) (h:∀ h,A h→A' h):Sat B w I (As.set k A'):=by
 obtain ⟨g,hs,hg⟩:=hS;obtain ⟨h1,h2,hp,ha,hset,_⟩:=hs.at_ hk;obtain ⟨h',hs',hp'⟩:=hset A' h1 (h h1 ha);exact ⟨h',hs',hg.perm (hp.trans hp'.symm)⟩
theorem Sat.opened (hS:Sat B w I As) (hk:As[k]?=some A) {X:Type} {T:X→X7} (h:∀ h,A h→∃ x,T x h):∃ x,Sat B w I (As.set k (T x)):=by
 obtain ⟨g,hs,hg⟩:=hS;obtain ⟨h1,h2,hp,ha,hset,_⟩:=hs.at_ hk;obtain ⟨x,hx⟩:=h h1 ha;obtain ⟨h',hs',hp'⟩:=hset (T x) h1 hx;exact ⟨x,h',hs',hg.perm (hp.trans hp'.symm)⟩
theorem Sat.pure_ (hS:Sat B w I As) (hk:As[k]?=some A) {p:Prop} (h:∀ h,A h→p):p:=by
 obtain ⟨g,hs,hg⟩:=hS;obtain ⟨h1,h2,hp,ha,_⟩:=hs.at_ hk;exact h h1 ha
theorem Sat.drop (hS:Sat B w I As) (hk:As[k]?=some A):Sat B w I (As.eraseIdx k):=by
 obtain ⟨h,hs,hg⟩:=hS;obtain ⟨h1,h2,hp,_,_,h3,he,hpe⟩:=hs.at_ hk;exact ⟨h3,he,(hg.perm hp).right.perm hpe.symm⟩
theorem Sat.freeze (hS:Sat B w I As) (hk:As[k]?=some (own b o)):∃ J,Le I J∧J b=some o∧Sat B w J (As.eraseIdx k):=by
 obtain ⟨h,hs,hg⟩:=hS;obtain ⟨h1,h2,hp,ha,_,h3,he,hpe⟩:=hs.at_ hk;rw [own] at ha;subst ha;have g:=hg.perm hp;have hb:I b=none:=g.apart b o (by simp);refine ⟨fun x=>if x=b then some o else I x,fun x y hx=>?_,by simp,h3,he,Good.perm ?_ hpe.symm⟩
 ·by_cases e:x=b
  ·subst e; rw [hb] at hx; cases hx
  ·simpa [e] using hx
 ·have hn:b ∉ h2.map (·.1):=by
   have:=g.nodup
   simp only [Ys,Ye,Y1d,Y32] at this
   exact this.1
  refine ⟨g.os,g.tape,g.output,fun x y hx=>?_,g.right.own,g.right.nodup,fun x y hm=>?_⟩
  ·by_cases e:x=b
   ·subst e;simp at hx
    subst hx;exact g.own _ _ (by simp)
   ·simp [e] at hx
    exact g.imm x y hx
  ·have e:x≠b:=fun e=>hn (e ▸ List.mem_map_of_mem hm)
   simpa [e] using g.right.apart x y hm
theorem Sat.world (hS:Sat B w I As) (h1:w'.os=w.os) (h2:w'.tape=w.tape) (h3:w'.output=w.output) (h4:w'.heap=w.heap):Sat B w' I As:=by
 obtain ⟨h,hs,hg⟩:=hS;exact ⟨h,hs,h1.trans hg.os,h2.trans hg.tape,h3.trans hg.output,fun b o e=>by rw [h4]; exact hg.imm b o e,fun b o e=>by rw [h4]; exact hg.own b o e,hg.nodup,hg.apart⟩
theorem Sat.drew (hS:Sat B w I As):Sat B w.drew I As:=hS.world rfl rfl rfl rfl
theorem Sat.alloc (hS:Sat B w I As) (o:Obj):Sat B (w.alloc o) I (own w.heap.size o::As):=by
 obtain ⟨h,hs,hg⟩:=hS;have old:∀ b x,w.heap[b]?=some x→b<w.heap.size:=fun b x e=>(Y1c.1 e).1
 have keep:∀ b x,w.heap[b]?=some x→(w.alloc o).heap[b]?=some x:=fun b x e=>by
  rw [heap_alloc_old w o (old b x e)]; exact e
 refine ⟨(w.heap.size,o)::h,⟨[(w.heap.size,o)],h,rfl,rfl,hs⟩,hg.os,hg.tape,hg.output,fun b x e=>keep b x (hg.imm b x e),fun b x hm=>?_,?_,fun b x hm=>?_⟩
 ·rcases Y18.1 hm with e | hm
  ·cases e
   exact heap_alloc_new w o
  ·exact keep b x (hg.own b x hm)
 ·simp only [Y1d,Y32]
  refine ⟨fun hm=>?_,hg.nodup⟩;obtain ⟨⟨b,x⟩,hm,e⟩:=Y28.1 hm
  have:=old b x (hg.own b x hm)
  simp at e
  omega
 ·rcases Y18.1 hm with e | hm
  ·cases e
   cases hi:I w.heap.size with
   | none=>rfl
   | some y=>have:=old _ _ (hg.imm _ _ hi); omega
  ·exact hg.apart b x hm
theorem Sat.write (hS:Sat B w I As) (hk:As[k]?=some (own b o)) (h1:w'.os=w.os) (h2:w'.tape=w.tape) (h3:w'.output=w.output) (hb:w'.heap[b]?=some o') (hne:∀ c,c≠b→w'.heap[c]?=w.heap[c]?) :
  Sat B w' I (As.set k (own b o')):=by
 obtain ⟨h,hs,hg⟩:=hS;obtain ⟨g1,g2,hp,ha,hset,_⟩:=hs.at_ hk;rw [own] at ha;subst ha;obtain ⟨h',hs',hp'⟩:=hset (own b o') [(b,o')] rfl;have g:=hg.perm hp;have hn:b ∉ g2.map (·.1):=by
  have:=g.nodup
  simp only [Ys,Ye,Y1d,Y32] at this
  exact this.1
 refine ⟨h',hs',Good.perm ?_ hp'.symm⟩;refine ⟨h1.trans g.os,h2.trans g.tape,h3.trans g.output,fun x y e=>?_,fun x y hm=>?_,by simpa using g.nodup,fun x y hm=>?_⟩
 ·have e':x≠b:=fun e'=>by have:=g.apart b o (by simp); rw [← e',e] at this; cases this
  rw [hne x e'];exact g.imm x y e
 ·rcases Y18.1 hm with e | hm
  ·cases e; exact hb
  ·have e':x≠b:=fun e'=>hn (e' ▸ List.mem_map_of_mem hm)
   rw [hne x e'];exact g.own x y (Y2k _ hm)
 ·rcases Y18.1 hm with e | hm
  ·cases e; exact g.apart b o (by simp)
  ·exact g.apart x y (Y2k _ hm)
end
def Vec (E size:Nat) (v:Value) (n:Nat) (xs:List Value):X7:=fun h =>
 xs.length=n*size∧((v=.slice none 0 0∧n=0∧h=[]) ∨
  ∃ g cap rest,v=.slice (some ⟨g,0,none⟩) n cap∧h=[(g,Xi (xs ++ rest) E)]∧n≤cap∧cap≤maxLen∧xs.length+rest.length=cap*size)
section
variable {B w w':World} {I:Im} {As:List X7} {k:Nat} {A A':X7} {b:Nat} {o o':Obj} {E size n:Nat} {v:Value} {xs:List Value}
theorem Sat.vecNil (hS:Sat B w I As) (E size:Nat):Sat B w I (Vec E size (.slice none 0 0) 0 []::As):=by
 obtain ⟨h,hs,hg⟩:=hS;exact ⟨h,⟨[],h,rfl,⟨by simp,.inl ⟨rfl,rfl,rfl⟩⟩,hs⟩,hg⟩
theorem Sat.vecOf (hS:Sat B w I As) {g:Nat} {cs:List Value} (hk:As[k]?=some (blk g cs E)) (hn:cs.length=n*size) (hm:n≤maxLen):Sat B w I (As.set k (Vec E size (.slice (some ⟨g,0,none⟩) n n) n cs)) :=
 hS.say hk fun _ hh=>⟨hn,.inr ⟨g,n,[],rfl,by rw [Y9]; exact hh,Yu _,hm,by simpa using hn⟩⟩
theorem Sat.vecOpen (hS:Sat B w I As) (hk:As[k]?=some (Vec E size v n xs)) (hn:0<n) :
  ∃ (b cap:Nat) (r:List Value),v=.slice (some ⟨b,0,none⟩) n cap∧n≤cap∧cap≤maxLen∧xs.length=n*size∧xs.length+r.length=cap*size∧Sat B w I (As.set k (blk b (xs ++ r) E)):=by
 obtain ⟨g,hs,hg⟩:=hS;obtain ⟨h1,h2,hp,⟨hl,ha⟩,hset,_⟩:=hs.at_ hk;rcases ha with ⟨_,h0,_⟩ | ⟨b,cap,rest,rfl,rfl,h3,h4,h5⟩
 ·omega
 ·obtain ⟨h',hs',hp'⟩:=hset (blk b (xs ++ rest) E) _ rfl;exact ⟨b,cap,rest,rfl,h3,h4,hl,h5,h',hs',hg.perm (hp.trans hp'.symm)⟩
theorem Sat.vecShut (hS:Sat B w I As) {g cap:Nat} {rest:List Value} (hk:As[k]?=some (blk g (xs ++ rest) E)) (h3:n≤cap) (h4:cap≤maxLen) (hl:xs.length=n*size) (h5:xs.length+rest.length=cap*size) :
  Sat B w I (As.set k (Vec E size (.slice (some ⟨g,0,none⟩) n cap) n xs)) :=
 hS.say hk fun _ hh=>⟨hl,.inr ⟨g,cap,rest,rfl,hh,h3,h4,h5⟩⟩
theorem Sat.vecSlice (hS:Sat B w I As) (hk:As[k]?=some (Vec E size v n xs)):∃ a c,v=.slice a n c∧n≤c∧xs.length=n*size :=
 hS.pure_ hk fun _ ⟨hl,hh⟩=>by
  rcases hh with ⟨rfl,rfl,_⟩ | ⟨g,cap,rest,rfl,_,h3,_⟩
  ·exact ⟨none,0,rfl,Yu _,hl⟩
  ·exact ⟨_,_,rfl,h3,hl⟩
theorem X2h {P:Program} (hS:Sat B w I As) {t ty:TypeId} {i:TypeInfo} {z:Value} {bytes:Nat} (ht:P.underlying t=some (.slice E)) (hi:P.info? E=some i) (hz:i.zero=some z)
  (hsize:i.size=size) (hby:i.bytes=bytes) (hzs:z.cells.size=size) (hk:As[k]?=some (Vec E size v n xs)) {p:Addr} {m c:Nat} {news:List Value} (hl:news.length=m*size) (hm:0<m)
  (hnews:∀ j u,news[j]?=some u→w.cell? (p.add j)=some u) (h1:∀ u∈news,u.oneCell'=true) (h63:n+m≤maxLen) (hbytes:(n+m)*bytes≤140737488355328) :
  ∃ v' w',(Builtin.append_ #[t,t] ty #[v,.slice (some p) m c]).run P w=.ok v' w'∧Sat B w' I (As.set k (Vec E size v' (n+m) (xs ++ news))):=by
 subst hsize;subst hby;have hsmall:n+m≤9223372036854775807:=by simp only [maxLen] at h63; omega
 have hxl:xs.length=n*i.size:=hS.pure_ hk fun h ⟨hl,_⟩=>hl
 have hlen:(xs ++ news).length=(n+m)*i.size:=by rw [Y0,hxl,hl,Nat.add_mul]
 have grown:∀ (old:Nat),Sat B (w.drew.alloc (.cells (xs.toArray ++ news.toArray ++ Builtin.zeroCells z.cells (grownCap w (n+m) old E - (n+m))) E)) I
   (As.set k (Vec E i.size (.slice (some ⟨w.heap.size,0,none⟩) (n+m) (grownCap w (n+m) old E)) (n+m) (xs ++ news))):=by
  intro old;have hge:=grownCap_ge w (n+m) old E;have hcm:grownCap w (n+m) old E≤maxLen:=grownCap_le_maxLen w (n+m) old E h63;have hS2:=hS.drew.alloc (.cells (xs.toArray ++ news.toArray ++ Builtin.zeroCells z.cells (grownCap w (n+m) old E - (n+m))) E);have e1:(own w.drew.heap.size (.cells (xs.toArray ++ news.toArray ++ Builtin.zeroCells z.cells (grownCap w (n+m) old E - (n+m))) E))=blk w.heap.size ((xs ++ news) ++ (Builtin.zeroCells z.cells (grownCap w (n+m) old E - (n+m))).toList) E:=by
   unfold blk Xi
   congr 2
   apply Array.ext'
   simp
  rw [e1] at hS2;have hS3:=hS2.vecShut (k:=0) (n:=n+m) (size:=i.size) (cap:=grownCap w (n+m) old E) rfl hge hcm hlen (by
   rw [hlen,Y37,size_zeroCells,hzs,← Nat.add_mul]
   congr 1
   omega)
  -- the new one stands at the old one's place
  obtain ⟨h,hs,hg⟩:=hS3;obtain ⟨q1,q2,rfl,hq1,hq2⟩:=hs;obtain ⟨h1',h2',hp,_,hset,_⟩:=SepAll.at_ hk hq2;obtain ⟨h',hs',hp'⟩:=hset _ q1 hq1;have g2:Good B (w.drew.alloc (.cells (xs.toArray ++ news.toArray ++ Builtin.zeroCells z.cells (grownCap w (n+m) old E - (n+m))) E)) I (q1 ++ h2'):=by
   have g:=hg.perm (hp.append_left q1)
   have:(q1 ++ (h1' ++ h2')).Perm ((q1 ++ h2') ++ h1'):=by
    rw [Yf];exact (Y1l).append_left q1
   exact (g.perm this).left
  exact ⟨h',hs',g2.perm hp'.symm⟩
 have hcase:(v=.slice none 0 0∧n=0)∨∃ g cap rest,v=.slice (some ⟨g,0,none⟩) n cap∧n≤cap∧cap≤maxLen∧xs.length+rest.length=cap*i.size∧Sat B w I (As.set k (blk g (xs ++ rest) E)):=by
  by_cases hn:0<n
  ·obtain ⟨g,cap,rest,h1,h2,h3,_,h5,h6⟩:=hS.vecOpen hk hn;exact .inr ⟨g,cap,rest,h1,h2,h3,h5,h6⟩
  ·obtain ⟨g,hs,hg⟩:=hS;obtain ⟨h1,h2,hp,⟨hl,ha⟩,hset,_⟩:=hs.at_ hk;rcases ha with ⟨hv,h0,_⟩ | ⟨b,cap,rest,rfl,rfl,h3,h4,h5⟩
   ·exact .inl ⟨hv,h0⟩
   ·obtain ⟨h',hs',hp'⟩:=hset (blk b (xs ++ rest) E) _ rfl;exact .inr ⟨b,cap,rest,rfl,h3,h4,h5,h',hs',hg.perm (hp.trans hp'.symm)⟩
 rcases hcase with ⟨rfl,rfl⟩ | ⟨g,cap,rest,rfl,hnc,hcm,hcs,hSo⟩
 ·have hx:xs=[]:=Yl (by simpa using hxl);subst hx;have hr:=run_append_nil (P:=P) w t ty E i z ht hi hz p m c news hl hnews hm (by omega) (by have hb:=hbytes; simp only [Yd] at hb; omega);have hgr:=grown 0;simp only [Yd,Ye,Y4n] at hgr ⊢
  exact ⟨_,_,hr,hgr⟩
 ·have hlk:k<As.length:=(Y5.1 hk).1;have hko:(As.set k (blk g (xs ++ rest) E))[k]?=some (blk g (xs ++ rest) E):=by simp [hlk]
  have hblk:=hSo.block hko
  by_cases hroom:n+m≤cap
  ·have hfit:n*i.size+news.length≤(xs ++ rest).toArray.size:=by
    simp only [Y3z,Y0]
    rw [hcs,hl,← Nat.add_mul];exact Y46 _ hroom
   have hr:=run_append_room (P:=P) w t ty E i ht hi g n cap (xs ++ rest).toArray hblk p m c news hl hnews h1 hroom hfit;have e2:((xs ++ rest).take (n*i.size) ++ news ++ (xs ++ rest).drop (n*i.size+news.length)).toArray=((xs ++ news) ++ rest.drop news.length).toArray:=by
    rw [← hxl,Y30,Y51,Y17 (by omega:xs.length≤xs.length+news.length)]
    simp
   rw [e2] at hr;refine ⟨_,_,hr,?_⟩;have hw:=hSo.write (w':=w.setRow g ((xs ++ news) ++ rest.drop news.length).toArray) (o':=Xi ((xs ++ news) ++ rest.drop news.length) E) hko rfl rfl rfl (setRow_heap w g _ _ E _ hblk) (fun x hx=>setRow_other w g x _ hx);have hsh:=hw.vecShut (k:=k) (g:=g) (E:=E) (n:=n+m) (size:=i.size) (cap:=cap) (xs:=xs ++ news) (rest:=rest.drop news.length) (by simp [hlk,blk]) hroom hcm hlen (by
    have h7:news.length≤rest.length:=by
     have h8:n*i.size+news.length≤(xs ++ rest).length:=hfit;rw [Y0] at h8; omega
    rw [Y0,Yp,← hcs]; omega)
   simpa using hsh
  ·have holds:∀ j u,xs[j]?=some u→w.cell? ((⟨g,0,none⟩:Addr).add j)=some u:=by
    intro j u hu;have hj:j<xs.length:=(Y5.1 hu).1;rw [Addr.add_lit,Yd];have h9:w.heap[g]?=some (.cells (xs ++ rest).toArray E (0,0)):=hblk;simp only [World.cell?,h9,Option.isSome_none,Bool.false_eq_true,if_false]
    simp [hj] at hu ⊢
    simp [Y2l,hj,hu]
   have hr:=run_append_grow (P:=P) w t ty E i z ht hi hz ⟨g,0,none⟩ n cap xs hxl holds p m c news hl hnews (by omega) (by omega) (growslice_fits (by omega) hbytes);exact ⟨_,_,hr,grown cap⟩
end
end Gk
namespace Gk
open Go
def Ret (Q:Value→World→Prop):Ending→World→Prop:=fun e w=>∃ v,e=.returned v∧Q v w
def At (I:Im) (p:Addr) (vs:List Value):Prop:=p.spot=none∧∃ arr E fr,I p.block=some (.cells arr E fr)∧∀ j v,vs[j]?=some v→arr[p.off+j]?=some v
theorem At.mono {I J:Im} {p:Addr} {vs:List Value} (h:At I p vs) (hl:Le I J):At J p vs:=by
 obtain ⟨hs,arr,E,fr,hi,hv⟩:=h;exact ⟨hs,arr,E,fr,hl _ _ hi,hv⟩
def RS (I:Im) (a:Option Addr) (size n:Nat) (xs:List Value):Prop:=xs.length=n*size∧(0<n→∃ p,a=some p∧At I p xs)
theorem RS.mono {I J:Im} {a:Option Addr} {size n:Nat} {xs:List Value} (h:RS I a size n xs) (hl:Le I J):RS J a size n xs :=
 ⟨h.1,fun hn=>let ⟨p,e,ha⟩:=h.2 hn; ⟨p,e,ha.mono hl⟩⟩
theorem RS.nil (I:Im) (size:Nat):RS I none size 0 []:=⟨by simp,fun h=>absurd h (by omega)⟩
abbrev ad (b o:Nat):Addr:=⟨b,o,none⟩
theorem X13 (b o i:Nat):(ad b o).add i=ad b (o+i):=by
 unfold Addr.add;split
 ·simp_all
 ·rfl
def Xly (cs:List Value) (off:Nat) (l:List Value):List Value:=cs.take off ++ l ++ cs.drop (off+l.length)
def Xk7 (pl:Nat→Option (Nat×Nat)):List Value→List (Nat×Value)→Option (List Value)
 | cs,[]=>some cs
 | cs,(i,v)::rest=>match pl i with
  | none=>none
  | some (off,size)=>bif Nat.beq v.cells.toList.length size && Nat.ble (off+size) cs.length then Xk7 pl (Xly cs off v.cells.toList) rest else none
theorem Xeq:∀ (l:List Value) (cs:List Value) (off k:Nat),off+k+l.length≤cs.length →
  (l.zipIdx k).foldl (fun (cs:Array Value) (p:Value×Nat)=>cs.setIfInBounds (off+p.2) p.1) cs.toArray=(Xly cs (off+k) l).toArray
 | [],cs,off,k,_=>by simp [Xly]
 | v::l,cs,off,k,h=>by
  rw [List.zipIdx_cons,List.foldl_cons];have e:cs.toArray.setIfInBounds (off+k) v=(cs.set (off+k) v).toArray:=by simp
  have ih:=Xeq l (cs.set (off+k) v) off (k+1) (by simp at h ⊢; omega);simp only at ih ⊢
  rw [e,ih]
  congr 1
  unfold Xly;have h9:=list_seg_step cs (off+k) v l (by simp at h; omega);simpa [Y3j] using h9
theorem X7r {pl:Nat→Option (Nat×Nat)}:∀ {vs:List (Nat×Value)} {cs ds:List Value},Xk7 pl cs vs=some ds→Instr.fill pl cs.toArray vs=some ds.toArray
 | [],cs,ds,h=>by simp [Xk7] at h; simp [Instr.fill,h]
 | (i,v)::rest,cs,ds,h=>by
  unfold Xk7 at h;unfold Instr.fill;split at h
  ·cases h
  ·rename_i off size hp
   rw [hp];simp only
   by_cases hc:(Nat.beq v.cells.toList.length size && Nat.ble (off+size) cs.length)=true
   ·rw [hc,cond_true] at h;simp only [Yq] at hc
    have h1:v.cells.size=size:=by have:=Nat.eq_of_beq_eq_true hc.1; simpa using this
    have h2:off+size≤cs.length:=Y22 hc.2;have e:=Xeq v.cells.toList cs off 0 (by simp [h1]; omega);have hz:(v.cells.zipIdx.foldl (fun cs (x:Value×Nat)=>cs.setIfInBounds (off+x.2) x.1) cs.toArray)=(Xly cs off v.cells.toList).toArray:=by
     rw [← Array.foldl_toList,Array.toList_zipIdx];simpa using e
    rw [if_neg (by simp [h1]; omega)];rw [hz];exact X7r h
   ·have hc':(Nat.beq v.cells.toList.length size && Nat.ble (off+size) cs.length)=false:=Y4t.2 hc;rw [hc',cond_false] at h;cases h
theorem zerosL (z:Value) (s:Nat) (hz:z.cells.size=s):∀ len,(Array.range (len*s)).map (z.cells[· % z.cells.size]!)=((List.replicate len z.cells.toList).flatten).toArray:=by
 intro len
 apply Array.ext'
 simp only [Array.toList_map,Array.toList_range]
 induction len with
 | zero=>simp
 | succ k ih =>
  rw [List.replicate_succ',Y2r,Y36,List.range_add,Yv,ih];simp only [Y1v,List.flatten_nil,Y9]
  congr 1
  apply Y26
  intro j
  by_cases hj:j<s
  ·have:(k*s+j) % s=j:=by rw [Y4o,Nat.add_mul_mod_self_right,Nat.mod_eq_of_lt hj]
   have h3:j<z.cells.size:=by omega
   simp [hj,hz,this,h3]
  ·simp [hj,hz]
section
variable {P:Program} {n:Nat} {K:X36} {L:Env} {w w':World} {ops:Array Oper} {rest:List Oper}
variable {B:World} {I:Im} {As:List X7} {k:Nat} {d:Nat} {ty:TypeId} {pos:String} {af:Array Edge} {g:Option (Nat×Bool)} {t e:TypeId} {x y:Operand}
theorem X5o {α:Type} (o:Obj) (f:Nat→Sem α):(Sem.new o f).run P w=(f w.heap.size).run P (w.alloc o):=rfl
theorem Xy {b:Nat} {cs:List Value} {E:TypeId} (hb:w.heap[b]?=some (Xi cs E)) {o:Nat} {v:Value} (hv:cs[o]?=some v):w.cell? (ad b o)=some v:=by
 unfold Xi at hb;simp [World.cell?,hb,hv]
theorem Xj9 {b:Nat} {cs:List Value} {E:TypeId} (hb:w.heap[b]?=some (Xi cs E)) (o:Nat):w.frozen? (ad b o)=false:=by
 unfold Xi at hb;simp [World.frozen?,hb]
theorem X2c {p:Addr} {vs:List Value} (hS:Sat B w I As) (ha:At I p vs) {j:Nat} {v:Value} (hv:vs[j]?=some v):w.cell? (p.add j)=some v:=by
 obtain ⟨hs,arr,E,fr,hi,h⟩:=ha;obtain ⟨h',_,hg⟩:=hS;have hb:=hg.imm _ _ hi;have hj:=h j v hv;obtain ⟨pb,po,ps⟩:=p;simp only at hs hi hb hj
 subst hs;have e:(⟨pb,po,none⟩:Addr).add j=⟨pb,po+j,none⟩:=X13 pb po j;rw [e];simp [World.cell?,hb,hj]
theorem Ex.ld {d:Option Nat} {b o:Nat} {cs:List Value} {E:TypeId} {v:Value} (hx:Ev n L x (ptr b o)) (hS:Sat B w I As) (hk:As[k]?=some (blk b cs E)) (ht:∀ w,(isAgg t).run P w=.ok false w) (hv:cs[o]?=some v) :
  Ex P n L w ⟨d,.load t x,ty,pos,af,g⟩ v w:=fun a ha=>by
 have h:=Xy (hS.block hk) hv;simp [execOp,hx a ha,Instr.loadAt,Instr.sureAddr,loadVar,ht,load,Sem.run,h]
theorem Ex.lds {d:Option Nat} {b o s:Nat} {cs vs:List Value} {E:TypeId} (hx:Ev n L x (ptr b o)) (hS:Sat B w I As) (hk:As[k]?=some (blk b cs E)) (ht:∀ w,(isAgg t).run P w=.ok true w) (hs:∀ w,(Go.sizeOf t).run P w=.ok s w)
  (hl:vs.length=s) (hv:∀ (j:Nat) (v:Value),vs[j]?=some v→cs[o+j]?=some v):Ex P n L w ⟨d,.load t x,ty,pos,af,g⟩ (.agg vs.toArray) w:=fun a ha=>by
 have hb:=hS.block hk;have h:=run_loadCells_list (P:=P) w (ad b o) vs (fun j v hj=>by rw [X13]; exact Xy hb (hv j v hj));rw [hl] at h;simp [execOp,hx a ha,Instr.loadAt,Instr.sureAddr,loadVar,ht,hs,h]
theorem Ex.ldI {d:Option Nat} {p:Addr} {vs:List Value} {v:Value} (hx:Ev n L x (.pointer (some p))) (hS:Sat B w I As) (ha:At I p vs) (ht:∀ w,(isAgg t).run P w=.ok false w) (hv:vs[0]?=some v) :
  Ex P n L w ⟨d,.load t x,ty,pos,af,g⟩ v w:=fun a hh=>by
 have h:=X2c hS ha hv;rw [show p.add 0=p from rfl] at h;simp [execOp,hx a hh,Instr.loadAt,Instr.sureAddr,loadVar,ht,load,Sem.run,h]
theorem Ex.ldsI {d:Option Nat} {p:Addr} {s:Nat} {vs us:List Value} (hx:Ev n L x (.pointer (some p))) (hS:Sat B w I As) (ha:At I p vs) (ht:∀ w,(isAgg t).run P w=.ok true w) (hs:∀ w,(Go.sizeOf t).run P w=.ok s w)
  (hl:us.length=s) (hv:∀ (j:Nat) (v:Value),us[j]?=some v→vs[j]?=some v):Ex P n L w ⟨d,.load t x,ty,pos,af,g⟩ (.agg us.toArray) w:=fun a hh=>by
 have h:=run_loadCells_list (P:=P) w p us (fun j v hj=>X2c hS ha (hv j v hj));rw [hl] at h;simp [execOp,hx a hh,Instr.loadAt,Instr.sureAddr,loadVar,ht,hs,h]
theorem Ex.fieldAddr {d:Option Nat} {b o f:Nat} {fs:Array Field} {fd:Field} {s:Nat} (off:Nat) (hx:Ev n L x (ptr b o)) (ht:P.underlying t=some (.struct fs)) (hf:fs[f]?=some fd) (ho:fd.offset=off) (hs:∀ w,(Go.sizeOf fd.type).run P w=.ok s w) (h0:Nat.beq s 0=false) :
  Ex P n L w ⟨d,.fieldAddr t x f,ty,pos,af,g⟩ (ptr b (o+off)) w:=fun a ha=>by
 subst ho;have h0':s≠0:=fun e=>by rw [e] at h0; cases h0
 have h1:=X13 b o fd.offset;simp [execOp,hx a ha,Instr.fieldAt,run_underlying ht,hf,Instr.sureAddr,fieldPlace,hs,h0',h1]
theorem Ex.fieldAddrI {d:Option Nat} {p:Addr} {f:Nat} {fs:Array Field} {fd:Field} {s:Nat} (off:Nat) (hx:Ev n L x (.pointer (some p))) (ht:P.underlying t=some (.struct fs)) (hf:fs[f]?=some fd) (ho:fd.offset=off) (hs:∀ w,(Go.sizeOf fd.type).run P w=.ok s w) (h0:Nat.beq s 0=false) :
  Ex P n L w ⟨d,.fieldAddr t x f,ty,pos,af,g⟩ (.pointer (some (p.add off))) w:=fun a ha=>by
 subst ho;have h0':s≠0:=fun e=>by rw [e] at h0; cases h0
 simp [execOp,hx a ha,Instr.fieldAt,run_underlying ht,hf,Instr.sureAddr,fieldPlace,hs,h0']
theorem At.add {p:Addr} {vs:List Value} (h:At I p vs) (i:Nat):At I (p.add i) (vs.drop i):=by
 obtain ⟨hs,arr,E,fr,hi,hv⟩:=h;obtain ⟨pb,po,ps⟩:=p;simp only at hs hi hv
 subst hs;have e:(⟨pb,po,none⟩:Addr).add i=⟨pb,po+i,none⟩:=X13 pb po i;rw [e];exact ⟨rfl,arr,E,fr,hi,fun j v hj=>by rw [show po+i+j=po+(i+j) by omega]; exact hv (i+j) v (by simpa using hj)⟩
theorem Ex.indexAddr {d:Option Nat} {b o len cap s:Nat} {i:Int} (hx:Ev n L x (.slice (some (ad b o)) len cap)) (hy:Ev n L y (I64 i)) (hi:0≤i) (hl:i<len) (ht:P.underlying t=some (.slice e)) (hs:∀ w,(Go.sizeOf e).run P w=.ok s w) :
  Ex P n L w ⟨d,.indexAddr t x y,ty,pos,af,g⟩ (ptr b (o+i.toNat*s)) w:=fun a ha=>by
 have h:=run_indexAt_slice (P:=P) w t (ad b o) len cap .i64 i (by rw [X4d ht]; exact ht);rw [if_pos ⟨hi,hl⟩,X4d ht,hs] at h;simp only [Result.andThen_ok,X13] at h
 simp [execOp,hx a ha,hy a ha,h]
theorem Ex.indexAddrI {d:Option Nat} {p:Addr} {len cap s:Nat} {i:Int} (hx:Ev n L x (.slice (some p) len cap)) (hy:Ev n L y (I64 i)) (hi:0≤i) (hl:i<len) (ht:P.underlying t=some (.slice e)) (hs:∀ w,(Go.sizeOf e).run P w=.ok s w) :
  Ex P n L w ⟨d,.indexAddr t x y,ty,pos,af,g⟩ (.pointer (some (p.add (i.toNat*s)))) w:=fun a ha=>by
 have h:=run_indexAt_slice (P:=P) w t p len cap .i64 i (by rw [X4d ht]; exact ht);rw [if_pos ⟨hi,hl⟩,X4d ht,hs] at h;simp [execOp,hx a ha,hy a ha,h,Result.andThen]
theorem WL.box1 {E:TypeId} {v:Value} (hS:Sat B w I As) (hx:Ev n L x v) (h1:v.oneCell'=true) (hd:Nat.blt d n=true)
  (h:∀ b w',Sat B w' I (blk b [v] E::As)→WL P n ops K rest ((d,ptr b 0)::L) w'):WL P n ops K (⟨some d,.box E x,ty,pos,af,none⟩::rest) L w:=by
 refine WL.val (v:=ptr w.heap.size 0) (w':=w.alloc (Xi [v] E)) (fun a ha=>?_) hd (h _ _ (hS.alloc _));have hc:v.cells=#[v]:=by cases v <;> first | rfl | cases h1
 simp [execOp,hx a ha,Instr.box,newVar,newRow,newObj,X5o,hc,Xi]
theorem WL.boxA {E:TypeId} {cs:List Value} (hS:Sat B w I As) (hx:Ev n L x (.agg cs.toArray)) (hd:Nat.blt d n=true)
  (h:∀ b w',Sat B w' I (blk b cs E::As)→WL P n ops K rest ((d,ptr b 0)::L) w'):WL P n ops K (⟨some d,.box E x,ty,pos,af,none⟩::rest) L w:=by
 refine WL.val (v:=ptr w.heap.size 0) (w':=w.alloc (Xi cs E)) (fun a ha=>?_) hd (h _ _ (hS.alloc _));simp [execOp,hx a ha,Instr.box,newVar,newRow,newObj,X5o,Value.cells,Xi]
theorem WL.alloc1 {E:TypeId} {v:Value} (hS:Sat B w I As) (hz:∀ w,(zeroValue E).run P w=.ok v w) (h1:v.oneCell'=true) (hd:Nat.blt d n=true)
  (h:∀ b w',Sat B w' I (blk b [v] E::As)→WL P n ops K rest ((d,ptr b 0)::L) w'):WL P n ops K (⟨some d,.alloc E,ty,pos,af,none⟩::rest) L w:=by
 refine WL.val (v:=ptr w.heap.size 0) (w':=w.alloc (Xi [v] E)) (fun a ha=>?_) hd (h _ _ (hS.alloc _));have hc:v.cells=#[v]:=by cases v <;> first | rfl | cases h1
 simp [execOp,Instr.alloc,hz,newVar,newRow,newObj,X5o,hc,Xi]
theorem WL.allocA {E:TypeId} {cs:List Value} (hS:Sat B w I As) (hz:∀ w,(zeroValue E).run P w=.ok (.agg cs.toArray) w) (hd:Nat.blt d n=true)
  (h:∀ b w',Sat B w' I (blk b cs E::As)→WL P n ops K rest ((d,ptr b 0)::L) w'):WL P n ops K (⟨some d,.alloc E,ty,pos,af,none⟩::rest) L w:=by
 refine WL.val (v:=ptr w.heap.size 0) (w':=w.alloc (Xi cs E)) (fun a ha=>?_) hd (h _ _ (hS.alloc _));simp [execOp,Instr.alloc,hz,newVar,newRow,newObj,X5o,Value.cells,Xi]
theorem WL.buildSlice {len s:Nat} {parts:Array (Nat×Operand)} {vs:List (Nat×Value)} {z:Value} {cs:List Value} (hS:Sat B w I As) (hp:∀ a,Holds n L a→parts.toList.map (fun p=>(p.1,a.eval p.2))=vs)
  (ht:P.underlying t=some (.slice e)) (hs:∀ w,(Go.sizeOf e).run P w=.ok s w) (hz:∀ w,(zeroValue e).run P w=.ok z w) (h24:Nat.ble (len*s) 16777216=true) (hzs:z.cells.size=s)
  (hf:Xk7 (fun i=>some (i*s,s)) ((List.replicate len z.cells.toList).flatten) vs=some cs) (hd:Nat.blt d n=true)
  (h:∀ b w',Sat B w' I (blk b cs e::As)→WL P n ops K rest ((d,.slice (some (ad b 0)) len len)::L) w'):WL P n ops K (⟨some d,.buildSlice t len parts,ty,pos,af,none⟩::rest) L w:=by
 refine WL.val (v:=.slice (some (ad w.heap.size 0)) len len) (w':=w.alloc (Xi cs e)) (fun a ha=>?_) hd (h _ _ (hS.alloc _));have h24':¬ (16777216<len*s):=by have:=Y22 h24; omega
 have hv:=hp a ha;have hf:=X7r hf;rw [← zerosL z s hzs] at hf
 by_cases h0:len*s=0
 ·have hr:(Array.range (len*s)).map (z.cells[· % z.cells.size]!)=#[]:=by simp [h0]
  rw [hr] at hf;simp [execOp,Instr.buildSlice,run_underlying ht,hs,h0,newRow,newObj,X5o,Array.range_zero',hv,hf,Xi]
 ·simp [execOp,Instr.buildSlice,run_underlying ht,hs,h24',h0,hz,newRow,newObj,X5o,hv,hf,Xi]
theorem X4:∀ a:Act,Holds n L a→(#[]:Array (Nat×Operand)).toList.map (fun p=>(p.1,a.eval p.2))=[]:=fun _ _=>rfl
theorem Xjg {i:Nat} {v:Value} {ps:List (Nat×Operand)} {vs:List (Nat×Value)} (hx:Ev n L x v) (h:∀ a,Holds n L a→ps.toArray.toList.map (fun p=>(p.1,a.eval p.2))=vs) :
  ∀ a,Holds n L a→((i,x)::ps).toArray.toList.map (fun p=>(p.1,a.eval p.2))=(i,v)::vs:=fun a ha=>by
 have:=h a ha
 simp only [Y1d] at this ⊢
 rw [hx a ha,this]
def Bld (P:Program) (t:TypeId) (pl:List (Nat×Nat)) (zs:List Value):Prop:=∀ (parts:Array (Nat×Value)) (cs:Array Value) (w:World),Instr.fill (fun i:Nat=>pl[i]?) zs.toArray parts.toList=some cs→(Instr.build t parts).run P w=.ok (.agg cs) w
theorem Ex.build {d:Option Nat} {parts:Array (Nat×Operand)} {vs:List (Nat×Value)} {pl:List (Nat×Nat)} {zs cs:List Value} (hp:∀ a,Holds n L a→parts.toList.map (fun p=>(p.1,a.eval p.2))=vs) (hb:Bld P t pl zs)
  (hf:Xk7 (fun i:Nat=>pl[i]?) zs vs=some cs):Ex P n L w ⟨d,.build t parts,ty,pos,af,g⟩ (.agg cs.toArray) w:=fun a ha=>by
 have hr:=hb (parts.map fun (i,x)=>(i,a.eval x)) cs.toArray w (by rw [Array.toList_map,hp a ha]; exact X7r hf);simp only [execOp,hr,Sem.run_bind,Result.andThen_ok,Sem.run_pure]
theorem X2n {fs:Array Field} {z:Value} {pl:List (Nat×Nat)} (ht:P.underlying t=some (.struct fs)) (hz:∀ w,(zeroValue t).run P w=.ok z w) (hm:∀ w,((fs.mapM fun f=>do pure (f.offset,← Go.sizeOf f.type)):Sem (Array (Nat×Nat))).run P w=.ok pl.toArray w):Bld P t pl z.cells.toList:=by
 intro parts cs w hf;have e:(fun i:Nat=>pl.toArray[i]?)=(fun i:Nat=>pl[i]?):=by funext i; simp
 simp only [Array.toArray_toList] at hf
 rw [← e] at hf;simp only [Instr.build,Sem.run_bind,hz,run_underlying ht,Result.andThen_ok,hm,hf,Sem.run_pure]
theorem WL.st1 {b o:Nat} {cs:List Value} {E:TypeId} {v:Value} (hS:Sat B w I As) (hk:As[k]?=some (blk b cs E)) (hx:Ev n L x (ptr b o)) (hy:Ev n L y v) (h1:v.oneCell'=true) (hs:∀ w,(Go.sizeOf t).run P w=.ok 1 w) (ho:o<cs.length)
  (h:∀ w',Sat B w' I (As.set k (blk b (cs.set o v) E))→WL P n ops K rest L w'):WL P n ops K (⟨none,.store t x y,ty,pos,af,none⟩::rest) L w:=by
 have hb:=hS.block hk;have hcell:=Xy hb (Y4 ho);have hfro:=Xj9 hb o;have hc:v.cells=#[v]:=by cases v <;> first | rfl | cases h1
 have hlt:b<w.heap.size:=(Y1c.1 hb).1;have hst:=run_store P w (ad b o) v .plain h1;rw [hcell] at hst;simp only [hfro] at hst
 have hset:=setCell_eq_setRow w b o _ _ (0,0) v hb;refine WL.st (w':=w.setCell (ad b o) v) (fun a ha=>?_) (h _ (hS.write (o':=Xi (cs.set o v) E) hk rfl rfl rfl ?_ fun c hc=>?_))
 ·have e0:(ad b o).add 0=ad b o:=rfl;simp [execOp,hx a ha,hy a ha,Instr.storeAt,Instr.sureAddr,storeVar,hs,hc,storeCells,e0,hst]
 ·rw [hset,setRow_heap w b _ _ _ _ hb];simp [Xi]
 ·rw [hset,setRow_other w b c _ hc]
theorem WL.stA {b o s:Nat} {cs vs:List Value} {E:TypeId} (hS:Sat B w I As) (hk:As[k]?=some (blk b cs E)) (hx:Ev n L x (ptr b o)) (hy:Ev n L y (.agg vs.toArray)) (h1:vs.all Value.oneCell'=true) (hs:∀ w,(Go.sizeOf t).run P w=.ok s w) (hl:vs.length=s) (ho:o+s≤cs.length)
  (h:∀ w',Sat B w' I (As.set k (blk b (cs.take o ++ vs ++ cs.drop (o+s)) E))→WL P n ops K rest L w'):WL P n ops K (⟨none,.store t x y,ty,pos,af,none⟩::rest) L w:=by
 subst hl;have hb:=hS.block hk;have hst:=run_storeCells_at P b o E vs 0 cs.toArray w hb (by simpa using ho) (Y1b.1 h1);simp only [Y2c] at hst
 refine WL.st (w':=w.setRow b (cs.take o ++ vs ++ cs.drop (o+vs.length)).toArray) (fun a ha=>?_) (h _ (hS.write (o':=Xi _ E) hk rfl rfl rfl (setRow_heap w b _ _ E _ hb) fun c hc=>setRow_other w b c _ hc));simp [execOp,hx a ha,hy a ha,Instr.storeAt,Instr.sureAddr,storeVar,hs,Value.cells,hst]
theorem WL.append {E size m c nn b:Nat} {v:Value} {xs news:List Value} {i:TypeInfo} {z:Value} {bytes:Nat} {E':TypeId} (hS:Sat B w I (blk b news E'::As)) (hx:Ev n L x v) (hy:Ev n L y (.slice (some (ad b 0)) m c))
  (hk:As[k]?=some (Vec E size v nn xs)) (ht:P.underlying t=some (.slice E)) (hi:P.info? E=some i) (hz:i.zero=some z) (hsize:i.size=size) (hby:i.bytes=bytes) (hzs:z.cells.size=size)
  (hl:news.length=m*size) (hm:Nat.blt 0 m=true) (h1:news.all Value.oneCell'=true) (h63:(nn+m)*bytes≤140737488355328∧nn+m≤maxLen) (hd:Nat.blt d n=true)
  (h:∀ v' w',Sat B w' I (As.set k (Vec E size v' (nn+m) (xs ++ news)))→WL P n ops K rest ((d,v')::L) w') :
  WL P n ops K (⟨some d,.call ⟨.builtin .append,#[x,y],#[t,t]⟩,ty,pos,af,none⟩::rest) L w:=by
 have hb:=hS.block (k:=0) rfl;obtain ⟨v',w',hr,hS'⟩:=X2h (P:=P) (ty:=ty) (k:=k+1) hS ht hi hz hsize hby hzs hk (p:=ad b 0) (m:=m) (c:=c) hl (Y22 hm) (fun j u hu=>by rw [X13,Yd]; exact Xy hb hu) (Y1b.1 h1) h63.2 h63.1
 have hS2:=hS'.drop (k:=0) (A:=blk b news E') (by simp);simp only [Y3f,List.eraseIdx_cons_zero] at hS2
 refine WL.val (v:=v') (w':=w') (fun a ha=>?_) hd (h _ _ hS2);simp [execOp,resolve,invoke,builtin,hx a ha,hy a ha,hr]
theorem WL.make {l:Nat} {i:TypeInfo} {z:Value} {y:Operand} (hS:Sat B w I As) (hx:Ev n L x (I64 l)) (hy:Ev n L y (I64 l)) (ht:P.underlying t=some (.slice e)) (hi:P.info? e=some i) (hz:i.zero=some z) (hb:(i.bytes:Int)*l≤281474976710656) (hl:(l:Int)≤9223372036854775807)
  (hone:z.cells=#[z]) (hs:i.size=1) (hd:Nat.blt d n=true)
  (h:∀ b w',Sat B w' I (blk b (List.replicate l z) e::As)→WL P n ops K rest ((d,.slice (some (ad b 0)) l l)::L) w'):WL P n ops K (⟨some d,.makeSlice t x y,ty,pos,af,none⟩::rest) L w:=by
 have hr:=run_make (P:=P) w t e i z ht hi hz .i64 .i64 l l (by omega) (by omega) hb hl;have hm:madeCells z.cells ((l:Int).toNat*i.size)=(List.replicate l z).toArray:=by
  rw [hone,hs]
  apply Array.ext'
  simp [madeCells]
  apply Y26
  intro j
  by_cases hj:j<l <;> simp [hj,Nat.mod_one]
 rw [hm] at hr;refine WL.val (v:=.slice (some (ad w.heap.size 0)) l l) (w':=w.alloc (Xi (List.replicate l z) e)) (fun a ha=>?_) hd (h _ _ (hS.alloc _));simp only [Ym] at hr
 simp [execOp,hx a ha,hy a ha,hr,Xi]
theorem Ex.slcTo {d:Option Nat} {a0:Option Addr} {len cap s:Nat} {hi:Int} {z:Operand} (hx:Ev n L x (.slice a0 len cap)) (hz:Ev n L z (I64 hi)) (h1:0≤hi) (h2:hi≤cap) (ht:P.underlying t=some (.slice e)) (hs:∀ w,(Go.sizeOf e).run P w=.ok s w) :
  Ex P n L w ⟨d,.slice t x none (some z) none,ty,pos,af,g⟩ (sliced a0 0 hi.toNat cap s) w:=fun a ha=>by
 have hT:P.underlying t=some (.slice (P.elem t)):=by rw [X4d ht]; exact ht
 have h:=run_slice_h (P:=P) w t a0 len cap hT .i64 hi h1 h2;rw [X4d ht,hs] at h;simp [execOp,hx a ha,hz a ha,run_sliceAt_slice w t _ _ _ _ hT,h,Result.andThen]
theorem Ex.slcFrom {d:Option Nat} {a0:Option Addr} {len cap s:Nat} {lo:Int} (hx:Ev n L x (.slice a0 len cap)) (hy:Ev n L y (I64 lo)) (h0:0≤lo) (h1:lo≤len) (ht:P.underlying t=some (.slice e)) (hs:∀ w,(Go.sizeOf e).run P w=.ok s w) :
  Ex P n L w ⟨d,.slice t x (some y) none none,ty,pos,af,g⟩ (sliced a0 lo.toNat len cap s) w:=fun a ha=>by
 have hT:P.underlying t=some (.slice (P.elem t)):=by rw [X4d ht]; exact ht
 have h:=run_slice_l (P:=P) w t a0 len cap hT .i64 lo h0 h1;rw [X4d ht,hs] at h;simp [execOp,hx a ha,hy a ha,run_sliceAt_slice w t _ _ _ _ hT,h,Result.andThen]
def Xh (fn : Func) : Bool := fn.name != "runtime.NumGoroutine" && fn.body.isSome
theorem WL.call {f:FuncId} {fn:Func} {xs:List Operand} {ts:Array TypeId} {vs:List Value} {Q:Value→World→Prop} (hf:P.funcs[f]?=some fn) (hc:Xh fn=true) (hx:∀ a,Holds n L a→xs.map a.eval=vs) (hd:Nat.blt d n=true)
  (hcall:Calls P f vs.toArray w (Ret Q)) (h:∀ v w',Q v w'→WL P n ops K rest ((d,v)::L) w'):WL P n ops K (⟨some d,.call ⟨.value (.func f),xs.toArray,ts⟩,ty,pos,af,none⟩::rest) L w:=by
 intro a ha;refine wpList_plain rfl fun K' hK=>?_
 have he:(execOp a.eval (⟨some d,.call ⟨.value (.func f),xs.toArray,ts⟩,ty,pos,af,none⟩:Oper)).run P w=.ok (.enter f vs.toArray) w:=by
  unfold Xh at hc;simp only [Yq] at hc
  obtain ⟨h1,h2⟩:=hc;have h1' : ¬ fn.name = "runtime.NumGoroutine" := by simpa using h1
  have h2':¬ fn.body=none:=by intro e; rw [e] at h2; cases h2
  have hv:=hx a ha;simp [execOp,resolve,Act.eval,Deferred.ofValue,invoke,callFunc,program,Sem.run,hf,h1',h2',← hv]
 unfold Oper.wp;rw [he];refine hcall.mono fun e w'' hq=>?_
 obtain ⟨v,rfl,hv⟩:=hq;exact hK _ _ (h v w'' hv _ (ha.put hd v))
theorem X0:∀ a:Act,Holds n L a→([]:List Operand).map a.eval=[]:=fun _ _=>rfl
theorem X6 {xs:List Operand} {v:Value} {vs:List Value} (hx:Ev n L x v) (h:∀ a,Holds n L a→xs.map a.eval=vs):∀ a,Holds n L a→(x::xs).map a.eval=v::vs:=fun a ha=>by
 rw [Y1d,hx a ha,h a ha]
end
end Gk
namespace Gk
open Go
section
variable {P:Program} {n:Nat} {K:X36} {L:Env} {w w':World} {ops:Array Oper} {rest:List Oper}
variable {B:World} {I:Im} {As:List X7} {k:Nat} {ty:TypeId} {pos:String} {af:Array Edge} {g:Option (Nat×Bool)} {t e:TypeId} {x y:Operand}
theorem Ex.mo {d:Option Nat} {x:Operand} {v:Value} (hx:ev L x=some v):Ex P n L w ⟨d,.move x,ty,pos,af,g⟩ v w:=Ex.move (hx:=.of hx)
theorem Ex.ao {d:Option Nat} {x:Operand} {v:Value} (hx:ev L x=some v):Ex P n L w ⟨d,.assign x,ty,pos,af,g⟩ v w:=Ex.assign (hx:=.of hx)
theorem Ex.po {d:Option Nat} {c x y:Operand} {b r:Bool} (hc:ev L c=some (.bool b)) (hx:ev L x=some (.bool true)) (hy:ev L y=some (Gk.gd b false (.bool r))):Ex P n L w ⟨d,.pick c x y,ty,pos,af,g⟩ (.bool (b || r)) w:=Ex.por (hc:=.of hc) (hx:=.of hx) (hy:=.of hy)
theorem Ex.pa {d:Option Nat} {c x y:Operand} {b r:Bool} (hc:ev L c=some (.bool b)) (hx:ev L x=some (Gk.gd b true (.bool r))) (hy:ev L y=some (.bool false)):Ex P n L w ⟨d,.pick c x y,ty,pos,af,g⟩ (.bool (b && r)) w:=Ex.pand (hc:=.of hc) (hx:=.of hx) (hy:=.of hy)
theorem Ex.no {d:Option Nat} {x:Operand} {p:Addr} (hx:ev L x=some (.pointer (some p))):Ex P n L w ⟨d,.nilCheck x,ty,pos,af,g⟩ (.pointer (some p)) w:=Ex.nilCheck (hx:=.of hx)
theorem Ex.fo {d:Option Nat} {b o f:Nat} {fs:Array Field} {fd:Field} {s:Nat} (off:Nat) (hx:ev L x=some (ptr b o)) (ht:P.underlying t=some (.struct fs)) (hf:fs[f]?=some fd) (ho:fd.offset=off) (hs:∀ w,(Go.sizeOf fd.type).run P w=.ok s w) (h0:Nat.beq s 0=false) :
    Ex P n L w ⟨d,.fieldAddr t x f,ty,pos,af,g⟩ (ptr b (o+off)) w:=Ex.fieldAddr (off:=off) (hx:=.of hx) (ht:=ht) (hf:=hf) (ho:=ho) (hs:=hs) (h0:=h0)
theorem Ex.fi {d:Option Nat} {p:Addr} {f:Nat} {fs:Array Field} {fd:Field} {s:Nat} (off:Nat) (hx:ev L x=some (.pointer (some p))) (ht:P.underlying t=some (.struct fs)) (hf:fs[f]?=some fd) (ho:fd.offset=off) (hs:∀ w,(Go.sizeOf fd.type).run P w=.ok s w) (h0:Nat.beq s 0=false) :
    Ex P n L w ⟨d,.fieldAddr t x f,ty,pos,af,g⟩ (.pointer (some (p.add off))) w:=Ex.fieldAddrI (off:=off) (hx:=.of hx) (ht:=ht) (hf:=hf) (ho:=ho) (hs:=hs) (h0:=h0)
theorem Ex.lo {d:Option Nat} {b o:Nat} {cs:List Value} {E:TypeId} {v:Value} (hx:ev L x=some (ptr b o)) (hS:Sat B w I As) (hk:As[k]?=some (blk b cs E)) (ht:∀ w,(isAgg t).run P w=.ok false w) (hv:cs[o]?=some v) :
    Ex P n L w ⟨d,.load t x,ty,pos,af,g⟩ v w:=Ex.ld (hx:=.of hx) (hS:=hS) (hk:=hk) (ht:=ht) (hv:=hv)
theorem Ex.io {d:Option Nat} {b o len cap s:Nat} {i:Int} (hx:ev L x=some (.slice (some (ad b o)) len cap)) (hy:ev L y=some (I64 i)) (hi:0≤i) (hl:i<len) (ht:P.underlying t=some (.slice e)) (hs:∀ w,(Go.sizeOf e).run P w=.ok s w) :
    Ex P n L w ⟨d,.indexAddr t x y,ty,pos,af,g⟩ (ptr b (o+i.toNat*s)) w:=Ex.indexAddr (hx:=.of hx) (hy:=.of hy) (hi:=hi) (hl:=hl) (ht:=ht) (hs:=hs)
theorem Ex.ii {d:Option Nat} {p:Addr} {len cap s:Nat} {i:Int} (hx:ev L x=some (.slice (some p) len cap)) (hy:ev L y=some (I64 i)) (hi:0≤i) (hl:i<len) (ht:P.underlying t=some (.slice e)) (hs:∀ w,(Go.sizeOf e).run P w=.ok s w) :
    Ex P n L w ⟨d,.indexAddr t x y,ty,pos,af,g⟩ (.pointer (some (p.add (i.toNat*s)))) w:=Ex.indexAddrI (hx:=.of hx) (hy:=.of hy) (hi:=hi) (hl:=hl) (ht:=ht) (hs:=hs)
theorem ec9 {xs:List Operand} {v:Value} {vs:List Value} (hx:ev L x=some v) (h:∀ a,Holds n L a→xs.map a.eval=vs):∀ a,Holds n L a→(x::xs).map a.eval=v::vs:=X6 (hx:=.of hx) (h:=h)
theorem pc9 {i:Nat} {v:Value} {ps:List (Nat×Operand)} {vs:List (Nat×Value)} (hx:ev L x=some v) (h:∀ a,Holds n L a→ps.toArray.toList.map (fun p=>(p.1,a.eval p.2))=vs) :
    ∀ a,Holds n L a→((i,x)::ps).toArray.toList.map (fun p=>(p.1,a.eval p.2))=(i,v)::vs:=Xjg (hx:=.of hx) (h:=h)
theorem WL.so {b o s:Nat} {cs vs:List Value} {E:TypeId} (hS:Sat B w I As) (hk:As[k]?=some (blk b cs E)) (hx:ev L x=some (ptr b o)) (hy:ev L y=some (.agg vs.toArray)) (h1:vs.all Value.oneCell'=true) (hs:∀ w,(Go.sizeOf t).run P w=.ok s w) (hl:vs.length=s) (ho:o+s≤cs.length)
    (h:∀ w',Sat B w' I (As.set k (blk b (cs.take o ++ vs ++ cs.drop (o+s)) E))→WL P n ops K rest L w'):WL P n ops K (⟨none,.store t x y,ty,pos,af,none⟩::rest) L w:=WL.stA (hS:=hS) (hk:=hk) (hx:=.of hx) (hy:=.of hy) (h1:=h1) (hs:=hs) (hl:=hl) (ho:=ho) (h:=h)
theorem WL.s1 {b o:Nat} {cs:List Value} {E:TypeId} {v:Value} (hS:Sat B w I As) (hk:As[k]?=some (blk b cs E)) (hx:ev L x=some (ptr b o)) (hy:ev L y=some v) (h1:v.oneCell'=true) (hs:∀ w,(Go.sizeOf t).run P w=.ok 1 w) (ho:o<cs.length)
    (h:∀ w',Sat B w' I (As.set k (blk b (cs.set o v) E))→WL P n ops K rest L w'):WL P n ops K (⟨none,.store t x y,ty,pos,af,none⟩::rest) L w:=WL.st1 (hS:=hS) (hk:=hk) (hx:=.of hx) (hy:=.of hy) (h1:=h1) (hs:=hs) (ho:=ho) (h:=h)
theorem WL.vm {d:Nat} {v:Value} (hx:ev L x=some v) (hd:Nat.blt d n=true) (h:WL P n ops K rest ((d,v)::L) w):WL P n ops K (⟨some d,.move x,ty,pos,af,none⟩::rest) L w:=WL.val (.move (.of hx)) hd h
theorem WL.gm {d j t:Nat} {b want:Bool} {v:Value} (hj:(ops[j]?).bind (·.dst)=some t) (hb:look L t=some (.bool b)) (hx:ev L x=some v) (hd:Nat.blt d n=true) (h:WL P n ops K rest ((d,gd b want v)::L) w):WL P n ops K (⟨some d,.move x,ty,pos,af,some (j,want)⟩::rest) L w:=WL.gval hj hb (fun _=>.move (.of hx)) hd h
end
end Gk
namespace Gk
open Go
section
variable {P:Program} {n:Nat} {K:X36} {L:Env} {w w':World} {ops:Array Oper} {rest:List Oper}
variable {B:World} {I:Im} {As:List X7} {k:Nat} {d:Nat} {ty:TypeId} {pos:String} {af:Array Edge} {g:Option (Nat×Bool)} {t e:TypeId} {x y:Operand}
theorem WC.cutS {c c':Code} {σ:Type} (E:σ→Env) (inv:σ→World→Prop) (h:WC P n c (Xb1 (fun L w=>∃ s,Sub (E s) L∧inv s w) K) L w) (h2:∀ s w,inv s w→WC P n c' K (E s) w):WC P n (.seq c c') K L w :=
 WC.cut _ h fun _ _ ⟨s,hs,hi⟩=>(h2 s _ hi).sub hs
theorem Xsq {α:Type} (f:α→Value) (l:List α) (dflt:α) (rest:List Value) {i:Int} (hi:0≤i) (hl:i<(l.length:Int)) (s:Nat) (hs:s=1):(l.map f ++ rest)[0+i.toNat*s]?=some (f (l.getD i.toNat dflt)):=by
 subst hs;have h:i.toNat<l.length:=by omega
 simp [Y2l,h,Yc]
theorem Ex.ldE {d:Option Nat} {α:Type} {b s:Nat} {E:TypeId} (f:α→Value) (l:List α) (dflt:α) (r:List Value) {i:Int} (hx:Ev n L x (ptr b (0+i.toNat*s))) (hS:Sat B w I As) (hk:As[k]?=some (blk b (l.map f ++ r) E)) (hs:s=1) (ht:∀ w,(isAgg t).run P w=.ok false w) (hi:0≤i) (hl:i<(l.length:Int)) :
  Ex P n L w ⟨d,.load t x,ty,pos,af,g⟩ (f (l.getD i.toNat dflt)) w:=Ex.ld hx hS hk ht (Xsq f l dflt r hi hl s hs)
theorem Ex.ldEI {d:Option Nat} {α:Type} {p:Addr} {s:Nat} (f:α→Value) (l:List α) (dflt:α) {i:Int} (hx:Ev n L x (.pointer (some (p.add (i.toNat*s))))) (hS:Sat B w I As) (ha:At I p (l.map f)) (hs:s=1) (ht:∀ w,(isAgg t).run P w=.ok false w) (hi:0≤i) (hl:i<(l.length:Int)) :
  Ex P n L w ⟨d,.load t x,ty,pos,af,g⟩ (f (l.getD i.toNat dflt)) w :=
 Ex.ldI hx hS (ha.add _) ht (by
  subst hs;have h:i.toNat<l.length:=by omega
  simp [h,Yc])
theorem WL.stE {α:Type} {b s:Nat} {E:TypeId} (f:α→Value) (l:List α) (r:List Value) {i:Int} {u:α} (hS:Sat B w I As) (hk:As[k]?=some (blk b (l.map f ++ r) E)) (hx:Ev n L x (ptr b (0+i.toNat*s))) (hy:Ev n L y (f u)) (h1:(f u).oneCell'=true) (hs:s=1) (ht:∀ w,(Go.sizeOf t).run P w=.ok 1 w) (hi:0≤i) (hl:i<(l.length:Int))
  (h:∀ w',Sat B w' I (As.set k (blk b ((l.set i.toNat u).map f ++ r) E))→WL P n ops K rest L w'):WL P n ops K (⟨none,.store t x y,ty,pos,af,none⟩::rest) L w:=by
 subst hs;have h0:i.toNat<l.length:=by omega
 refine .st1 hS hk hx hy h1 ht (by simp; omega) fun w' hS'=>h w' ?_
 have e:(l.map f ++ r).set (0+i.toNat*1) (f u)=(l.set i.toNat u).map f ++ r:=by
  rw [Y47 _ _ (by simp; omega),List.map_set]
  simp
 rw [e] at hS';exact hS'
theorem Sat.vecTake {E size m c nn:Nat} {a:Option Addr} {xs:List Value} (hS:Sat B w I As) (hk:As[k]?=some (Vec E size (.slice a nn c) nn xs)) (hm:m≤nn):Sat B w I (As.set k (Vec E size (sliced a 0 m c size) m (xs.take (m*size)))) :=
 hS.say hk fun h ⟨hl,hh⟩=>by
  have hml:m*size≤xs.length:=by rw [hl]; exact Y46 _ hm
  refine ⟨by rw [Yt]; omega,?_⟩;rcases hh with ⟨hv,rfl,rfl⟩ | ⟨b,cap,r,hv,rfl,h1,h2,h3⟩
  ·injection hv with hv hv2 hv3
   subst hv; subst hv3;have hm0:m=0:=by omega
   subst hm0;exact .inl ⟨rfl,rfl,rfl⟩
  ·injection hv with hv hv2 hv3
   subst hv; subst hv3;refine .inr ⟨b,c,xs.drop (m*size) ++ r,?_,?_,by omega,h2,?_⟩
   ·simp only [sliced,Y3t,Y4m,Y3g]
    congr 1
    split <;> rfl
   ·rw [← Yf,Y11]
   ·rw [Y0,Yt,Yp]; omega
theorem Sat.vecTakeI {α:Type} {f:α→Value} {E m c:Nat} {a:Option Addr} {l:List α} (hS:Sat B w I As) (hk:As[k]?=some (Vec E 1 (.slice a l.length c) l.length (l.map f))) (hm:m≤l.length) :
  ∃ a2 c2,sliced a 0 m c 1=.slice a2 (l.take m).length c2∧Sat B w I (As.set k (Vec E 1 (.slice a2 (l.take m).length c2) (l.take m).length ((l.take m).map f))):=by
 have h:=hS.vecTake hk hm;have e:(l.take m).length=m:=by rw [Yt]; omega
 rw [Y1i,← List.map_take] at h;rw [e];exact ⟨_,_,rfl,h⟩
theorem Sat.vecCap {E size c nn:Nat} {a:Option Addr} {xs:List Value} (hS:Sat B w I As) (hk:As[k]?=some (Vec E size (.slice a nn c) nn xs)):nn≤c :=
 hS.pure_ hk fun _ ⟨_,hh⟩=>by
  rcases hh with ⟨_,rfl,_⟩ | ⟨b,cap,r,hv,_,h1,_⟩
  ·omega
  ·injection hv with _ _ hv3
   omega
theorem WL.appendV {E size m c nn j:Nat} {a:Option Addr} {v:Value} {xs ys:List Value} {i:TypeInfo} {z:Value} {bytes:Nat} (hS:Sat B w I As) (hx:Ev n L x v) (hy:Ev n L y (.slice a m c))
  (hk:As[k]?=some (Vec E size v nn xs)) (hj:As[j]?=some (Vec E size (.slice a m c) m ys)) (ht:P.underlying t=some (.slice E)) (hi:P.info? E=some i) (hz:i.zero=some z) (hsize:i.size=size) (hby:i.bytes=bytes) (hzs:z.cells.size=size)
  (h1:ys.all Value.oneCell'=true) (h63:(nn+m)*bytes≤140737488355328∧nn+m≤maxLen) (hd:Nat.blt d n=true)
  (h:∀ v' w',Sat B w' I (As.set k (Vec E size v' (nn+m) (xs ++ ys)))→WL P n ops K rest ((d,v')::L) w') :
  WL P n ops K (⟨some d,.call ⟨.builtin .append,#[x,y],#[t,t]⟩,ty,pos,af,none⟩::rest) L w:=by
 have hys:ys.length=m*size:=hS.pure_ hj fun _ hh=>hh.1
 rcases Y1r m with h0 | h0
 ·subst h0;have hy0:ys=[]:=Yl (by simpa using hys);subst hy0;obtain ⟨a0,c0,rfl,hc0,_⟩:=hS.vecSlice hk;have hr:(Builtin.append_ #[t,t] ty #[.slice a0 nn c0,.slice a 0 c]).run P w=.ok (.slice a0 nn c0) w:=by
   subst hsize;cases a0 <;> cases a <;> simp [Builtin.append_,run_underlying ht,Go.sizeOf,typeInfo,hi,Builtin.lenOf,Builtin.firstCells,loadCells,loadCellsFrom,storeCells,hc0]
  have h2:=h (.slice a0 nn c0) w (by
   have hlk:k<As.length:=(Y5.1 hk).1
   have:As.set k (Vec E size (.slice a0 nn c0) (nn+0) (xs ++ []))=As:=by
    rw [Y2c,Y9]
    have:=(Y5.1 hk).2
    rw [← this,Y43]
   rw [this]; exact hS)
  exact WL.val (w':=w) (fun a' ha=>by simp [execOp,resolve,invoke,builtin,hx a' ha,hy a' ha,hr]) hd h2
 ·obtain ⟨b,cap,r,hv,_,_,_,_,hSo⟩:=hS.vecOpen hj h0;injection hv with hv hv2 hv3
  subst hv; subst hv3;have hlj:j<As.length:=(Y5.1 hj).1;have hb:=hSo.block (k:=j) (b:=b) (o:=Xi (ys ++ r) E) (by simp [hlj,blk]);obtain ⟨v',w',hr,hS'⟩:=X2h (P:=P) (ty:=ty) hS ht hi hz hsize hby hzs hk (p:=ad b 0) (m:=m) (c:=c) hys h0 (fun q u hu=>by
   rw [X13,Yd];refine Xy hb ?_;have hq:q<ys.length:=(Y5.1 hu).1;rw [Yk hq]; exact hu) (Y1b.1 h1) h63.2 h63.1
  exact WL.val (w':=w') (fun a' ha=>by simp [execOp,resolve,invoke,builtin,hx a' ha,hy a' ha,hr]) hd (h _ _ hS')
theorem Xt6 {α:Type} (f:α→Value) (hf:∀ x,(f x).oneCell'=true) (l:List α):(l.map f).all Value.oneCell'=true:=by
 rw [List.all_map,Y1b];exact fun x _=>hf x
theorem Xsm (l:List Int):(l.map I64).all Value.oneCell'=true:=Xt6 _ (fun _=>rfl) l
theorem X8 (l:List UInt8) {k:Nat} (h:k<l.length):l.drop k=at_ l (k:Int)::l.drop (k+1):=by
 rw [Y1f h];simp [at_,Yc,h]
end
end Gk
namespace Gk
open Go
def WQ (P:Program) (n:Nat) (ops:Array Oper) (C:World→Prop) (K:Env→Prop) (l:List Oper) (L:Env):Prop :=
 ∀ a,Holds n L a→wpQuiet P ops C (fun a'=>∃ L',Holds n L' a'∧K L') l a
def WT (P:Program) (n:Nat) (ops:Array Oper) (w:World) (K:X36) (rest l:List Oper) (L:Env):Prop :=
 ∀ a,Holds n L a→wpStill P ops w (fun a'=>wpList P ops (Xod n K) rest a' w) l a
section
variable {P:Program} {n:Nat} {K:X36} {L:Env} {w:World} {ops:Array Oper} {rest tl:List Oper} {C:World→Prop} {k:Env→Prop}
variable {B:World} {I:Im} {As:List X7}
theorem WC.quiet {id:Nat} {l:List Oper} (hm:P.follows .mixedOrders=true) (hB:Region.lexB .any l.toArray=true) (hS:Sat B w I As)
  (h:WQ P n l.toArray (fun w=>Sat B w I As) (fun L'=>∀ w',Sat B w' I As→K .normal L' w') l L):WC P n (.region id l.toArray true) K L w:=by
 intro a ha;refine wp_region_quiet (C:=fun w=>Sat B w I As) hm hB (hS.world rfl rfl rfl rfl) ?_;have h1:=h a ha;have mono:∀ (l':List Oper) (a:Act) (Q Q':Act→Prop),(∀ a,Q a→Q' a)→wpQuiet P l.toArray (fun w=>Sat B w I As) Q l' a→wpQuiet P l.toArray (fun w=>Sat B w I As) Q' l' a:=by
  intro l'
  induction l' with
  | nil=>intro a Q Q' hq hh; exact hq _ hh
  | cons o r ih =>
   intro a Q Q' hq hh;unfold wpQuiet at hh ⊢;split
   ·rename_i hw; rw [if_pos hw] at hh; exact Oper.quiet_mono (fun a=>ih a Q Q' hq) hh
   ·rename_i hw; rw [if_neg hw] at hh; exact ih _ Q Q' hq hh
 refine mono l a (fun a'=>∃ L',Holds n L' a'∧∀ w',Sat B w' I As→K .normal L' w') _ (fun a' hh w' hw'=>?_) h1;obtain ⟨L',hL,hk⟩:=hh;exact ⟨L',hL,hk w' hw'⟩
theorem WQ.nil (h:k L):WQ P n ops C k [] L:=fun a ha=>wpQuiet_nil ⟨L,ha,h⟩
theorem WQ.val {d:Nat} {op:Op} {ty:TypeId} {pos:String} {af:Array Edge} {v:Value} (hx:∀ w,C w→Ex P n L w ⟨some d,op,ty,pos,af,none⟩ v w) (hd:Nat.blt d n=true)
  (h:WQ P n ops C k rest ((d,v)::L)):WQ P n ops C k (⟨some d,op,ty,pos,af,none⟩::rest) L:=by
 intro a ha;refine wpQuiet_step fun K' hK=>?_
 rw [if_pos (X2d rfl _)];refine ⟨v,fun w hw=>?_,hK _ (h _ (ha.put hd v))⟩;unfold Oper.quietAt;rw [hx w hw a ha];exact ⟨rfl,rfl⟩
theorem WQ.gvals {d j t:Nat} {c:List (Bool×Bool)} {b want:Bool} {op:Op} {ty:TypeId} {pos:String} {af:Array Edge} {v:Value}
  (hj:(ops[j]?).bind (·.dst)=some t) (ht:Nat.blt t n=true) (hb:look L t=some (gds c (.bool b))) (hx:(∀ p∈c ++ [(b,want)],p.1=p.2)→∀ w,C w→Ex P n L w ⟨some d,op,ty,pos,af,some (j,want)⟩ v w) (hd:Nat.blt d n=true)
  (h:WQ P n ops C k rest ((d,gds (c ++ [(b,want)]) v)::L)):WQ P n ops C k (⟨some d,op,ty,pos,af,some (j,want)⟩::rest) L:=by
 intro a ha;refine wpQuiet_step fun K' hK=>?_
 have hput:=h _ (ha.put hd (gds (c ++ [(b,want)]) v));have hlt:t<a.tmps.size:=by have:=Y22 ht; rw [ha.size]; omega
 have hv:=ha.get t _ hb;have hy:yielded ops a.tmps j=match gds c (.bool b) with | .bool b=>some b | _=>none:=by
  obtain ⟨o,ho,hdd⟩:=Y2b.1 hj;rw [Y14,Y1a hlt] at hv;simp only [Y2o] at hv
  have h2:a.tmps[t]?=some (gds c (.bool b)):=by rw [Y1a hlt,hv]
  simp only [yielded,ho,hdd,Y2s,h2]
  generalize gds c (.bool b)=g;cases g <;> rfl
 by_cases e:∀ p∈c ++ [(b,want)],p.1=p.2
 ·have ec:∀ p∈c,p.1=p.2:=fun p hp=>e p (by simp [hp])
  have eb:b=want:=e (b,want) (by simp);rw [X1t ec] at hy;rw [if_pos (by simp [Region.wanted,hy,eb])];rw [X1t e] at hput;refine ⟨v,fun w hw=>?_,hK _ hput⟩;unfold Oper.quietAt;rw [hx e w hw a ha];exact ⟨rfl,rfl⟩
 ·have hw:Region.wanted (⟨some d,op,ty,pos,af,some (j,want)⟩:Oper) (yielded ops a.tmps)=false:=by
   by_cases ec:∀ p∈c,p.1=p.2
   ·rw [X1t ec] at hy;have eb:¬ b=want:=fun eb=>e fun p hp=>by
     rcases Y16.1 hp with hp | hp
     ·exact ec p hp
     ·simp at hp; subst hp; exact eb
    simp [Region.wanted,hy,eb]
   ·rw [X2z ec] at hy;simp [Region.wanted,hy,undef]
  rw [if_neg (by simp [hw])];rw [X2z e] at hput;exact hK _ hput
theorem WQ.gval {d j t:Nat} {b want:Bool} {op:Op} {ty:TypeId} {pos:String} {af:Array Edge} {v:Value}
  (hj:(ops[j]?).bind (·.dst)=some t) (ht:Nat.blt t n=true) (hb:look L t=some (.bool b)) (hx:b=want→∀ w,C w→Ex P n L w ⟨some d,op,ty,pos,af,some (j,want)⟩ v w) (hd:Nat.blt d n=true)
  (h:WQ P n ops C k rest ((d,gd b want v)::L)):WQ P n ops C k (⟨some d,op,ty,pos,af,some (j,want)⟩::rest) L :=
 WQ.gvals (c:=[]) hj ht hb (fun e=>hx (e (b,want) (by simp))) hd h
theorem WQ.gval2 {d j t:Nat} {b1 w1 b want:Bool} {op:Op} {ty:TypeId} {pos:String} {af:Array Edge} {v:Value}
  (hj:(ops[j]?).bind (·.dst)=some t) (ht:Nat.blt t n=true) (hb:look L t=some (gd b1 w1 (.bool b))) (hx:b1=w1→b=want→∀ w,C w→Ex P n L w ⟨some d,op,ty,pos,af,some (j,want)⟩ v w) (hd:Nat.blt d n=true)
  (h:WQ P n ops C k rest ((d,gd b1 w1 (gd b want v))::L)):WQ P n ops C k (⟨some d,op,ty,pos,af,some (j,want)⟩::rest) L :=
 WQ.gvals (c:=[(b1,w1)]) hj ht hb (fun e=>hx (e (b1,w1) (by simp)) (e (b,want) (by simp))) hd h
theorem WQ.call {d:Nat} {ty:TypeId} {pos:String} {af:Array Edge} {f:FuncId} {fn:Func} {xs:List Operand} {ts:Array TypeId} {vs:List Value} {v:Value} (hf:P.funcs[f]?=some fn) (hc:Xh fn=true) (hx:∀ a,Holds n L a→xs.map a.eval=vs) (hd:Nat.blt d n=true)
  (hcall:∀ w,C w→Calls P f vs.toArray w (Ret fun u w'=>u=v∧C w')) (h:WQ P n ops C k rest ((d,v)::L)):WQ P n ops C k (⟨some d,.call ⟨.value (.func f),xs.toArray,ts⟩,ty,pos,af,none⟩::rest) L:=by
 intro a ha;refine wpQuiet_step fun K' hK=>?_
 rw [if_pos (X2d rfl _)];refine ⟨v,fun w hw=>?_,hK _ (h _ (ha.put hd v))⟩;have he:(execOp a.eval (⟨some d,.call ⟨.value (.func f),xs.toArray,ts⟩,ty,pos,af,none⟩:Oper)).run P w=.ok (.enter f vs.toArray) w:=by
  unfold Xh at hc;simp only [Yq] at hc
  obtain ⟨h1,h2⟩:=hc;have h1' : ¬ fn.name = "runtime.NumGoroutine" := by simpa using h1
  have h2':¬ fn.body=none:=by intro e; rw [e] at h2; cases h2
  have hv:=hx a ha;simp [execOp,resolve,Act.eval,Deferred.ofValue,invoke,callFunc,program,Sem.run,hf,h1',h2',← hv]
 unfold Oper.quietAt;rw [he];refine ⟨rfl,(hcall w hw).mono ?_⟩;rintro e w'' ⟨u,rfl,rfl,hC⟩;exact ⟨rfl,hC⟩
theorem WC.tail {id:Nat} {l:List Oper} (N:Nat) (hm:P.follows .mixedOrders=true) (hB:Region.lexTailB .any l.toArray N=true)
  (h:WT P n l.toArray w.drew K (l.drop N) (l.take N) L):WC P n (.region id l.toArray true) K L w:=by
 intro a ha;exact wp_region_still_tail N hm hB (h a ha)
theorem WT.nil (h:WL P n ops K tl L w):WT P n ops w K tl [] L:=fun a ha=>wpStill_nil (h a ha)
theorem WT.val {d:Nat} {op:Op} {ty:TypeId} {pos:String} {af:Array Edge} {v:Value} (hx:Ex P n L w ⟨some d,op,ty,pos,af,none⟩ v w) (hd:Nat.blt d n=true)
  (h:WT P n ops w K tl rest ((d,v)::L)):WT P n ops w K tl (⟨some d,op,ty,pos,af,none⟩::rest) L:=by
 intro a ha;refine wpStill_step fun K' hK=>?_
 rw [if_pos (X2d rfl _)];unfold Oper.still;rw [hx a ha];exact ⟨rfl,hK _ (h _ (ha.put hd v))⟩
end
end Gk
namespace Gk
open Go
theorem WT.vm {P:Program} {n:Nat} {K:X36} {L:Env} {w:World} {ops:Array Oper} {rest tl:List Oper} {d:Nat} {x:Operand} {ty:TypeId} {pos:String} {af:Array Edge} {v:Value} (hx:ev L x=some v) (hd:Nat.blt d n=true) (h:WT P n ops w K tl rest ((d,v)::L)):WT P n ops w K tl (⟨some d,.move x,ty,pos,af,none⟩::rest) L:=WT.val (.move (.of hx)) hd h
end Gk
namespace Gk
open Go
section
variable {P:Program} {ops:Array Oper} {Q:Exit→Act→World→Prop} {md:Region.Mode} {S:World→Prop} {nd:Nat→Bool}
def X8k (P:Program) (md:Region.Mode) (ops:Array Oper) (Q:Exit→Act→World→Prop) (S:World→Prop) (nd:Nat→Bool):Nat→Array Bool→Act→World→Prop
 | 0,listed,a,w=>Region.ready md ops listed=[]∧Q .normal a w
 | fuel+1,listed,a,w =>
  (Region.ready md ops listed=[]→Q .normal a w) ∧
  ∀ i∈Region.ready md ops listed,wpOp P ops Q i (fun a' w'=>(nd i=true→S w→S w')∧X8k P md ops Q S nd fuel (listed.setIfInBounds i true) a' w') a w
theorem Xbv:∀ (fuel:Nat) (listed:Array Bool) (a:Act) (w:World),X8k P md ops Q S nd fuel listed a w→wpAny P md ops Q fuel listed a w
 | 0,_,_,_,h=>h
 | fuel+1,_,_,_,h=>⟨h.1,fun i hi=>wpOp_mono (fun a' w' h'=>Xbv fuel _ a' w' h'.2) (h.2 i hi)⟩
def Xa1 (md:Region.Mode) (ops:Array Oper) (nd:Nat→Bool) (i:Nat):Bool :=
 (List.range ops.size).all fun j=>nd j || j == i || match ops[j]? with
  | some oj=>oj.after.any (fun e=>Region.binds md e && e.on == i)
  | none=>true
theorem Xfx {i:Nat} {oi:Oper} {v:Value} (hi:ops[i]?=some oi) (hsel:∀ (j:Nat) (o:Oper) cs b,ops[j]?=some o→o.op≠.select cs b)
  (hQ:∀ c a w,Q (.panic c) (a.put oi.dst v) w→Q (.panic c) a w) :
  ∀ (fuel:Nat) (listed:Array Bool) (a:Act) (w:World),
   (∀ j oj,ops[j]?=some oj→j≠i→listed.getD j true=false→(∀ e∈oj.after,Region.binds md e=true→e.on≠i)→oi.apart ops oj=true) →
   i∈Region.ready md ops listed→YieldsIf P ops (fun _=>True) oi v a →
   X8k P md ops Q S nd fuel (listed.setIfInBounds i true) (a.put oi.dst v) w→X8k P md ops Q S nd (fuel+1) listed a w:=by
 intro fuel
 induction fuel with
 | zero =>
  intro listed a w _ hr hy H;refine ⟨fun h=>(by rw [h] at hr; cases hr),fun j hj=>?_⟩
  by_cases hji:j=i
  ·subst hji; exact hy.wpOp hi trivial ⟨fun _ h=>h,H⟩
  ·have:=ready_mono hj hji
   rw [H.1] at this;cases this
 | succ fuel ih =>
  intro listed a w hfree hr hy H;refine ⟨fun h=>(by rw [h] at hr; cases hr),fun j hj=>?_⟩
  by_cases hji:j=i
  ·subst hji; exact hy.wpOp hi trivial ⟨fun _ h=>h,H⟩
  ·have h1:=H.2 j (ready_mono hj hji);obtain ⟨hjun,oj,hoj,hall⟩:=mem_ready.1 hj;have hnot:∀ e∈oj.after,Region.binds md e=true→e.on≠i:=fun e he hb heq=>by
    have h1:=hall e he hb;have h0:=(mem_ready.1 hr).1;rw [heq] at h1;rcases Yr i listed.size with h' | h'
    ·simp [h'] at h0 h1; rw [h0] at h1; cases h1
    ·simp [Y3y h'] at h1
   have h2:=wpOp_putIf hoj (hfree j oj hoj hji hjun hnot) (fun cs b=>hsel i oi cs b hi) (fun cs b=>hsel j oj cs b hoj) hQ hy h1;have hfree':∀ k ok,ops[k]?=some ok→k≠i→(listed.setIfInBounds j true).getD k true=false →
     (∀ e∈ok.after,Region.binds md e=true→e.on≠i)→oi.apart ops ok=true:=fun k ok hk hki hun hno=>by
    refine hfree k ok hk hki ?_ hno
    by_cases hjk:j=k
    ·subst hjk; exact hjun
    ·rw [getD_set_ne true hjk] at hun; exact hun
   refine wpOp_mono (fun a' w' h3=>⟨h3.2.1,ih (listed.setIfInBounds j true) a' w' hfree' (ready_mono hr (Ne.symm hji)) h3.1 ?_⟩) h2;rw [Y4u _ _ hji];exact h3.2.2
theorem X8h {i:Nat} {oi:Oper} {v:Value} (hi:ops[i]?=some oi) (hsel:∀ (j:Nat) (o:Oper) cs b,ops[j]?=some o→o.op≠.select cs b)
  (hQ:∀ c a w,Q (.panic c) (a.put oi.dst v) w→Q (.panic c) a w) (hnd:Xa1 md ops nd i=true) :
  ∀ (fuel:Nat) (listed:Array Bool) (a:Act) (w:World),
   (∀ j oj,ops[j]?=some oj→j≠i→listed.getD j true=false→(∀ e∈oj.after,Region.binds md e=true→e.on≠i)→oi.apart ops oj=true) →
   i∈Region.ready md ops listed→YieldsIf P ops S oi v a→S w →
   X8k P md ops Q S nd fuel (listed.setIfInBounds i true) (a.put oi.dst v) w→X8k P md ops Q S nd (fuel+1) listed a w:=by
 intro fuel
 induction fuel with
 | zero =>
  intro listed a w _ hr hy hS H;refine ⟨fun h=>(by rw [h] at hr; cases hr),fun j hj=>?_⟩
  by_cases hji:j=i
  ·subst hji; exact hy.wpOp hi hS ⟨fun _ h=>h,H⟩
  ·have:=ready_mono hj hji
   rw [H.1] at this;cases this
 | succ fuel ih =>
  intro listed a w hfree hr hy hS H;refine ⟨fun h=>(by rw [h] at hr; cases hr),fun j hj=>?_⟩
  by_cases hji:j=i
  ·subst hji; exact hy.wpOp hi hS ⟨fun _ h=>h,H⟩
  ·have h1:=H.2 j (ready_mono hj hji);obtain ⟨hjun,oj,hoj,hall⟩:=mem_ready.1 hj;have hnot:∀ e∈oj.after,Region.binds md e=true→e.on≠i:=fun e he hb heq=>by
    have h1:=hall e he hb;have h0:=(mem_ready.1 hr).1;rw [heq] at h1;rcases Yr i listed.size with h' | h'
    ·simp [h'] at h0 h1; rw [h0] at h1; cases h1
    ·simp [Y3y h'] at h1
   have hndj:nd j=true:=by
    have hlt:j<ops.size:=(Y1c.1 hoj).1;have h9:=(Y1b.1 hnd) j (Y3m.2 hlt);simp only [hoj,Y1j,beq_iff_eq,hji,or_false] at h9
    rcases h9 with h9 | h9
    ·exact h9
    ·obtain ⟨e,he,hb⟩:=Array.any_eq_true'.1 h9;simp only [Yq,beq_iff_eq] at hb
     exact absurd hb.2 (hnot e he hb.1)
   have h2:=wpOp_putIf hoj (hfree j oj hoj hji hjun hnot) (fun cs b=>hsel i oi cs b hi) (fun cs b=>hsel j oj cs b hoj) hQ hy h1;have hfree':∀ k ok,ops[k]?=some ok→k≠i→(listed.setIfInBounds j true).getD k true=false →
     (∀ e∈ok.after,Region.binds md e=true→e.on≠i)→oi.apart ops ok=true:=fun k ok hk hki hun hno=>by
    refine hfree k ok hk hki ?_ hno
    by_cases hjk:j=k
    ·subst hjk; exact hjun
    ·rw [getD_set_ne true hjk] at hun; exact hun
   refine wpOp_mono (fun a' w' h3=>⟨fun _ _=>h3.2.1 hndj hS,ih (listed.setIfInBounds j true) a' w' hfree' (ready_mono hr (Ne.symm hji)) h3.1 (h3.2.1 hndj hS) ?_⟩) h2;rw [Y4u _ _ hji];exact h3.2.2
end
def noP (K:X36):X36
 | .panic _,_,_=>False
 | e,L,w=>K e L w
def WD (P:Program) (n:Nat) (ops:Array Oper) (S:World→Prop) (nd:Nat→Bool) (K:X36) (fuel:Nat) (listed:Array Bool) (L:Env) (w:World):Prop :=
 ∀ a,Holds n L a→X8k P .any ops (Xod n (noP K)) S nd fuel listed a w
section
variable {P:Program} {n:Nat} {K:X36} {L:Env} {w:World} {ops:Array Oper} {S:World→Prop} {nd:Nat→Bool} {fuel:Nat} {listed:Array Bool}
theorem WC.drawn (S:World→Prop) (nd:Nat→Bool) {id:Nat} {l:List Oper} (hm:P.follows .mixedOrders=true) (h:WD P n l.toArray S nd K l.toArray.size (Array.replicate l.toArray.size false) L w.drew):WC P n (.region id l.toArray true) K L w:=by
 refine .mono (K:=noP K) (fun a ha=>wp_region_any hm (Xbv _ _ _ _ (h a ha))) ?_;intro e L w hh;cases e <;> first | exact hh | exact hh.elim
theorem WD.done (hr:Region.ready .any ops listed=[]) (h:K .normal L w):WD P n ops S nd K fuel listed L w:=fun a ha=>by
 cases fuel with
 | zero=>exact ⟨hr,L,ha,h⟩
 | succ f=>exact ⟨fun _=>⟨L,ha,h⟩,by rw [hr]; simp⟩
theorem WD.take {i d:Nat} {op:Op} {ty:TypeId} {pos:String} {af:Array Edge} {v:Value} (hi:ops[i]?=some ⟨some d,op,ty,pos,af,none⟩) (hs:Region.noSelect ops=true) (hf:Region.free .any ops listed i=true) (hr:(Region.ready .any ops listed).contains i=true)
  (hnd:Xa1 .any ops nd i=true) (hS:S w) (hx:∀ w,S w→Ex P n L w ⟨some d,op,ty,pos,af,none⟩ v w) (hd:Nat.blt d n=true)
  (h:WD P n ops S nd K fuel (listed.setIfInBounds i true) ((d,v)::L) w):WD P n ops S nd K (fuel+1) listed L w:=fun a ha =>
 X8h hi (Region.noSelect_spec hs) (fun _ _ _ ⟨_,_,hk⟩=>hk.elim) hnd fuel listed a w (Region.free_spec hi hf) (by simpa using hr)
  (.inl ⟨X2d rfl _,fun w hw=>hx w hw a ha⟩) hS (h _ (ha.put hd v))
theorem WD.takeP {i d:Nat} {op:Op} {ty:TypeId} {pos:String} {af:Array Edge} {v:Value} (hi:ops[i]?=some ⟨some d,op,ty,pos,af,none⟩) (hs:Region.noSelect ops=true) (hf:Region.free .any ops listed i=true) (hr:(Region.ready .any ops listed).contains i=true)
  (hx:∀ w,Ex P n L w ⟨some d,op,ty,pos,af,none⟩ v w) (hd:Nat.blt d n=true)
  (h:WD P n ops S nd K fuel (listed.setIfInBounds i true) ((d,v)::L) w):WD P n ops S nd K (fuel+1) listed L w:=fun a ha =>
 Xfx hi (Region.noSelect_spec hs) (fun _ _ _ ⟨_,_,hk⟩=>hk.elim) fuel listed a w (Region.free_spec hi hf) (by simpa using hr)
  (.inl ⟨X2d rfl _,fun w _=>hx w a ha⟩) (h _ (ha.put hd v))
theorem WD.takeG {i d j t:Nat} {b want:Bool} {op:Op} {ty:TypeId} {pos:String} {af:Array Edge} {v:Value} (hi:ops[i]?=some ⟨some d,op,ty,pos,af,some (j,want)⟩) (hs:Region.noSelect ops=true) (hf:Region.free .any ops listed i=true) (hr:(Region.ready .any ops listed).contains i=true)
  (hnd:Xa1 .any ops nd i=true) (hS:S w) (hj:(ops[j]?).bind (·.dst)=some t) (hb:look L t=some (.bool b)) (hx:b=want→∀ w,S w→Ex P n L w ⟨some d,op,ty,pos,af,some (j,want)⟩ v w) (hd:Nat.blt d n=true)
  (h:WD P n ops S nd K fuel (listed.setIfInBounds i true) ((d,gd b want v)::L) w):WD P n ops S nd K (fuel+1) listed L w:=fun a ha=>by
 have hy:=X85 ha hj hb;have hput:=h _ (ha.put hd (gd b want v));refine X8h hi (Region.noSelect_spec hs) (fun _ _ _ ⟨_,_,hk⟩=>hk.elim) hnd fuel listed a w (Region.free_spec hi hf) (by simpa using hr) (v:=gd b want v) ?_ hS hput
 by_cases e:b=want
 ·left
  refine ⟨by simp [Region.wanted,hy,e],fun w hw=>?_⟩
  have:=hx e w hw a ha
  subst e;simpa [gd] using this
 ·right
  have e':(b == want)=false:=by simpa using e
  refine ⟨by simp [Region.wanted,hy,e],?_⟩;simp only [gd,e',cond_false]
def WO (P:Program) (n:Nat) (ops:Array Oper) (S:World→Prop) (nd:Nat→Bool) (K:X36) (fuel:Nat) (listed:Array Bool) (L:Env) (w:World) (rs:List Nat):Prop :=
 ∀ i∈rs,∀ o,ops[i]?=some o→WL P n ops (Xb1 (fun L' w'=>(nd i=true→S w→S w')∧WD P n ops S nd K fuel (listed.setIfInBounds i true) L' w') (noP K)) [o] L w
theorem WO.nil:WO P n ops S nd K fuel listed L w []:=fun _ h=>by cases h
theorem WO.cons {i:Nat} {o:Oper} {rs:List Nat} (ho:ops[i]?=some o)
  (h:WL P n ops (Xb1 (fun L' w'=>(nd i=true→S w→S w')∧WD P n ops S nd K fuel (listed.setIfInBounds i true) L' w') (noP K)) [o] L w) (hr:WO P n ops S nd K fuel listed L w rs):WO P n ops S nd K fuel listed L w (i::rs):=by
 intro j hj o' ho';rcases Y18.1 hj with rfl | hj
 ·rw [ho] at ho'; cases ho'; exact h
 ·exact hr j hj o' ho'
theorem WD.branch (rs:List Nat) (hr:Region.ready .any ops listed=rs) (hne:rs.isEmpty=false) (h:WO P n ops S nd K fuel listed L w rs):WD P n ops S nd K (fuel+1) listed L w:=by
 intro a ha;refine ⟨fun h0=>?_,fun i hi=>?_⟩
 ·rw [hr] at h0; rw [h0] at hne; cases hne
 ·rw [hr] at hi;obtain ⟨_,o,ho,_⟩:=mem_ready.1 (hr ▸ hi);have h1:=h i hi o ho a ha;unfold wpOp;simp only [ho]
  unfold wpList at h1;have conv:∀ (a':Act) (w':World),wpList P ops (Xod n (Xb1 (fun L' w'=>(nd i=true→S w→S w')∧WD P n ops S nd K fuel (listed.setIfInBounds i true) L' w') (noP K))) [] a' w' →
    (nd i=true→S w→S w')∧X8k P .any ops (Xod n (noP K)) S nd fuel (listed.setIfInBounds i true) a' w':=fun a' w' ⟨L',hL,hS,hd⟩=>⟨hS,hd a' hL⟩
  have convQ:∀ (e:Exit) (a':Act) (w':World),e≠.normal→Xod n (Xb1 (fun L' w'=>(nd i=true→S w→S w')∧WD P n ops S nd K fuel (listed.setIfInBounds i true) L' w') (noP K)) e a' w'→Xod n (noP K) e a' w':=fun e a' w' he ⟨L',hL,hk⟩=>⟨L',hL,by cases e <;> first | exact hk | exact absurd rfl he⟩
  split at h1
  ·rename_i hw
   rw [if_pos hw];rcases h1 with h1 | ⟨hasks,a1,w1,ho1⟩
   ·left
    have h2:=Oper.wp_mono conv h1;unfold Oper.wp at h2 ⊢;generalize (execOp a.eval o).run P w=r at *;cases r with
    | ok nx w' =>
     cases nx <;> simp only [Oper.upon] at h2 ⊢
     case value=>exact h2
     case skip=>exact h2
     case defer=>exact h2
     case enter f args =>
      refine Calls.mono h2 fun e w'' he=>?_
      cases e with
      | returned u=>exact he
      | panicked c=>exact convQ _ _ _ (by simp) he
      | outgrown =>
       obtain ⟨a1,w1,h9⟩:=he;exact ⟨a1,w1,convQ _ _ _ (by simp) h9⟩
     case row=>exact h2
    | halt x w' =>
     cases x <;> simp only [Oper.upon] at h2 ⊢
     case panic=>exact convQ _ _ _ (by simp) h2
   ·right
    exact ⟨hasks,a1,w1,convQ _ _ _ (by simp) ho1⟩
  ·rename_i hw
   rw [if_neg hw];exact conv _ _ h1
theorem WD.go {i:Nat} {w0:World} (hS:nd i=true→S w0→S w) (h:WD P n ops S nd K fuel (listed.setIfInBounds i true) L w) :
  Xb1 (fun L' w'=>(nd i=true→S w0→S w')∧WD P n ops S nd K fuel (listed.setIfInBounds i true) L' w') (noP K) .normal L w:=⟨hS,h⟩
theorem Sat.pick {B:World} {I:Im} {As:List X7} {A:X7} (hS:Sat B w I As) (k:Nat) (hk:As[k]?=some A):Sat B w I (A::As.eraseIdx k):=by
 obtain ⟨h,hs,hg⟩:=hS;obtain ⟨h1,h2,hp,ha,_,h3,he,hpe⟩:=hs.at_ hk;exact ⟨h1 ++ h3,⟨h1,h3,rfl,ha,he⟩,hg.perm (hp.trans (hpe.symm.append_left h1))⟩
theorem SepAll.snoc:∀ {As:List X7} {A:X7} {h1 h2:Xb9},SepAll As h1→A h2→SepAll (As ++ [A]) (h1 ++ h2)
 | [],A,h1,h2,h,ha=>by
  simp only [SepAll] at h
  subst h;exact ⟨h2,[],by simp,ha,rfl⟩
 | A0::As,A,h1,h2,h,ha=>by
  obtain ⟨g1,g2,rfl,h0,hr⟩:=h;exact ⟨g1,g2 ++ h2,by rw [Yf],h0,hr.snoc ha⟩
theorem SepAll.unsnoc:∀ {As:List X7} {A:X7} {h:Xb9},SepAll (As ++ [A]) h→∃ h1 h2,h=h1 ++ h2∧SepAll As h1∧A h2
 | [],A,h,hh=>by
  obtain ⟨h1,h2,rfl,ha,hn⟩:=hh;simp only [SepAll] at hn
  subst hn;exact ⟨[],h1,by simp,rfl,ha⟩
 | A0::As,A,h,hh=>by
  obtain ⟨g1,g2,rfl,h0,hr⟩:=hh;obtain ⟨h1,h2,rfl,h3,h4⟩:=SepAll.unsnoc hr;exact ⟨g1 ++ h1,h2,by rw [Yf],⟨g1,h1,rfl,h0,h3⟩,h4⟩
theorem Sat.push {B:World} {I:Im} {As Bs:List X7} {A:X7} {k:Nat} (hS:Sat B w I (A::As)) (hk:As[k]?=some (SepAll Bs)):Sat B w I (As.set k (SepAll (Bs ++ [A]))):=by
 obtain ⟨h,⟨g1,g2,rfl,ha,hs⟩,hg⟩:=hS;obtain ⟨h1,h2,hp,hb,hset,_⟩:=hs.at_ hk;obtain ⟨h',hs',hp'⟩:=hset (SepAll (Bs ++ [A])) (h1 ++ g1) (hb.snoc ha);refine ⟨h',hs',hg.perm ((hp.append_left g1).trans (List.Perm.trans ?_ hp'.symm))⟩;rw [← Yf];exact Y1l.append_right _
theorem Sat.pop {B:World} {I:Im} {As Bs:List X7} {A:X7} {k:Nat} (hS:Sat B w I As) (hk:As[k]?=some (SepAll (Bs ++ [A]))):Sat B w I (A::As.set k (SepAll Bs)):=by
 obtain ⟨h,hs,hg⟩:=hS;obtain ⟨h1,h2,hp,hb,hset,_⟩:=hs.at_ hk;obtain ⟨g1,g2,rfl,hb1,ha⟩:=SepAll.unsnoc hb;obtain ⟨h',hs',hp'⟩:=hset (SepAll Bs) g1 hb1;refine ⟨g2 ++ h',⟨g2,h',rfl,ha,hs'⟩,hg.perm (hp.trans ?_)⟩;refine List.Perm.trans ?_ (hp'.symm.append_left g2);rw [← Yf];exact Y1l.append_right _
theorem Sat.freezeVec {B:World} {I:Im} {As:List X7} {k E size nn c:Nat} {a:Option Addr} {xs:List Value} (hS:Sat B w I As) (hk:As[k]?=some (Vec E size (.slice a nn c) nn xs)):∃ J,Le I J∧RS J a size nn xs∧Sat B w J (As.eraseIdx k):=by
 have hl:xs.length=nn*size:=hS.pure_ hk fun _ hh=>hh.1
 rcases Y1r nn with h0 | h0
 ·exact ⟨I,Le.refl I,⟨hl,fun h=>absurd h (by omega)⟩,hS.drop hk⟩
 ·obtain ⟨b,cap,r,hv,h1,h2,_,_,hSo⟩:=hS.vecOpen hk h0;injection hv with hv _ hv3
  subst hv; subst hv3;have hlk:k<As.length:=(Y5.1 hk).1;obtain ⟨J,hJ,hb,hS'⟩:=hSo.freeze (k:=k) (b:=b) (o:=Xi (xs ++ r) E) (by simp [hlk,blk]);refine ⟨J,hJ,⟨hl,fun _=>⟨_,rfl,rfl,_,_,_,hb,?_⟩⟩,by simpa [Y3k] using hS'⟩;intro j u hj;have hjl:j<xs.length:=(Y5.1 hj).1;simp only [Yd,List.getElem?_toArray]
  rw [Yk hjl];exact hj
end
end Gk
namespace Gk
open Go
theorem WD.b1 {P:Program} {n:Nat} {K:X36} {L:Env} {w:World} {ops:Array Oper} {S:World→Prop} {nd:Nat→Bool} {fuel:Nat} {listed:Array Bool} (i:Nat) (hr:Region.ready .any ops listed=[i]) {o:Oper} (ho:ops[i]?=some o) (h:WL P n ops (Xb1 (fun L' w'=>(nd i=true→S w→S w')∧WD P n ops S nd K fuel (listed.setIfInBounds i true) L' w') (noP K)) [o] L w):WD P n ops S nd K (fuel+1) listed L w:=WD.branch [i] hr rfl (WO.cons ho h WO.nil)
end Gk
namespace Gk
open Go
theorem Xu2 {a b c:Bool} (h:(a && b && c)=true):a=true∧b=true∧c=true:=by cases a <;> cases b <;> cases c <;> simp_all
theorem WD.tp {P:Program} {n:Nat} {K:X36} {L:Env} {w:World} {ops:Array Oper} {S:World→Prop} {nd:Nat→Bool} {fuel:Nat} {listed:Array Bool} {i d:Nat} {op:Op} {ty:TypeId} {pos:String} {af:Array Edge} {v:Value} (hi:ops[i]?=some ⟨some d,op,ty,pos,af,none⟩) (hs:(Region.noSelect ops && Region.free .any ops listed i && (Region.ready .any ops listed).contains i)=true)
    (hx:∀ w,Ex P n L w ⟨some d,op,ty,pos,af,none⟩ v w) (hd:Nat.blt d n=true)
    (h:WD P n ops S nd K fuel (listed.setIfInBounds i true) ((d,v)::L) w):WD P n ops S nd K (fuel+1) listed L w:=WD.takeP hi (Xu2 hs).1 (Xu2 hs).2.1 (Xu2 hs).2.2 hx hd h
theorem Xrb {a b c d:Bool} (h:(a && b && c && d)=true):a=true∧b=true∧c=true∧d=true:=by cases a <;> cases b <;> cases c <;> cases d <;> simp_all
theorem WD.tk {P:Program} {n:Nat} {K:X36} {L:Env} {w:World} {ops:Array Oper} {S:World→Prop} {nd:Nat→Bool} {fuel:Nat} {listed:Array Bool} {i d:Nat} {op:Op} {ty:TypeId} {pos:String} {af:Array Edge} {v:Value} (hi:ops[i]?=some ⟨some d,op,ty,pos,af,none⟩) (hs:(Region.noSelect ops && Region.free .any ops listed i && (Region.ready .any ops listed).contains i && Xa1 .any ops nd i)=true)
    (hS:S w) (hx:∀ w,S w→Ex P n L w ⟨some d,op,ty,pos,af,none⟩ v w) (hd:Nat.blt d n=true)
    (h:WD P n ops S nd K fuel (listed.setIfInBounds i true) ((d,v)::L) w):WD P n ops S nd K (fuel+1) listed L w:=WD.take hi (Xrb hs).1 (Xrb hs).2.1 (Xrb hs).2.2.1 (Xrb hs).2.2.2 hS hx hd h
theorem WD.tg {P:Program} {n:Nat} {K:X36} {L:Env} {w:World} {ops:Array Oper} {S:World→Prop} {nd:Nat→Bool} {fuel:Nat} {listed:Array Bool} {i d j t:Nat} {b want:Bool} {op:Op} {ty:TypeId} {pos:String} {af:Array Edge} {v:Value} (hi:ops[i]?=some ⟨some d,op,ty,pos,af,some (j,want)⟩) (hs:(Region.noSelect ops && Region.free .any ops listed i && (Region.ready .any ops listed).contains i && Xa1 .any ops nd i)=true)
    (hS:S w) (hj:(ops[j]?).bind (·.dst)=some t) (hb:look L t=some (.bool b)) (hx:b=want→∀ w,S w→Ex P n L w ⟨some d,op,ty,pos,af,some (j,want)⟩ v w) (hd:Nat.blt d n=true)
    (h:WD P n ops S nd K fuel (listed.setIfInBounds i true) ((d,gd b want v)::L) w):WD P n ops S nd K (fuel+1) listed L w:=WD.takeG hi (Xrb hs).1 (Xrb hs).2.1 (Xrb hs).2.2.1 (Xrb hs).2.2.2 hS hj hb hx hd h
end Gk
namespace Gk
open Go
def noGo (K:X36):X36:=fun e L w=>match e with | .goto _=>False | e=>K e L w
theorem WC.scope {P:Program} {n:Nat} {K:X36} {L:Env} {w:World} {c:Code} (h:WC P n c (noGo K) L w):WC P n (.scope c) K L w:=by
 intro a ha;refine wp_scope_straight (wp_mono (h a ha) ?_);rintro e a' w' ⟨L',h1,h2⟩;cases e <;> first | exact h2.elim | exact ⟨L',h1,h2⟩
section
variable {P:Program} {n:Nat} {K:X36} {L:Env} {w:World} {ops:Array Oper} {rest:List Oper}
theorem WL.gcalls {d j t:Nat} {c:List (Bool×Bool)} {b want:Bool} {ty:TypeId} {pos:String} {af:Array Edge} {v0:Value} {f:FuncId} {fn:Func} {xs:List Operand} {ts:Array TypeId} {vs:List Value} {T:World→Prop}
  (hj:(ops[j]?).bind (·.dst)=some t) (ht:Nat.blt t n=true) (hb:look L t=some (gds c (.bool b))) (hf:P.funcs[f]?=some fn) (hc:Xh fn=true)
  (hx:(∀ p∈c ++ [(b,want)],p.1=p.2)→∀ a,Holds n L a→xs.map a.eval=vs) (hd:Nat.blt d n=true)
  (hcall:(∀ p∈c ++ [(b,want)],p.1=p.2)→Calls P f vs.toArray w (Ret fun v w'=>v=v0∧T w')) (h0:T w)
  (h:∀ w',T w'→WL P n ops K rest ((d,gds (c ++ [(b,want)]) v0)::L) w'):WL P n ops K (⟨some d,.call ⟨.value (.func f),xs.toArray,ts⟩,ty,pos,af,some (j,want)⟩::rest) L w:=by
 intro a ha;refine wpList_step fun K' hK=>?_
 have hlt:t<a.tmps.size:=by have:=Y22 ht; rw [ha.size]; omega
 have hv:=ha.get t _ hb;have hy:yielded ops a.tmps j=match gds c (.bool b) with | .bool b=>some b | _=>none:=by
  obtain ⟨o,ho,hdd⟩:=Y2b.1 hj;rw [Y14,Y1a hlt] at hv;simp only [Y2o] at hv
  have h2:a.tmps[t]?=some (gds c (.bool b)):=by rw [Y1a hlt,hv]
  simp only [yielded,ho,hdd,Y2s,h2]
  generalize gds c (.bool b)=g;cases g <;> rfl
 by_cases e:∀ p∈c ++ [(b,want)],p.1=p.2
 ·have ec:∀ p∈c,p.1=p.2:=fun p hp=>e p (by simp [hp])
  have eb:b=want:=e (b,want) (by simp);rw [X1t ec] at hy;rw [if_pos (by simp [Region.wanted,hy,eb])];have he:(execOp a.eval (⟨some d,.call ⟨.value (.func f),xs.toArray,ts⟩,ty,pos,af,some (j,want)⟩:Oper)).run P w=.ok (.enter f vs.toArray) w:=by
   unfold Xh at hc;simp only [Yq] at hc
   obtain ⟨h1,h2⟩:=hc;have h1' : ¬ fn.name = "runtime.NumGoroutine" := by simpa using h1
   have h2':¬ fn.body=none:=by intro e; rw [e] at h2; cases h2
   have hv:=hx e a ha;simp [execOp,resolve,Act.eval,Deferred.ofValue,invoke,callFunc,program,Sem.run,hf,h1',h2',← hv]
  unfold Oper.wp;rw [he];refine (hcall e).mono fun e' w'' hq=>?_
  obtain ⟨v,rfl,rfl,hT⟩:=hq;have hput:=h w'' hT _ (ha.put hd (gds (c ++ [(b,want)]) v));rw [X1t e] at hput;exact hK _ _ hput
 ·have hw:Region.wanted (⟨some d,.call ⟨.value (.func f),xs.toArray,ts⟩,ty,pos,af,some (j,want)⟩:Oper) (yielded ops a.tmps)=false:=by
   by_cases ec:∀ p∈c,p.1=p.2
   ·rw [X1t ec] at hy;have eb:¬ b=want:=fun eb=>e fun p hp=>by
     rcases Y16.1 hp with hp | hp
     ·exact ec p hp
     ·simp at hp; subst hp; exact eb
    simp [Region.wanted,hy,eb]
   ·rw [X2z ec] at hy;simp [Region.wanted,hy,undef]
  rw [if_neg (by simp [hw])];have hput:=h w h0 _ (ha.put hd (gds (c ++ [(b,want)]) v0));rw [X2z e] at hput;exact hK _ _ hput
theorem WL.gcall {d j t:Nat} {b want:Bool} {ty:TypeId} {pos:String} {af:Array Edge} {v0:Value} {f:FuncId} {fn:Func} {xs:List Operand} {ts:Array TypeId} {vs:List Value} {T:World→Prop}
  (hj:(ops[j]?).bind (·.dst)=some t) (ht:Nat.blt t n=true) (hb:look L t=some (.bool b)) (hf:P.funcs[f]?=some fn) (hc:Xh fn=true)
  (hx:b=want→∀ a,Holds n L a→xs.map a.eval=vs) (hd:Nat.blt d n=true)
  (hcall:b=want→Calls P f vs.toArray w (Ret fun v w'=>v=v0∧T w')) (h0:T w)
  (h:∀ w',T w'→WL P n ops K rest ((d,gd b want v0)::L) w'):WL P n ops K (⟨some d,.call ⟨.value (.func f),xs.toArray,ts⟩,ty,pos,af,some (j,want)⟩::rest) L w :=
 WL.gcalls (c:=[]) hj ht hb hf hc (fun e=>hx (e (b,want) (by simp))) hd (fun e=>hcall (e (b,want) (by simp))) h0 h
theorem WL.gcall2 {d j t:Nat} {b1 w1 b want:Bool} {ty:TypeId} {pos:String} {af:Array Edge} {v0:Value} {f:FuncId} {fn:Func} {xs:List Operand} {ts:Array TypeId} {vs:List Value} {T:World→Prop}
  (hj:(ops[j]?).bind (·.dst)=some t) (ht:Nat.blt t n=true) (hb:look L t=some (gd b1 w1 (.bool b))) (hf:P.funcs[f]?=some fn) (hc:Xh fn=true)
  (hx:b1=w1→b=want→∀ a,Holds n L a→xs.map a.eval=vs) (hd:Nat.blt d n=true)
  (hcall:b1=w1→b=want→Calls P f vs.toArray w (Ret fun v w'=>v=v0∧T w')) (h0:T w)
  (h:∀ w',T w'→WL P n ops K rest ((d,gd b1 w1 (gd b want v0))::L) w'):WL P n ops K (⟨some d,.call ⟨.value (.func f),xs.toArray,ts⟩,ty,pos,af,some (j,want)⟩::rest) L w :=
 WL.gcalls (c:=[(b1,w1)]) hj ht hb hf hc (fun e=>hx (e (b1,w1) (by simp)) (e (b,want) (by simp))) hd (fun e=>hcall (e (b1,w1) (by simp)) (e (b,want) (by simp))) h0 h
end
end Gk
namespace Gk
open Go
section
variable {P:Program} {n:Nat} {K:X36} {L:Env} {w:World} {B:World} {I:Im} {As:List X7} {k:Nat} {x y:Operand} {ty:TypeId} {pos:String} {af:Array Edge} {g:Option (Nat×Bool)} {ops:Array Oper} {rest:List Oper}
theorem Ex.extern {d : Option Nat} {f : FuncId} {fn : Func} {e : Array Value → Sem Value} {xs : List Operand} {ts : Array TypeId} {vs : List Value} {v : Value} (hf : P.funcs[f]? = some fn) (hname : (fn.name == "runtime.NumGoroutine") = false) (hb : fn.body.isNone = true) (hn : Extern.findNext fn = none) (he : Extern.find fn = some e)
  (hx:∀ a,Holds n L a→xs.map a.eval=vs) (hv:(e vs.toArray).run P w=.ok v w):Ex P n L w ⟨d,.call ⟨.value (.func f),xs.toArray,ts⟩,ty,pos,af,g⟩ v w:=fun a ha=>by
 have h:=run_callFunc_extern hf hname hb hn he vs.toArray w;have hv2:=hx a ha;rw [hv] at h;simp only [Result.andThen] at h
 subst hv2;simp [execOp,resolve,Act.eval,Deferred.ofValue,invoke,h]
theorem Xab {b:Nat} {cs:List Value} {E:TypeId} (hb:w.heap[b]?=some (Xi cs E)):w.shape? b=some (E,cs.length):=by
 simp [World.shape?,hb,Xi]
theorem Ex.toUnsafe {d:Option Nat} {src dst t E:TypeId} {j:TypeInfo} {b o:Nat} {cs:List Value} (hx:Ev n L x (ptr b o)) (hS:Sat B w I As) (hk:As[k]?=some (blk b cs E)) (hs:P.underlying src=some (.pointer t)) (hd:P.underlying dst=some .unsafePointer) (ht:P.info? t=some j) (hj:j.size≠0) (ho:o<cs.length) :
  Ex P n L w ⟨d,.convert src dst x,ty,pos,af,g⟩ (ptr b o) w:=fun a ha=>by
 have h:=Go.Lib.run_to_unsafe (P:=P) w ⟨b,o,none⟩ hs hd ht hj (Xab (hS.block hk)) ho;simp [execOp,hx a ha,h]
theorem Ex.fromUnsafe {d:Option Nat} {src dst u E:TypeId} {j:TypeInfo} {b o:Nat} {cs:List Value} (hx:Ev n L x (ptr b o)) (hS:Sat B w I As) (hk:As[k]?=some (blk b cs E)) (hs:P.underlying src=some .unsafePointer) (hd:P.underlying dst=some (.pointer u)) (hu:P.info? u=some j) (hl:liesAt P P.depth E (cs.length / P.cellsOf E) o u 1=true) :
  Ex P n L w ⟨d,.convert src dst x,ty,pos,af,g⟩ (ptr b o) w:=fun a ha=>by
 have h:=Go.Lib.run_from_unsafe (P:=P) w ⟨b,o,none⟩ hs hd hu (Xab (hS.block hk)) hl;simp [execOp,hx a ha,h]
theorem Ex.nepSame {d:Option Nat} {t te:TypeId} {j:TypeInfo} {a:Addr} (hx:Ev n L x (.pointer (some a))) (hy:Ev n L y (.pointer (some a))) (hT:P.underlying t=some (.pointer te)) (hj:P.info? te=some j) (ht':True):Ex P n L w ⟨d,.binOp .neq t x y t,ty,pos,af,g⟩ (.bool false) w :=
 X1a hx hy (fun _ _=>by rw [eqGuard_at_pointer]; rfl) (Go.Lib.run_neq_ptr_same w a hT hj)
abbrev bcs (l:List UInt8):List Value:=l.map fun c=>U8 (c.toNat:Int)
theorem Ex.sliceData {d:Option Nat} {ts:Array TypeId} {a:Addr} {m c:Nat} (hx:Ev n L x (.slice (some a) m c)) (hc:c≠0):Ex P n L w ⟨d,.call ⟨.builtin .unsafeSliceData,#[x],ts⟩,ty,pos,af,g⟩ (.pointer (some a)) w:=fun b hb=>by
 have h:=Go.Lib.run_unsafeSliceData_row (P:=P) w ts ty a m c hc;simp [execOp,resolve,invoke,builtin,hx b hb,h]
theorem Ex.sliceDataNil {d:Option Nat} {ts:Array TypeId} {m c:Nat} (hx:Ev n L x (.slice none m c)):Ex P n L w ⟨d,.call ⟨.builtin .unsafeSliceData,#[x],ts⟩,ty,pos,af,g⟩ (.pointer none) w:=fun b hb=>by
 have h:=Go.Lib.run_unsafeSliceData_nil (P:=P) w ts ty m c;simp [execOp,resolve,invoke,builtin,hx b hb,h]
theorem Ex.unsafeStringNone {d:Option Nat} {pt it:TypeId} {p:Option Addr} (hx:Ev n L x (.pointer p)) (hy:Ev n L y (I64 0)):Ex P n L w ⟨d,.call ⟨.builtin .unsafeString,#[x,y],#[pt,it]⟩,ty,pos,af,g⟩ (S []) w:=fun b hb=>by
 have h:=Go.Lib.run_unsafeString_none (P:=P) w pt it ty p;simp [execOp,resolve,invoke,builtin,hx b hb,hy b hb,h]
 rfl
theorem Sat.freezeCells {b m:Nat} {cs:List Value} {E:TypeId} (hS:Sat B w I As) (hk:As[k]?=some (blk b cs E)):Sat B (w.freeze ⟨b,0,none⟩ m) I (As.eraseIdx k):=by
 by_cases h0:m=0
 ·subst h0;have e:w.freeze ⟨b,0,none⟩ 0=w:=by simp [World.freeze]
  rw [e]; exact hS.drop hk
 ·have hb:=hS.block hk;have hw:∃ o',(w.freeze ⟨b,0,none⟩ m).heap[b]?=some o':=by
   refine ⟨.cells cs.toArray E (0,m),?_⟩;simp [World.freeze,h0,Array.getElem?_modify,hb,Xi]
  obtain ⟨o',ho⟩:=hw;have h1:=hS.write (w':=w.freeze ⟨b,0,none⟩ m) hk (by simp [World.freeze,h0]) (by simp [World.freeze,h0]) (by simp [World.freeze,h0]) ho (fun c hc=>by
   have hne:¬ b=c:=fun e=>hc e.symm
   simp [World.freeze,h0,Array.getElem?_modify,hne])
  have hlk:k<As.length:=(Y5.1 hk).1;have h2:=h1.drop (k:=k) (A:=own b o') (by simp [hlk]);simpa [Y3k] using h2
theorem WL.unsafeString {d b:Nat} {pt it E:TypeId} {l:List UInt8} {r:List Value} (hS:Sat B w I As) (hk:As[k]?=some (blk b (bcs l ++ r) E)) (hx:Ev n L x (ptr b 0)) (hy:Ev n L y (I64 l.length)) (h0:l≠[]) (hp:P.underlying pt=some (.pointer E)) (hc:P.cellsOf E=1) (h63:l.length≤9223372036854775807) (hd:Nat.blt d n=true)
  (h:∀ w',Sat B w' I (As.eraseIdx k)→WL P n ops K rest ((d,S l)::L) w'):WL P n ops K (⟨some d,.call ⟨.builtin .unsafeString,#[x,y],#[pt,it]⟩,ty,pos,af,none⟩::rest) L w:=by
 have hb:=hS.block hk;have hr:=Go.Lib.run_unsafeString_row (P:=P) w pt it ty E hp hc b (bcs l ++ r).length (Xab hb) l h0 (by simp) h63 (fun j y hj=>by
  rw [X13,Yd];refine Xy hb ?_;rw [Yk (by have:=(Y5.1 hj).1; simpa using this)];simp [hj])
 refine .val (w':=w.freeze ⟨b,0,none⟩ l.length) (fun a ha=>?_) hd (h _ (hS.freezeCells hk));simp [execOp,resolve,invoke,builtin,hx a ha,hy a ha,hr]
theorem Ex.bytesStr {d:Option Nat} {src dst E:TypeId} {b o cap:Nat} {l:List UInt8} {cs:List Value} (hx:Ev n L x (.slice (some (ad b o)) l.length cap)) (hS:Sat B w I As) (hk:As[k]?=some (blk b cs E)) (hs:P.underlying src=some (.slice E)) (he:P.underlying E=some (.int .u8)) (hd:P.underlying dst=some .string)
  (hc:∀ j (hj:j<l.length),cs[o+j]?=some (U8 (l[j].toNat:Int))):Ex P n L w ⟨d,.convert src dst x,ty,pos,af,g⟩ (S l) w:=fun a ha=>by
 have hb:=hS.block hk;have h:=run_convert_bytes_back (P:=P) w src dst E (ad b o) cap l hs he hd (fun j hj=>by rw [X13]; exact Xy hb (hc j hj));simp [execOp,hx a ha,h]
end
end Gk
namespace Flt
open Ieee
def rg (b:Nat):Nat:=b % 9223372036854775808
def sg (b:Nat):Bool:=b / 9223372036854775808 % 2 == 1
def nan (b:Nat):Bool:=decide (9218868437227405312<rg b)
def mag (r:Nat):Nat:=if r<4503599627370496 then r else (4503599627370496+r % 4503599627370496)*2 ^ (r / 4503599627370496 - 1)
def sv (b:Nat):Int:=if sg b then -(mag (rg b):Int) else (mag (rg b):Int)
theorem bn:double.binade=4503599627370496:=by decide
theorem lp:double.leastPlace=-1074:=by decide
def e0:Nat:=1074
def one:Nat:=2 ^ e0
end Flt
namespace Flt
def lt (a b:Nat):Bool:=!nan a && !nan b && decide (sv a<sv b)
def nf (a:Nat):Option Nat:=if nan a then none else some a
end Flt
namespace Gk
open Go
abbrev F64 (n:Nat):Value:=.float .f64 n
abbrev U64 (n:Int):Value:=.int .u64 n
section
variable {P:Program} {n:Nat} {K:X36} {L:Env} {w w':World} {ops:Array Oper} {rest:List Oper}
variable {B:World} {I:Im} {As:List X7} {k:Nat} {ty:TypeId} {pos:String} {af:Array Edge} {g:Option (Nat×Bool)} {t t':TypeId} {x y:Operand}
section
variable {d:Option Nat} {a b:Nat}
end
section
variable {d:Option Nat} {i j:Int} {q:IntKind}
theorem X4q {a:Nat} (h:a<18446744073709551616):(BitVec.ofInt IntKind.u64.bits (a:Int)).toNat=a:=by
 rw [BitVec.toNat_ofInt];show ((a:Int) % ((2 ^ 64:Nat):Int)).toNat=a
 omega
theorem Xcx {a:Nat} (h:a<18446744073709551616):IntKind.u64.wrap (a:Int)=(a:Int):=by rw [IntKind.wrap_u64]; omega
theorem Ex.and64 {a b:Nat} (ha:a<18446744073709551616) (hb:b<18446744073709551616) (hx:Ev n L x (U64 a)) (hy:Ev n L y (U64 b)):Ex P n L w ⟨d,.binOp .and t x y t',ty,pos,af,g⟩ (U64 ((a &&& b:Nat):Int)) w :=
 X1a hx hy (Xg _ _ _ _) (by
  have h1:a &&& b<18446744073709551616:=Y3u Nat.and_le_left ha;have e:(BitVec.ofInt IntKind.u64.bits (a:Int) &&& BitVec.ofInt IntKind.u64.bits (b:Int)).toNat=a &&& b:=by rw [BitVec.toNat_and,X4q ha,X4q hb]
  show (Op.intBits .and .u64 a b).run P w=_
  unfold Op.intBits;simp only [e,Xcx h1,Sem.run_pure])
theorem Ex.or64 {a b:Nat} (ha:a<18446744073709551616) (hb:b<18446744073709551616) (hx:Ev n L x (U64 a)) (hy:Ev n L y (U64 b)):Ex P n L w ⟨d,.binOp .or t x y t',ty,pos,af,g⟩ (U64 ((a ||| b:Nat):Int)) w :=
 X1a hx hy (Xg _ _ _ _) (by
  have h1:a ||| b<18446744073709551616:=Nat.or_lt_two_pow (n:=64) ha hb;have e:(BitVec.ofInt IntKind.u64.bits (a:Int) ||| BitVec.ofInt IntKind.u64.bits (b:Int)).toNat=a ||| b:=by rw [BitVec.toNat_or,X4q ha,X4q hb]
  show (Op.intBits .or .u64 a b).run P w=_
  unfold Op.intBits;simp only [e,Xcx h1,Sem.run_pure])
theorem Ex.not64 {t:TypeId} {a:Nat} (ha:a<18446744073709551616) (hx:Ev n L x (U64 a)):Ex P n L w ⟨d,.unOp .xor t x,ty,pos,af,g⟩ (U64 ((18446744073709551615 - a:Nat):Int)) w:=fun e he=>by
 have h1:(BitVec.ofInt IntKind.u64.bits IntKind.u64.max ^^^ BitVec.ofInt IntKind.u64.bits (a:Int)).toNat=18446744073709551615 - a:=by
  have e1:BitVec.ofInt 64 18446744073709551615=BitVec.allOnes 64:=by decide
  have e2:(BitVec.ofInt 64 (a:Int)).toNat=a:=X4q ha;change (BitVec.ofInt 64 18446744073709551615 ^^^ BitVec.ofInt 64 (a:Int)).toNat=_;rw [e1,BitVec.allOnes_xor,BitVec.toNat_not,e2]
 have h2:(Op.unary .xor (U64 a)).run P w=.ok (U64 ((18446744073709551615 - a:Nat):Int)) w:=by
  show (Op.intBits .xor .u64 (if IntKind.u64.signed then -1 else IntKind.u64.max) a).run P w=_
  rw [if_neg (by decide)];unfold Op.intBits;simp only [h1,Xcx (show 18446744073709551615 - a<18446744073709551616 by omega),Sem.run_pure]
 simp only [execOp,hx e he,Sem.run_bind,h2,Result.andThen_ok,Sem.run_pure]
theorem Ex.addx {q:IntKind} (hx:Ev n L x (.int q i)) (hy:Ev n L y (.int q j)) (h:q.wrap (i+j)=i+j):Ex P n L w ⟨d,.binOp .add t x y t',ty,pos,af,g⟩ (.int q (i+j)) w :=
 X1a hx hy (Xg _ _ _ _) (by simp [binOp,Op.intArith,h])
theorem Ex.subx {q:IntKind} (hx:Ev n L x (.int q i)) (hy:Ev n L y (.int q j)) (h:q.wrap (i - j)=i - j):Ex P n L w ⟨d,.binOp .sub t x y t',ty,pos,af,g⟩ (.int q (i - j)) w :=
 X1a hx hy (Xg _ _ _ _) (by simp [binOp,Op.intArith,h])
theorem Ex.mulx {q:IntKind} (hx:Ev n L x (.int q i)) (hy:Ev n L y (.int q j)) (h:q.wrap (i*j)=i*j):Ex P n L w ⟨d,.binOp .mul t x y t',ty,pos,af,g⟩ (.int q (i*j)) w :=
 X1a hx hy (Xg _ _ _ _) (by simp [binOp,Op.intArith,h])
theorem Ex.andHi {a:Nat} (ha:a<18446744073709551616) (hx:Ev n L x (U64 a)) (hy:Ev n L y (U64 9223372036854775808)):Ex P n L w ⟨d,.binOp .and t x y t',ty,pos,af,g⟩ (U64 ((a &&& 9223372036854775808:Nat):Int)) w :=
 Ex.and64 ha (by decide) hx hy
theorem Ex.orHi {a:Nat} (ha:a<18446744073709551616) (hx:Ev n L x (U64 a)) (hy:Ev n L y (U64 9223372036854775808)):Ex P n L w ⟨d,.binOp .or t x y t',ty,pos,af,g⟩ (U64 ((a ||| 9223372036854775808:Nat):Int)) w :=
 Ex.or64 ha (by decide) hx hy
theorem Ex.quo {q:IntKind} (hx:Ev n L x (.int q i)) (hy:Ev n L y (.int q j)) (h0:0≤i) (h1:0<j) (hw:q.wrap (i / j)=i / j):Ex P n L w ⟨d,.binOp .quo t x y t',ty,pos,af,g⟩ (.int q (i / j)) w :=
 X1a hx hy (Xg _ _ _ _) (by
  have h2:¬ j=0:=by omega
  have e:i.tdiv j=i / j:=Int.tdiv_eq_ediv_of_nonneg h0;simp [binOp,Op.intDiv,h2,e,hw])
theorem Ex.rem {q:IntKind} (hx:Ev n L x (.int q i)) (hy:Ev n L y (.int q j)) (h0:0≤i) (h1:0<j):Ex P n L w ⟨d,.binOp .rem t x y t',ty,pos,af,g⟩ (.int q (i % j)) w :=
 X1a hx hy (Xg _ _ _ _) (by
  have h2:¬ j=0:=by omega
  have e:i.tmod j=i % j:=Int.tmod_eq_emod_of_nonneg h0;simp [binOp,Op.intDiv,h2,e])
theorem Ex.cvi {src dst:TypeId} {q r:IntKind} (hx:Ev n L x (.int q i)) (hs:P.underlying src=some (.int q)) (hd:P.underlying dst=some (.int r)) (hw:r.wrap i=i):Ex P n L w ⟨d,.convert src dst x,ty,pos,af,g⟩ (.int r i) w:=fun e he=>by
 simp [execOp,hx e he,convert,run_underlying hs,run_underlying hd,Conv.intToInt,hw]
theorem Ex.shr1 {q r:IntKind} (hx:Ev n L x (.int q i)) (hy:Ev n L y (.int r 1)) (hb:1≤q.bits):Ex P n L w ⟨d,.binOp .shr t x y t',ty,pos,af,g⟩ (.int q (i / 2)) w:=fun e he=>by
 have h1:min 1 q.bits=1:=by omega
 have h2:i.fdiv 2=i / 2:=Y4k _ (by decide);simp [execOp,hx e he,hy e he,binOp,Op.shift,h1,h2,eqGuard]
theorem Ex.makeFunc {f:Fn} {captured:List Operand} {vs:List Value} (hx:∀ a,Holds n L a→captured.map a.eval=vs):Ex P n L w ⟨d,.makeFunc f #[] captured.toArray,ty,pos,af,g⟩ (.func f #[] vs.toArray) w:=fun e he=>by
 have h:=hx e he;simp [execOp,Instr.makeFunc,← h]
end
theorem X4v {a:Act} (he:Holds n L a) {d:Option Nat} {f:FuncId} {fn:Func} {c:Operand} {cap:List Value} {xs:List Operand} {ts:Array TypeId} {vs:List Value} (hf:P.funcs[f]?=some fn) (hc:Xh fn=true) (hv:Ev n L c (.func (.func f) #[] cap.toArray)) (hx:xs.map a.eval=vs) :
  (execOp a.eval (⟨d,.call ⟨.value c,xs.toArray,ts⟩,ty,pos,af,g⟩:Oper)).run P w=.ok (.enter f (vs ++ cap).toArray) w:=by
 unfold Xh at hc;simp only [Yq] at hc
 obtain ⟨h1,h2⟩:=hc;have h1' : ¬ fn.name = "runtime.NumGoroutine" := by simpa using h1
 have h2':¬ fn.body=none:=by intro e; rw [e] at h2; cases h2
 simp [execOp,resolve,hv a he,Deferred.ofValue,invoke,callFunc,program,Sem.run,hf,h1',h2',← hx]
theorem WQ.vcall {C:World→Prop} {kk:Env→Prop} {d:Nat} {f:FuncId} {fn:Func} {c:Operand} {cap:List Value} {xs:List Operand} {ts:Array TypeId} {vs:List Value} {v:Value} (hf:P.funcs[f]?=some fn) (hc:Xh fn=true) (hv:Ev n L c (.func (.func f) #[] cap.toArray)) (hx:∀ a,Holds n L a→xs.map a.eval=vs) (hd:Nat.blt d n=true)
  (hcall:∀ w,C w→Calls P f (vs ++ cap).toArray w (Ret fun u w'=>u=v∧C w')) (h:WQ P n ops C kk rest ((d,v)::L)):WQ P n ops C kk (⟨some d,.call ⟨.value c,xs.toArray,ts⟩,ty,pos,af,none⟩::rest) L:=by
 intro a ha;refine wpQuiet_step fun K' hK=>?_
 rw [if_pos (X2d rfl _)];refine ⟨v,fun w hw=>?_,hK _ (h _ (ha.put hd v))⟩;unfold Oper.quietAt;rw [X4v ha hf hc hv (hx a ha)];refine ⟨rfl,(hcall w hw).mono ?_⟩;rintro e w'' ⟨u,rfl,rfl,hC⟩;exact ⟨rfl,hC⟩
theorem WQ.gvcall {C:World→Prop} {kk:Env→Prop} {d j s:Nat} {b want:Bool} {f:FuncId} {fn:Func} {c:Operand} {cap:List Value} {xs:List Operand} {ts:Array TypeId} {vs:List Value} {v:Value} (hj:(ops[j]?).bind (·.dst)=some s) (ht:Nat.blt s n=true) (hb:look L s=some (.bool b)) (hf:P.funcs[f]?=some fn) (hc:Xh fn=true)
  (hv:b=want→Ev n L c (.func (.func f) #[] cap.toArray)) (hx:b=want→∀ a,Holds n L a→xs.map a.eval=vs) (hd:Nat.blt d n=true)
  (hcall:b=want→∀ w,C w→Calls P f (vs ++ cap).toArray w (Ret fun u w'=>u=v∧C w')) (h:WQ P n ops C kk rest ((d,gd b want v)::L)):WQ P n ops C kk (⟨some d,.call ⟨.value c,xs.toArray,ts⟩,ty,pos,af,some (j,want)⟩::rest) L:=by
 intro a ha;refine wpQuiet_step fun K' hK=>?_
 have hput:=h _ (ha.put hd (gd b want v));have hy:=X85 ha hj hb;unfold Gk.gd at hput
 by_cases e:b=want
 ·rw [if_pos (by simp [Region.wanted,hy,e])];subst e;refine ⟨v,fun w hw=>?_,hK _ (by simpa using hput)⟩;unfold Oper.quietAt;rw [X4v ha hf hc (hv rfl) (hx rfl a ha)];refine ⟨rfl,(hcall rfl w hw).mono ?_⟩;rintro e w'' ⟨u,rfl,rfl,hC⟩;exact ⟨rfl,hC⟩
 ·rw [if_neg (by simp [Region.wanted,hy,e])];have e':(b == want)=false:=by simpa using e
  rw [e'] at hput;exact hK _ (by simpa using hput)
theorem X1q {f:FuncId} {args:Array Value} {w:World} {v:Value} {C:World→Prop} (h:Calls P f args w (Ret fun u w'=>u=v∧w=w')) (hC:C w):Calls P f args w (Ret fun u w'=>u=v∧C w') :=
 h.mono fun e w' he=>by
  obtain ⟨u,rfl,rfl,rfl⟩:=he;exact ⟨_,rfl,rfl,hC⟩
theorem WQ.gcalls {C:World→Prop} {kk:Env→Prop} {d j t:Nat} {c:List (Bool×Bool)} {b want:Bool} {f:FuncId} {fn:Func} {xs:List Operand} {ts:Array TypeId} {vs:List Value} {v:Value}
  (hj:(ops[j]?).bind (·.dst)=some t) (ht:Nat.blt t n=true) (hb:look L t=some (gds c (.bool b))) (hf:P.funcs[f]?=some fn) (hc:Xh fn=true)
  (hx:(∀ p∈c ++ [(b,want)],p.1=p.2)→∀ a,Holds n L a→xs.map a.eval=vs) (hd:Nat.blt d n=true)
  (hcall:(∀ p∈c ++ [(b,want)],p.1=p.2)→∀ w,C w→Calls P f vs.toArray w (Ret fun u w'=>u=v∧C w'))
  (h:WQ P n ops C kk rest ((d,gds (c ++ [(b,want)]) v)::L)):WQ P n ops C kk (⟨some d,.call ⟨.value (.func f),xs.toArray,ts⟩,ty,pos,af,some (j,want)⟩::rest) L:=by
 intro a ha;refine wpQuiet_step fun K' hK=>?_
 have hput:=h _ (ha.put hd (gds (c ++ [(b,want)]) v));have hlt:t<a.tmps.size:=by have:=Y22 ht; rw [ha.size]; omega
 have hv:=ha.get t _ hb;have hy:yielded ops a.tmps j=match gds c (.bool b) with | .bool b=>some b | _=>none:=by
  obtain ⟨o,ho,hdd⟩:=Y2b.1 hj;rw [Y14,Y1a hlt] at hv;simp only [Y2o] at hv
  have h2:a.tmps[t]?=some (gds c (.bool b)):=by rw [Y1a hlt,hv]
  simp only [yielded,ho,hdd,Y2s,h2]
  generalize gds c (.bool b)=g;cases g <;> rfl
 by_cases e:∀ p∈c ++ [(b,want)],p.1=p.2
 ·have ec:∀ p∈c,p.1=p.2:=fun p hp=>e p (by simp [hp])
  have eb:b=want:=e (b,want) (by simp);rw [X1t ec] at hy;rw [if_pos (by simp [Region.wanted,hy,eb])];rw [X1t e] at hput;refine ⟨v,fun w hw=>?_,hK _ hput⟩;have he:(execOp a.eval (⟨some d,.call ⟨.value (.func f),xs.toArray,ts⟩,ty,pos,af,some (j,want)⟩:Oper)).run P w=.ok (.enter f vs.toArray) w:=by
   unfold Xh at hc;simp only [Yq] at hc
   obtain ⟨h1,h2⟩:=hc;have h1' : ¬ fn.name = "runtime.NumGoroutine" := by simpa using h1
   have h2':¬ fn.body=none:=by intro e; rw [e] at h2; cases h2
   have hv:=hx e a ha;simp [execOp,resolve,Act.eval,Deferred.ofValue,invoke,callFunc,program,Sem.run,hf,h1',h2',← hv]
  unfold Oper.quietAt;rw [he];refine ⟨rfl,(hcall e w hw).mono ?_⟩;rintro e' w'' ⟨u,rfl,rfl,hC⟩;exact ⟨rfl,hC⟩
 ·have hw:Region.wanted (⟨some d,.call ⟨.value (.func f),xs.toArray,ts⟩,ty,pos,af,some (j,want)⟩:Oper) (yielded ops a.tmps)=false:=by
   by_cases ec:∀ p∈c,p.1=p.2
   ·rw [X1t ec] at hy;have eb:¬ b=want:=fun eb=>e fun p hp=>by
     rcases Y16.1 hp with hp | hp
     ·exact ec p hp
     ·simp at hp; subst hp; exact eb
    simp [Region.wanted,hy,eb]
   ·rw [X2z ec] at hy;simp [Region.wanted,hy,undef]
  rw [if_neg (by simp [hw])];rw [X2z e] at hput;exact hK _ hput
theorem WQ.gcall {C:World→Prop} {kk:Env→Prop} {d j t:Nat} {b want:Bool} {f:FuncId} {fn:Func} {xs:List Operand} {ts:Array TypeId} {vs:List Value} {v:Value}
  (hj:(ops[j]?).bind (·.dst)=some t) (ht:Nat.blt t n=true) (hb:look L t=some (.bool b)) (hf:P.funcs[f]?=some fn) (hc:Xh fn=true)
  (hx:b=want→∀ a,Holds n L a→xs.map a.eval=vs) (hd:Nat.blt d n=true)
  (hcall:b=want→∀ w,C w→Calls P f vs.toArray w (Ret fun u w'=>u=v∧C w'))
  (h:WQ P n ops C kk rest ((d,gd b want v)::L)):WQ P n ops C kk (⟨some d,.call ⟨.value (.func f),xs.toArray,ts⟩,ty,pos,af,some (j,want)⟩::rest) L :=
 WQ.gcalls (c:=[]) hj ht hb hf hc (fun e=>hx (e (b,want) (by simp))) hd (fun e=>hcall (e (b,want) (by simp))) h
theorem WQ.gcall2 {C:World→Prop} {kk:Env→Prop} {d j t:Nat} {b1 w1 b want:Bool} {f:FuncId} {fn:Func} {xs:List Operand} {ts:Array TypeId} {vs:List Value} {v:Value}
  (hj:(ops[j]?).bind (·.dst)=some t) (ht:Nat.blt t n=true) (hb:look L t=some (gd b1 w1 (.bool b))) (hf:P.funcs[f]?=some fn) (hc:Xh fn=true)
  (hx:b1=w1→b=want→∀ a,Holds n L a→xs.map a.eval=vs) (hd:Nat.blt d n=true)
  (hcall:b1=w1→b=want→∀ w,C w→Calls P f vs.toArray w (Ret fun u w'=>u=v∧C w'))
  (h:WQ P n ops C kk rest ((d,gd b1 w1 (gd b want v))::L)):WQ P n ops C kk (⟨some d,.call ⟨.value (.func f),xs.toArray,ts⟩,ty,pos,af,some (j,want)⟩::rest) L :=
 WQ.gcalls (c:=[(b1,w1)]) hj ht hb hf hc (fun e=>hx (e (b1,w1) (by simp)) (e (b,want) (by simp))) hd (fun e=>hcall (e (b1,w1) (by simp)) (e (b,want) (by simp))) h
theorem WQ.gval3 {C:World→Prop} {kk:Env→Prop} {d j t:Nat} {b1 w1 b2 w2 b want:Bool} {op:Op} {v:Value}
  (hj:(ops[j]?).bind (·.dst)=some t) (ht:Nat.blt t n=true) (hb:look L t=some (gd b1 w1 (gd b2 w2 (.bool b)))) (hx:b1=w1→b2=w2→b=want→∀ w,C w→Ex P n L w ⟨some d,op,ty,pos,af,some (j,want)⟩ v w) (hd:Nat.blt d n=true)
  (h:WQ P n ops C kk rest ((d,gd b1 w1 (gd b2 w2 (gd b want v)))::L)):WQ P n ops C kk (⟨some d,op,ty,pos,af,some (j,want)⟩::rest) L :=
 WQ.gvals (c:=[(b1,w1),(b2,w2)]) hj ht hb (fun e=>hx (e (b1,w1) (by simp)) (e (b2,w2) (by simp)) (e (b,want) (by simp))) hd h
theorem Sat.weaken {J:Im} (hS:Sat B w J As) (hl:Le I J):Sat B w I As:=by
 obtain ⟨h,hs,hg⟩:=hS;refine ⟨h,hs,hg.os,hg.tape,hg.output,fun b o e=>hg.imm b o (hl b o e),hg.own,hg.nodup,fun b o hm=>?_⟩
 have:=hg.apart b o hm
 cases hi:I b with
 | none=>rfl
 | some z=>rw [hl b z hi] at this; cases this
end
end Gk
namespace Gk
open Go
section
variable {P:Program} {n:Nat} {K:X36} {L:Env} {w w':World} {ops:Array Oper} {rest:List Oper}
variable {B:World} {I:Im} {As:List X7} {k:Nat} {ty:TypeId} {pos:String} {af:Array Edge} {g:Option (Nat×Bool)} {t t':TypeId} {x y:Operand}
theorem Ex.sub3k {d:Option Nat} {i j:Int} {q r:IntKind} {l:List UInt8} {z:Operand} (hx:Ev n L x (S l)) (hy:Ev n L y (.int q i)) (hz:Ev n L z (.int r j)) (h0:0≤i) (h1:i≤j) (h2:j≤(l.length:Int)) (hT:P.underlying t=some .string) :
  Ex P n L w ⟨d,.slice t x (some y) (some z) none,ty,pos,af,g⟩ (S ((l.drop i.toNat).take (j.toNat - i.toNat))) w:=fun a ha=>by
 have h:=run_slice_string (P:=P) w t ⟨l.toArray⟩ q r i j hT h0 h1 h2;rw [X9v] at h;simp [execOp,hx a ha,hy a ha,hz a ha,run_sliceAt_string w t _ _ _ _ hT,h]
theorem Ex.str1 {d:Option Nat} {src dst E:TypeId} {b cap:Nat} {c:UInt8} {i:Int} (hx:Ev n L x (.slice (some (ad b 0)) 1 cap)) (hS:Sat B w I As) (hk:As[k]?=some (blk b [.int .u8 i] E)) (hi:i=(c.toNat:Int)) (hs:P.underlying src=some (.slice E)) (he:P.underlying E=some (.int .u8)) (hd:P.underlying dst=some .string) :
  Ex P n L w ⟨d,.convert src dst x,ty,pos,af,g⟩ (S [c]) w:=by
 subst hi;exact Ex.bytesStr (l:=[c]) hx hS hk hs he hd (fun j hj=>by
  have:j=0:=by simp at hj; omega
  subst this; rfl)
theorem Ex.index8 {d:Option Nat} {i:Int} {q:IntKind} {l:List UInt8} (hx:Ev n L x (S l)) (hy:Ev n L y (.int q i)) (hi:0≤i) (hl:i<(l.length:Int)) (hT:P.underlying t=some .string):Ex P n L w ⟨d,.index t x y,ty,pos,af,g⟩ (U8 (at_ l i).toNat) w :=
 fun a ha=>by
  have h1:i.toNat<l.length:=by omega
  have h3:0≤i∧i<((ByteArray.size ⟨l.toArray⟩:Nat):Int):=⟨hi,by show i<(l.length:Int); omega⟩
  have h:=run_index_string (P:=P) w t ⟨l.toArray⟩ q i hT;rw [dif_pos h3] at h;have h4:(⟨l.toArray⟩:ByteArray)[i.toNat]'(by show i.toNat<l.length; omega)=at_ l i:=by
   rw [at_,Yc,Y4 h1]; rfl
  rw [h4] at h;simp [execOp,hx a ha,hy a ha,h]
theorem Xie {t e:TypeId} {m:Nat} (hT:P.underlying t=some (.array m e)):P.elem t=e∧P.arrayLen t=m:=by
 simp [Program.elem,Program.arrayLen,hT]
theorem Ex.arrAddrI {d:Option Nat} {p:Addr} {m s:Nat} {e:TypeId} {i:Int} {q:IntKind} (hx:Ev n L x (.pointer (some p))) (hy:Ev n L y (.int q i)) (hi:0≤i) (hl:i<(m:Int)) (ht:P.underlying t=some (.array m e)) (hs:∀ w,(Go.sizeOf e).run P w=.ok s w) :
  Ex P n L w ⟨d,.indexAddr t x y,ty,pos,af,g⟩ (.pointer (some (p.add (i.toNat*s)))) w:=fun a ha=>by
 obtain ⟨e1,e2⟩:=Xie ht;have h:=run_indexAt_array (P:=P) w t p q i (by rw [e1,e2]; exact ht);rw [e2,if_pos ⟨hi,hl⟩,e1,hs] at h;simp [execOp,hx a ha,hy a ha,h,Result.andThen]
theorem Ex.indexArr {d:Option Nat} {m:Nat} {e:TypeId} {vs:List Value} {v:Value} {i:Int} {q:IntKind} (hx:Ev n L x (.agg vs.toArray)) (hy:Ev n L y (.int q i)) (hi:0≤i) (hl:i<(m:Int)) (ht:P.underlying t=some (.array m e)) (hs:∀ w,(Go.sizeOf e).run P w=.ok 1 w) (ha:∀ w,(isAgg e).run P w=.ok false w) (hv:vs[i.toNat]?=some v) :
  Ex P n L w ⟨d,.index t x y,ty,pos,af,g⟩ v w:=fun b hb=>by
 have hlt:i.toNat<vs.length:=(Y5.1 hv).1;have hg:=(Y5.1 hv).2;simp [execOp,hx b hb,hy b hb,Instr.index,run_underlying ht,asIntOf,hi,hl,hs,ha,hlt,hg,part]
theorem Ex.ibits {d:Option Nat} {op:BinOp} {q:IntKind} {i j:Int} (hop:op=.and∨op=.or∨op=.xor) (hx:Ev n L x (.int q i)) (hy:Ev n L y (.int q j)):Ex P n L w ⟨d,.binOp op t x y t',ty,pos,af,g⟩ (.int q (bits op q i j)) w :=
 X1a hx hy (Xg _ _ _ _) (by rcases hop with rfl | rfl | rfl <;> simp [binOp,Op.intBits,bits])
theorem Ex.shl {d:Option Nat} {q r:IntKind} {i j:Int} (hx:Ev n L x (.int q i)) (hy:Ev n L y (.int r j)) (h0:0≤j) (h1:j≤q.bits):Ex P n L w ⟨d,.binOp .shl t x y t',ty,pos,af,g⟩ (.int q (q.wrap (i*2 ^ j.toNat))) w:=fun e he=>by
 have h:=shift_shl q r i j h0 h1;simp [execOp,hx e he,hy e he,binOp,h,eqGuard]
theorem Ex.shr {d:Option Nat} {q r:IntKind} {i j:Int} (hx:Ev n L x (.int q i)) (hy:Ev n L y (.int r j)) (h0:0≤j) (h1:j≤q.bits):Ex P n L w ⟨d,.binOp .shr t x y t',ty,pos,af,g⟩ (.int q (i / 2 ^ j.toNat)) w:=fun e he=>by
 have hm:min j.toNat q.bits=j.toNat:=by omega
 have hn:¬ j<0:=by omega
 have h2:i.fdiv (2 ^ j.toNat)=i / 2 ^ j.toNat:=Y4k _ (Int.le_of_lt (Int.pow_pos (by decide)));simp [execOp,hx e he,hy e he,binOp,Op.shift,hm,hn,h2,eqGuard]
theorem Ex.cvw {d:Option Nat} {i:Int} {src dst:TypeId} {q r:IntKind} (hx:Ev n L x (.int q i)) (hs:P.underlying src=some (.int q)) (hd:P.underlying dst=some (.int r)):Ex P n L w ⟨d,.convert src dst x,ty,pos,af,g⟩ (.int r (r.wrap i)) w:=fun e he=>by
 simp [execOp,hx e he,convert,run_underlying hs,run_underlying hd,Conv.intToInt]
theorem WL.vcall {d:Nat} {f:FuncId} {fn:Func} {c:Operand} {cap:List Value} {xs:List Operand} {ts:Array TypeId} {vs:List Value} {Q:Value→World→Prop} (hf:P.funcs[f]?=some fn) (hc:Xh fn=true) (hv:Ev n L c (.func (.func f) #[] cap.toArray)) (hx:∀ a,Holds n L a→xs.map a.eval=vs) (hd:Nat.blt d n=true)
  (hcall:Calls P f (vs ++ cap).toArray w (Ret Q)) (h:∀ v w',Q v w'→WL P n ops K rest ((d,v)::L) w'):WL P n ops K (⟨some d,.call ⟨.value c,xs.toArray,ts⟩,ty,pos,af,none⟩::rest) L w:=by
 intro a ha;refine wpList_plain rfl fun K' hK=>?_
 unfold Oper.wp;rw [X4v ha hf hc hv (hx a ha)];refine hcall.mono fun e w'' hq=>?_
 obtain ⟨v,rfl,hv⟩:=hq;exact hK _ _ (h v w'' hv _ (ha.put hd v))
open Go.RowKit in
theorem Sat.grown {As:List X7} (hS:Sat B w I As) (h:Below w.heap.size w w'):Sat B w' I As:=by
 obtain ⟨hh,hs,hg⟩:=hS;have old:∀ b o,w.heap[b]?=some o→w'.heap[b]?=some o:=fun b o e=>by
  rw [h.block b (Y1c.1 e).1]; exact e
 exact ⟨hh,hs,h.os.trans hg.os,h.tape.trans hg.tape,h.output.trans hg.output,fun b o e=>old b o (hg.imm b o e),fun b o e=>old b o (hg.own b o e),hg.nodup,hg.apart⟩
open Go.RowKit in
theorem Sat.grownRow {E size m:Nat} {v:Value} {xs:List Value} (hS:Sat B w I As) (h:Below w.heap.size w w') (ho:w'.ownsRow w.heap.size E size v m xs):Sat B w' I (Vec E size v m xs::As):=by
 have hS2:=hS.grown h;obtain ⟨hl,hv | ⟨g,cap,cur,rfl,hb,hh,h1,h2,h3,h4⟩⟩:=ho
 ·obtain ⟨hv,h0⟩:=hv;subst hv; subst h0;have hx:xs=[]:=Yl (by simpa using hl);subst hx;exact hS2.vecNil E size
 ·obtain ⟨hh0,hs,hg⟩:=hS;obtain ⟨hh2,hs2,hg2⟩:∃ h,SepAll As h∧Good B w' I h∧h=hh0:=by
   refine ⟨hh0,hs,?_,rfl⟩;have old:∀ b o,w.heap[b]?=some o→w'.heap[b]?=some o:=fun b o e=>by
    rw [h.block b (Y1c.1 e).1]; exact e
   exact ⟨h.os.trans hg.os,h.tape.trans hg.tape,h.output.trans hg.output,fun b o e=>old b o (hg.imm b o e),fun b o e=>old b o (hg.own b o e),hg.nodup,hg.apart⟩
  obtain ⟨hg2,rfl⟩:=hg2;have cut:cur=(xs ++ cur.toList.drop (m*size)).toArray:=by
   apply Array.ext'
   simp only [List.toList_toArray]
   rw [← h4,Y11]
  have hcell:w'.heap[g]?=some (Xi (xs ++ cur.toList.drop (m*size)) E):=by
   unfold Xi; rw [← cut]; exact hh
  have hn:∀ b o,(b,o)∈hh2→b≠g:=fun b o hm e=>by
   subst e
   have:=(Y1c.1 (hg.own b o hm)).1
   omega
  refine ⟨(g,Xi (xs ++ cur.toList.drop (m*size)) E)::hh2,⟨[(g,Xi (xs ++ cur.toList.drop (m*size)) E)],hh2,rfl,⟨hl,.inr ⟨g,cap,cur.toList.drop (m*size),rfl,rfl,h1,h2,?_⟩⟩,hs2⟩,hg2.os,hg2.tape,hg2.output,hg2.imm,fun b o hm=>?_,?_,fun b o hm=>?_⟩
  ·rw [Yp,hl,Y37,h3]
   have:=Y46 size h1
   omega
  ·rcases Y18.1 hm with e | hm
   ·cases e; exact hcell
   ·exact hg2.own b o hm
  ·simp only [Y1d,Y32]
   refine ⟨fun hm=>?_,hg2.nodup⟩;obtain ⟨⟨b,x⟩,hm,e⟩:=Y28.1 hm;exact hn b x hm e
  ·rcases Y18.1 hm with e | hm
   ·cases e
    cases hi:I g with
    | none=>rfl
    | some y=>have:=(Y1c.1 (hg.imm _ _ hi)).1; omega
   ·exact hg2.apart b o hm
open Go.RowKit in
theorem Xax {row:Option Nat} (h:w.grownBy w' row) (hr:row=none):Below w.heap.size w w' :=
 ⟨h.os,h.tape,h.output,h.size,fun k hk=>h.block k hk (by rw [hr]; simp)⟩
theorem X59 (s:List UInt8):Lib.strCells ⟨s.toArray⟩=bcs s:=by simp [Lib.strCells]
theorem Xb6 {t u ty E:TypeId} {i:TypeInfo} {v:Value} {m:Nat} {xs:List Value} (hS:Sat B w I As) (ht:P.underlying t=some (.slice E)) (hu:P.underlying u=some .string) (hi:P.info? E=some i) (hz:i.zero=some (.int .u8 0)) (hsize:i.size=1) (hby:i.bytes=1)
  (hk:As[k]?=some (Vec E 1 v m xs)) (s:List UInt8) (hb:m+s.length≤140737488355328) :
  ∃ v' w',(Builtin.append_ #[t,u] ty #[v,S s]).run P w=.ok v' w'∧Sat B w' I (As.set k (Vec E 1 v' (m+s.length) (xs ++ bcs s))):=by
 have hml:m+s.length≤maxLen:=by simp only [maxLen]; omega
 have hxl:xs.length=m*1:=hS.pure_ hk fun h ⟨hl,_⟩=>hl
 have hlk:k<As.length:=(Y5.1 hk).1;have hsz:ByteArray.size ⟨s.toArray⟩=s.length:=rfl;have hcase:(v=.slice none 0 0∧m=0)∨∃ g cap rest,v=.slice (some ⟨g,0,none⟩) m cap∧m≤cap∧cap≤maxLen∧xs.length+rest.length=cap*1∧Sat B w I (As.set k (blk g (xs ++ rest) E)):=by
  obtain ⟨g,hs,hg⟩:=hS;obtain ⟨h1,h2,hp,⟨hl,ha⟩,hset,_⟩:=hs.at_ hk;rcases ha with ⟨hv,h0,_⟩ | ⟨b,cap,rest,rfl,rfl,h3,h4,h5⟩
  ·exact .inl ⟨hv,h0⟩
  ·obtain ⟨h',hs',hp'⟩:=hset (blk b (xs ++ rest) E) _ rfl;exact .inr ⟨b,cap,rest,rfl,h3,h4,h5,h',hs',hg.perm (hp.trans hp'.symm)⟩
 rcases hcase with ⟨rfl,rfl⟩ | ⟨g,cap,rest,rfl,hnc,hcm,hcs,hSo⟩
 ·have hx:xs=[]:=Yl (by simpa using hxl);subst hx;obtain ⟨v',w',hr,ho,hgr,_⟩:=Go.Lib.run_append_own_string (P:=P) w w.heap.size t u ty E i ht hu hi hz hsize hby (.slice none 0 0) 0 [] ⟨rfl,.inl ⟨rfl,rfl⟩⟩ ⟨s.toArray⟩ (by rw [hsz]; exact hml) (by rw [hsz]; exact hb) (Yu _)
  rw [X59,hsz] at ho;have hS2:=hS.grownRow (Xax hgr rfl) ho;refine ⟨v',w',hr,?_⟩
  -- the new one stands at the old one's place
  obtain ⟨h,hs,hg⟩:=hS2;obtain ⟨q1,q2,rfl,hq1,hq2⟩:=hs;obtain ⟨h1',h2',hp,_,hset,_⟩:=SepAll.at_ hk hq2;obtain ⟨h',hs',hp'⟩:=hset _ q1 hq1;have g2:Good B w' I (q1 ++ h2'):=by
   have g:=hg.perm (hp.append_left q1)
   have:(q1 ++ (h1' ++ h2')).Perm ((q1 ++ h2') ++ h1'):=by
    rw [Yf];exact (Y1l).append_left q1
   exact (g.perm this).left
  exact ⟨h',hs',g2.perm hp'.symm⟩
 ·have hko:(As.set k (blk g (xs ++ rest) E))[k]?=some (blk g (xs ++ rest) E):=by simp [hlk]
  have hblk:=hSo.block hko
  by_cases hroom:m+s.length≤cap
  ·have hfit:m+ByteArray.size ⟨s.toArray⟩≤(xs ++ rest).toArray.size:=by
    simp only [Y3z,Y0,hsz]; omega
   have hr:=Go.Lib.run_append_room_string (P:=P) w t u ty E i ht hu hi hsize g m cap (xs ++ rest).toArray hblk ⟨s.toArray⟩ hroom hfit;rw [X59,hsz] at hr;have e2:((xs ++ rest).toArray.toList.take m ++ bcs s ++ (xs ++ rest).toArray.toList.drop (m+s.length)).toArray=((xs ++ bcs s) ++ rest.drop s.length).toArray:=by
    have hm:m=xs.length:=by omega
    subst hm;simp only [List.toList_toArray,Y30]
    rw [Y51,Y17 (by omega:xs.length≤xs.length+s.length)]
    simp
   rw [e2] at hr;refine ⟨_,_,hr,?_⟩;have hw:=hSo.write (w':=w.setRow g ((xs ++ bcs s) ++ rest.drop s.length).toArray) (o':=Xi ((xs ++ bcs s) ++ rest.drop s.length) E) hko rfl rfl rfl (setRow_heap w g _ _ E _ hblk) (fun x hx=>setRow_other w g x _ hx);have hsh:=hw.vecShut (k:=k) (g:=g) (E:=E) (n:=m+s.length) (size:=1) (cap:=cap) (xs:=xs ++ bcs s) (rest:=rest.drop s.length) (by simp [hlk,blk]) hroom hcm (by rw [Y0,Y10]; omega) (by
    rw [Y0,Yp,Y10]; omega)
   simpa using hsh
  ·have holds:∀ j u,xs[j]?=some u→w.cell? ((⟨g,0,none⟩:Addr).add j)=some u:=by
    intro j u hu';have hj:j<xs.length:=(Y5.1 hu').1;rw [Addr.add_lit,Yd];have h9:w.heap[g]?=some (.cells (xs ++ rest).toArray E (0,0)):=hblk;simp only [World.cell?,h9,Option.isSome_none,Bool.false_eq_true,if_false]
    simp [hj] at hu' ⊢
    simp [Y2l,hj,hu']
   have hr:=Go.Lib.run_append_grow_string (P:=P) w t u ty E i (.int .u8 0) ht hu hi hz ⟨g,0,none⟩ m cap xs (by rw [hsize]; exact hxl) holds ⟨s.toArray⟩ (by rw [hsz]; omega) (by rw [hsz]; omega) (growslice_fits (by rw [hsz]; omega) (by rw [hby,hsz]; omega));rw [X59,hsz] at hr;refine ⟨_,_,hr,?_⟩;have hge:=grownCap_ge w (m+s.length) cap E;have hcm2:grownCap w (m+s.length) cap E≤maxLen:=grownCap_le_maxLen w (m+s.length) cap E hml;have hS2:=hS.drew.alloc (.cells (xs.toArray ++ (bcs s).toArray ++ Builtin.zeroCells (Value.int .u8 0).cells (grownCap w (m+s.length) cap E - (m+s.length))) E);have e1:(own w.drew.heap.size (.cells (xs.toArray ++ (bcs s).toArray ++ Builtin.zeroCells (Value.int .u8 0).cells (grownCap w (m+s.length) cap E - (m+s.length))) E))=blk w.heap.size ((xs ++ bcs s) ++ (Builtin.zeroCells (Value.int .u8 0).cells (grownCap w (m+s.length) cap E - (m+s.length))).toList) E:=by
    unfold blk Xi
    congr 2
    apply Array.ext'
    simp
   rw [e1] at hS2;have hS3:=hS2.vecShut (k:=0) (n:=m+s.length) (size:=1) (cap:=grownCap w (m+s.length) cap E) rfl hge hcm2 (by rw [Y0,Y10]; omega) (by
    have hzc:∀ q,(Builtin.zeroCells (Value.int .u8 0).cells q).toList.length=q:=fun q=>by rw [Y37,size_zeroCells]; exact Y1i q
    rw [Y0,Y10,hzc];omega)
   obtain ⟨h,hs,hg⟩:=hS3;obtain ⟨q1,q2,rfl,hq1,hq2⟩:=hs;obtain ⟨h1',h2',hp,_,hset,_⟩:=SepAll.at_ hk hq2;obtain ⟨h',hs',hp'⟩:=hset _ q1 hq1;refine ⟨h',hs',Good.perm ?_ hp'.symm⟩;have g:=hg.perm (hp.append_left q1)
   have:(q1 ++ (h1' ++ h2')).Perm ((q1 ++ h2') ++ h1'):=by
    rw [Yf];exact (Y1l).append_left q1
   exact (g.perm this).left
theorem WL.appendStr {d:Nat} {t u E:TypeId} {i:TypeInfo} {v:Value} {m:Nat} {xs:List Value} {s:List UInt8} (hS:Sat B w I As) (hx:Ev n L x v) (hy:Ev n L y (S s)) (hk:As[k]?=some (Vec E 1 v m xs)) (ht:P.underlying t=some (.slice E)) (hu:P.underlying u=some .string) (hi:P.info? E=some i) (hz:i.zero=some (.int .u8 0)) (hsize:i.size=1) (hby:i.bytes=1)
  (hb:m+s.length≤140737488355328) (hd:Nat.blt d n=true) (h:∀ v' w',Sat B w' I (As.set k (Vec E 1 v' (m+s.length) (xs ++ bcs s)))→WL P n ops K rest ((d,v')::L) w') :
  WL P n ops K (⟨some d,.call ⟨.builtin .append,#[x,y],#[t,u]⟩,ty,pos,af,none⟩::rest) L w:=by
 obtain ⟨v',w',hr,hS'⟩:=Xb6 (P:=P) (ty:=ty) hS ht hu hi hz hsize hby hk s hb
 exact WL.val (w':=w') (fun a ha=>by simp [execOp,resolve,invoke,builtin,hx a ha,hy a ha,hr]) hd (h _ _ hS')
end
end Gk
namespace Gk
open Go
section
variable {P:Program} {n:Nat} {K:X36} {L:Env} {w w':World} {ops:Array Oper} {rest:List Oper}
variable {B:World} {I:Im} {As:List X7} {k:Nat} {ty:TypeId} {pos:String} {af:Array Edge} {g:Option (Nat×Bool)} {t t':TypeId} {x y:Operand}
def X66 (cs:List Value) (E:TypeId):Obj:=.cells cs.toArray E (cs.length,cs.length+1)
def blkM (b:Nat) (cs:List Value) (E:TypeId):X7:=own b (X66 cs E)
theorem Sat.blockO {b:Nat} {o:Obj} (hS:Sat B w I As) (hk:As[k]?=some (own b o)):w.heap[b]?=some o:=by
 obtain ⟨h,hs,hg⟩:=hS;obtain ⟨g1,g2,hp,ha,_,_⟩:=hs.at_ hk;rw [own] at ha;subst ha;exact hg.own _ _ (hp.mem_iff.2 (by simp))
theorem Xlo {b:Nat} {cs:List Value} {E:TypeId} (hb:w.heap[b]?=some (X66 cs E)) {o:Nat} {v:Value} (hv:cs[o]?=some v):w.cell? (ad b o)=some v:=by
 unfold X66 at hb;simp [World.cell?,hb,hv]
theorem WL.strBytes {d:Nat} {src dst e:TypeId} {s:List UInt8} (hS:Sat B w I As) (hx:Ev n L x (S s)) (hs:P.underlying src=some .string) (hd':P.underlying dst=some (.slice e)) (he:P.underlying e=some (.int .u8)) (hd:Nat.blt d n=true)
  (h:∀ b cap r w',Sat B w' I (blkM b (bcs s ++ List.replicate r (.int .u8 0)) e::As)→WL P n ops K rest ((d,.slice (some (ad b 0)) s.length cap)::L) w') :
  WL P n ops K (⟨some d,.convert src dst x,ty,pos,af,none⟩::rest) L w:=by
 have hr:=run_bytes_of_string (P:=P) w src dst e ⟨s.toArray⟩ hs hd' he;have hrow:bytesRow ⟨s.toArray⟩ (grownCap w s.length 0 e)=(bcs s ++ List.replicate (grownCap w s.length 0 e - s.length) (Value.int .u8 0)).toArray:=by
  simp [bytesRow,bcs,U8]
  rfl
 refine .val (v:=.slice (some (ad w.heap.size 0)) s.length (grownCap w s.length 0 e)) (w':=w.drew.alloc (X66 (bcs s ++ List.replicate (grownCap w s.length 0 e - s.length) (Value.int .u8 0)) e)) (fun a ha=>?_) hd (h _ _ _ _ (hS.drew.alloc _));have hz:ByteArray.size ⟨s.toArray⟩=s.length:=rfl;rw [hz,hrow] at hr;have hx':=hx a ha;simp [execOp,hx',hr,X66]
theorem Ex.ldM {d:Option Nat} {b o:Nat} {cs:List Value} {E:TypeId} {v:Value} (hx:Ev n L x (ptr b o)) (hS:Sat B w I As) (hk:As[k]?=some (blkM b cs E)) (ht:∀ w,(isAgg t).run P w=.ok false w) (hv:cs[o]?=some v) :
  Ex P n L w ⟨d,.load t x,ty,pos,af,g⟩ v w:=fun a ha=>by
 have h:=Xlo (hS.blockO hk) hv;simp [execOp,hx a ha,Instr.loadAt,Instr.sureAddr,loadVar,ht,load,Sem.run,h]
theorem Ex.bytesStrM {d:Option Nat} {src dst E:TypeId} {b o cap:Nat} {l:List UInt8} {cs:List Value} (hx:Ev n L x (.slice (some (ad b o)) l.length cap)) (hS:Sat B w I As) (hk:As[k]?=some (blkM b cs E)) (hs:P.underlying src=some (.slice E)) (he:P.underlying E=some (.int .u8)) (hd:P.underlying dst=some .string)
  (hc:∀ j (hj:j<l.length),cs[o+j]?=some (U8 (l[j].toNat:Int))):Ex P n L w ⟨d,.convert src dst x,ty,pos,af,g⟩ (S l) w:=fun a ha=>by
 have hb:=hS.blockO hk;have h:=run_convert_bytes_back (P:=P) w src dst E (ad b o) cap l hs he hd (fun j hj=>by rw [X13]; exact Xlo hb (hc j hj));simp [execOp,hx a ha,h]
theorem WL.st1M {b o:Nat} {cs:List Value} {E:TypeId} {v:Value} (hS:Sat B w I As) (hk:As[k]?=some (blkM b cs E)) (hx:Ev n L x (ptr b o)) (hy:Ev n L y v) (h1:v.oneCell'=true) (hs:∀ w,(Go.sizeOf t).run P w=.ok 1 w) (ho:o<cs.length)
  (h:∀ w',Sat B w' I (As.set k (blkM b (cs.set o v) E))→WL P n ops K rest L w'):WL P n ops K (⟨none,.store t x y,ty,pos,af,none⟩::rest) L w:=by
 have hb:=hS.blockO hk;have hcell:=Xlo hb (Y4 ho);have hfro:w.frozen? (ad b o)=false:=by
  unfold X66 at hb;simp [World.frozen?,hb]
  omega
 have hc:v.cells=#[v]:=by cases v <;> first | rfl | cases h1
 have hlt:b<w.heap.size:=(Y1c.1 hb).1;have hst:=run_store P w (ad b o) v .plain h1;rw [hcell] at hst;simp only [hfro] at hst
 have hb':=hb;unfold X66 at hb';have hset:(w.setCell (ad b o) v).heap=w.heap.setIfInBounds b (X66 (cs.set o v) E):=by
  apply Array.ext
  ·simp [World.setCell]
  ·intro i h1 h2;simp only [World.setCell,Array.getElem_modify,Y4b,X66]
   by_cases e:b=i
   ·subst e
    have:=(Y1c.1 hb').2
    simp [this]
   ·have h3:i<w.heap.size:=by simpa using h2
    simp [e,Y4b h3]
 refine .st (w':=w.setCell (ad b o) v) (fun a ha=>?_) (h _ (hS.write (o':=X66 (cs.set o v) E) hk ?_ ?_ ?_ ?_ fun c hc=>?_))
 ·have e0:(ad b o).add 0=ad b o:=rfl;simp [execOp,hx a ha,hy a ha,Instr.storeAt,Instr.sureAddr,storeVar,hs,hc,storeCells,e0,hst]
 ·simp [World.setCell]
 ·simp [World.setCell]
 ·simp [World.setCell]
 ·rw [hset];simp [hlt]
 ·rw [hset];simp [Y3e,Ne.symm hc]
theorem WL.range {d:Nat} {s:List UInt8} (hS:Sat B w I As) (hx:Ev n L x (S s)) (hT:P.underlying t=some .string) (hd:Nat.blt d n=true)
  (h:∀ b w',Sat B w' I (own b (.stringIter ⟨s.toArray⟩ 0)::As)→WL P n ops K rest ((d,ptr b 0)::L) w') :
  WL P n ops K (⟨some d,.range t x,ty,pos,af,none⟩::rest) L w:=by
 refine .val (v:=ptr w.heap.size 0) (w':=w.iter ⟨s.toArray⟩ 0) (fun a ha=>?_) hd (h _ _ (hS.alloc _));have hr:=run_range_string (P:=P) w t ⟨s.toArray⟩ hT;have hx':=hx a ha;simp [execOp,hx',hr]
theorem WL.next {d:Nat} {s:List UInt8} {i b:Nat} (hS:Sat B w I As) (hk:As[k]?=some (own b (.stringIter ⟨s.toArray⟩ i))) (hx:Ev n L x (ptr b 0)) (hd:Nat.blt d n=true)
  (h0:¬ i<s.length→WL P n ops K rest ((d,.tuple #[.bool false])::L) w)
  (h1:i<s.length→∀ w',Sat B w' I (As.set k (own b (.stringIter ⟨s.toArray⟩ (i+(Utf8.decode ⟨s.toArray⟩ i).2))))→WL P n ops K rest ((d,.tuple #[.bool true,I64 (i:Nat),.int .i32 (Utf8.decode ⟨s.toArray⟩ i).1])::L) w') :
  WL P n ops K (⟨some d,.next x true,ty,pos,af,none⟩::rest) L w:=by
 have hb:=hS.blockO hk;have hlt:b<w.heap.size:=(Y1c.1 hb).1;have hz:ByteArray.size ⟨s.toArray⟩=s.length:=rfl
 by_cases hi:i<s.length
 ·have hi':i<ByteArray.size ⟨s.toArray⟩:=hi;refine .val (v:=.tuple #[.bool true,I64 (i:Nat),.int .i32 (Utf8.decode ⟨s.toArray⟩ i).1]) (w':={ w with heap:=w.heap.setIfInBounds b (.stringIter ⟨s.toArray⟩ (i+(Utf8.decode ⟨s.toArray⟩ i).2)) }) (fun a ha=>?_) hd (h1 hi _ (hS.write hk rfl rfl rfl ?_ fun c hc=>?_))
  ·simp only [execOp,hx a ha]
   simp [Instr.next,getObj,setObj,Sem.run,hb,hi',goInt,Result.andThen]
   try rfl
  ·simp [hlt]
  ·simp [Y3e,Ne.symm hc]
 ·have hi':¬ i<ByteArray.size ⟨s.toArray⟩:=hi;refine .val (v:=.tuple #[.bool false]) (w':=w) (fun a ha=>?_) hd (h0 hi);simp only [execOp,hx a ha]
  simp [Instr.next,getObj,Sem.run,hb,hi']
theorem X9l (s:List UInt8) (i:Nat) (h:i<s.length) (ha:(at_ s i).toNat<128):Utf8.decode ⟨s.toArray⟩ i=((at_ s i).toNat,1):=by
 have h':i<ByteArray.size ⟨s.toArray⟩:=h;have e:(⟨s.toArray⟩:ByteArray)[i]'h'=at_ s i:=by
  rw [at_,Ym,Yc,Y4 h]; rfl
 rw [decode_ascii _ i h' (by rw [e]; exact ha),e]
theorem Xd9 (s:List UInt8) (i:Nat):(ByteArray.get! ⟨s.toArray⟩ i)=at_ s i:=by
 show s.toArray[i]! = _
 simp [at_,Yc]
 try rfl
theorem Xfb (s:List UInt8) (i:Nat) (h:i<s.length) (ha:128≤(at_ s i).toNat) :
  128≤(Utf8.decode ⟨s.toArray⟩ i).1∧(Utf8.decode ⟨s.toArray⟩ i).1≤1114111∧1≤(Utf8.decode ⟨s.toArray⟩ i).2∧i+(Utf8.decode ⟨s.toArray⟩ i).2≤s.length∧∀ j,i≤j→j<i+(Utf8.decode ⟨s.toArray⟩ i).2→128≤(at_ s j).toNat:=by
 have hz:ByteArray.size ⟨s.toArray⟩=s.length:=rfl;rw [Go.Lib.decode_at,hz,Xd9,Xd9,Xd9,Xd9];generalize hb0:(at_ s i).toNat=b0 at *;generalize hb1:(at_ s (i+1:Nat)).toNat=b1 at *;generalize hb2:(at_ s (i+2:Nat)).toNat=b2 at *;generalize hb3:(at_ s (i+3:Nat)).toNat=b3 at *;rcases Go.Lib.decodeN_shape (s.length - i) b0 b1 b2 b3 with ⟨c,e⟩ | ⟨c1,c2,c3,cv,e⟩ | ⟨c1,c2,c3,c4,cv,cs,e⟩ | ⟨c1,c2,c3,c4,c5,cv,cw,e⟩ | e
 ·omega
 all_goals rw [e]; dsimp only
 ·refine ⟨by omega,by omega,by omega,by omega,fun j h1 h2=>?_⟩;obtain rfl | rfl:j=i∨j=i+1:=by omega
  ·omega
  ·omega
 ·refine ⟨by omega,by omega,by omega,by omega,fun j h1 h2=>?_⟩;obtain rfl | rfl | rfl:j=i∨j=i+1∨j=i+2:=by omega
  all_goals omega
 ·refine ⟨by omega,by omega,by omega,by omega,fun j h1 h2=>?_⟩;obtain rfl | rfl | rfl | rfl:j=i∨j=i+1∨j=i+2∨j=i+3:=by omega
  all_goals omega
 ·refine ⟨by omega,by omega,by omega,by omega,fun j h1 h2=>?_⟩;obtain rfl:j=i:=by omega
  omega
theorem Xs5 (x:ByteArray) (i:Nat) (h:i<x.size):x.data.toList.getD i 0=x[i]'h:=by
 rw [Yc,Y4 h];rfl
def Xav (r:Int):List UInt8:=(Utf8.encode r).data.toList
theorem Ex.runeStr {d:Option Nat} {src dst:TypeId} {q:IntKind} {r:Int} (hx:Ev n L x (.int q r)) (hs:(P.underlying src).isSome=true) (hd:P.underlying dst=some .string) :
  Ex P n L w ⟨d,.convert src dst x,ty,pos,af,g⟩ (S (Xav r)) w:=fun a ha=>by
 have h:=run_convert_int_string (P:=P) w src dst q r hs hd;have hx':=hx a ha;simp [execOp,hx',h,Xav]
theorem Xlp (r:Int) (hv:Utf8.valid r=true) (h128:128≤r):2≤(Xav r).length∧(Xav r).length≤4∧128≤(at_ (Xav r) ((Xav r).length - 1:Int)).toNat:=by
 obtain ⟨h1,h2,h3⟩:=encode_facts r hv h128;have hz:(Xav r).length=(Utf8.encode r).size:=by unfold Xav; generalize Utf8.encode r=x; rfl
 have hlt:(Utf8.encode r).size - 1<(Utf8.encode r).size:=by omega
 refine ⟨by omega,by omega,?_⟩;have e:at_ (Xav r) ((Xav r).length - 1:Int)=(Utf8.encode r)[(Utf8.encode r).size - 1]'hlt:=by
  rw [at_,show ((Xav r).length - 1:Int).toNat=(Utf8.encode r).size - 1 by omega];exact Xs5 _ _ hlt
 rw [e];exact h3 hlt
theorem Xpi (r:Int) (h:Go.Lib.validRune r=true):Utf8.valid r=true:=by
 simp only [Go.Lib.validRune,decide_eq_true_eq] at h
 simp only [Utf8.valid,Y1j,Yq,decide_eq_true_eq]
 omega
theorem Ex.ldsW {d:Option Nat} {b s:Nat} {cs:List Value} {E:TypeId} (hx:Ev n L x (ptr b 0)) (hS:Sat B w I As) (hk:As[k]?=some (blk b cs E)) (ht:∀ w,(isAgg t).run P w=.ok true w) (hs:∀ w,(Go.sizeOf t).run P w=.ok s w)
  (hl:cs.length=s):Ex P n L w ⟨d,.load t x,ty,pos,af,g⟩ (.agg cs.toArray) w:=Ex.lds hx hS hk ht hs hl (fun j v h=>by rw [Yd]; exact h)
theorem Xaj (p:Addr) (m c s:Nat):sliced (some p) 0 m c s=.slice (some p) m c:=by
 simp only [sliced,Y3t,Y4m,Y3g]
 congr 1
 split <;> rfl
theorem WL.append0p {E m c b gb:Nat} {d:Nat} {news rest':List Value} {i:TypeInfo} {z:Value} {bytes:Nat} (hS:Sat B w I (blk b [] E::As)) (hx:Ev n L x (.slice (some (ad b 0)) 0 0)) (hy:Ev n L y (.slice (some (ad gb 0)) m c))
  (hk:As[k]?=some (blk gb (news ++ rest') E)) (hm:m≤news.length) (ht:P.underlying t=some (.slice E)) (hi:P.info? E=some i) (hz:i.zero=some z) (hsize:i.size=1) (hby:i.bytes=bytes) (hzs:z.cells.size=1)
  (h1:∀ u∈news,u.oneCell'=true) (h63:m*bytes≤140737488355328∧m≤maxLen) (hd:Nat.blt d n=true)
  (h:∀ v' w',Sat B w' I (Vec E 1 v' m (news.take m)::As)→WL P n ops K rest ((d,v')::L) w') :
  WL P n ops K (⟨some d,.call ⟨.builtin .append,#[x,y],#[t,t]⟩,ty,pos,af,none⟩::rest) L w:=by
 have hgb:w.heap[gb]?=some (Xi (news ++ rest') E):=hS.block (k:=k+1) (show As[k]?=some (blk gb (news ++ rest') E) from hk);have hnews:∀ j u,(news.take m)[j]?=some u→w.cell? ((ad gb 0).add j)=some u:=fun j u hu=>by
  rw [X13,Yd];refine Xy hgb ?_;rw [Y1y] at hu;split at hu
  ·rw [Yk (Y5.1 hu).1]; exact hu
  ·cases hu
 have hlt:(news.take m).length=m:=by rw [Yt]; omega
 have h1':∀ u∈news.take m,u.oneCell'=true:=fun u hu=>h1 u (Y48 hu)
 rcases Y1r m with h0 | hp
 ·subst h0;have hb:=hS.block (k:=0) rfl;have hr:=run_append_room (P:=P) w t ty E i ht hi b 0 0 #[] hb (ad gb 0) 0 c [] (by simp) (fun j u hu=>by simp at hu) (fun u hu=>by simp at hu) (Yu _) (by rw [Y3t]; exact Yu _);have hlt:b<w.heap.size:=(Y1c.1 hb).1;have hw:=hS.write (k:=0) (w':=w.setRow b #[]) (o':=Xi [] E) rfl rfl rfl rfl (setRow_heap w b _ _ E _ hb) (fun q hq=>setRow_other w b q _ hq);have hv:=Sat.vecOf (k:=0) (n:=0) (size:=1) (E:=E) (g:=b) (cs:=[]) hw rfl rfl (Yo _);refine .val (v:=.slice (some (ad b 0)) 0 0) (w':=w.setRow b #[]) (fun a ha=>?_) hd (h _ _ (by simpa using hv));have hx':=hx a ha;have hy':=hy a ha;simp at hr
  simp [execOp,resolve,invoke,builtin,hx',hy',hr]
 ·have hv:=Sat.vecOf (k:=0) (n:=0) (size:=1) (E:=E) (g:=b) (cs:=[]) hS rfl rfl (Yo _);obtain ⟨v',w',hr,hS'⟩:=X2h (P:=P) (ty:=ty) (k:=0) hv ht hi hz hsize hby hzs rfl (p:=ad gb 0) (m:=m) (c:=c) (news:=news.take m) (by rw [hlt,Y1i]) hp hnews h1' (by rw [Yd]; exact h63.2) (by rw [Yd]; exact h63.1)
  refine .val (v:=v') (w':=w') (fun a ha=>?_) hd (h _ _ (by simpa using hS'));have hx':=hx a ha;have hy':=hy a ha;simp [execOp,resolve,invoke,builtin,hx',hy',hr]
section rets
variable {fn:Func} {R:Ending→World→Prop}
theorem X1i {t u b s:Nat} {ty E:TypeId} {cs:List Value} {x:Value} (h:fn.results=#[.cell t ty,.tmp u]) (hS:Sat B w I As) (hk:As[k]?=some (blk b cs E)) (ht:∀ w,(isAgg ty).run P w=.ok true w) (hs:∀ w,(Go.sizeOf ty).run P w=.ok s w) (hl:cs.length=s)
  (hv:look L t=some (ptr b 0)) (hx:look L u=some x) (hR:R (.returned (.tuple #[.agg cs.toArray,x])) w) (hd:dl L=[]:=by rfl):X53 P n fn R .ret L w:=⟨hd,fun a ha=>by
 have hb:=hS.block hk;have hld:=run_loadCells_list (P:=P) w (ad b 0) cs (fun j v hj=>by rw [X13]; exact Xy hb (by simpa using hj));rw [hl] at hld;have h1:=ha.get t _ hv;have h2:=ha.get u x hx;simp only [Y14] at h1 h2
 exact ⟨_,by simp [results,h,h1,h2,loadVar,ht,hs]; simp [asAddr,hld],hR⟩⟩
theorem Xjt {t b s:Nat} {ty E:TypeId} {cs:List Value} (h:fn.results=#[.cell t ty]) (hS:Sat B w I As) (hk:As[k]?=some (blk b cs E)) (ht:∀ w,(isAgg ty).run P w=.ok true w) (hs:∀ w,(Go.sizeOf ty).run P w=.ok s w) (hl:cs.length=s)
  (hv:look L t=some (ptr b 0)) (hR:R (.returned (.agg cs.toArray)) w) (hd:dl L=[]:=by rfl):X53 P n fn R .ret L w:=⟨hd,fun a ha=>by
 have hb:=hS.block hk;have hld:=run_loadCells_list (P:=P) w (ad b 0) cs (fun j v hj=>by rw [X13]; exact Xy hb (by simpa using hj));rw [hl] at hld;have h1:=ha.get t _ hv;simp only [Y14] at h1
 exact ⟨_,by simp [results,h,h1,loadVar,ht,hs]; simp [asAddr,hld],hR⟩⟩
theorem Xes {t u r b s:Nat} {ty E:TypeId} {cs:List Value} {x y:Value} (h:fn.results=#[.cell t ty,.tmp u,.tmp r]) (hS:Sat B w I As) (hk:As[k]?=some (blk b cs E)) (ht:∀ w,(isAgg ty).run P w=.ok true w) (hs:∀ w,(Go.sizeOf ty).run P w=.ok s w) (hl:cs.length=s)
  (hv:look L t=some (ptr b 0)) (hx:look L u=some x) (hy:look L r=some y) (hR:R (.returned (.tuple #[.agg cs.toArray,x,y])) w) (hd:dl L=[]:=by rfl):X53 P n fn R .ret L w:=⟨hd,fun a ha=>by
 have hb:=hS.block hk;have hld:=run_loadCells_list (P:=P) w (ad b 0) cs (fun j v hj=>by rw [X13]; exact Xy hb (by simpa using hj));rw [hl] at hld;have h1:=ha.get t _ hv;have h2:=ha.get u x hx;have h3:=ha.get r y hy;simp only [Y14] at h1 h2 h3
 exact ⟨_,by simp [results,h,h1,h2,h3,loadVar,ht,hs]; simp [asAddr,hld],hR⟩⟩
end rets
end
end Gk
namespace Pc
def plain (c:UInt8):Bool:=(97≤c && c≤122) || (65≤c && c≤90) || (48≤c && c≤57) || c == 45 || c == 46 || c == 95 || c == 126
def X3d (c:UInt8):Int:=if 48≤c && c≤57 then c.toNat - 48 else if 97≤c && c≤102 then c.toNat - 87 else if 65≤c && c≤70 then c.toNat - 55 else -1
def hexd (n:Nat):UInt8:=if n<10 then UInt8.ofNat (48+n) else UInt8.ofNat (55+n)
def Xbf (c:UInt8):List UInt8:=[37,hexd (c.toNat / 16),hexd (c.toNat % 16)]
def one (c:UInt8):List UInt8:=if plain c then [c] else Xbf c
def byteOf (a b:UInt8):UInt8:=UInt8.ofNat (16*X3d a+X3d b).toNat
def told:List UInt8→Option UInt8
 | a::b::_=>if X3d a<0∨X3d b<0 then none else some (byteOf a b)
 | _=>none
def Xga:Nat→List UInt8→Option (List UInt8)
 | 0,_=>some []
 | _+1,[]=>some []
 | f+1,c::r=>if c=37 then match told r with
   | none=>none
   | some v=>(Xga f (r.drop 2)).map (one v ++ ·)
  else (Xga f r).map (c::·)
def X3x (s:List UInt8):Option (List UInt8):=Xga (s.length+1) s
theorem X3g {r:List UInt8} {v:UInt8} (h:told r=some v):2≤r.length:=by
 match r,h with
 | a::b::_,_=>simp
 | [_],h=>simp [told] at h
 | [],h=>simp [told] at h
theorem X7s:∀ (f g:Nat) (s:List UInt8),s.length<f→s.length<g→Xga f s=Xga g s
 | 0,_,_,h,_=>by omega
 | _+1,0,_,_,h=>by omega
 | f+1,g+1,[],_,_=>rfl
 | f+1,g+1,c::r,hf,hg=>by
  simp only [Xga]
  split
  ·cases ht:told r with
   | none=>rfl
   | some v =>
    simp only
    have:=X3g ht
    simp only [Y8] at hf hg
    rw [X7s f g (r.drop 2) (by rw [Yp]; omega) (by rw [Yp]; omega)]
  ·simp only [Y8] at hf hg
   rw [X7s f g r (by omega) (by omega)]
theorem X5g:X3x []=some []:=rfl
theorem X1n (c:UInt8) (r:List UInt8):X3x (c::r)=if c=37 then match told r with
   | none=>none
   | some v=>(X3x (r.drop 2)).map (one v ++ ·)
  else (X3x r).map (c::·):=by
 unfold X3x;simp only [Y8,Xga]
 split
 ·cases ht:told r with
  | none=>rfl
  | some v =>
   simp only
   have:=X3g ht
   rw [X7s (r.length+1) ((r.drop 2).length+1) (r.drop 2) (by rw [Yp]; omega) (by omega)]
 ·rfl
theorem X21 (c:UInt8):X3d c=-1∨(0≤X3d c∧X3d c≤15):=by
 unfold X3d;have h:=c.toNat_lt;simp only [Yq,decide_eq_true_eq,Y1q]
 have e1:(48:UInt8).toNat=48:=rfl;have e2:(57:UInt8).toNat=57:=rfl;have e3:(97:UInt8).toNat=97:=rfl;have e4:(102:UInt8).toNat=102:=rfl;have e5:(65:UInt8).toNat=65:=rfl;have e6:(70:UInt8).toNat=70:=rfl;rw [e1,e2,e3,e4,e5,e6];split
 ·right; omega
 ·split
  ·right; omega
  ·split
   ·right; omega
   ·left; rfl
theorem Xdb:∀ (s t:List UInt8),X3x s=some t→t.length≤s.length:=by
 intro s
 induction hn:s.length using Nat.strongRecOn generalizing s with
 | _ n ih =>
  intro t h;cases s with
  | nil=>rw [X5g] at h; injection h with h; subst h; simp
  | cons c r =>
   rw [X1n] at h;simp only [Y8] at hn
   split at h
   ·cases ht:told r with
    | none=>rw [ht] at h; cases h
    | some v =>
     rw [ht] at h;simp only at h
     have hl:=X3g ht;cases hr:X3x (r.drop 2) with
     | none=>rw [hr] at h; cases h
     | some u =>
      rw [hr] at h;simp at h
      subst h
      have:=ih (r.drop 2).length (by rw [Yp]; omega) (r.drop 2) rfl u hr
      rw [Yp] at this;rw [Y0]
      have:(one v).length≤3:=by unfold one; split <;> simp [Xbf]
      omega
   ·cases hr:X3x r with
    | none=>rw [hr] at h; cases h
    | some u =>
     rw [hr] at h;simp at h
     subst h
     have:=ih r.length (by omega) r rfl u hr
     simp only [Y8]
     omega
theorem Xfi:∀ c:UInt8,plain c=([97,98,99,100,101,102,103,104,105,106,107,108,109,110,111,112,113,114,115,116,117,118,119,120,121,122,65,66,67,68,69,70,71,72,73,74,75,76,77,78,79,80,81,82,83,84,85,86,87,88,89,90,48,49,50,51,52,53,54,55,56,57,45,46,95,126]:List UInt8).contains c:=by
 intro c
 have:∀ n:Fin 256,plain (UInt8.ofNat n.val)=([97,98,99,100,101,102,103,104,105,106,107,108,109,110,111,112,113,114,115,116,117,118,119,120,121,122,65,66,67,68,69,70,71,72,73,74,75,76,77,78,79,80,81,82,83,84,85,86,87,88,89,90,48,49,50,51,52,53,54,55,56,57,45,46,95,126]:List UInt8).contains (UInt8.ofNat n.val):=by decide +kernel
 have h:=this ⟨c.toNat,c.toNat_lt⟩;simpa using h
theorem Xw {p:UInt8→Bool} (h:(List.range 256).all (fun n=>p (UInt8.ofNat n))=true) (c:UInt8):p c=true:=by
 have:=Y1b.1 h c.toNat (Y3m.2 c.toNat_lt)
 simpa using this
def LOW:List UInt8:=[48,49,50,51,52,53,54,55,56,57,97,98,99,100,101,102]
def HIGH:List UInt8:=[48,49,50,51,52,53,54,55,56,57,65,66,67,68,69,70]
def PLAINS:List UInt8:=[97,98,99,100,101,102,103,104,105,106,107,108,109,110,111,112,113,114,115,116,117,118,119,120,121,122,65,66,67,68,69,70,71,72,73,74,75,76,77,78,79,80,81,82,83,84,85,86,87,88,89,90,48,49,50,51,52,53,54,55,56,57,45,46,95,126]
theorem Xsl {c:UInt8} {i:Nat} (h:i<16) (hc:LOW.getD i 0=c∨HIGH.getD i 0=c):X3d c=(i:Int):=by
 have:=Xw (p:=fun c=>(List.range 16).all fun i=>!(LOW.getD i 0 == c || HIGH.getD i 0 == c) || X3d c == (i:Int)) (by decide +kernel) c
 have:=Y1b.1 this i (Y3m.2 h)
 simp only [Y1j,Y33,Y15,beq_eq_false_iff_ne,beq_iff_eq] at this
 rcases this with ⟨h1,h2⟩ | h1
 ·rcases hc with hc | hc
  ·exact absurd hc h1
  ·exact absurd hc h2
 ·exact h1
theorem Xpn {c:UInt8} (h:∀ i,i<16→LOW.getD i 0≠c∧HIGH.getD i 0≠c):X3d c=-1:=by
 have:=Xw (p:=fun c=>(List.range 16).any (fun i=>LOW.getD i 0 == c || HIGH.getD i 0 == c) || X3d c == -1) (by decide +kernel) c
 simp only [Y1j,beq_iff_eq] at this
 rcases this with h1 | h1
 ·obtain ⟨i,hi,h2⟩:=Y1w.1 h1;simp only [Y1j,beq_iff_eq] at h2
  have:=h i (Y3m.1 hi)
  rcases h2 with h2 | h2
  ·exact absurd h2 this.1
  ·exact absurd h2 this.2
 ·exact h1
theorem pct_of (c:UInt8):([37] ++ (HIGH.drop (c.toNat / 16)).take 1) ++ (HIGH.drop (c.toNat % 16)).take 1=Xbf c:=by
 have:=Xw (p:=fun c=>([37] ++ (HIGH.drop (c.toNat / 16)).take 1) ++ (HIGH.drop (c.toNat % 16)).take 1 == Xbf c) (by decide +kernel) c
 simpa using this
theorem X8m (a b:UInt8) (ha:0≤X3d a) (hb:0≤X3d b):((byteOf a b).toNat:Int)=16*X3d a+X3d b:=by
 have h1:=X21 a;have h2:=X21 b;unfold byteOf
 rw [Y4p];omega
end Pc
namespace Ul
open Pc Gk
def lo (c:UInt8):UInt8:=if 65≤c && c≤90 then c+32 else c
def low (s:List UInt8):List UInt8:=s.map lo
theorem X27 (s:List UInt8):(low s).length=s.length:=Y10 ..
def mid (s:List UInt8) (i:Nat):List UInt8:=low (s.take i) ++ s.drop i
theorem Xqx (s:List UInt8):mid s 0=s:=by simp [mid,low]
theorem Xst (s:List UInt8) (i:Nat) (h:s.length≤i):mid s i=low s:=by
 simp [mid,Yz h,Y17 h]
theorem Xkx (s:List UInt8) (i:Nat):(mid s i).length=s.length:=by
 simp [mid,low]; omega
theorem Xrg (s:List UInt8) (i:Nat) (h:i<s.length):(mid s i)[i]?=some (at_ s i):=by
 have e:(low (s.take i)).length=i:=by rw [X27,Yt]; omega
 unfold mid;rw [Yw (by omega),e,Y44,X8 s h];rfl
theorem Xin (s:List UInt8) (i:Nat) (h:i<s.length):(mid s i).set i (lo (at_ s i))=mid s (i+1):=by
 have e:(low (s.take i)).length=i:=by rw [X27,Yt]; omega
 unfold mid;rw [Y2d _ _ (by omega),e,Y44,X8 s h,Y4q,Y12,low,low,Yv,Yf]
 congr 1
 have:s[i]?=some (at_ s i):=by
  rw [Y4 h,at_,Ym,Yc,Y4 h]; rfl
 rw [this];rfl
theorem lo_up {c:UInt8} (h:65≤(c.toNat:Int)∧(c.toNat:Int)≤90):((lo c).toNat:Int)=c.toNat+32:=by
 have h1:(65≤c && c≤90)=true:=by
  simp only [Yq,decide_eq_true_eq,Y1q]
  have e1:(65:UInt8).toNat=65:=rfl;have e2:(90:UInt8).toNat=90:=rfl;rw [e1,e2]; omega
 rw [lo,if_pos h1,UInt8.toNat_add]
 have:(32:UInt8).toNat=32:=rfl
 rw [this]; omega
theorem lo_no {c:UInt8} (h:¬ (65≤(c.toNat:Int)∧(c.toNat:Int)≤90)):lo c=c:=by
 have h1:¬ (65≤c && c≤90)=true:=by
  simp only [Yq,decide_eq_true_eq,Y1q]
  have e1:(65:UInt8).toNat=65:=rfl;have e2:(90:UInt8).toNat=90:=rfl;rw [e1,e2]; omega
 rw [lo,if_neg h1]
theorem Xp4 {α:Type} {l:List α} {i:Nat} {a:α} (h:l[i]?=some a):l.set i a=l:=by
 apply Y26
 intro j;rw [Y27];split
 ·rename_i e
  subst e;rw [h,if_pos (Y5.1 h).1]
 ·rfl
theorem Xqb (s:List UInt8) (i:Nat) (h:i<s.length) (hn:lo (at_ s i)=at_ s i):mid s i=mid s (i+1):=by
 rw [← Xin s i h,hn];exact (Xp4 (Xrg s i h)).symm
def Xdm (c:UInt8):Bool:=plain c && !(c == 95 || c == 126)
def hostOk (s:List UInt8):Bool:=!(s.isEmpty || decide (64<s.length)) && s.all Xdm
theorem Xfg (c:UInt8):((!plain c || ((c.toNat:Int) == 95)) || ((c.toNat:Int) == 126))=!Xdm c :=
 eq_of_beq (Xw (p:=fun c=>((!plain c || ((c.toNat:Int) == 95)) || ((c.toNat:Int) == 126)) == !Xdm c) (by decide +kernel) c)
def BAD:List UInt8:=[34,60,62,35,92,94,123,124,125,96]
def X2x (c:UInt8):Bool:=(33≤c && c≤126) && !BAD.contains c
theorem Xbd (c:UInt8):((decide ((c.toNat:Int)<33) || decide (126<(c.toNat:Int))) || decide (0≤Go.Lib.indexByte BAD c))=!X2x c :=
 eq_of_beq (Xw (p:=fun c=>((decide ((c.toNat:Int)<33) || decide (126<(c.toNat:Int))) || decide (0≤Go.Lib.indexByte BAD c)) == !X2x c) (by decide +kernel) c)
theorem X8r {p:UInt8→Bool} {s:List UInt8} {i:Nat} (h:∀ j,j<i→j<s.length→p (at_ s (j:Int))=true) (hi:s.length≤i):s.all p=true:=by
 rw [Y1b];intro x hx;obtain ⟨j,hj,e⟩:=Y49.1 hx
 have:=h j (by omega) hj
 rw [at_,Ym,Yc,Y4 hj] at this;rw [← e]; exact this
theorem X7o {p:UInt8→Bool} {s:List UInt8} {i:Nat} (hi:i<s.length) (h:p (at_ s (i:Int))=false):s.all p=false:=by
 rw [Y2e];refine ⟨at_ s (i:Int),?_,by rw [h]; decide⟩;rw [at_,Ym,Yc,Y4 hi];exact Y2t _
def Xdx (c:UInt8):Bool:=48≤c && c≤57
def val (s:List UInt8):Nat:=s.foldl (fun n c=>10*n+(c.toNat - 48)) 0
def X1d (s:List UInt8):Bool:=s.all Xdx && !(s.headD 0 == 48) && decide (1≤val s) && decide (val s≤65535)
theorem X8y (c:UInt8):(decide ((c.toNat:Int)<48) || decide (57<(c.toNat:Int)))=!Xdx c :=
 eq_of_beq (Xw (p:=fun c=>(decide ((c.toNat:Int)<48) || decide (57<(c.toNat:Int))) == !Xdx c) (by decide +kernel) c)
theorem Xtv (s:List UInt8) (c:UInt8):val (s ++ [c])=10*val s+(c.toNat - 48):=by simp [val,Y34]
theorem X4b (s:List UInt8) (i:Nat) (h:i<s.length):val (s.take (i+1))=10*val (s.take i)+((at_ s (i:Int)).toNat - 48):=by
 have:s[i]?=some (at_ s i):=by
  rw [Y4 h,at_,Ym,Yc,Y4 h]; rfl
 rw [Y12,this];exact Xtv _ _
theorem Xhu (s:List UInt8):∀ (i j:Nat),i≤j→val (s.take i)≤val (s.take j):=by
 intro i j h
 induction j with
 | zero=>rw [show i=0 by omega]; exact Yu _
 | succ j ih =>
  by_cases e:i=j+1
  ·rw [e]; exact Yu _
  ·by_cases hj:j<s.length
   ·have:=ih (by omega)
    rw [X4b s j hj]; omega
   ·have:=ih (by omega)
    have e2:s.take (j+1)=s.take j:=by rw [Yz (by omega),Yz (by omega)]
    rw [e2]; exact this
theorem Xsu (s:List UInt8) (h:6≤s.length) (h0:Xdx (at_ s 0)=true) (h1:at_ s 0≠48):65535<val s:=by
 have h2:1≤val (s.take 1):=by
  rw [X4b s 0 (by omega)];have hd:=h0;simp only [Xdx,Yq,decide_eq_true_eq,Y1q] at hd
  have e1:(48:UInt8).toNat=48:=rfl;rw [e1] at hd
  have:(at_ s 0).toNat≠48:=fun e=>h1 (Y19.1 e)
  show 1≤_+((at_ s 0).toNat - 48)
  omega
 have step:∀ i,i<s.length→10*val (s.take i)≤val (s.take (i+1)):=fun i hi=>by rw [X4b s i hi]; omega
 have a1:10*val (s.take 1)≤val (s.take 2):=step 1 (by omega);have a2:10*val (s.take 2)≤val (s.take 3):=step 2 (by omega);have a3:10*val (s.take 3)≤val (s.take 4):=step 3 (by omega);have a4:10*val (s.take 4)≤val (s.take 5):=step 4 (by omega);have a5:10*val (s.take 5)≤val (s.take 6):=step 5 (by omega);have a6:=Xhu s 6 s.length h;rw [Y13] at a6;omega
def http:List UInt8:=[104,116,116,112]
def https:List UInt8:=[104,116,116,112,115]
def Xts (s:List UInt8):Nat:=if s=https then 443 else 80
def X62 (s sch:List UInt8):Nat:=if val s=Xts sch then 0 else val s
def upto (ats s:List UInt8):List UInt8:=s.takeWhile fun c=>!ats.contains c
def Xc (ats s:List UInt8):List UInt8:=s.dropWhile fun c=>!ats.contains c
theorem X23 (ats s:List UInt8):upto ats s ++ Xc ats s=s:=Y40
theorem Xcv {ats:List UInt8}:∀ {s:List UInt8} {i:Nat},Go.Lib.indexAny s ats=i→upto ats s=s.take i∧Xc ats s=s.drop i∧i<s.length
 | [],i,h=>by simp [Go.Lib.indexAny] at h
 | b::l,i,h=>by
  rw [Go.Lib.indexAny] at h;split at h
  ·rename_i hb
   have:i=0:=by omega
   subst this;have hb':b∈ats:=by simpa using hb
   simp [upto,Xc,hb']
  ·rename_i hb
   have hb':ats.contains b=false:=by simpa using hb
   split at h
   ·omega
   ·have hge:=Go.Lib.indexAny_ge ats l
    rename_i hne
    have hne':Go.Lib.indexAny l ats≠-1:=fun e=>hne (beq_iff_eq.2 e)
    obtain ⟨k,hk⟩:∃ k:Nat,Go.Lib.indexAny l ats=k:=⟨(Go.Lib.indexAny l ats).toNat,by omega⟩
    obtain ⟨a,b',c⟩:=Xcv hk
    have:i=k+1:=by omega
    subst this;refine ⟨?_,?_,by simp; omega⟩
    ·show (b::l).takeWhile _=_
     rw [Y4c];simp only [hb',Y41,if_true,Y1x]
     rw [← a]; rfl
    ·show (b::l).dropWhile _=_
     rw [Y3s];simp only [hb',Y41,if_true,Y7]
     rw [← b']; rfl
theorem X94 {ats:List UInt8}:∀ {s:List UInt8},Go.Lib.indexAny s ats=-1→upto ats s=s∧Xc ats s=[]
 | [],_=>⟨rfl,rfl⟩
 | b::l,h=>by
  rw [Go.Lib.indexAny] at h;split at h
  ·omega
  ·rename_i hb
   have hb':ats.contains b=false:=by simpa using hb
   split at h
   ·rename_i hne
    obtain ⟨a,c⟩:=X94 (s:=l) (ats:=ats) (beq_iff_eq.1 hne);refine ⟨?_,?_⟩
    ·show (b::l).takeWhile _=_
     rw [Y4c];simp only [hb',Y41,if_true]
     show b::upto ats l=_
     rw [a]
    ·show (b::l).dropWhile _=_
     rw [Y3s];simp only [hb',Y41,if_true]
     exact c
   ·have hge:=Go.Lib.indexAny_ge ats l;omega
theorem Xf8 {l:List UInt8} {c:UInt8} (h:128≤c.toNat) (hl:∀ (j:Nat) b,l[j]?=some b→b.toNat<128):Go.Lib.indexByte l c=-1:=by
 have hge:=Go.Lib.indexByte_ge l c
 by_cases e:Go.Lib.indexByte l c=-1
 ·exact e
 ·obtain ⟨k,hk⟩:∃ k:Nat,Go.Lib.indexByte l c=k:=⟨(Go.Lib.indexByte l c).toNat,by omega⟩
  have:=(Go.Lib.indexByte_some hk).1
  have:=hl _ _ this
  omega
theorem indexByte_in {l:List UInt8} {c:UInt8}:(0≤Go.Lib.indexByte l c) ↔ l.contains c=true:=by
 have hge:=Go.Lib.indexByte_ge l c;constructor
 ·intro h;obtain ⟨k,hk⟩:∃ k:Nat,Go.Lib.indexByte l c=k:=⟨(Go.Lib.indexByte l c).toNat,by omega⟩
  have:=(Go.Lib.indexByte_some hk).1
  rw [Y2f];exact Yi this
 ·intro h
  by_cases e:Go.Lib.indexByte l c=-1
  ·have:=Go.Lib.indexByte_none e
   rw [Y2f] at h;obtain ⟨k,hk⟩:=Yx.1 h;exact absurd hk (this k)
  ·omega
theorem Xx {s:List UInt8} {i:Nat} (h:i<s.length):s[i]?=some (at_ s i):=by
 rw [Y4 h,at_,Ym,Yc,Y4 h]; rfl
def Asc (s:List UInt8):Prop:=∀ (j:Nat) b,s[j]?=some b→b.toNat<128
def rv (s cs:List UInt8) (i:Nat):Int:=if (Go.Utf8.decode ⟨s.toArray⟩ i).1<128 then Go.Lib.indexByte cs (UInt8.ofNat (Go.Utf8.decode ⟨s.toArray⟩ i).1) else -1
theorem Xqj {s cs:List UInt8} (hcs:Asc cs) {i:Nat} (hi:i<s.length) (hno:Go.Lib.NoAny s cs i) :
  (0≤rv s cs i→Go.Lib.indexAny s cs=i)∧(rv s cs i<0→Go.Lib.NoAny s cs (i+(Go.Utf8.decode ⟨s.toArray⟩ i).2)∧i+(Go.Utf8.decode ⟨s.toArray⟩ i).2≤s.length∧1≤(Go.Utf8.decode ⟨s.toArray⟩ i).2):=by
 unfold rv;rcases Yr (at_ s (i:Int)).toNat 128 with h | h
 ·rw [X9l s i hi h];dsimp only
  rw [if_pos h,show UInt8.ofNat (at_ s (i:Int)).toNat=at_ s (i:Int) by simp,indexByte_in];refine ⟨fun hc=>Go.Lib.indexAny_hit hno (Xx hi) hc,fun hc=>⟨hno.succ (Xx hi) ?_,by omega,by omega⟩⟩;cases hb:cs.contains (at_ s (i:Int)) with
  | false=>rfl
  | true=>have:=indexByte_in.2 hb; omega
 ·obtain ⟨h1,h2,h3,h4,h5⟩:=Xfb s i hi h;rw [if_neg (by omega)];refine ⟨fun hc=>by omega,fun _=>⟨fun j b hj hb=>?_,h4,h3⟩⟩;rcases Yr j i with hji | hji
  ·exact hno j b hji hb
  ·have hb2:=h5 j hji hj;have hjl:j<s.length:=(Y5.1 hb).1;rw [Xx hjl] at hb;cases hb
   cases hc:cs.contains (at_ s (j:Int)) with
   | false=>rfl
   | true =>
    rw [Y2f] at hc;obtain ⟨k,hk⟩:=Yx.1 hc
    have:=hcs k _ hk
    omega
def X1z (s:List UInt8):Option (List UInt8):=if s.all X2x then X3x s else none
def spl:List UInt8→List (List UInt8)
 | []=>[[]]
 | c::r=>if c=47 then []::spl r else match spl r with
  | []=>[[c]]
  | h::t=>(c::h)::t
theorem Xak (s:List UInt8):spl s≠[]:=by
 cases s with
 | nil=>simp [spl]
 | cons c r =>
  simp only [spl]
  split
  ·simp
  ·split <;> simp
theorem X93:∀ (s:List UInt8),(∀ x∈s,x≠47)→spl s=[s]
 | [],_=>rfl
 | c::r,h=>by
  rw [spl,if_neg (h c (by simp)),X93 r (fun x hx=>h x (by simp [hx]))]
theorem Xnd:∀ (a b:List UInt8),(∀ x∈a,x≠47)→spl (a ++ 47::b)=a::spl b
 | [],b,_=>by show spl (47::b)=_; rw [spl,if_pos rfl]
 | c::r,b,h=>by
  show spl (c::(r ++ 47::b))=_
  rw [spl,if_neg (h c (by simp)),Xnd r b (fun x hx=>h x (by simp [hx]))]
theorem Xct {s:List UInt8} {i:Nat} (h:s[i]?=some 47) (hno:∀ k,k<i→s[k]?≠some 47):spl s=s.take i::spl (s.drop (i+1)):=by
 have hi:i<s.length:=(Y5.1 h).1;have e:s=s.take i ++ 47::s.drop (i+1):=by
  conv=>lhs; rw [← Y11 i s]
  rw [Y1f hi,(Y5.1 h).2]
 conv=>lhs; rw [e]
 refine Xnd _ _ fun x hx ex=>?_
 obtain ⟨k,hk⟩:=Yx.1 hx;rw [Y1y] at hk;split at hk
 ·rename_i hki
  exact hno k hki (by rw [hk,ex])
 ·cases hk
theorem Xiy:∀ (n:Nat) (s:List UInt8),s.length≤n→Go.Lib.splitK [47] 0 (Go.Lib.count s [47]) s=spl s:=by
 intro n
 induction n with
 | zero =>
  intro s h
  have:s=[]:=Yl (by omega)
  subst this;rfl
 | succ n ih =>
  intro s h;have hge:=Go.Lib.indexByte_ge s 47
  by_cases e:Go.Lib.indexByte s 47=-1
  ·have hi:Go.Lib.index s [47]=-1:=by rw [Go.Lib.index_one]; exact e
   rw [Go.Lib.count_miss hi];refine (X93 s fun x hx ex=>?_).symm;obtain ⟨k,hk⟩:=Yx.1 hx;exact Go.Lib.indexByte_none e k (by rw [hk,ex])
  ·obtain ⟨i,hk⟩:∃ k:Nat,Go.Lib.indexByte s 47=k:=⟨(Go.Lib.indexByte s 47).toNat,by omega⟩
   have hi:Go.Lib.index s [47]=i:=by rw [Go.Lib.index_one]; exact hk
   obtain ⟨h1,h2⟩:=Go.Lib.indexByte_some hk;have hlt:i<s.length:=(Y5.1 h1).1;rw [Go.Lib.count_hit (by simp) hi,Y4o 1,Go.Lib.splitK,hi,if_neg (by simp),Xct h1 h2];show s.take ((i:Int).toNat+0)::Go.Lib.splitK [47] 0 (Go.Lib.count (s.drop (i+1)) [47]) (s.drop ((i:Int).toNat+1))=_
   rw [Ym,Y2c,ih (s.drop (i+1)) (by rw [Yp]; omega)]
theorem Xsn:∀ (n:Nat) (s:List UInt8),s.length≤n→(spl s).length=Go.Lib.count s [47]+1:=by
 intro n
 induction n with
 | zero =>
  intro s h
  have:s=[]:=Yl (by omega)
  subst this;rfl
 | succ n ih =>
  intro s h;have hge:=Go.Lib.indexByte_ge s 47
  by_cases e:Go.Lib.indexByte s 47=-1
  ·have hi:Go.Lib.index s [47]=-1:=by rw [Go.Lib.index_one]; exact e
   rw [Go.Lib.count_miss hi,X93 s fun x hx ex=>?_]
   ·rfl
   ·obtain ⟨k,hk⟩:=Yx.1 hx;exact Go.Lib.indexByte_none e k (by rw [hk,ex])
  ·obtain ⟨i,hk⟩:∃ k:Nat,Go.Lib.indexByte s 47=k:=⟨(Go.Lib.indexByte s 47).toNat,by omega⟩
   have hi:Go.Lib.index s [47]=i:=by rw [Go.Lib.index_one]; exact hk
   obtain ⟨h1,h2⟩:=Go.Lib.indexByte_some hk;have hlt:i<s.length:=(Y5.1 h1).1;rw [Go.Lib.count_hit (by simp) hi,Xct h1 h2,Y8,ih (s.drop (i+1)) (by rw [Yp]; omega)];show _=1+Go.Lib.count (s.drop (i+1)) [47]+1
   omega
def keep (k:List (List UInt8)) (x:List UInt8):List (List UInt8):=if x=[46] then k else if x=[46,46] then k.dropLast else k ++ [x]
theorem Xmp {k:List (List UInt8)} {x:List UInt8} (h:x=[46]∨x=[46,46]) (h2:x=[46,46]→k=[]):keep k x=k:=by
 unfold keep
 by_cases e1:x=[46]
 ·rw [if_pos e1]
 ·have e2:=h.resolve_left e1;rw [if_neg e1,if_pos e2,h2 e2]; rfl
def X14 (k:List (List UInt8)):List UInt8:=(k.map (47::·)).flatten
def X60 (x:List UInt8):Bool:=x == [46] || x == [46,46]
def X8f:List UInt8→List UInt8
 | []=>[]
 | c::r=>if c=47 then X14 ((spl r).foldl keep []) ++ (if X60 ((spl r).getLastD []) || ((spl r).foldl keep []).length == 0 then [47] else []) else c::r
theorem Xqc (p:List UInt8):(X8f p == [])=(p == []):=by
 cases p with
 | nil=>rfl
 | cons c r =>
  rw [show ((c::r:List UInt8) == [])=false from rfl];rw [X8f];split
  ·cases hk:(spl r).foldl keep [] with
   | nil=>simp [X14]
   | cons a b=>simp [X14]
  ·rfl
theorem X95 (k:List (List UInt8)) (x:List UInt8):X14 (k ++ [x])=X14 k ++ 47::x:=by simp [X14]
def tot (k:List (List UInt8)):Nat:=(k.map (fun x=>x.length+1)).sum
theorem X32 (k:List (List UInt8)):(X14 k).length=tot k:=by
 induction k with
 | nil=>rfl
 | cons a b ih =>
  rw [tot,Y1d,Y4x,X14,Y1d,Y1v,Y0,Y8];show _+(X14 b).length=_
  rw [ih]; rfl
theorem X3h:∀ (s:List UInt8),tot (spl s)=s.length+1
 | []=>rfl
 | c::r=>by
  have ih:=X3h r;simp only [spl]
  split
  ·simp only [tot,Y1d,Y4x] at ih ⊢
   simp only [Yj,Y8]
   omega
  ·split
   ·rename_i h; exact absurd h (Xak r)
   ·rename_i h
    rw [h] at ih;simp only [tot,Y1d,Y4x,Y8] at ih ⊢
    omega
theorem X4w (k:List (List UInt8)):k.length≤tot k:=by
 induction k with
 | nil=>exact Yu _
 | cons a b ih =>
  simp only [tot,Y1d,Y4x,Y8] at ih ⊢
  omega
theorem X8a (a b:List (List UInt8)):tot (a ++ b)=tot a+tot b:=by simp [tot]
theorem Xoa (k:List (List UInt8)) (x:List UInt8):tot (keep k x)≤tot k+(x.length+1):=by
 unfold keep;split
 ·omega
 ·split
  ·rcases List.eq_nil_or_concat k with e | ⟨a,b,e⟩
   ·subst e; simp [tot]
   ·subst e;rw [List.concat_eq_append,List.dropLast_concat,X8a];omega
  ·rw [X8a]; simp [tot]
theorem X76 (l:List (List UInt8)):∀ k,tot (l.foldl keep k)≤tot k+tot l:=by
 induction l with
 | nil=>intro k; simp [tot]
 | cons a b ih =>
  intro k;have h1:=ih (keep k a);have h2:=Xoa k a;rw [List.foldl_cons]
  have:tot (a::b)=a.length+1+tot b:=by simp [tot]
  omega
def schemeOf (s:List UInt8):Option (List UInt8×List UInt8) :=
 if low (s.take 7)=[104,116,116,112,58,47,47] then some (http,s.drop 7)
 else if low (s.take 8)=[104,116,116,112,115,58,47,47] then some (https,s.drop 8) else none
structure U where
 sch:List UInt8
 host:List UInt8
 port:Nat
 path:List UInt8
 query:List UInt8
 ask:Bool
def U0:U:=⟨[],[],0,[],[],false⟩
def uc (u:U):List Go.Value:=[S u.sch,S u.host,I64 (u.port:Nat),S u.path,S u.query,.bool u.ask]
def tailU (sch host:List UInt8) (port:Nat) (r:List UInt8):U×Nat :=
 match X1z (upto [63] r) with
 | none=>(U0,15)
 | some p=>match X1z ((Xc [63] r).drop 1) with
  | none=>(U0,15)
  | some q=>(⟨sch,host,port,if p=[] then [47] else X8f p,q,!(Xc [63] r).isEmpty⟩,0)
def hostOf (r:List UInt8):List UInt8:=low (upto [47,63,35,58] r)
def behind (sch host:List UInt8) (r:List UInt8):U×Nat :=
 if r.take 1=[58] then
  if X1d (upto [47,63,35] (r.drop 1)) then tailU sch host (X62 (upto [47,63,35] (r.drop 1)) sch) (Xc [47,63,35] (r.drop 1)) else (U0,14)
 else tailU sch host 0 r
def pU (s:List UInt8):U×Nat :=
 if 2000<s.length then (U0,2) else match schemeOf s with
 | none=>(U0,12)
 | some (sch,r)=>if hostOk (hostOf r) then behind sch (hostOf r) (Xc [47,63,35,58] r) else (U0,13)
def origin (u:U):List UInt8:=u.sch ++ [58,47,47] ++ u.host ++ (if u.port=0 then [] else 58::Go.Lib.decDigits u.port)
def strU (u:U):List UInt8:=origin u ++ u.path ++ (if u.ask then 63::u.query else [])
def nU (s:List UInt8):List UInt8×Nat:=if (pU s).2=0 then (strU (pU s).1,0) else ([],(pU s).2)
theorem Xgt {c:UInt8} (h:lo c=58∨lo c=47):c=lo c:=by
 have:=Xw (p:=fun c=>!(lo c == 58 || lo c == 47) || c == lo c) (by decide +kernel) c
 simp only [Y1j,Y33,Y15,beq_eq_false_iff_ne,beq_iff_eq] at this
 rcases this with h1 | h1
 ·rcases h with h | h
  ·exact absurd h h1.1
  ·exact absurd h h1.2
 ·exact h1
theorem Xpb (s:List UInt8) (k:Nat):low (s.drop k)=(low s).drop k:=by simp [low]
theorem Xi1 (s:List UInt8) (k:Nat):low (s.take k)=(low s).take k:=by simp [low]
theorem Xoy:∀ (s:List UInt8),low s=[58,47,47]→s=[58,47,47]
 | [],h=>by simp [low] at h
 | [_],h=>by simp [low] at h
 | [_,_],h=>by simp [low] at h
 | [a,b,c],h=>by
  simp only [low,Y1d,Y2q,List.cons.injEq,and_true] at h
  obtain ⟨h1,h2,h3⟩:=h;rw [Xgt (.inl h1),h1,Xgt (.inr h2),h2,Xgt (.inr h3),h3]
 | _::_::_::_::_,h=>by simp [low] at h
abbrev SIGN:List UInt8:=[58,47,47]
theorem occ_of {s:List UInt8} {i:Nat} (h:(s.drop i).take 3=SIGN):Go.Lib.occAt s SIGN i=true:=by
 unfold Go.Lib.occAt;rw [Y4l];rw [← h];exact List.take_prefix _ _
theorem Xre {s:List UInt8} {i:Nat} (h:Go.Lib.occAt s SIGN i=true):(s.drop i).take 3=SIGN:=by
 unfold Go.Lib.occAt at h;rw [Y4l] at h;obtain ⟨t,e⟩:=h;rw [← e]; rfl
theorem Xne {s:List UInt8} {k:Nat} {h:List UInt8} (hk:h.length=k) (hl:low (s.take (k+3))=h ++ SIGN) (hh:h.all (· != 58)=true):Go.Lib.index s SIGN=k∧low (s.take k)=h:=by
 have e1:low (s.take k)=h:=by
  have:=congrArg (List.take k) hl
  rw [← Xi1,Y56,Y3h (by omega),Y24 (by omega),Yz (l:=h) (by omega)] at this;exact this
 have e2:(s.drop k).take 3=SIGN:=by
  apply Xoy
  have:=congrArg (List.drop k) hl
  rw [← Xpb,List.drop_take,show k+3 - k=3 by omega,Y25 (by omega),Y17 (l:=h) (by omega)] at this;exact this
 have hlen:k≤s.length:=by
  have:=congrArg List.length e1
  rw [X27,Yt,hk] at this;omega
 refine ⟨Go.Lib.index_first hlen (occ_of e2) (fun j hj=>?_),e1⟩;cases ho:Go.Lib.occAt s SIGN j with
 | false=>rfl
 | true =>
  have h3:=Xre ho;have h0:s[j]?=some 58:=by
   have:=congrArg (fun l=>l[0]?) h3
   simpa [Y1y,Y1e] using this
  have h4:h[j]?=some 58:=by
   rw [← e1,low,Yy,Y1y,if_pos hj,h0]; rfl
  have:=Y1b.1 hh 58 (Yi h4)
  simp at this
theorem Xju (s:List UInt8):schemeOf s=(let c:=Go.Lib.cut s SIGN; if c.2.2=true∧(low c.1=http∨low c.1=https) then some (low c.1,c.2.1) else none):=by
 have none_of:∀ (h:List UInt8) (k:Nat),h.length=k→Go.Lib.index s SIGN=(k:Nat)→low (s.take k)=h→low (s.take (k+3))=h ++ SIGN:=by
  intro h k hk hi e;have ho:Go.Lib.occAt s SIGN k=true:=by
   rcases Go.Lib.index_spec s SIGN with ⟨h1,_⟩ | ⟨j,h1,_,h2,_⟩
   ·omega
   ·have:j=k:=by omega
    subst this; exact h2
  have h3:=Xre ho;rw [List.take_add,low,Yv,h3];show low (s.take k) ++ _=_
  rw [e]; rfl
 simp only [schemeOf]
 split
 ·rename_i h
  obtain ⟨hi,e⟩:=Xne (s:=s) (k:=4) (h:=http) rfl h (by decide);have hc:Go.Lib.cut s SIGN=(s.take 4,s.drop 7,true):=by
   unfold Go.Lib.cut;rw [hi,if_pos (by decide)]; rfl
  rw [hc];simp only
  rw [if_pos ⟨trivial,.inl e⟩,e]
 ·rename_i hn
  split
  ·rename_i h
   obtain ⟨hi,e⟩:=Xne (s:=s) (k:=5) (h:=https) rfl h (by decide);have hc:Go.Lib.cut s SIGN=(s.take 5,s.drop 8,true):=by
    unfold Go.Lib.cut;rw [hi,if_pos (by decide)]; rfl
   rw [hc];simp only
   rw [if_pos ⟨trivial,.inr e⟩,e]
  ·rename_i hn2
   refine (if_neg ?_).symm;rintro ⟨hc,ho⟩;unfold Go.Lib.cut at hc ho;split at hc
   ·rename_i hi
    rw [if_pos hi] at ho;obtain ⟨k,hk⟩:∃ k:Nat,Go.Lib.index s SIGN=k:=⟨(Go.Lib.index s SIGN).toNat,by omega⟩
    rw [hk,Ym] at ho;simp only at ho
    have hkl:k≤s.length:=by
     have:=Go.Lib.index_le s SIGN
     omega
    have hlen:(low (s.take k)).length=k:=by rw [X27,Yt]; omega
    rcases ho with ho | ho
    ·have k4:k=4:=by rw [← hlen,ho]; rfl
     subst k4;exact hn (none_of http 4 rfl hk ho)
    ·have k5:k=5:=by rw [← hlen,ho]; rfl
     subst k5;exact hn2 (none_of https 5 rfl hk ho)
   ·cases hc
theorem Xs4 (s:List UInt8) (c:UInt8):Go.Lib.cut s [c]=(upto [c] s,(Xc [c] s).drop 1,!(Xc [c] s).isEmpty):=by
 have hge:=Go.Lib.indexByte_ge s c;have key:Go.Lib.indexAny s [c]=Go.Lib.indexByte s c:=by
  clear hge
  induction s with
  | nil=>rfl
  | cons b l ih =>
   rw [Go.Lib.indexAny,Go.Lib.indexByte,ih]
   have:([c].contains b)=(b == c):=by rw [List.contains_cons]; simp
   rw [this]
 unfold Go.Lib.cut;rw [Go.Lib.index_one]
 by_cases e:Go.Lib.indexByte s c=-1
 ·rw [e,if_neg (by decide)];obtain ⟨h1,h2⟩:=X94 (s:=s) (ats:=[c]) (by rw [key]; exact e);rw [h1,h2]; rfl
 ·obtain ⟨k,hk⟩:∃ k:Nat,Go.Lib.indexByte s c=k:=⟨(Go.Lib.indexByte s c).toNat,by omega⟩
  obtain ⟨h1,h2,h3⟩:=Xcv (s:=s) (ats:=[c]) (i:=k) (by rw [key]; exact hk);rw [hk,if_pos (by omega),h1,h2,Ym,Y1m]
  have:(s.drop k).isEmpty=false:=by
   cases hd:s.drop k with
   | nil =>
    have:=congrArg List.length hd
    rw [Yp,Yj] at this;omega
   | cons a b=>rfl
  rw [this];rfl
theorem Xhh (p:List UInt8):(X8f p).length≤p.length+1:=by
 cases p with
 | nil=>simp [X8f]
 | cons c r =>
  rw [X8f];split
  ·have h1:=X76 (spl r) [];rw [X3h,show tot []=0 from rfl] at h1;rw [Y0,X32,Y8]
   have:(if (X60 ((spl r).getLastD []) || ((spl r).foldl keep []).length == 0)=true then [47] else ([]:List UInt8)).length≤1:=by split <;> simp
   omega
  ·simp
theorem X89 (a s:List UInt8):(upto a s).length≤s.length:=by
 have:=congrArg List.length (X23 a s)
 rw [Y0] at this; omega
theorem X6k (a s:List UInt8):(Xc a s).length≤s.length:=by
 have:=congrArg List.length (X23 a s)
 rw [Y0] at this; omega
theorem Xdr {s t:List UInt8} (h:X1z s=some t):t.length≤s.length:=by
 unfold X1z at h;split at h
 ·exact Xdb s t h
 ·cases h
def X31 (u:U):Prop:=u.sch.length≤1000000∧u.host.length≤1000000∧u.port≤65535∧u.path.length≤10000000∧u.query.length≤10000000
theorem Xc0:X31 U0:=⟨by decide,by decide,by decide,by decide,by decide⟩
theorem Xbm (sch host:List UInt8) (port:Nat) (r:List UInt8) (h1:sch.length≤1000000) (h2:host.length≤1000000) (h3:port≤65535) (h4:r.length≤100000):X31 (tailU sch host port r).1:=by
 unfold tailU;split
 ·exact Xc0
 ·rename_i p hp
  split
  ·exact Xc0
  ·rename_i q hq
   have a1:=Xdr hp;have a2:=Xdr hq;have a3:=X89 [63] r;have a4:=X6k [63] r;have a5:=Xhh p;rw [Yp] at a2;refine ⟨h1,h2,h3,?_,by show q.length≤_; omega⟩;show (if p=[] then [47] else X8f p).length≤_
   split
   ·simp
   ·omega
theorem Xty {s sch:List UInt8} (hp:X1d s=true):X62 s sch≤65535:=by
 unfold X62;split
 ·decide
 ·unfold X1d at hp;simp only [Yq,decide_eq_true_eq] at hp
  exact hp.2
theorem X73 (s:List UInt8):X31 (pU s).1:=by
 unfold pU;split
 ·exact Xc0
 ·split
  ·exact Xc0
  ·rename_i sch r hs
   split
   ·have hr:r.length≤2000∧sch.length≤5:=by
     unfold schemeOf at hs;split at hs
     ·injection hs with hs; injection hs with e1 e2; subst e1; subst e2; rw [Yp]; exact ⟨by omega,by decide⟩
     ·split at hs
      ·injection hs with hs; injection hs with e1 e2; subst e1; subst e2; rw [Yp]; exact ⟨by omega,by decide⟩
      ·cases hs
    have hh:(hostOf r).length≤1000000:=by unfold hostOf; rw [X27]; have:=X89 [47,63,35,58] r; omega
    have a3:=X6k [47,63,35,58] r;unfold behind;split
    ·split
     ·rename_i hp
      refine Xbm _ _ _ _ (by omega) hh (Xty hp) ?_
      have:=X6k [47,63,35] ((Xc [47,63,35,58] r).drop 1)
      rw [Yp] at this;omega
     ·exact Xc0
    ·exact Xbm _ _ _ _ (by omega) hh (by decide) (by omega)
   ·exact Xc0
theorem Xa5 (a s:List UInt8):s.take (upto a s).length=upto a s:=by
 have h:=Y30 (l₁:=upto a s) (l₂:=Xc a s);rw [X23] at h; exact h
theorem X6t (a s:List UInt8):s.drop (upto a s).length=Xc a s:=by
 have h:=Y42 (l₁:=upto a s) (l₂:=Xc a s);rw [X23] at h; exact h
theorem X2r (a s:List UInt8):(upto a s).length+(Xc a s).length=s.length:=by
 have:=congrArg List.length (X23 a s)
 rw [Y0] at this; omega
theorem Xho {s X:List UInt8} {n:Nat} (hX:X.length=n):(decide ((n:Int)≤(s.length:Int)) && (low (s.take n) == X))=true ↔ low (s.take n)=X:=by
 constructor
 ·intro h;simp only [Yq,beq_iff_eq] at h
  exact h.2
 ·intro h
  have:=congrArg List.length h
  rw [X27,Yt,hX] at this;simp only [Yq,beq_iff_eq,decide_eq_true_eq]
  exact ⟨by omega,h⟩
theorem Xof {s:List UInt8} (h1:low (s.take 7)=[104,116,116,112,58,47,47]) (h2:low (s.take 8)=[104,116,116,112,115,58,47,47]):False:=by
 have:=congrArg (List.take 7) h2
 rw [← Xi1,Y56,show min 7 8=7 from rfl,h1] at this;simp at this
theorem Xdy (d:UInt8):(((((decide (((lo d).toNat:Int)<97) || decide (122<((lo d).toNat:Int))) && (decide (((lo d).toNat:Int)<48) || decide (57<((lo d).toNat:Int)))) && (((lo d).toNat:Int) != 45)) && (((lo d).toNat:Int) != 46)))=!Xdm (lo d) :=
 eq_of_beq (Xw (p:=fun d=>(((((decide (((lo d).toNat:Int)<97) || decide (122<((lo d).toNat:Int))) && (decide (((lo d).toNat:Int)<48) || decide (57<((lo d).toNat:Int)))) && (((lo d).toNat:Int) != 45)) && (((lo d).toNat:Int) != 46))) == !Xdm (lo d)) (by decide +kernel) d)
theorem Xl7 (s:List UInt8) (i:Nat) (h:i<s.length):at_ (low s) (i:Int)=lo (at_ s (i:Int)):=by
 rw [at_,at_,Ym,low,Yc,Yy,Xx h,Yc,Xx h];rfl
theorem Xj4 {c:UInt8} (h:Xdx c=true):48≤c.toNat∧c.toNat≤57:=by
 simp only [Xdx,Yq,decide_eq_true_eq,Y1q] at h
 have e1:(48:UInt8).toNat=48:=rfl;have e2:(57:UInt8).toNat=57:=rfl;rw [e1,e2] at h; exact h
end Ul
