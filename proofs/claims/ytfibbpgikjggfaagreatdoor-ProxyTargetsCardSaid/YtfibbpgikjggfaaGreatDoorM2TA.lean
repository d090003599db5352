/- Part 1 of what the proof stands on: GkA, GkB, GkV, GkC, GkD, GkE, GkF, GkG, GkH, GkS, Flt, Flu, GkR, GkT, Pct, W18a, W18b, W18c. -/
import Derived.WalkKit
import Derived.Lib.Strings
import Derived.Deep.Quiet
import Derived.StillTail
import Derived.OrdersHeld
import Derived.Scope
import Derived.Lib.Builder
import Derived.Lib.Bytealg
import Derived.Lib.UnsafeStr
import Derived.Laws.IdiomStrings
import Ieee.Arith
import Derived.Laws.FloatArith
import Derived.Lib.AppendStr
import Derived.Below
import Derived.Test.YtfibbpgikjggfaaGreatDoorChecked
set_option linter.unusedVariables false
set_option linter.unusedSimpArgs false
namespace Gk
theorem cs0 : (∀ (p : Prop) [Decidable p], (decide p = true) = p) ∧ (∀ (p : Prop) [Decidable p], (decide p = false) ↔ ¬ p) ∧ (∀ {α : Type} [BEq α] [LawfulBEq α] {a b : α}, (a == b) = true ↔ a = b) ∧ (∀ {α : Type} [BEq α] [LawfulBEq α] {a b : α}, (a == b) = false ↔ a ≠ b) ∧ (∀ {α : Type} [BEq α] [LawfulBEq α] {a b : α}, (a != b) = true ↔ a ≠ b) ∧ (∀ (b : Bool), ((!b) = true) = (b = false)) ∧ (∀ (b : Bool), ((!b) = false) = (b = true)) ∧ (∀ (a b : Bool), ((a || b) = true) = (a = true ∨ b = true)) ∧ (∀ (a b : Bool), ((a && b) = true) = (a = true ∧ b = true)) ∧ (∀ (a b : Bool), ((a || b) = false) = (a = false ∧ b = false)) ∧ (∀ (a b : Bool), ((a && b) = false) = (a = false ∨ b = false)) ∧ (∀ {α : Type} (a b : α), (a ≠ b) = ¬ (a = b)) ∧ (∀ {a b : Int}, ¬ a < b ↔ b ≤ a) ∧ (∀ {a b : Int}, ¬ a ≤ b ↔ b < a) ∧ (∀ {α : Type} [BEq α] [LawfulBEq α] {a b : α}, (a != b) = false ↔ a = b) ∧ (∀ (b : Bool), (¬ (b = true)) = (b = false)) ∧ (∀ (b : Bool), (¬ (b = false)) = (b = true)) :=
 ⟨fun p _ => decide_eq_true_eq, fun p _ => decide_eq_false_iff_not, beq_iff_eq, beq_eq_false_iff_ne, bne_iff_ne, (by intro b; cases b <;> decide), (by intro b; cases b <;> decide), (by intro a b; cases a <;> cases b <;> decide), (by intro a b; cases a <;> cases b <;> decide), (by intro a b; cases a <;> cases b <;> decide), (by intro a b; cases a <;> cases b <;> decide), fun _ _ => ne_eq _ _, Int.not_lt, Int.not_le, bne_eq_false_iff_eq, (by intro b; cases b <;> decide), (by intro b; cases b <;> decide)⟩
end Gk
abbrev Y0:=@List.length_append
abbrev Y4:=@List.getElem?_eq_some_iff
abbrev Y5:=@Gk.cs0
abbrev Y6:=@List.length_cons
abbrev Y7:=@List.getElem?_eq_getElem
abbrev Y8:=@List.append_assoc
abbrev Y9:=@List.drop_succ_cons
abbrev Yc:=@List.nil_append
abbrev Yd:=@List.getD_eq_getElem?_getD
abbrev Ye:=@List.eq_nil_of_length_eq_zero
abbrev Yf:=@Nat.zero_add
abbrev Yg:=@List.append_nil
abbrev Yh:=@List.length_nil
abbrev Yi:=@List.getElem?_append_left
abbrev Yj:=@List.length_drop
abbrev Yk:=@Int.toNat_natCast
abbrev Yl:=@List.drop_zero
abbrev Ym:=@List.take_zero
abbrev Yn:=@Bool.and_eq_true
abbrev Yo:=@List.drop_nil
abbrev Yp:=@Nat.zero_le
abbrev Yq:=@List.length_take
abbrev Yr:=@List.mem_of_getElem?
abbrev Ys:=@Nat.le_refl
abbrev Yt:=@List.getElem?_append_right
abbrev Yu:=@List.cons_append
abbrev Yv:=@Nat.lt_or_ge
abbrev Yw:=@List.take_append_drop
abbrev Yx:=@List.getElem?_map
abbrev Yy:=@List.map_append
abbrev Yz:=@UInt8.toNat_inj
abbrev Y10:=@Array.getD_eq_getD_getElem?
abbrev Y11:=@List.take_of_length_le
abbrev Y12:=@List.mem_append
abbrev Y13:=@List.length_map
abbrev Y14:=@Option.map_eq_some_iff
abbrev Y15:=@List.drop_of_length_le
abbrev Y16:=@Array.getElem?_eq_getElem
abbrev Y17:=@List.mem_cons
abbrev Y18:=@List.all_eq_true
abbrev Y19:=@Array.getElem?_eq_some_iff
abbrev Y1a:=@List.take_add_one
abbrev Y1b:=@List.take_length
abbrev Y1c:=@List.map_cons
abbrev Y1d:=@List.getElem?_drop
abbrev Y1e:=@List.drop_eq_getElem_cons
abbrev Y1f:=@List.perm_append_comm
abbrev Y1g:=@Bool.or_eq_false_iff
abbrev Y1h:=@List.getElem?_modify
abbrev Y1i:=@Nat.mul_one
abbrev Y1j:=@List.mem_iff_getElem?
abbrev Y1k:=@Nat.eq_zero_or_pos
abbrev Y1l:=@List.drop_drop
abbrev Y1m:=@List.mem_append_left
abbrev Y1n:=@List.pairwise_append
abbrev Y1o:=@List.flatMap_append
abbrev Y1p:=@List.mem_append_right
abbrev Y1q:=@List.length_pos_iff
abbrev Y1r:=@Nat.le_of_ble_eq_true
abbrev Y1s:=@List.getElem?_eq_none
abbrev Y1t:=@List.flatten_cons
abbrev Y1u:=@List.ext_getElem?
abbrev Y1v:=@List.getElem?_take
abbrev Y1w:=@Bool.or_eq_true
abbrev Y1x:=@List.length_set
abbrev Y1y:=@List.take_append_of_le_length
abbrev Y1z:=@List.drop_append_of_le_length
abbrev Y20:=@List.all_cons
abbrev Y21:=@List.flatten_append
abbrev Y22:=@Bool.or_eq_true_iff
abbrev Y23:=@UInt8.le_iff_toNat_le
abbrev Y24:=@List.contains_iff_mem
abbrev Y25:=@List.length_singleton
abbrev Y26:=@Option.bind_eq_some_iff
abbrev Y27:=@List.all_append
abbrev Y28:=@Option.toList_some
abbrev Y29:=@Nat.add_sub_cancel_left
abbrev Y2a:=@List.mem_cons_of_mem
abbrev Y2b:=@List.getElem?_append
abbrev Y2c:=@List.mem_map
abbrev Y2d:=@Nat.add_zero
abbrev Y2e:=@List.getElem?_set
abbrev Y2f:=@List.set_append_right
abbrev Y2g:=@Bool.not_eq_true
abbrev Y2h:=@List.flatMap_cons
abbrev Y2i:=@Option.getD_some
abbrev Y2j:=@Option.bind_some
abbrev Y2k:=@List.getElem_mem
abbrev Y2l:=@List.mem_flatMap
abbrev Y2m:=@Nat.add_assoc
abbrev Y2n:=@List.pairwise_cons
abbrev Y2o:=@List.mem_cons_self
abbrev Y2p:=@List.getLastD_eq_getLast?
abbrev Y2q:=@List.pairwise_iff_getElem
abbrev Y2r:=@List.nodup_cons
abbrev Y2s:=@Array.length_toList
abbrev Y2t:=@List.takeWhile_cons
abbrev Y2u:=@List.take_succ_cons
abbrev Y2v:=@List.getElem_map
abbrev Y2w:=@Array.getElem?_setIfInBounds
abbrev Y2x:=@List.set_cons_succ
abbrev Y2y:=@List.dropLast_concat_getLast
abbrev Y2z:=@Nat.succ_mul
abbrev Y30:=@List.length_replicate
abbrev Y31:=@Nat.min_eq_left
abbrev Y32:=@Nat.le_trans
abbrev Y33:=@List.foldl_append
abbrev Y34:=@List.eraseIdx_set_eq
abbrev Y35:=@List.mem_range
abbrev Y36:=@Bool.not_false
abbrev Y37:=@List.getLast?_eq_getElem?
abbrev Y38:=@List.any_eq_true
abbrev Y39:=@List.drop_length
abbrev Y3a:=@List.dropWhile_cons
abbrev Y3b:=@List.getElem_of_mem
abbrev Y3c:=@Nat.zero_mul
abbrev Y3d:=@List.map_nil
abbrev Y3e:=@List.foldl_cons
abbrev Y3f:=@Option.map_some
abbrev Y3g:=@List.sum_cons
abbrev Y3h:=@Bool.true_and
abbrev Y3i:=@Bool.false_or
abbrev Y3j:=@Array.getElem?_eq_none
abbrev Y3k:=@List.size_toArray
abbrev Y3l:=@List.take_left
abbrev Y3m:=@List.set_getElem_self
abbrev Y3n:=@Nat.pow_succ
abbrev Y3o:=@Nat.mul_le_mul_right
abbrev Y3p:=@List.set_append_left
abbrev Y3q:=@List.mem_iff_getElem
abbrev Y3r:=@List.mem_of_mem_take
abbrev Y3s:=@Array.getElem_setIfInBounds
abbrev Y3t:=@Nat.two_pow_add_eq_or_of_lt
abbrev Y3u:=@Nat.testBit_two_pow
abbrev Y3v:=@Int.le_refl
abbrev Y3w:=@List.take_length_add_append
abbrev Y3x:=@List.mem_filter
abbrev Y3y:=@List.filter_sublist
abbrev Y3z:=@Int.fdiv_eq_ediv_of_nonneg
abbrev Y40:=@List.isPrefixOf_iff_prefix
abbrev Y41:=@Nat.sub_zero
abbrev Y42:=@Array.empty_append
abbrev Y43:=@Nat.add_comm
abbrev Y44:=@Nat.lt_of_le_of_lt
abbrev Y45:=@UInt8.toNat_ofNat'
abbrev Y46:=@List.set_cons_zero
abbrev Y47:=@List.contains_cons
abbrev Y48:=@List.filter_append
abbrev Y49:=@List.nodup_append
abbrev Y4a:=@Array.setIfInBounds_comm
abbrev Y4b:=@Bool.and_true
abbrev Y4c:=@Nat.le_zero
abbrev Y4d:=@List.drop_append
abbrev Y4e:=@List.perm_middle
abbrev Y4f:=@List.length_pos_of_mem
abbrev Y4g:=@Nat.div_div_eq_div_mul
abbrev Y4h:=@Nat.sub_self
abbrev Y4i:=@List.find?_cons
abbrev Y4j:=@Bool.and_false
abbrev Y4k:=@List.take_take
abbrev Y4l:=@Option.map_map
abbrev Y4m:=@List.any_cons
namespace Gk
open Go
abbrev Env:=List (Nat×Value)
abbrev S (l:List UInt8):Value:=.string ⟨l.toArray⟩
abbrev I64 (n:Int):Value:=.int .i64 n
abbrev U8 (n:Int):Value:=.int .u8 n
theorem Xn6 {a b:Nat} (h:¬ a=b):Nat.beq a b=false:=by
 cases hb:Nat.beq a b
 ·rfl
 ·exact absurd (Nat.eq_of_beq_eq_true hb) h
def look0:Env→Nat→Option Value
 | [],_=>none
 | (k,v)::L,t=>bif Nat.beq k t then some v else look0 L t
abbrev DK:Nat:=1099511627776
def look (L:Env) (t:Nat):Option Value:=bif Nat.beq t DK then none else look0 L t
def dl (L:Env):List Deferred:=match look0 L DK with
 | some (.func f _ cap)=>[{ target:=.fn f cap,args:=#[] }]
 | _=>[]
theorem X8b {L:Env} {t:Nat} {v:Value} (h:look L t=some v):t≠DK∧look0 L t=some v:=by
 unfold look at h
 cases hb:Nat.beq t DK with
 | true=>rw [hb] at h; cases h
 | false=>rw [hb] at h; exact ⟨fun e=>by subst e; simp at hb,h⟩
theorem Xil {L:Env} {t:Nat} {v:Value} (ht:t≠DK) (h:look0 L t=some v):look L t=some v:=by
 unfold look
 rw [Xn6 ht]
 exact h
structure Holds (n:Nat) (L:Env) (a:Act):Prop where
 size:a.tmps.size=n
 small:n≤DK
 defers:a.defers=dl L
 get:∀ t v,look L t=some v→a.tmps.getD t undef=v
def ev (L:Env):Operand→Option Value
 | .tmp t=>look L t
 | .const v=>some v
 | .global g=>some (.pointer (some ⟨g,0,none⟩))
 | .func f=>some (.func (.func f) #[] #[])
theorem Xe5 {n:Nat} {L:Env} {a:Act} (h:Holds n L a) {x:Operand} {v:Value} (hx:ev L x=some v):a.eval x=v:=by
 cases x with
 | tmp t=>exact h.get t v hx
 | const u=>simpa [ev,Act.eval] using hx
 | global g=>simpa [ev,Act.eval] using hx
 | func f=>simpa [ev,Act.eval] using hx
theorem Holds.put {n:Nat} {L:Env} {a:Act} (h:Holds n L a) {d:Nat} (hd:Nat.blt d n=true) (v:Value):Holds n ((d,v)::L) (a.put (some d) v):=by
 have hd':d<n:=by have:=Y1r hd; omega
 have hk:¬ d=DK:=fun e=>by have:=h.small; omega
 refine ⟨by simp [Act.put,h.size],h.small,?_,fun t u hu=>?_⟩
 ·have:dl ((d,v)::L)=dl L:=by unfold dl; rw [look0,Xn6 hk]; rfl
  rw [this]; exact h.defers
 obtain ⟨h1,hu⟩:=X8b hu
 unfold look0 at hu
 by_cases e:d=t
 ·subst e
  simp at hu
  subst hu
  simp [Act.put,h.size,hd',Y10]
 ·have hb:=Xn6 e
  rw [hb] at hu
  have:=h.get t u (Xil h1 hu)
  simpa [Act.put,Y10,Y2w,e] using this
theorem Holds.skip {n:Nat} {L:Env} {a:Act} (h:Holds n L a) (v:Value):Holds n L (a.put none v):=h
def Sub:Env→Env→Prop
 | [],M=>match look0 M DK with
  | none=>True
  | some _=>False
 | (t,v)::L,M=>look M t=some v∧Sub L M
theorem Sub.look0:∀ {L M:Env},Sub L M→∀ {t v},look0 L t=some v→look M t=some v
 | [],_,_,_,_,h=>by cases h
 | (k,u)::L,M,hs,t,v,h=>by
  unfold Gk.look0 at h
  by_cases e:k=t
  ·subst e
   simp at h
   subst h
   exact hs.1
  ·have hb:=Xn6 e
   rw [hb] at h
   exact hs.2.look0 h
theorem Sub.none:∀ {L M:Env},Sub L M→Gk.look0 M DK=.none
 | [],M,h=>by
  unfold Sub at h
  cases e:Gk.look0 M DK with
  | none=>rfl
  | some v=>rw [e] at h; exact h.elim
 | (k,u)::L,M,h=>h.2.none
theorem Sub.look {L M:Env} (hs:Sub L M) {t v} (h:look L t=some v):look M t=some v:=hs.look0 (X8b h).2
theorem Sub.dl {L M:Env} (hs:Sub L M):dl M=dl L:=by
 unfold Gk.dl
 rw [hs.none]
 cases e:Gk.look0 L DK with
 | none=>rfl
 | some v=>have:=(X8b (hs.look0 e)).1; exact absurd rfl this
theorem Holds.sub {n:Nat} {L M:Env} {a:Act} (h:Holds n M a) (hs:Sub L M):Holds n L a:=⟨h.size,h.small,h.defers.trans hs.dl,fun t v hv=>h.get t v (hs.look hv)⟩
abbrev X2y:=Exit→Env→World→Prop
def Xjz (n:Nat) (K:X2y):Exit→Act→World→Prop:=fun e a w=>∃ L,Holds n L a∧K e L w
def WL (P:Program) (n:Nat) (ops:Array Oper) (K:X2y) (l:List Oper) (L:Env) (w:World):Prop:=∀ a,Holds n L a→wpList P ops (Xjz n K) l a w
def WC (P:Program) (n:Nat) (c:Code) (K:X2y) (L:Env) (w:World):Prop:=∀ a,Holds n L a→c.wp P (Xjz n K) a w
def Xaq (next:Env→World→Prop) (K:X2y):X2y
 | .normal,L,w=>next L w
 | e,L,w=>K e L w
def inBlk (id:Nat) (K:X2y):X2y
 | .exit i,L,w=>bif Nat.beq i id then K .normal L w else K (.exit i) L w
 | e,L,w=>K e L w
section
variable {P:Program} {n:Nat} {K:X2y} {L:Env} {w:World}
theorem WC.mono {c:Code} {K':X2y} (h:WC P n c K L w) (hk:∀ e L w,K e L w→K' e L w):WC P n c K' L w:=fun a ha=>wp_mono (h a ha) fun _ _ _ ⟨L',h1,h2⟩=>⟨L',h1,hk _ _ _ h2⟩
theorem WC.sub {c:Code} {M:Env} (h:WC P n c K M w) (hs:Sub M L):WC P n c K L w:=fun a ha=>h a (ha.sub hs)
theorem WL.sub {ops:Array Oper} {l:List Oper} {M:Env} (h:WL P n ops K l M w) (hs:Sub M L):WL P n ops K l L w:=fun a ha=>h a (ha.sub hs)
theorem WC.seq {x y:Code} (h:WC P n x (Xaq (fun L w=>WC P n y K L w) K) L w):WC P n (.seq x y) K L w:=by
 intro a ha
 refine wp_seq (wp_mono (h a ha) ?_)
 rintro e a' w' ⟨L',h1,h2⟩
 cases e with
 | normal=>exact h2 a' h1
 | _=>exact ⟨L',h1,h2⟩
theorem WC.cut {x y:Code} (J:Env→World→Prop) (h:WC P n x (Xaq J K) L w) (h2:∀ L w,J L w→WC P n y K L w):WC P n (.seq x y) K L w :=
 WC.seq (h.mono fun e L w he=>by cases e <;> first | exact h2 _ _ he | exact he)
theorem WC.skip (h:K .normal L w):WC P n .skip K L w:=fun _ ha=>wp_skip ⟨L,ha,h⟩
theorem WC.label {l:Nat} (h:K .normal L w):WC P n (.label l) K L w:=fun _ ha=>wp_label ⟨L,ha,h⟩
theorem WC.exit {id:Nat} (h:K (.exit id) L w):WC P n (.exit id) K L w:=fun _ ha=>wp_exit ⟨L,ha,h⟩
theorem WC.ret (h:K .ret L w):WC P n .ret K L w:=fun _ ha=>wp_ret ⟨L,ha,h⟩
theorem WC.block {id:Nat} {c:Code} (h:WC P n c (inBlk id K) L w):WC P n (.block id c) K L w:=by
 intro a ha
 refine wp_block (wp_mono (h a ha) ?_)
 rintro e a' w' ⟨L',h1,h2⟩
 cases e with
 | exit i =>
  unfold Exit.inBlock
  unfold inBlk at h2
  by_cases e:i=id
  ·subst e
   simp only [if_true]
   simp at h2
   exact ⟨L',h1,h2⟩
  ·simp only [e,if_false]
   have hb:=Xn6 e
   exact ⟨L',h1,by simpa [hb] using h2⟩
 | _=>exact ⟨L',h1,h2⟩
theorem WC.cond {c:Operand} {x y:Code} {b:Bool} (hc:ev L c=some (.bool b)) (ht:b=true→WC P n x K L w) (hf:b=false→WC P n y K L w):WC P n (.cond c x y) K L w:=by
 intro a ha
 have he:=Xe5 ha hc
 cases b with
 | true=>exact wp_cond_true he (ht rfl a ha)
 | false=>exact wp_cond_false he (hf rfl a ha)
theorem WC.condT {c:Operand} {x y:Code} (hc:ev L c=some (.bool true)) (h:WC P n x K L w):WC P n (.cond c x y) K L w:=WC.cond hc (fun _=>h) (fun e=>by cases e)
theorem WC.condF {c:Operand} {x y:Code} (hc:ev L c=some (.bool false)) (h:WC P n y K L w):WC P n (.cond c x y) K L w:=WC.cond hc (fun e=>by cases e) (fun _=>h)
theorem WC.loop {c:Code} {σ:Type} (E:σ→Env) (inv:σ→World→Prop) (μ:σ→Nat) (s0:σ) (hs:Sub (E s0) L) (h0:inv s0 w)
  (round:∀ s w,inv s w→WC P n c (Xaq (fun L' w'=>∃ s',Sub (E s') L'∧inv s' w'∧μ s'<μ s) K) (E s) w):WC P n (.loop c) K L w:=by
 intro a ha b k cs
 have key:∀ m s a w,μ s=m→Holds n (E s) a→inv s w →
   ∃ e a' w',Xjz n K e a' w'∧Arrives P (lone (b.at a (.code c::.inLoop c::k)) cs w) b k cs e a' w':=by
  intro m
  induction m using Nat.strongRecOn with
  | _ m ih =>
   intro s a w hm ha hi
   obtain ⟨e,a1,w1,⟨L1,hL,hq⟩,harr⟩:=round s w hi a ha b (.inLoop c::k) cs
   cases e with
   | normal =>
    obtain ⟨s',hsub,hi',hlt⟩:=hq
    obtain ⟨e2,a2,w2,hq2,harr2⟩:=ih (μ s') (hm ▸ hlt) s' a1 w1 rfl (hL.sub hsub) hi'
    exact ⟨e2,a2,w2,hq2,.of_steps (Steps.trans harr (.one step_inLoop)) harr2⟩
   | exit id=>exact ⟨_,a1,w1,⟨L1,hL,hq⟩,.pass (x:=.inLoop c) rfl (fun _ _=>.inl (by simp)) harr⟩
   | goto l=>exact ⟨_,a1,w1,⟨L1,hL,hq⟩,.pass (x:=.inLoop c) rfl (fun _ _=>.inl (by simp)) harr⟩
   | ret=>exact ⟨_,a1,w1,⟨L1,hL,hq⟩,.pass (x:=.inLoop c) rfl (fun _ _=>.inl (by simp)) harr⟩
   | panic ch=>exact ⟨_,a1,w1,⟨L1,hL,hq⟩,.pass (x:=.inLoop c) rfl (fun _ _=>.inl (by simp)) harr⟩
   | outgrown=>exact ⟨_,a1,w1,⟨L1,hL,hq⟩,.pass (x:=.inLoop c) rfl (fun _ _=>.inl (by simp)) harr⟩
 obtain ⟨e,a',w',hq,harr⟩:=key _ s0 a w rfl (ha.sub hs) h0
 exact ⟨e,a',w',hq,.of_steps (.one step_loop) harr⟩
theorem WC.region {id:Nat} {l:List Oper} (h:WL P n l.toArray K l L w):WC P n (.region id l.toArray false) K L w:=fun a ha=>wp_region_lit (h a ha)
def X3y (P:Program) (n:Nat) (fn:Func) (R:Ending→World→Prop):X2y
 | .normal,L,w | .ret,L,w=>dl L=[]∧∀ a,Holds n L a→∃ v,(results fn a.tmps).run P w=.ok v w∧R (.returned v) w
 | _,_,_=>False
def Xbg:Nat→List Value→Env
 | _,[]=>[]
 | i,v::l=>(i,v)::Xbg (i+1) l
theorem X6e:∀ (l:List Value) (i t:Nat) (v:Value),look0 (Xbg i l) t=some v→i≤t∧l[t - i]?=some v
 | [],_,_,_,h=>by cases h
 | u::l,i,t,v,h=>by
  unfold Xbg look0 at h
  by_cases e:i=t
  ·subst e
   simp at h
   exact ⟨Ys _,by simp [h]⟩
  ·have hb:=Xn6 e
   rw [hb] at h
   obtain ⟨h1,h2⟩:=X6e l (i+1) t v h
   exact ⟨by omega,by rw [show t - i=(t - (i+1))+1 by omega]; simpa using h2⟩
theorem X55 {fn:Func} {args:List Value} (hn:fn.ntmps=n) (hle:(Nat.ble args.length n && Nat.ble n DK)=true):Holds n (Xbg 0 args) { tmps:=args.toArray ++ Array.replicate (fn.ntmps - args.toArray.size) undef,defers:=[] }:=by
 have hle':args.length≤n∧n≤DK:=by simpa using hle
 refine ⟨by simp [hn]; omega,hle'.2,?_,fun t v hv=>?_⟩
 ·unfold dl
  cases e:look0 (Xbg 0 args) DK with
  | none=>rfl
  | some v =>
   obtain ⟨_,h2⟩:=X6e args 0 DK v e
   have:=(Y4.1 h2).1
   simp only [Y41] at this
   omega
 obtain ⟨_,h2⟩:=X6e args 0 t v (X8b hv).2
 simp only [Y41] at h2
 have ht:t<args.length:=(Y4.1 h2).1
 rw [Y7 ht] at h2
 simpa [Y10,Array.getElem?_append,ht] using h2
theorem calls {f:FuncId} {fn:Func} {c:Code} {args:List Value} {R:Ending→World→Prop} (hf:P.funcs[f]?=some fn) (hb:fn.body=some c) (hn:fn.ntmps=n) (hle:(Nat.ble args.length n && Nat.ble n DK)=true)
  (h:WC P n c (X3y P n fn R) (Xbg 0 args) w):Calls P f args.toArray w R:=by
 refine calls_of_wp hf hb (wp_mono (h _ (X55 hn hle)) ?_)
 rintro e a' w' ⟨L',h1,h2⟩
 cases e with
 | normal=>exact ⟨h1.defers.trans h2.1,h2.2 a' h1⟩
 | ret=>exact ⟨h1.defers.trans h2.1,h2.2 a' h1⟩
 | _=>exact h2.elim
section rets
variable {fn:Func} {R:Ending→World→Prop}
theorem ret0 (h:fn.results=#[]) (hR:R (.returned (.tuple #[])) w) (hd:dl L=[]:=by rfl):X3y P n fn R .ret L w:=⟨hd,fun a _=>⟨_,by simp [results,h],hR⟩⟩
theorem X7d (h:fn.results=#[]) (hR:R (.returned (.tuple #[])) w) (hd:dl L=[]:=by rfl):X3y P n fn R .normal L w:=⟨hd,fun a _=>⟨_,by simp [results,h],hR⟩⟩
theorem Xe {t:Nat} {v:Value} (h:fn.results=#[.tmp t]) (hv:look L t=some v) (hR:R (.returned v) w) (hd:dl L=[]:=by rfl):X3y P n fn R .ret L w :=
 ⟨hd,fun a ha=>⟨v,by have:=ha.get t v hv; simp [results,h]; simpa [Y10] using this,hR⟩⟩
theorem X1g {t u:Nat} {v x:Value} (h:fn.results=#[.tmp t,.tmp u]) (hv:look L t=some v) (hx:look L u=some x) (hR:R (.returned (.tuple #[v,x])) w) (hd:dl L=[]:=by rfl):X3y P n fn R .ret L w :=
 ⟨hd,fun a ha=>⟨_,by have h1:=ha.get t v hv; have h2:=ha.get u x hx; simp only [Y10] at h1 h2; simp [results,h,h1,h2],hR⟩⟩
theorem X8v {t u r:Nat} {v x y:Value} (h:fn.results=#[.tmp t,.tmp u,.tmp r]) (hv:look L t=some v) (hx:look L u=some x) (hy:look L r=some y) (hR:R (.returned (.tuple #[v,x,y])) w) (hd:dl L=[]:=by rfl):X3y P n fn R .ret L w :=
 ⟨hd,fun a ha=>⟨_,by have h1:=ha.get t v hv; have h2:=ha.get u x hx; have h3:=ha.get r y hy; simp only [Y10] at h1 h2 h3; simp [results,h,h1,h2,h3],hR⟩⟩
end rets
end
end Gk
namespace Gk
open Go
def Ev (n:Nat) (L:Env) (x:Operand) (v:Value):Prop:=∀ a,Holds n L a→a.eval x=v
def gd (b want:Bool) (v:Value):Value:=bif b == want then v else undef
def Ex (P:Program) (n:Nat) (L:Env) (w:World) (o:Oper) (v:Value) (w':World):Prop:=∀ a,Holds n L a→(execOp a.eval o).run P w=.ok (.value v) w'
def Es (P:Program) (n:Nat) (L:Env) (w:World) (o:Oper) (w':World):Prop:=∀ a,Holds n L a→(execOp a.eval o).run P w=.ok .skip w'
section
variable {P:Program} {n:Nat} {K:X2y} {L:Env} {w w':World} {ops:Array Oper} {rest:List Oper}
theorem Ev.of {x:Operand} {v:Value} (h:ev L x=some v):Ev n L x v:=fun _ ha=>Xe5 ha h
theorem Ev.gd {x:Operand} {v:Value} {b want:Bool} (hb:b=want) (h:ev L x=some (gd b want v)):Ev n L x v:=fun a ha=>by
 rw [Xe5 ha h,hb]
 cases want <;> rfl
theorem X1s {o:Oper} (hg:o.guard=none) (y:Nat→Option Bool):Region.wanted o y=true:=by simp [Region.wanted,hg]
theorem WL.nil (h:K .normal L w):WL P n ops K [] L w:=fun a ha=>wpList_nil ⟨L,ha,h⟩
theorem WL.val {d:Nat} {op:Op} {ty:TypeId} {pos:String} {af:Array Edge} {v:Value} (hx:Ex P n L w ⟨some d,op,ty,pos,af,none⟩ v w') (hd:Nat.blt d n=true)
  (h:WL P n ops K rest ((d,v)::L) w'):WL P n ops K (⟨some d,op,ty,pos,af,none⟩::rest) L w:=by
 intro a ha
 refine wpList_plain rfl fun K' hK=>?_
 unfold Oper.wp
 rw [hx a ha]
 exact hK _ _ (h _ (ha.put hd v))
theorem WL.st {op:Op} {ty:TypeId} {pos:String} {af:Array Edge} (hx:Es P n L w ⟨none,op,ty,pos,af,none⟩ w')
  (h:WL P n ops K rest L w'):WL P n ops K (⟨none,op,ty,pos,af,none⟩::rest) L w:=by
 intro a ha
 refine wpList_plain rfl fun K' hK=>?_
 unfold Oper.wp
 rw [hx a ha]
 exact hK _ _ (h _ ha)
theorem X6d {a:Act} {L:Env} (ha:Holds n L a) {j t:Nat} {b:Bool} (hj:(ops[j]?).bind (·.dst)=some t) (hb:look L t=some (.bool b)):yielded ops a.tmps j=some b:=by
 have h1:=ha.get t _ hb
 have hlt:t<a.tmps.size:=by
  apply Classical.byContradiction
  intro hn
  rw [Y10,Y3j (by omega)] at h1
  cases h1
 rw [Y10,Y16 hlt] at h1
 simp only [Y2i] at h1
 have h2:a.tmps[t]?=some (.bool b):=by rw [Y16 hlt,h1]
 obtain ⟨o,ho,hd⟩:=Y26.1 hj
 simp [yielded,ho,hd,h2]
theorem WL.gval {d j t:Nat} {b want:Bool} {op:Op} {ty:TypeId} {pos:String} {af:Array Edge} {v:Value}
  (hj:(ops[j]?).bind (·.dst)=some t) (hb:look L t=some (.bool b)) (hx:b=want→Ex P n L w ⟨some d,op,ty,pos,af,some (j,want)⟩ v w) (hd:Nat.blt d n=true)
  (h:WL P n ops K rest ((d,gd b want v)::L) w):WL P n ops K (⟨some d,op,ty,pos,af,some (j,want)⟩::rest) L w:=by
 intro a ha
 refine wpList_step fun K' hK=>?_
 have hy:=X6d ha hj hb
 have hput:=h _ (ha.put hd (Gk.gd b want v))
 unfold Gk.gd at hput
 by_cases e:b=want
 ·rw [if_pos (by simp [Region.wanted,hy,e])]
  unfold Oper.wp
  rw [hx e a ha]
  subst e
  exact hK _ _ (by simpa using hput)
 ·rw [if_neg (by simp [Region.wanted,hy,e])]
  have e':(b == want)=false:=by simpa using e
  rw [e'] at hput
  exact hK _ _ (by simpa using hput)
def gds:List (Bool×Bool)→Value→Value
 | [],v=>v
 | (b,want)::r,v=>gd b want (gds r v)
theorem X1x:∀ {c:List (Bool×Bool)} {v:Value},(∀ p∈c,p.1=p.2)→gds c v=v
 | [],_,_=>rfl
 | (b,want)::r,v,h=>by
  have h1:b=want:=h (b,want) (by simp)
  subst h1
  simp only [gds,Gk.gd,beq_self_eq_true,cond_true]
  exact X1x fun p hp=>h p (Y2a _ hp)
theorem X3b:∀ {c:List (Bool×Bool)} {v:Value},¬ (∀ p∈c,p.1=p.2)→gds c v=undef
 | [],_,h=>absurd (fun _ hp=>by cases hp) h
 | (b,want)::r,v,h=>by
  by_cases e:b=want
  ·subst e
   simp only [gds,Gk.gd,beq_self_eq_true,cond_true]
   exact X3b fun hr=>h fun p hp=>by
    rcases Y17.1 hp with rfl | hp
    ·rfl
    ·exact hr p hp
  ·have e':(b == want)=false:=by simpa using e
   simp only [gds,Gk.gd,e',cond_false]
theorem WL.gvals {d j t:Nat} {c:List (Bool×Bool)} {b want:Bool} {op:Op} {ty:TypeId} {pos:String} {af:Array Edge} {v:Value}
  (hj:(ops[j]?).bind (·.dst)=some t) (ht:Nat.blt t n=true) (hb:look L t=some (gds c (.bool b))) (hx:(∀ p∈c ++ [(b,want)],p.1=p.2)→Ex P n L w ⟨some d,op,ty,pos,af,some (j,want)⟩ v w) (hd:Nat.blt d n=true)
  (h:WL P n ops K rest ((d,gds (c ++ [(b,want)]) v)::L) w):WL P n ops K (⟨some d,op,ty,pos,af,some (j,want)⟩::rest) L w:=by
 intro a ha
 refine wpList_step fun K' hK=>?_
 have hput:=h _ (ha.put hd (gds (c ++ [(b,want)]) v))
 have hlt:t<a.tmps.size:=by have:=Y1r ht; rw [ha.size]; omega
 have hv:=ha.get t _ hb
 have hy:yielded ops a.tmps j=match gds c (.bool b) with | .bool b=>some b | _=>none:=by
  obtain ⟨o,ho,hdd⟩:=Y26.1 hj
  rw [Y10,Y16 hlt] at hv
  simp only [Y2i] at hv
  have h2:a.tmps[t]?=some (gds c (.bool b)):=by rw [Y16 hlt,hv]
  simp only [yielded,ho,hdd,Y2j,h2]
  generalize gds c (.bool b)=g
  cases g <;> rfl
 by_cases e:∀ p∈c ++ [(b,want)],p.1=p.2
 ·have ec:∀ p∈c,p.1=p.2:=fun p hp=>e p (by simp [hp])
  have eb:b=want:=e (b,want) (by simp)
  rw [X1x ec] at hy
  rw [if_pos (by simp [Region.wanted,hy,eb])]
  unfold Oper.wp
  rw [hx e a ha]
  rw [X1x e] at hput
  exact hK _ _ hput
 ·have hw:Region.wanted (⟨some d,op,ty,pos,af,some (j,want)⟩:Oper) (yielded ops a.tmps)=false:=by
   by_cases ec:∀ p∈c,p.1=p.2
   ·rw [X1x ec] at hy
    have eb:¬ b=want:=fun eb=>e fun p hp=>by
     rcases Y12.1 hp with hp | hp
     ·exact ec p hp
     ·simp at hp; subst hp; exact eb
    simp [Region.wanted,hy,eb]
   ·rw [X3b ec] at hy
    simp [Region.wanted,hy,undef]
  rw [if_neg (by simp [hw])]
  rw [X3b e] at hput
  exact hK _ _ hput
theorem WL.gval2 {d j t:Nat} {b1 w1 b want:Bool} {op:Op} {ty:TypeId} {pos:String} {af:Array Edge} {v:Value}
  (hj:(ops[j]?).bind (·.dst)=some t) (ht:Nat.blt t n=true) (hb:look L t=some (gd b1 w1 (.bool b))) (hx:b1=w1→b=want→Ex P n L w ⟨some d,op,ty,pos,af,some (j,want)⟩ v w) (hd:Nat.blt d n=true)
  (h:WL P n ops K rest ((d,gd b1 w1 (gd b want v))::L) w):WL P n ops K (⟨some d,op,ty,pos,af,some (j,want)⟩::rest) L w :=
 WL.gvals (c:=[(b1,w1)]) hj ht hb (fun e=>hx (e (b1,w1) (by simp)) (e (b,want) (by simp))) hd h
theorem WL.gval3 {d j t:Nat} {b1 w1 b2 w2 b want:Bool} {op:Op} {ty:TypeId} {pos:String} {af:Array Edge} {v:Value}
  (hj:(ops[j]?).bind (·.dst)=some t) (ht:Nat.blt t n=true) (hb:look L t=some (gd b1 w1 (gd b2 w2 (.bool b)))) (hx:b1=w1→b2=w2→b=want→Ex P n L w ⟨some d,op,ty,pos,af,some (j,want)⟩ v w) (hd:Nat.blt d n=true)
  (h:WL P n ops K rest ((d,gd b1 w1 (gd b2 w2 (gd b want v)))::L) w):WL P n ops K (⟨some d,op,ty,pos,af,some (j,want)⟩::rest) L w :=
 WL.gvals (c:=[(b1,w1),(b2,w2)]) hj ht hb (fun e=>hx (e (b1,w1) (by simp)) (e (b2,w2) (by simp)) (e (b,want) (by simp))) hd h
theorem Ev.gd2 {x:Operand} {v:Value} {b1 w1 b2 w2:Bool} (h1:b1=w1) (h2:b2=w2) (h:ev L x=some (Gk.gd b1 w1 (Gk.gd b2 w2 v))):Ev n L x v:=by
 subst h1; subst h2
 refine Ev.of (h.trans ?_)
 simp [Gk.gd]
theorem Ev.gd3 {x:Operand} {v:Value} {b1 w1 b2 w2 b3 w3:Bool} (h1:b1=w1) (h2:b2=w2) (h3:b3=w3) (h:ev L x=some (Gk.gd b1 w1 (Gk.gd b2 w2 (Gk.gd b3 w3 v)))):Ev n L x v:=by
 subst h1; subst h2; subst h3
 refine Ev.of (h.trans ?_)
 simp [Gk.gd]
section pure
variable {d:Option Nat} {ty:TypeId} {pos:String} {af:Array Edge} {g:Option (Nat×Bool)}
theorem Ex.move {x:Operand} {v:Value} (hx:Ev n L x v):Ex P n L w ⟨d,.move x,ty,pos,af,g⟩ v w:=fun a ha=>by simp [execOp,hx a ha]
theorem Ex.assign {x:Operand} {v:Value} (hx:Ev n L x v):Ex P n L w ⟨d,.assign x,ty,pos,af,g⟩ v w:=fun a ha=>by simp [execOp,hx a ha]
theorem Ex.pick {c x y:Operand} {b:Bool} {u v:Value} (hc:Ev n L c (.bool b)) (hx:Ev n L x u) (hy:Ev n L y v):Ex P n L w ⟨d,.pick c x y,ty,pos,af,g⟩ (bif b then u else v) w :=
 fun a ha=>by cases b <;> simp [execOp,hx a ha,hy a ha,hc a ha,asBool]
theorem Ex.por {c x y:Operand} {b r:Bool} (hc:Ev n L c (.bool b)) (hx:Ev n L x (.bool true)) (hy:Ev n L y (Gk.gd b false (.bool r))):Ex P n L w ⟨d,.pick c x y,ty,pos,af,g⟩ (.bool (b || r)) w :=
 fun a ha=>by cases b <;> simp [execOp,hx a ha,hy a ha,hc a ha,asBool,Gk.gd]
theorem Ex.pand {c x y:Operand} {b r:Bool} (hc:Ev n L c (.bool b)) (hx:Ev n L x (Gk.gd b true (.bool r))) (hy:Ev n L y (.bool false)):Ex P n L w ⟨d,.pick c x y,ty,pos,af,g⟩ (.bool (b && r)) w :=
 fun a ha=>by cases b <;> simp [execOp,hx a ha,hy a ha,hc a ha,asBool,Gk.gd]
theorem Ex.extract {x:Operand} {i:Nat} {vs:Array Value} {v:Value} (hx:Ev n L x (.tuple vs)) (hi:vs[i]?=some v):Ex P n L w ⟨d,.extract x i,ty,pos,af,g⟩ v w :=
 fun a ha=>by simp [execOp,hx a ha,Instr.extract,hi]
theorem Ex.not {x:Operand} {b:Bool} {t:TypeId} (hx:Ev n L x (.bool b)):Ex P n L w ⟨d,.unOp .not t x,ty,pos,af,g⟩ (.bool (!b)) w :=
 fun a ha=>by simp [execOp,hx a ha,Op.unary]
theorem Ex.nilCheck {x:Operand} {p:Addr} (hx:Ev n L x (.pointer (some p))):Ex P n L w ⟨d,.nilCheck x,ty,pos,af,g⟩ (.pointer (some p)) w :=
 fun a ha=>by simp [execOp,hx a ha]
variable {t t':TypeId} {x y:Operand}
theorem Xz {op:BinOp} {u v r:Value} (hx:Ev n L x u) (hy:Ev n L y v) (he:∀ p q,(eqGuard op t p q u v).run P w=.ok () w) (hr:(binOp op t u v).run P w=.ok r w):Ex P n L w ⟨d,.binOp op t x y t',ty,pos,af,g⟩ r w :=
 fun a ha=>by simp [execOp,hx a ha,hy a ha,he,hr]
theorem Xi (op:BinOp) (k:IntKind) (a b:Int) (p q:Operand):(eqGuard op t p q (.int k a) (.int k b)).run P w=.ok () w:=by
 unfold eqGuard; split <;> simp
theorem X4y (op:BinOp) (a b:ByteArray) (p q:Operand):(eqGuard op t p q (.string a) (.string b)).run P w=.ok () w:=by
 unfold eqGuard; split <;> simp
variable {k:IntKind} {i j:Int}
theorem Ex.lss (hx:Ev n L x (.int k i)) (hy:Ev n L y (.int k j)):Ex P n L w ⟨d,.binOp .lss t x y t',ty,pos,af,g⟩ (.bool (decide (i<j))) w :=
 Xz hx hy (Xi _ _ _ _) (by simp [binOp,Op.intCmp])
theorem Ex.leq (hx:Ev n L x (.int k i)) (hy:Ev n L y (.int k j)):Ex P n L w ⟨d,.binOp .leq t x y t',ty,pos,af,g⟩ (.bool (decide (i≤j))) w :=
 Xz hx hy (Xi _ _ _ _) (by simp [binOp,Op.intCmp])
theorem Ex.gtr (hx:Ev n L x (.int k i)) (hy:Ev n L y (.int k j)):Ex P n L w ⟨d,.binOp .gtr t x y t',ty,pos,af,g⟩ (.bool (decide (j<i))) w :=
 Xz hx hy (Xi _ _ _ _) (by simp [binOp,Op.intCmp])
theorem Ex.geq (hx:Ev n L x (.int k i)) (hy:Ev n L y (.int k j)):Ex P n L w ⟨d,.binOp .geq t x y t',ty,pos,af,g⟩ (.bool (decide (j≤i))) w :=
 Xz hx hy (Xi _ _ _ _) (by simp [binOp,Op.intCmp])
theorem Ex.eql (hx:Ev n L x (.int k i)) (hy:Ev n L y (.int k j)):Ex P n L w ⟨d,.binOp .eql t x y t',ty,pos,af,g⟩ (.bool (i == j)) w :=
 Xz hx hy (Xi _ _ _ _) (by simp [binOp,Op.intCmp])
theorem Ex.neq (hx:Ev n L x (.int k i)) (hy:Ev n L y (.int k j)):Ex P n L w ⟨d,.binOp .neq t x y t',ty,pos,af,g⟩ (.bool (i != j)) w :=
 Xz hx hy (Xi _ _ _ _) (by simp [binOp,Op.intCmp])
theorem Ex.addw (hx:Ev n L x (.int k i)) (hy:Ev n L y (.int k j)):Ex P n L w ⟨d,.binOp .add t x y t',ty,pos,af,g⟩ (.int k (k.wrap (i+j))) w :=
 Xz hx hy (Xi _ _ _ _) (by simp [binOp,Op.intArith])
theorem Ex.subw (hx:Ev n L x (.int k i)) (hy:Ev n L y (.int k j)):Ex P n L w ⟨d,.binOp .sub t x y t',ty,pos,af,g⟩ (.int k (k.wrap (i - j))) w :=
 Xz hx hy (Xi _ _ _ _) (by simp [binOp,Op.intArith])
abbrev Xmw (i:Int):Prop:=-9223372036854775808≤i∧i≤9223372036854775807
theorem Xe4 {i:Int} (h:Xmw i):IntKind.i64.wrap i=i:=by
 obtain ⟨h1,h2⟩:=h
 rw [IntKind.wrap_i64]
 omega
theorem Ex.add (hx:Ev n L x (I64 i)) (hy:Ev n L y (I64 j)) (h:Xmw (i+j)):Ex P n L w ⟨d,.binOp .add t x y t',ty,pos,af,g⟩ (I64 (i+j)) w :=
 Xz hx hy (Xi _ _ _ _) (by simp [binOp,Op.intArith,Xe4 h])
theorem Ex.sub (hx:Ev n L x (I64 i)) (hy:Ev n L y (I64 j)) (h:Xmw (i - j)):Ex P n L w ⟨d,.binOp .sub t x y t',ty,pos,af,g⟩ (I64 (i - j)) w :=
 Xz hx hy (Xi _ _ _ _) (by simp [binOp,Op.intArith,Xe4 h])
theorem Ex.mul (hx:Ev n L x (I64 i)) (hy:Ev n L y (I64 j)) (h:Xmw (i*j)):Ex P n L w ⟨d,.binOp .mul t x y t',ty,pos,af,g⟩ (I64 (i*j)) w :=
 Xz hx hy (Xi _ _ _ _) (by simp [binOp,Op.intArith,Xe4 h])
theorem Ex.eqp {p:Option Addr} {e:TypeId} (hx:Ev n L x (.pointer p)) (hy:Ev n L y (.pointer none)) (hT:P.underlying t=some (.pointer e)):Ex P n L w ⟨d,.binOp .eql t x y t',ty,pos,af,g⟩ (.bool p.isNone) w :=
 Xz hx hy (fun _ _=>by unfold eqGuard; split <;> simp) (run_eql_pointer_nil w t p (by simp [Program.pointee,hT]))
variable {l m:List UInt8}
theorem Ex.eqs (hx:Ev n L x (S l)) (hy:Ev n L y (S m)):Ex P n L w ⟨d,.binOp .eql t x y t',ty,pos,af,g⟩ (.bool (l == m)) w :=
 Xz hx hy (X4y _ _ _) (by simp [binOp,Op.stringOp])
theorem Ex.nes (hx:Ev n L x (S l)) (hy:Ev n L y (S m)):Ex P n L w ⟨d,.binOp .neq t x y t',ty,pos,af,g⟩ (.bool (!(l == m))) w :=
 Xz hx hy (X4y _ _ _) (by simp [binOp,Op.stringOp])
theorem Ex.cat (hx:Ev n L x (S l)) (hy:Ev n L y (S m)) (h:((l.length+m.length:Nat):Int)≤9223372036854775807):Ex P n L w ⟨d,.binOp .add t x y t',ty,pos,af,g⟩ (S (l ++ m)) w :=
 Xz hx hy (X4y _ _ _) (by
  have h1:((ByteArray.size ⟨l.toArray⟩+ByteArray.size ⟨m.toArray⟩:Nat):Int)=((l.length+m.length:Nat):Int):=rfl
  have h2:¬ (((l.length+m.length:Nat):Int) > IntKind.i64.max):=by show ¬ ((l.length+m.length:Nat):Int) > 9223372036854775807; omega
  have h3:(⟨l.toArray⟩ ++ ⟨m.toArray⟩:ByteArray)=⟨(l ++ m).toArray⟩:=by
   apply ByteArray.ext
   simp
  simp only [binOp,Op.stringOp,h1,if_neg h2,h3,Sem.run_pure])
theorem X3g {t e:TypeId} (hT:P.underlying t=some (.slice e)):P.elem t=e:=by simp [Program.elem,hT]
theorem Ex.len (hx:Ev n L x (S l)) (hT:P.underlying t=some .string):Ex P n L w ⟨d,.call ⟨.builtin .len,#[x],#[t]⟩,ty,pos,af,g⟩ (I64 l.length) w :=
 fun a ha=>by
  have h:=run_len_string (P:=P) w t ty ⟨l.toArray⟩ hT
  simp [execOp,resolve,invoke,builtin,hx a ha,h,goInt,ByteArray.size]
theorem Ex.lenSlice {p:Option Addr} {c k:Nat} {e:TypeId} (hx:Ev n L x (.slice p k c)) (hT:P.underlying t=some (.slice e)):Ex P n L w ⟨d,.call ⟨.builtin .len,#[x],#[t]⟩,ty,pos,af,g⟩ (I64 k) w :=
 fun a ha=>by
  have h:=run_len_slice (P:=P) w t ty p k c (by rw [X3g hT]; exact hT)
  simp [execOp,resolve,invoke,builtin,hx a ha,h,goInt]
def at_ (l:List UInt8) (i:Int):UInt8:=l.getD i.toNat 0
theorem Ex.index_ {c:UInt8} (hx:Ev n L x (S l)) (hy:Ev n L y (I64 i)) (hi:0≤i) (hc:l[i.toNat]?=some c) (hT:P.underlying t=some .string):Ex P n L w ⟨d,.index t x y,ty,pos,af,g⟩ (U8 c.toNat) w :=
 fun a ha=>by
  have h1:i.toNat<l.length:=(Y4.1 hc).1
  have h2:=(Y4.1 hc).2
  have h3:0≤i∧i<((ByteArray.size ⟨l.toArray⟩:Nat):Int):=⟨hi,by show i<(l.length:Int); omega⟩
  have h:=run_index_string (P:=P) w t ⟨l.toArray⟩ .i64 i hT
  rw [dif_pos h3] at h
  have h4:(⟨l.toArray⟩:ByteArray)[i.toNat]'(by show i.toNat<l.length; omega)=c:=h2
  rw [h4] at h
  simp [execOp,hx a ha,hy a ha,h]
theorem Ex.index (hx:Ev n L x (S l)) (hy:Ev n L y (I64 i)) (hi:0≤i) (hl:i<(l.length:Int)) (hT:P.underlying t=some .string):Ex P n L w ⟨d,.index t x y,ty,pos,af,g⟩ (U8 (at_ l i).toNat) w:=by
 have h1:i.toNat<l.length:=by omega
 refine Ex.index_ hx hy hi ?_ hT
 rw [at_,Yd,Y7 h1]
 rfl
theorem X8k (l:List UInt8) (a b:Nat):(Value.string ((⟨l.toArray⟩:ByteArray).extract a b))=S ((l.drop a).take (b - a)):=by
 rw [S,Lib.extract_eq]
theorem Ex.sub3 {z:Operand} (hx:Ev n L x (S l)) (hy:Ev n L y (I64 i)) (hz:Ev n L z (I64 j)) (h0:0≤i) (h1:i≤j) (h2:j≤(l.length:Int)) (hT:P.underlying t=some .string) :
  Ex P n L w ⟨d,.slice t x (some y) (some z) none,ty,pos,af,g⟩ (S ((l.drop i.toNat).take (j.toNat - i.toNat))) w:=fun a ha=>by
 have h:=run_slice_string (P:=P) w t ⟨l.toArray⟩ .i64 .i64 i j hT h0 h1 h2
 rw [X8k] at h
 simp [execOp,hx a ha,hy a ha,hz a ha,run_sliceAt_string w t _ _ _ _ hT,h]
theorem Ex.subFrom (hx:Ev n L x (S l)) (hy:Ev n L y (I64 i)) (h0:0≤i) (h1:i≤(l.length:Int)) (hT:P.underlying t=some .string) :
  Ex P n L w ⟨d,.slice t x (some y) none none,ty,pos,af,g⟩ (S (l.drop i.toNat)) w:=fun a ha=>by
 have h:=run_slice_string_l (P:=P) w t ⟨l.toArray⟩ hT .i64 i h0 h1
 rw [X8k] at h
 have e:(l.drop i.toNat).take ((⟨l.toArray⟩:ByteArray).size - i.toNat)=l.drop i.toNat:=Y11 (by simp [ByteArray.size])
 rw [e] at h
 simp [execOp,hx a ha,hy a ha,run_sliceAt_string w t _ _ _ _ hT,h]
theorem Ex.subTo {z:Operand} (hx:Ev n L x (S l)) (hz:Ev n L z (I64 j)) (h1:0≤j) (h2:j≤(l.length:Int)) (hT:P.underlying t=some .string) :
  Ex P n L w ⟨d,.slice t x none (some z) none,ty,pos,af,g⟩ (S (l.take j.toNat)) w:=fun a ha=>by
 have h:=run_slice_string_h (P:=P) w t ⟨l.toArray⟩ hT .i64 j h1 h2
 rw [X8k] at h
 simp only [Yl,Y41] at h
 simp [execOp,hx a ha,hz a ha,run_sliceAt_string w t _ _ _ _ hT,h]
theorem Ex.min2 {z:Operand} {ts:Array TypeId} (hx:Ev n L x (.int k i)) (hz:Ev n L z (.int k j)):Ex P n L w ⟨d,.call ⟨.builtin .min,#[x,z],ts⟩,ty,pos,af,g⟩ (.int k (min i j)) w:=fun a ha=>by
 have e:(if j<i then j else i)=min i j:=by split <;> omega
 simp [execOp,resolve,invoke,builtin,hx a ha,hz a ha,Builtin.min_,Builtin.min2,e]
theorem Ex.max2 {z:Operand} {ts:Array TypeId} (hx:Ev n L x (.int k i)) (hz:Ev n L z (.int k j)):Ex P n L w ⟨d,.call ⟨.builtin .max,#[x,z],ts⟩,ty,pos,af,g⟩ (.int k (max i j)) w:=fun a ha=>by
 have e:(if i<j then j else i)=max i j:=by split <;> omega
 simp [execOp,resolve,invoke,builtin,hx a ha,hz a ha,Builtin.max_,Builtin.max2,e]
end pure
end
end Gk
namespace Gk
open Go
def binV:BinOp→Value→Value→Option (Value×Option Prop)
 | .lss,.int k a,.int k' b=>if k=k' then some (.bool (decide (a<b)),none) else none
 | .leq,.int k a,.int k' b=>if k=k' then some (.bool (decide (a≤b)),none) else none
 | .gtr,.int k a,.int k' b=>if k=k' then some (.bool (decide (b<a)),none) else none
 | .geq,.int k a,.int k' b=>if k=k' then some (.bool (decide (b≤a)),none) else none
 | .eql,.int k a,.int k' b=>if k=k' then some (.bool (a == b),none) else none
 | .neq,.int k a,.int k' b=>if k=k' then some (.bool (a != b),none) else none
 | .eql,.string ⟨⟨a⟩⟩,.string ⟨⟨b⟩⟩=>some (.bool (a == b),none)
 | .neq,.string ⟨⟨a⟩⟩,.string ⟨⟨b⟩⟩=>some (.bool (!(a == b)),none)
 | .add,.int .i64 a,.int .i64 b=>some (.int .i64 (a+b),some (Xmw (a+b)))
 | .sub,.int .i64 a,.int .i64 b=>some (.int .i64 (a - b),some (Xmw (a - b)))
 | .mul,.int .i64 a,.int .i64 b=>some (.int .i64 (a*b),some (Xmw (a*b)))
 | .add,.string ⟨⟨a⟩⟩,.string ⟨⟨b⟩⟩=>some (.string ⟨⟨a ++ b⟩⟩,some (((a.length+b.length:Nat):Int)≤9223372036854775807))
 | _,_,_=>none
def Xdg (P:Program) (L:Env):Op→Option (Value×Option Prop)
 | .move x=>match ev L x with
  | some v=>some (v,none)
  | none=>none
 | .assign x=>match ev L x with
  | some v=>some (v,none)
  | none=>none
 | .extract x i=>match ev L x with
  | some (.tuple vs)=>match vs[i]? with
   | some v=>some (v,none)
   | none=>none
  | _=>none
 | .nilCheck x=>match ev L x with
  | some (.pointer (some p))=>some (.pointer (some p),none)
  | _=>none
 | .unOp .not _ x=>match ev L x with
  | some (.bool b)=>some (.bool (!b),none)
  | _=>none
 | .binOp op _ x y _=>match ev L x with
  | some u=>match ev L y with
   | some v=>binV op u v
   | none=>none
  | none=>none
 | .call ⟨.builtin .len,⟨[x]⟩,⟨[t]⟩⟩=>match ev L x with
  | some (.string ⟨⟨l⟩⟩)=>some (.int .i64 (l.length:Nat),some (P.underlying t=some .string))
  | some (.slice _ k _)=>some (.int .i64 (k:Nat),some (∃ e,P.underlying t=some (.slice e)))
  | _=>none
 | .index t x y=>match ev L x with
  | some (.string ⟨⟨l⟩⟩)=>match ev L y with
   | some (.int .i64 i)=>some (U8 (at_ l i).toNat,some ((0≤i∧i<(l.length:Int))∧P.underlying t=some .string))
   | _=>none
  | _=>none
 | _=>none
def Xdu (P:Program) (n:Nat) (L:Env) (o:Oper):Option (Nat×Value×Option Prop) :=
 match o.dst,o.guard with
 | some d,none=>match Nat.blt d n with
  | true=>match Xdg P L o.op with
   | some (v,c)=>some (d,v,c)
   | none=>none
  | false=>none
 | _,_=>none
def Xjq (P:Program) (n:Nat):Nat→List Oper→Env→List Oper×Env×Prop
 | 0,l,L=>(l,L,True)
 | _+1,[],L=>([],L,True)
 | k+1,o::r,L=>match Xdu P n L o with
  | some (d,v,none)=>Xjq P n k r ((d,v)::L)
  | some (d,v,some c)=>match Xjq P n k r ((d,v)::L) with
   | (r',L',C)=>(r',L',c∧C)
  | none=>(o::r,L,True)
section
variable {P:Program} {n:Nat} {K:X2y} {L:Env} {w:World} {ops:Array Oper}
def Xii:Option Prop→Prop
 | none=>True
 | some c=>c
theorem Xnp {d:Option Nat} {ty t t':TypeId} {pos:String} {af:Array Edge} {g:Option (Nat×Bool)} {x y:Operand} {op:BinOp} {u v r:Value} {c:Option Prop} (hx:Ev n L x u) (hy:Ev n L y v) (h:binV op u v=some (r,c)) (hc:Xii c):Ex P n L w ⟨d,.binOp op t x y t',ty,pos,af,g⟩ r w:=by
 unfold binV at h
 split at h
 ·split at h
  ·rename_i e; subst e; cases h; exact .lss hx hy
  ·cases h
 ·split at h
  ·rename_i e; subst e; cases h; exact .leq hx hy
  ·cases h
 ·split at h
  ·rename_i e; subst e; cases h; exact .gtr hx hy
  ·cases h
 ·split at h
  ·rename_i e; subst e; cases h; exact .geq hx hy
  ·cases h
 ·split at h
  ·rename_i e; subst e; cases h; exact .eql hx hy
  ·cases h
 ·split at h
  ·rename_i e; subst e; cases h; exact .neq hx hy
  ·cases h
 ·cases h; exact .eqs hx hy
 ·cases h; exact .nes hx hy
 ·cases h; exact .add hx hy hc
 ·cases h; exact .sub hx hy hc
 ·cases h; exact .mul hx hy hc
 ·cases h; exact .cat hx hy hc
 ·cases h
theorem Xfz {d:Option Nat} {ty:TypeId} {pos:String} {af:Array Edge} {g:Option (Nat×Bool)} {op:Op} {v:Value} {c:Option Prop} (h:Xdg P L op=some (v,c)) (hc:Xii c):Ex P n L w ⟨d,op,ty,pos,af,g⟩ v w:=by
 unfold Xdg at h
 split at h
 ·split at h
  ·rename_i hx; cases h; exact .move (.of hx)
  ·cases h
 ·split at h
  ·rename_i hx; cases h; exact .assign (.of hx)
  ·cases h
 ·split at h
  ·rename_i hx
   split at h
   ·rename_i hi; cases h; exact .extract (.of hx) hi
   ·cases h
  ·cases h
 ·split at h
  ·rename_i hx; cases h; exact .nilCheck (.of hx)
  ·cases h
 ·split at h
  ·rename_i hx; cases h; exact .not (.of hx)
  ·cases h
 ·split at h
  ·rename_i hx
   split at h
   ·rename_i hy; exact Xnp (.of hx) (.of hy) h hc
   ·cases h
  ·cases h
 ·split at h
  ·rename_i hx; cases h; exact .len (.of hx) hc
  ·rename_i hx; cases h
   obtain ⟨e,he⟩:=hc
   exact .lenSlice (.of hx) he
  ·cases h
 ·split at h
  ·rename_i hx
   split at h
   ·rename_i hy; cases h; exact .index (.of hx) (.of hy) hc.1.1 hc.1.2 hc.2
   ·cases h
  ·cases h
 ·cases h
theorem WL.step_ok {o:Oper} {r:List Oper} {d:Nat} {v:Value} {c:Option Prop} (h1:Xdu P n L o=some (d,v,c)) (hc:Xii c) (h:WL P n ops K r ((d,v)::L) w):WL P n ops K (o::r) L w:=by
 obtain ⟨dst,op,ty,pos,af,g⟩:=o
 unfold Xdu at h1
 cases dst with
 | none=>cases h1
 | some d =>
  cases g with
  | some g=>cases h1
  | none =>
   simp only at h1
   split at h1
   ·rename_i hd
    split at h1
    ·rename_i v c hv
     cases h1
     exact WL.val (Xfz hv hc) hd h
    ·cases h1
   ·cases h1
theorem WL.runs_ok:∀ (k:Nat) (l:List Oper) (L:Env),(Xjq P n k l L).2.2→WL P n ops K (Xjq P n k l L).1 (Xjq P n k l L).2.1 w→WL P n ops K l L w
 | 0,_,_,_,h=>h
 | _+1,[],_,_,h=>h
 | k+1,o::r,L,hc,h=>by
  unfold Xjq at h hc
  split at h
  ·rename_i d v he
   rw [he] at hc
   exact WL.step_ok he trivial (WL.runs_ok k r ((d,v)::L) hc h)
  ·rename_i d v c he
   rw [he] at hc
   simp only at hc h
   exact WL.step_ok he hc.1 (WL.runs_ok k r ((d,v)::L) hc.2 h)
  ·exact h
theorem WL.run (k:Nat) {l r:List Oper} {M:Env} {C:Prop} (hr:Xjq P n k l L=(r,M,C)) (hc:C) (h:WL P n ops K r M w):WL P n ops K l L w:=by
 refine WL.runs_ok k l L ?_ ?_
 ·rw [hr]; exact hc
 ·rw [hr]; exact h
end
end Gk
namespace Gk
open Go
theorem WL.q {P:Program} {n:Nat} {K:X2y} {L:Env} {w:World} {ops:Array Oper} (k:Nat) {l r:List Oper} {M:Env} (hr:Xjq P n k l L=(r,M,True)) (h:WL P n ops K r M w):WL P n ops K l L w:=WL.run k hr trivial h
theorem WC.q {P:Program} {n:Nat} {K:X2y} {L:Env} {w:World} (k:Nat) {id:Nat} {l:List Oper} {M:Env} (hr:Xjq P n k l L=([],M,True)) (h:K .normal M w):WC P n (.region id l.toArray false) K L w:=WC.region (WL.run k hr trivial (WL.nil h))
theorem WC.t {P:Program} {n:Nat} {K:X2y} {L:Env} {w:World} (k:Nat) {id:Nat} {l r:List Oper} {M:Env} (hr:Xjq P n k l L=(r,M,True)) (h:WL P n l.toArray K r M w):WC P n (.region id l.toArray false) K L w:=WC.region (WL.run k hr trivial h)
end Gk
namespace Gk
open Go
abbrev X91:=List (Nat×Obj)
abbrev X9:=X91→Prop
abbrev Im:=Nat→Option Obj
def own (b:Nat) (o:Obj):X9:=fun h=>h=[(b,o)]
def Xh (cs:List Value) (E:TypeId):Obj:=.cells cs.toArray E (0,0)
def blk (b:Nat) (cs:List Value) (E:TypeId):X9:=own b (Xh cs E)
abbrev ptr (b o:Nat):Value:=.pointer (some ⟨b,o,none⟩)
def SepAll:List X9→X9
 | [],h=>h=[]
 | A::As,h=>∃ h1 h2,h=h1 ++ h2∧A h1∧SepAll As h2
structure Good (B w:World) (I:Im) (h:X91):Prop where
 os:w.os=B.os
 tape:w.tape=B.tape
 output:w.output=B.output
 imm:∀ b o,I b=some o→w.heap[b]?=some o
 own:∀ b o,(b,o)∈h→w.heap[b]?=some o
 nodup:(h.map (·.1)).Nodup
 apart:∀ b o,(b,o)∈h→I b=none
def Sat (B w:World) (I:Im) (As:List X9):Prop:=∃ h,SepAll As h∧Good B w I h
def Le (I J:Im):Prop:=∀ b o,I b=some o→J b=some o
theorem Le.refl (I:Im):Le I I:=fun _ _ h=>h
theorem Le.trans {I J M:Im} (h:Le I J) (k:Le J M):Le I M:=fun b o e=>k b o (h b o e)
theorem Good.perm {B w:World} {I:Im} {h h':X91} (g:Good B w I h) (p:h.Perm h'):Good B w I h' :=
 ⟨g.os,g.tape,g.output,g.imm,fun b o hm=>g.own b o (p.mem_iff.2 hm),(p.map _).nodup_iff.1 g.nodup,fun b o hm=>g.apart b o (p.mem_iff.2 hm)⟩
theorem Good.left {B w:World} {I:Im} {h h':X91} (g:Good B w I (h ++ h')):Good B w I h :=
 ⟨g.os,g.tape,g.output,g.imm,fun b o hm=>g.own b o (Y1m _ hm),by have:=g.nodup; rw [Yy] at this; exact (Y49.1 this).1,fun b o hm=>g.apart b o (Y1m _ hm)⟩
theorem Good.right {B w:World} {I:Im} {h h':X91} (g:Good B w I (h ++ h')):Good B w I h' :=
 (g.perm Y1f).left
theorem SepAll.at_:∀ {As:List X9} {k:Nat} {A:X9} {h:X91},As[k]?=some A→SepAll As h →
  ∃ h1 h2,h.Perm (h1 ++ h2)∧A h1∧(∀ (A':X9) (h1':X91),A' h1'→∃ h',SepAll (As.set k A') h'∧h'.Perm (h1' ++ h2))∧(∃ h',SepAll (As.eraseIdx k) h'∧h'.Perm h2)
 | [],_,_,_,hk,_=>by simp at hk
 | A0::As,0,A,h,hk,hs=>by
  obtain ⟨h1,h2,rfl,ha,hr⟩:=hs
  simp at hk
  subst hk
  exact ⟨h1,h2,.refl _,ha,fun A' h1' ha'=>⟨h1' ++ h2,⟨h1',h2,rfl,ha',hr⟩,.refl _⟩,⟨h2,hr,.refl _⟩⟩
 | A0::As,k+1,A,h,hk,hs=>by
  obtain ⟨g1,g2,rfl,ha0,hr⟩:=hs
  obtain ⟨h1,h2,hp,ha,hset,h3,he,hpe⟩:=SepAll.at_ (As:=As) (k:=k) (by simpa using hk) hr
  refine ⟨h1,g1 ++ h2,?_,ha,fun A' h1' ha'=>?_,⟨g1 ++ h3,⟨g1,h3,rfl,ha0,he⟩,hpe.append_left g1⟩⟩
  ·refine (hp.append_left g1).trans ?_
   rw [← Y8,← Y8]
   exact Y1f.append_right _
  ·obtain ⟨h',hs',hp'⟩:=hset A' h1' ha'
   refine ⟨g1 ++ h',⟨g1,h',rfl,ha0,hs'⟩,(hp'.append_left g1).trans ?_⟩
   rw [← Y8,← Y8]
   exact Y1f.append_right _
section
variable {B w w':World} {I:Im} {As:List X9} {k:Nat} {A A':X9} {b:Nat} {o o':Obj}
theorem Sat.block (hS:Sat B w I As) (hk:As[k]?=some (own b o)):w.heap[b]?=some o:=by
 obtain ⟨h,hs,hg⟩:=hS
 obtain ⟨h1,h2,hp,ha,_⟩:=hs.at_ hk
 rw [own] at ha
 subst ha
 exact (hg.perm hp).own b o (by simp)
theorem Sat.say (hS:Sat B w I As) (hk:As[k]?=some A) (h:∀ h,A h→A' h):Sat B w I (As.set k A'):=by
 obtain ⟨g,hs,hg⟩:=hS
 obtain ⟨h1,h2,hp,ha,hset,_⟩:=hs.at_ hk
 obtain ⟨h',hs',hp'⟩:=hset A' h1 (h h1 ha)
 exact ⟨h',hs',hg.perm (hp.trans hp'.symm)⟩
theorem Sat.opened (hS:Sat B w I As) (hk:As[k]?=some A) {X:Type} {T:X→X9} (h:∀ h,A h→∃ x,T x h):∃ x,Sat B w I (As.set k (T x)):=by
 obtain ⟨g,hs,hg⟩:=hS
 obtain ⟨h1,h2,hp,ha,hset,_⟩:=hs.at_ hk
 obtain ⟨x,hx⟩:=h h1 ha
 obtain ⟨h',hs',hp'⟩:=hset (T x) h1 hx
 exact ⟨x,h',hs',hg.perm (hp.trans hp'.symm)⟩
theorem Sat.pure_ (hS:Sat B w I As) (hk:As[k]?=some A) {p:Prop} (h:∀ h,A h→p):p:=by
 obtain ⟨g,hs,hg⟩:=hS
 obtain ⟨h1,h2,hp,ha,_⟩:=hs.at_ hk
 exact h h1 ha
theorem Sat.drop (hS:Sat B w I As) (hk:As[k]?=some A):Sat B w I (As.eraseIdx k):=by
 obtain ⟨h,hs,hg⟩:=hS
 obtain ⟨h1,h2,hp,_,_,h3,he,hpe⟩:=hs.at_ hk
 exact ⟨h3,he,(hg.perm hp).right.perm hpe.symm⟩
theorem Sat.freeze (hS:Sat B w I As) (hk:As[k]?=some (own b o)):∃ J,Le I J∧J b=some o∧Sat B w J (As.eraseIdx k):=by
 obtain ⟨h,hs,hg⟩:=hS
 obtain ⟨h1,h2,hp,ha,_,h3,he,hpe⟩:=hs.at_ hk
 rw [own] at ha
 subst ha
 have g:=hg.perm hp
 have hb:I b=none:=g.apart b o (by simp)
 refine ⟨fun x=>if x=b then some o else I x,fun x y hx=>?_,by simp,h3,he,Good.perm ?_ hpe.symm⟩
 ·by_cases e:x=b
  ·subst e; rw [hb] at hx; cases hx
  ·simpa [e] using hx
 ·have hn:b ∉ h2.map (·.1):=by
   have:=g.nodup
   simp only [Yu,Yc,Y1c,Y2r] at this
   exact this.1
  refine ⟨g.os,g.tape,g.output,fun x y hx=>?_,g.right.own,g.right.nodup,fun x y hm=>?_⟩
  ·by_cases e:x=b
   ·subst e
    simp at hx
    subst hx
    exact g.own _ _ (by simp)
   ·simp [e] at hx
    exact g.imm x y hx
  ·have e:x≠b:=fun e=>hn (e ▸ List.mem_map_of_mem hm)
   simpa [e] using g.right.apart x y hm
theorem Sat.world (hS:Sat B w I As) (h1:w'.os=w.os) (h2:w'.tape=w.tape) (h3:w'.output=w.output) (h4:w'.heap=w.heap):Sat B w' I As:=by
 obtain ⟨h,hs,hg⟩:=hS
 exact ⟨h,hs,h1.trans hg.os,h2.trans hg.tape,h3.trans hg.output,fun b o e=>by rw [h4]; exact hg.imm b o e,fun b o e=>by rw [h4]; exact hg.own b o e,hg.nodup,hg.apart⟩
theorem Sat.drew (hS:Sat B w I As):Sat B w.drew I As:=hS.world rfl rfl rfl rfl
theorem Sat.alloc (hS:Sat B w I As) (o:Obj):Sat B (w.alloc o) I (own w.heap.size o::As):=by
 obtain ⟨h,hs,hg⟩:=hS
 have old:∀ b x,w.heap[b]?=some x→b<w.heap.size:=fun b x e=>(Y19.1 e).1
 have keep:∀ b x,w.heap[b]?=some x→(w.alloc o).heap[b]?=some x:=fun b x e=>by
  rw [heap_alloc_old w o (old b x e)]; exact e
 refine ⟨(w.heap.size,o)::h,⟨[(w.heap.size,o)],h,rfl,rfl,hs⟩,hg.os,hg.tape,hg.output,fun b x e=>keep b x (hg.imm b x e),fun b x hm=>?_,?_,fun b x hm=>?_⟩
 ·rcases Y17.1 hm with e | hm
  ·cases e
   exact heap_alloc_new w o
  ·exact keep b x (hg.own b x hm)
 ·simp only [Y1c,Y2r]
  refine ⟨fun hm=>?_,hg.nodup⟩
  obtain ⟨⟨b,x⟩,hm,e⟩:=Y2c.1 hm
  have:=old b x (hg.own b x hm)
  simp at e
  omega
 ·rcases Y17.1 hm with e | hm
  ·cases e
   cases hi:I w.heap.size with
   | none=>rfl
   | some y=>have:=old _ _ (hg.imm _ _ hi); omega
  ·exact hg.apart b x hm
theorem Sat.write (hS:Sat B w I As) (hk:As[k]?=some (own b o)) (h1:w'.os=w.os) (h2:w'.tape=w.tape) (h3:w'.output=w.output) (hb:w'.heap[b]?=some o') (hne:∀ c,c≠b→w'.heap[c]?=w.heap[c]?) :
  Sat B w' I (As.set k (own b o')):=by
 obtain ⟨h,hs,hg⟩:=hS
 obtain ⟨g1,g2,hp,ha,hset,_⟩:=hs.at_ hk
 rw [own] at ha
 subst ha
 obtain ⟨h',hs',hp'⟩:=hset (own b o') [(b,o')] rfl
 have g:=hg.perm hp
 have hn:b ∉ g2.map (·.1):=by
  have:=g.nodup
  simp only [Yu,Yc,Y1c,Y2r] at this
  exact this.1
 refine ⟨h',hs',Good.perm ?_ hp'.symm⟩
 refine ⟨h1.trans g.os,h2.trans g.tape,h3.trans g.output,fun x y e=>?_,fun x y hm=>?_,by simpa using g.nodup,fun x y hm=>?_⟩
 ·have e':x≠b:=fun e'=>by have:=g.apart b o (by simp); rw [← e',e] at this; cases this
  rw [hne x e']
  exact g.imm x y e
 ·rcases Y17.1 hm with e | hm
  ·cases e; exact hb
  ·have e':x≠b:=fun e'=>hn (e' ▸ List.mem_map_of_mem hm)
   rw [hne x e']
   exact g.own x y (Y2a _ hm)
 ·rcases Y17.1 hm with e | hm
  ·cases e; exact g.apart b o (by simp)
  ·exact g.apart x y (Y2a _ hm)
end
def Vec (E size:Nat) (v:Value) (n:Nat) (xs:List Value):X9:=fun h =>
 xs.length=n*size∧((v=.slice none 0 0∧n=0∧h=[]) ∨
  ∃ g cap rest,v=.slice (some ⟨g,0,none⟩) n cap∧h=[(g,Xh (xs ++ rest) E)]∧n≤cap∧cap≤maxLen∧xs.length+rest.length=cap*size)
section
variable {B w w':World} {I:Im} {As:List X9} {k:Nat} {A A':X9} {b:Nat} {o o':Obj} {E size n:Nat} {v:Value} {xs:List Value}
theorem Sat.vecNil (hS:Sat B w I As) (E size:Nat):Sat B w I (Vec E size (.slice none 0 0) 0 []::As):=by
 obtain ⟨h,hs,hg⟩:=hS
 exact ⟨h,⟨[],h,rfl,⟨by simp,.inl ⟨rfl,rfl,rfl⟩⟩,hs⟩,hg⟩
theorem Sat.vecOf (hS:Sat B w I As) {g:Nat} {cs:List Value} (hk:As[k]?=some (blk g cs E)) (hn:cs.length=n*size) (hm:n≤maxLen):Sat B w I (As.set k (Vec E size (.slice (some ⟨g,0,none⟩) n n) n cs)) :=
 hS.say hk fun _ hh=>⟨hn,.inr ⟨g,n,[],rfl,by rw [Yg]; exact hh,Ys _,hm,by simpa using hn⟩⟩
theorem Sat.vecOpen (hS:Sat B w I As) (hk:As[k]?=some (Vec E size v n xs)) (hn:0<n) :
  ∃ (b cap:Nat) (r:List Value),v=.slice (some ⟨b,0,none⟩) n cap∧n≤cap∧cap≤maxLen∧xs.length=n*size∧xs.length+r.length=cap*size∧Sat B w I (As.set k (blk b (xs ++ r) E)):=by
 obtain ⟨g,hs,hg⟩:=hS
 obtain ⟨h1,h2,hp,⟨hl,ha⟩,hset,_⟩:=hs.at_ hk
 rcases ha with ⟨_,h0,_⟩ | ⟨b,cap,rest,rfl,rfl,h3,h4,h5⟩
 ·omega
 ·obtain ⟨h',hs',hp'⟩:=hset (blk b (xs ++ rest) E) _ rfl
  exact ⟨b,cap,rest,rfl,h3,h4,hl,h5,h',hs',hg.perm (hp.trans hp'.symm)⟩
theorem Sat.vecShut (hS:Sat B w I As) {g cap:Nat} {rest:List Value} (hk:As[k]?=some (blk g (xs ++ rest) E)) (h3:n≤cap) (h4:cap≤maxLen) (hl:xs.length=n*size) (h5:xs.length+rest.length=cap*size) :
  Sat B w I (As.set k (Vec E size (.slice (some ⟨g,0,none⟩) n cap) n xs)) :=
 hS.say hk fun _ hh=>⟨hl,.inr ⟨g,cap,rest,rfl,hh,h3,h4,h5⟩⟩
theorem Sat.vecSlice (hS:Sat B w I As) (hk:As[k]?=some (Vec E size v n xs)):∃ a c,v=.slice a n c∧n≤c∧xs.length=n*size :=
 hS.pure_ hk fun _ ⟨hl,hh⟩=>by
  rcases hh with ⟨rfl,rfl,_⟩ | ⟨g,cap,rest,rfl,_,h3,_⟩
  ·exact ⟨none,0,rfl,Ys _,hl⟩
  ·exact ⟨_,_,rfl,h3,hl⟩
theorem X21 {P:Program} (hS:Sat B w I As) {t ty:TypeId} {i:TypeInfo} {z:Value} {bytes:Nat} (ht:P.underlying t=some (.slice E)) (hi:P.info? E=some i) (hz:i.zero=some z)
  (hsize:i.size=size) (hby:i.bytes=bytes) (hzs:z.cells.size=size) (hk:As[k]?=some (Vec E size v n xs)) {p:Addr} {m c:Nat} {news:List Value} (hl:news.length=m*size) (hm:0<m)
  (hnews:∀ j u,news[j]?=some u→w.cell? (p.add j)=some u) (h1:∀ u∈news,u.oneCell'=true) (h63:n+m≤maxLen) (hbytes:(n+m)*bytes≤140737488355328) :
  ∃ v' w',(Builtin.append_ #[t,t] ty #[v,.slice (some p) m c]).run P w=.ok v' w'∧Sat B w' I (As.set k (Vec E size v' (n+m) (xs ++ news))):=by
 subst hsize
 subst hby
 have hsmall:n+m≤9223372036854775807:=by simp only [maxLen] at h63; omega
 have hxl:xs.length=n*i.size:=hS.pure_ hk fun h ⟨hl,_⟩=>hl
 have hlen:(xs ++ news).length=(n+m)*i.size:=by rw [Y0,hxl,hl,Nat.add_mul]
 have grown:∀ (old:Nat),Sat B (w.drew.alloc (.cells (xs.toArray ++ news.toArray ++ Builtin.zeroCells z.cells (grownCap w (n+m) old E - (n+m))) E)) I
   (As.set k (Vec E i.size (.slice (some ⟨w.heap.size,0,none⟩) (n+m) (grownCap w (n+m) old E)) (n+m) (xs ++ news))):=by
  intro old
  have hge:=grownCap_ge w (n+m) old E
  have hcm:grownCap w (n+m) old E≤maxLen:=grownCap_le_maxLen w (n+m) old E h63
  have hS2:=hS.drew.alloc (.cells (xs.toArray ++ news.toArray ++ Builtin.zeroCells z.cells (grownCap w (n+m) old E - (n+m))) E)
  have e1:(own w.drew.heap.size (.cells (xs.toArray ++ news.toArray ++ Builtin.zeroCells z.cells (grownCap w (n+m) old E - (n+m))) E))=blk w.heap.size ((xs ++ news) ++ (Builtin.zeroCells z.cells (grownCap w (n+m) old E - (n+m))).toList) E:=by
   unfold blk Xh
   congr 2
   apply Array.ext'
   simp
  rw [e1] at hS2
  have hS3:=hS2.vecShut (k:=0) (n:=n+m) (size:=i.size) (cap:=grownCap w (n+m) old E) rfl hge hcm hlen (by
   rw [hlen,Y2s,size_zeroCells,hzs,← Nat.add_mul]
   congr 1
   omega)
  -- the new one stands at the old one's place
  obtain ⟨h,hs,hg⟩:=hS3
  obtain ⟨q1,q2,rfl,hq1,hq2⟩:=hs
  obtain ⟨h1',h2',hp,_,hset,_⟩:=SepAll.at_ hk hq2
  obtain ⟨h',hs',hp'⟩:=hset _ q1 hq1
  have g2:Good B (w.drew.alloc (.cells (xs.toArray ++ news.toArray ++ Builtin.zeroCells z.cells (grownCap w (n+m) old E - (n+m))) E)) I (q1 ++ h2'):=by
   have g:=hg.perm (hp.append_left q1)
   have:(q1 ++ (h1' ++ h2')).Perm ((q1 ++ h2') ++ h1'):=by
    rw [Y8]
    exact (Y1f).append_left q1
   exact (g.perm this).left
  exact ⟨h',hs',g2.perm hp'.symm⟩
 have hcase:(v=.slice none 0 0∧n=0)∨∃ g cap rest,v=.slice (some ⟨g,0,none⟩) n cap∧n≤cap∧cap≤maxLen∧xs.length+rest.length=cap*i.size∧Sat B w I (As.set k (blk g (xs ++ rest) E)):=by
  by_cases hn:0<n
  ·obtain ⟨g,cap,rest,h1,h2,h3,_,h5,h6⟩:=hS.vecOpen hk hn
   exact .inr ⟨g,cap,rest,h1,h2,h3,h5,h6⟩
  ·obtain ⟨g,hs,hg⟩:=hS
   obtain ⟨h1,h2,hp,⟨hl,ha⟩,hset,_⟩:=hs.at_ hk
   rcases ha with ⟨hv,h0,_⟩ | ⟨b,cap,rest,rfl,rfl,h3,h4,h5⟩
   ·exact .inl ⟨hv,h0⟩
   ·obtain ⟨h',hs',hp'⟩:=hset (blk b (xs ++ rest) E) _ rfl
    exact .inr ⟨b,cap,rest,rfl,h3,h4,h5,h',hs',hg.perm (hp.trans hp'.symm)⟩
 rcases hcase with ⟨rfl,rfl⟩ | ⟨g,cap,rest,rfl,hnc,hcm,hcs,hSo⟩
 ·have hx:xs=[]:=Ye (by simpa using hxl)
  subst hx
  have hr:=run_append_nil (P:=P) w t ty E i z ht hi hz p m c news hl hnews hm (by omega) (by have hb:=hbytes; simp only [Yf] at hb; omega)
  have hgr:=grown 0
  simp only [Yf,Yc,Y42] at hgr ⊢
  exact ⟨_,_,hr,hgr⟩
 ·have hlk:k<As.length:=(Y4.1 hk).1
  have hko:(As.set k (blk g (xs ++ rest) E))[k]?=some (blk g (xs ++ rest) E):=by simp [hlk]
  have hblk:=hSo.block hko
  by_cases hroom:n+m≤cap
  ·have hfit:n*i.size+news.length≤(xs ++ rest).toArray.size:=by
    simp only [Y3k,Y0]
    rw [hcs,hl,← Nat.add_mul]
    exact Y3o _ hroom
   have hr:=run_append_room (P:=P) w t ty E i ht hi g n cap (xs ++ rest).toArray hblk p m c news hl hnews h1 hroom hfit
   have e2:((xs ++ rest).take (n*i.size) ++ news ++ (xs ++ rest).drop (n*i.size+news.length)).toArray=((xs ++ news) ++ rest.drop news.length).toArray:=by
    rw [← hxl,Y3l,Y4d,Y15 (by omega:xs.length≤xs.length+news.length)]
    simp
   rw [e2] at hr
   refine ⟨_,_,hr,?_⟩
   have hw:=hSo.write (w':=w.setRow g ((xs ++ news) ++ rest.drop news.length).toArray) (o':=Xh ((xs ++ news) ++ rest.drop news.length) E) hko rfl rfl rfl (setRow_heap w g _ _ E _ hblk) (fun x hx=>setRow_other w g x _ hx)
   have hsh:=hw.vecShut (k:=k) (g:=g) (E:=E) (n:=n+m) (size:=i.size) (cap:=cap) (xs:=xs ++ news) (rest:=rest.drop news.length) (by simp [hlk,blk]) hroom hcm hlen (by
    have h7:news.length≤rest.length:=by
     have h8:n*i.size+news.length≤(xs ++ rest).length:=hfit
     rw [Y0] at h8; omega
    rw [Y0,Yj,← hcs]; omega)
   simpa using hsh
  ·have holds:∀ j u,xs[j]?=some u→w.cell? ((⟨g,0,none⟩:Addr).add j)=some u:=by
    intro j u hu
    have hj:j<xs.length:=(Y4.1 hu).1
    rw [Addr.add_lit,Yf]
    have h9:w.heap[g]?=some (.cells (xs ++ rest).toArray E (0,0)):=hblk
    simp only [World.cell?,h9,Option.isSome_none,Bool.false_eq_true,if_false]
    simp [hj] at hu ⊢
    simp [Y2b,hj,hu]
   have hr:=run_append_grow (P:=P) w t ty E i z ht hi hz ⟨g,0,none⟩ n cap xs hxl holds p m c news hl hnews (by omega) (by omega) (growslice_fits (by omega) hbytes)
   exact ⟨_,_,hr,grown cap⟩
end
def Ret (Q:Value→World→Prop):Ending→World→Prop:=fun e w=>∃ v,e=.returned v∧Q v w
def At (I:Im) (p:Addr) (vs:List Value):Prop:=p.spot=none∧∃ arr E fr,I p.block=some (.cells arr E fr)∧∀ j v,vs[j]?=some v→arr[p.off+j]?=some v
theorem At.mono {I J:Im} {p:Addr} {vs:List Value} (h:At I p vs) (hl:Le I J):At J p vs:=by
 obtain ⟨hs,arr,E,fr,hi,hv⟩:=h
 exact ⟨hs,arr,E,fr,hl _ _ hi,hv⟩
def RS (I:Im) (a:Option Addr) (size n:Nat) (xs:List Value):Prop:=xs.length=n*size∧(0<n→∃ p,a=some p∧At I p xs)
theorem RS.mono {I J:Im} {a:Option Addr} {size n:Nat} {xs:List Value} (h:RS I a size n xs) (hl:Le I J):RS J a size n xs :=
 ⟨h.1,fun hn=>let ⟨p,e,ha⟩:=h.2 hn; ⟨p,e,ha.mono hl⟩⟩
theorem RS.nil (I:Im) (size:Nat):RS I none size 0 []:=⟨by simp,fun h=>absurd h (by omega)⟩
abbrev ad (b o:Nat):Addr:=⟨b,o,none⟩
theorem Xt (b o i:Nat):(ad b o).add i=ad b (o+i):=by
 unfold Addr.add
 split
 ·simp_all
 ·rfl
def Xhu (cs:List Value) (off:Nat) (l:List Value):List Value:=cs.take off ++ l ++ cs.drop (off+l.length)
def Xgs (pl:Nat→Option (Nat×Nat)):List Value→List (Nat×Value)→Option (List Value)
 | cs,[]=>some cs
 | cs,(i,v)::rest=>match pl i with
  | none=>none
  | some (off,size)=>bif Nat.beq v.cells.toList.length size && Nat.ble (off+size) cs.length then Xgs pl (Xhu cs off v.cells.toList) rest else none
theorem Xbf:∀ (l:List Value) (cs:List Value) (off k:Nat),off+k+l.length≤cs.length →
  (l.zipIdx k).foldl (fun (cs:Array Value) (p:Value×Nat)=>cs.setIfInBounds (off+p.2) p.1) cs.toArray=(Xhu cs (off+k) l).toArray
 | [],cs,off,k,_=>by simp [Xhu]
 | v::l,cs,off,k,h=>by
  rw [List.zipIdx_cons,Y3e]
  have e:cs.toArray.setIfInBounds (off+k) v=(cs.set (off+k) v).toArray:=by simp
  have ih:=Xbf l (cs.set (off+k) v) off (k+1) (by simp at h ⊢; omega)
  simp only at ih ⊢
  rw [e,ih]
  congr 1
  unfold Xhu
  have h9:=list_seg_step cs (off+k) v l (by simp at h; omega)
  simpa [Y2m] using h9
theorem X5z {pl:Nat→Option (Nat×Nat)}:∀ {vs:List (Nat×Value)} {cs ds:List Value},Xgs pl cs vs=some ds→Instr.fill pl cs.toArray vs=some ds.toArray
 | [],cs,ds,h=>by simp [Xgs] at h; simp [Instr.fill,h]
 | (i,v)::rest,cs,ds,h=>by
  unfold Xgs at h
  unfold Instr.fill
  split at h
  ·cases h
  ·rename_i off size hp
   rw [hp]
   simp only
   by_cases hc:(Nat.beq v.cells.toList.length size && Nat.ble (off+size) cs.length)=true
   ·rw [hc,cond_true] at h
    simp only [Yn] at hc
    have h1:v.cells.size=size:=by have:=Nat.eq_of_beq_eq_true hc.1; simpa using this
    have h2:off+size≤cs.length:=Y1r hc.2
    have e:=Xbf v.cells.toList cs off 0 (by simp [h1]; omega)
    have hz:(v.cells.zipIdx.foldl (fun cs (x:Value×Nat)=>cs.setIfInBounds (off+x.2) x.1) cs.toArray)=(Xhu cs off v.cells.toList).toArray:=by
     rw [← Array.foldl_toList,Array.toList_zipIdx]
     simpa using e
    rw [if_neg (by simp [h1]; omega)]
    rw [hz]
    exact X5z h
   ·have hc':(Nat.beq v.cells.toList.length size && Nat.ble (off+size) cs.length)=false:=Bool.eq_false_iff.2 hc
    rw [hc',cond_false] at h
    cases h
theorem zerosL (z:Value) (s:Nat) (hz:z.cells.size=s):∀ len,(Array.range (len*s)).map (z.cells[· % z.cells.size]!)=((List.replicate len z.cells.toList).flatten).toArray:=by
 intro len
 apply Array.ext'
 simp only [Array.toList_map,Array.toList_range]
 induction len with
 | zero=>simp
 | succ k ih =>
  rw [List.replicate_succ',Y21,Y2z,List.range_add,Yy,ih]
  simp only [Y1t,List.flatten_nil,Yg]
  congr 1
  apply Y1u
  intro j
  by_cases hj:j<s
  ·have:(k*s+j) % s=j:=by rw [Y43,Nat.add_mul_mod_self_right,Nat.mod_eq_of_lt hj]
   have h3:j<z.cells.size:=by omega
   simp [hj,hz,this,h3]
  ·simp [hj,hz]
section
variable {P:Program} {n:Nat} {K:X2y} {L:Env} {w w':World} {ops:Array Oper} {rest:List Oper}
variable {B:World} {I:Im} {As:List X9} {k:Nat} {d:Nat} {ty:TypeId} {pos:String} {af:Array Edge} {g:Option (Nat×Bool)} {t e:TypeId} {x y:Operand}
theorem X4b {α:Type} (o:Obj) (f:Nat→Sem α):(Sem.new o f).run P w=(f w.heap.size).run P (w.alloc o):=rfl
theorem Xp {b:Nat} {cs:List Value} {E:TypeId} (hb:w.heap[b]?=some (Xh cs E)) {o:Nat} {v:Value} (hv:cs[o]?=some v):w.cell? (ad b o)=some v:=by
 unfold Xh at hb
 simp [World.cell?,hb,hv]
theorem Xgb {b:Nat} {cs:List Value} {E:TypeId} (hb:w.heap[b]?=some (Xh cs E)) (o:Nat):w.frozen? (ad b o)=false:=by
 unfold Xh at hb
 simp [World.frozen?,hb]
theorem X28 {p:Addr} {vs:List Value} (hS:Sat B w I As) (ha:At I p vs) {j:Nat} {v:Value} (hv:vs[j]?=some v):w.cell? (p.add j)=some v:=by
 obtain ⟨hs,arr,E,fr,hi,h⟩:=ha
 obtain ⟨h',_,hg⟩:=hS
 have hb:=hg.imm _ _ hi
 have hj:=h j v hv
 obtain ⟨pb,po,ps⟩:=p
 simp only at hs hi hb hj
 subst hs
 have e:(⟨pb,po,none⟩:Addr).add j=⟨pb,po+j,none⟩:=Xt pb po j
 rw [e]
 simp [World.cell?,hb,hj]
theorem Ex.ld {d:Option Nat} {b o:Nat} {cs:List Value} {E:TypeId} {v:Value} (hx:Ev n L x (ptr b o)) (hS:Sat B w I As) (hk:As[k]?=some (blk b cs E)) (ht:∀ w,(isAgg t).run P w=.ok false w) (hv:cs[o]?=some v) :
  Ex P n L w ⟨d,.load t x,ty,pos,af,g⟩ v w:=fun a ha=>by
 have h:=Xp (hS.block hk) hv
 simp [execOp,hx a ha,Instr.loadAt,Instr.sureAddr,loadVar,ht,load,Sem.run,h]
theorem Ex.lds {d:Option Nat} {b o s:Nat} {cs vs:List Value} {E:TypeId} (hx:Ev n L x (ptr b o)) (hS:Sat B w I As) (hk:As[k]?=some (blk b cs E)) (ht:∀ w,(isAgg t).run P w=.ok true w) (hs:∀ w,(Go.sizeOf t).run P w=.ok s w)
  (hl:vs.length=s) (hv:∀ (j:Nat) (v:Value),vs[j]?=some v→cs[o+j]?=some v):Ex P n L w ⟨d,.load t x,ty,pos,af,g⟩ (.agg vs.toArray) w:=fun a ha=>by
 have hb:=hS.block hk
 have h:=run_loadCells_list (P:=P) w (ad b o) vs (fun j v hj=>by rw [Xt]; exact Xp hb (hv j v hj))
 rw [hl] at h
 simp [execOp,hx a ha,Instr.loadAt,Instr.sureAddr,loadVar,ht,hs,h]
theorem Ex.ldI {d:Option Nat} {p:Addr} {vs:List Value} {v:Value} (hx:Ev n L x (.pointer (some p))) (hS:Sat B w I As) (ha:At I p vs) (ht:∀ w,(isAgg t).run P w=.ok false w) (hv:vs[0]?=some v) :
  Ex P n L w ⟨d,.load t x,ty,pos,af,g⟩ v w:=fun a hh=>by
 have h:=X28 hS ha hv
 rw [show p.add 0=p from rfl] at h
 simp [execOp,hx a hh,Instr.loadAt,Instr.sureAddr,loadVar,ht,load,Sem.run,h]
theorem Ex.ldsI {d:Option Nat} {p:Addr} {s:Nat} {vs us:List Value} (hx:Ev n L x (.pointer (some p))) (hS:Sat B w I As) (ha:At I p vs) (ht:∀ w,(isAgg t).run P w=.ok true w) (hs:∀ w,(Go.sizeOf t).run P w=.ok s w)
  (hl:us.length=s) (hv:∀ (j:Nat) (v:Value),us[j]?=some v→vs[j]?=some v):Ex P n L w ⟨d,.load t x,ty,pos,af,g⟩ (.agg us.toArray) w:=fun a hh=>by
 have h:=run_loadCells_list (P:=P) w p us (fun j v hj=>X28 hS ha (hv j v hj))
 rw [hl] at h
 simp [execOp,hx a hh,Instr.loadAt,Instr.sureAddr,loadVar,ht,hs,h]
theorem Ex.fieldAddr {d:Option Nat} {b o f:Nat} {fs:Array Field} {fd:Field} {s:Nat} (off:Nat) (hx:Ev n L x (ptr b o)) (ht:P.underlying t=some (.struct fs)) (hf:fs[f]?=some fd) (ho:fd.offset=off) (hs:∀ w,(Go.sizeOf fd.type).run P w=.ok s w) (h0:Nat.beq s 0=false) :
  Ex P n L w ⟨d,.fieldAddr t x f,ty,pos,af,g⟩ (ptr b (o+off)) w:=fun a ha=>by
 subst ho
 have h0':s≠0:=fun e=>by rw [e] at h0; cases h0
 have h1:=Xt b o fd.offset
 simp [execOp,hx a ha,Instr.fieldAt,run_underlying ht,hf,Instr.sureAddr,fieldPlace,hs,h0',h1]
theorem Ex.fieldAddrI {d:Option Nat} {p:Addr} {f:Nat} {fs:Array Field} {fd:Field} {s:Nat} (off:Nat) (hx:Ev n L x (.pointer (some p))) (ht:P.underlying t=some (.struct fs)) (hf:fs[f]?=some fd) (ho:fd.offset=off) (hs:∀ w,(Go.sizeOf fd.type).run P w=.ok s w) (h0:Nat.beq s 0=false) :
  Ex P n L w ⟨d,.fieldAddr t x f,ty,pos,af,g⟩ (.pointer (some (p.add off))) w:=fun a ha=>by
 subst ho
 have h0':s≠0:=fun e=>by rw [e] at h0; cases h0
 simp [execOp,hx a ha,Instr.fieldAt,run_underlying ht,hf,Instr.sureAddr,fieldPlace,hs,h0']
theorem At.add {p:Addr} {vs:List Value} (h:At I p vs) (i:Nat):At I (p.add i) (vs.drop i):=by
 obtain ⟨hs,arr,E,fr,hi,hv⟩:=h
 obtain ⟨pb,po,ps⟩:=p
 simp only at hs hi hv
 subst hs
 have e:(⟨pb,po,none⟩:Addr).add i=⟨pb,po+i,none⟩:=Xt pb po i
 rw [e]
 exact ⟨rfl,arr,E,fr,hi,fun j v hj=>by rw [show po+i+j=po+(i+j) by omega]; exact hv (i+j) v (by simpa using hj)⟩
theorem Ex.indexAddr {d:Option Nat} {b o len cap s:Nat} {i:Int} (hx:Ev n L x (.slice (some (ad b o)) len cap)) (hy:Ev n L y (I64 i)) (hi:0≤i) (hl:i<len) (ht:P.underlying t=some (.slice e)) (hs:∀ w,(Go.sizeOf e).run P w=.ok s w) :
  Ex P n L w ⟨d,.indexAddr t x y,ty,pos,af,g⟩ (ptr b (o+i.toNat*s)) w:=fun a ha=>by
 have h:=run_indexAt_slice (P:=P) w t (ad b o) len cap .i64 i (by rw [X3g ht]; exact ht)
 rw [if_pos ⟨hi,hl⟩,X3g ht,hs] at h
 simp only [Result.andThen_ok,Xt] at h
 simp [execOp,hx a ha,hy a ha,h]
theorem Ex.indexAddrI {d:Option Nat} {p:Addr} {len cap s:Nat} {i:Int} (hx:Ev n L x (.slice (some p) len cap)) (hy:Ev n L y (I64 i)) (hi:0≤i) (hl:i<len) (ht:P.underlying t=some (.slice e)) (hs:∀ w,(Go.sizeOf e).run P w=.ok s w) :
  Ex P n L w ⟨d,.indexAddr t x y,ty,pos,af,g⟩ (.pointer (some (p.add (i.toNat*s)))) w:=fun a ha=>by
 have h:=run_indexAt_slice (P:=P) w t p len cap .i64 i (by rw [X3g ht]; exact ht)
 rw [if_pos ⟨hi,hl⟩,X3g ht,hs] at h
 simp [execOp,hx a ha,hy a ha,h,Result.andThen]
theorem WL.box1 {E:TypeId} {v:Value} (hS:Sat B w I As) (hx:Ev n L x v) (h1:v.oneCell'=true) (hd:Nat.blt d n=true)
  (h:∀ b w',Sat B w' I (blk b [v] E::As)→WL P n ops K rest ((d,ptr b 0)::L) w'):WL P n ops K (⟨some d,.box E x,ty,pos,af,none⟩::rest) L w:=by
 refine WL.val (v:=ptr w.heap.size 0) (w':=w.alloc (Xh [v] E)) (fun a ha=>?_) hd (h _ _ (hS.alloc _))
 have hc:v.cells=#[v]:=by cases v <;> first | rfl | cases h1
 simp [execOp,hx a ha,Instr.box,newVar,newRow,newObj,X4b,hc,Xh]
theorem WL.boxA {E:TypeId} {cs:List Value} (hS:Sat B w I As) (hx:Ev n L x (.agg cs.toArray)) (hd:Nat.blt d n=true)
  (h:∀ b w',Sat B w' I (blk b cs E::As)→WL P n ops K rest ((d,ptr b 0)::L) w'):WL P n ops K (⟨some d,.box E x,ty,pos,af,none⟩::rest) L w:=by
 refine WL.val (v:=ptr w.heap.size 0) (w':=w.alloc (Xh cs E)) (fun a ha=>?_) hd (h _ _ (hS.alloc _))
 simp [execOp,hx a ha,Instr.box,newVar,newRow,newObj,X4b,Value.cells,Xh]
theorem WL.alloc1 {E:TypeId} {v:Value} (hS:Sat B w I As) (hz:∀ w,(zeroValue E).run P w=.ok v w) (h1:v.oneCell'=true) (hd:Nat.blt d n=true)
  (h:∀ b w',Sat B w' I (blk b [v] E::As)→WL P n ops K rest ((d,ptr b 0)::L) w'):WL P n ops K (⟨some d,.alloc E,ty,pos,af,none⟩::rest) L w:=by
 refine WL.val (v:=ptr w.heap.size 0) (w':=w.alloc (Xh [v] E)) (fun a ha=>?_) hd (h _ _ (hS.alloc _))
 have hc:v.cells=#[v]:=by cases v <;> first | rfl | cases h1
 simp [execOp,Instr.alloc,hz,newVar,newRow,newObj,X4b,hc,Xh]
theorem WL.allocA {E:TypeId} {cs:List Value} (hS:Sat B w I As) (hz:∀ w,(zeroValue E).run P w=.ok (.agg cs.toArray) w) (hd:Nat.blt d n=true)
  (h:∀ b w',Sat B w' I (blk b cs E::As)→WL P n ops K rest ((d,ptr b 0)::L) w'):WL P n ops K (⟨some d,.alloc E,ty,pos,af,none⟩::rest) L w:=by
 refine WL.val (v:=ptr w.heap.size 0) (w':=w.alloc (Xh cs E)) (fun a ha=>?_) hd (h _ _ (hS.alloc _))
 simp [execOp,Instr.alloc,hz,newVar,newRow,newObj,X4b,Value.cells,Xh]
theorem WL.buildSlice {len s:Nat} {parts:Array (Nat×Operand)} {vs:List (Nat×Value)} {z:Value} {cs:List Value} (hS:Sat B w I As) (hp:∀ a,Holds n L a→parts.toList.map (fun p=>(p.1,a.eval p.2))=vs)
  (ht:P.underlying t=some (.slice e)) (hs:∀ w,(Go.sizeOf e).run P w=.ok s w) (hz:∀ w,(zeroValue e).run P w=.ok z w) (h24:Nat.ble (len*s) 16777216=true) (hzs:z.cells.size=s)
  (hf:Xgs (fun i=>some (i*s,s)) ((List.replicate len z.cells.toList).flatten) vs=some cs) (hd:Nat.blt d n=true)
  (h:∀ b w',Sat B w' I (blk b cs e::As)→WL P n ops K rest ((d,.slice (some (ad b 0)) len len)::L) w'):WL P n ops K (⟨some d,.buildSlice t len parts,ty,pos,af,none⟩::rest) L w:=by
 refine WL.val (v:=.slice (some (ad w.heap.size 0)) len len) (w':=w.alloc (Xh cs e)) (fun a ha=>?_) hd (h _ _ (hS.alloc _))
 have h24':¬ (16777216<len*s):=by have:=Y1r h24; omega
 have hv:=hp a ha
 have hf:=X5z hf
 rw [← zerosL z s hzs] at hf
 by_cases h0:len*s=0
 ·have hr:(Array.range (len*s)).map (z.cells[· % z.cells.size]!)=#[]:=by simp [h0]
  rw [hr] at hf
  simp [execOp,Instr.buildSlice,run_underlying ht,hs,h0,newRow,newObj,X4b,Array.range_zero',hv,hf,Xh]
 ·simp [execOp,Instr.buildSlice,run_underlying ht,hs,h24',h0,hz,newRow,newObj,X4b,hv,hf,Xh]
theorem X6:∀ a:Act,Holds n L a→(#[]:Array (Nat×Operand)).toList.map (fun p=>(p.1,a.eval p.2))=[]:=fun _ _=>rfl
theorem X5 {i:Nat} {v:Value} {ps:List (Nat×Operand)} {vs:List (Nat×Value)} (hx:Ev n L x v) (h:∀ a,Holds n L a→ps.toArray.toList.map (fun p=>(p.1,a.eval p.2))=vs) :
  ∀ a,Holds n L a→((i,x)::ps).toArray.toList.map (fun p=>(p.1,a.eval p.2))=(i,v)::vs:=fun a ha=>by
 have:=h a ha
 simp only [Y1c] at this ⊢
 rw [hx a ha,this]
def Bld (P:Program) (t:TypeId) (pl:List (Nat×Nat)) (zs:List Value):Prop:=∀ (parts:Array (Nat×Value)) (cs:Array Value) (w:World),Instr.fill (fun i:Nat=>pl[i]?) zs.toArray parts.toList=some cs→(Instr.build t parts).run P w=.ok (.agg cs) w
theorem Ex.build {d:Option Nat} {parts:Array (Nat×Operand)} {vs:List (Nat×Value)} {pl:List (Nat×Nat)} {zs cs:List Value} (hp:∀ a,Holds n L a→parts.toList.map (fun p=>(p.1,a.eval p.2))=vs) (hb:Bld P t pl zs)
  (hf:Xgs (fun i:Nat=>pl[i]?) zs vs=some cs):Ex P n L w ⟨d,.build t parts,ty,pos,af,g⟩ (.agg cs.toArray) w:=fun a ha=>by
 have hr:=hb (parts.map fun (i,x)=>(i,a.eval x)) cs.toArray w (by rw [Array.toList_map,hp a ha]; exact X5z hf)
 simp only [execOp,hr,Sem.run_bind,Result.andThen_ok,Sem.run_pure]
theorem X2l {fs:Array Field} {z:Value} {pl:List (Nat×Nat)} (ht:P.underlying t=some (.struct fs)) (hz:∀ w,(zeroValue t).run P w=.ok z w) (hm:∀ w,((fs.mapM fun f=>do pure (f.offset,← Go.sizeOf f.type)):Sem (Array (Nat×Nat))).run P w=.ok pl.toArray w):Bld P t pl z.cells.toList:=by
 intro parts cs w hf
 have e:(fun i:Nat=>pl.toArray[i]?)=(fun i:Nat=>pl[i]?):=by funext i; simp
 simp only [Array.toArray_toList] at hf
 rw [← e] at hf
 simp only [Instr.build,Sem.run_bind,hz,run_underlying ht,Result.andThen_ok,hm,hf,Sem.run_pure]
theorem WL.st1 {b o:Nat} {cs:List Value} {E:TypeId} {v:Value} (hS:Sat B w I As) (hk:As[k]?=some (blk b cs E)) (hx:Ev n L x (ptr b o)) (hy:Ev n L y v) (h1:v.oneCell'=true) (hs:∀ w,(Go.sizeOf t).run P w=.ok 1 w) (ho:o<cs.length)
  (h:∀ w',Sat B w' I (As.set k (blk b (cs.set o v) E))→WL P n ops K rest L w'):WL P n ops K (⟨none,.store t x y,ty,pos,af,none⟩::rest) L w:=by
 have hb:=hS.block hk
 have hcell:=Xp hb (Y7 ho)
 have hfro:=Xgb hb o
 have hc:v.cells=#[v]:=by cases v <;> first | rfl | cases h1
 have hlt:b<w.heap.size:=(Y19.1 hb).1
 have hst:=run_store P w (ad b o) v .plain h1
 rw [hcell] at hst
 simp only [hfro] at hst
 have hset:=setCell_eq_setRow w b o _ _ (0,0) v hb
 refine WL.st (w':=w.setCell (ad b o) v) (fun a ha=>?_) (h _ (hS.write (o':=Xh (cs.set o v) E) hk rfl rfl rfl ?_ fun c hc=>?_))
 ·have e0:(ad b o).add 0=ad b o:=rfl
  simp [execOp,hx a ha,hy a ha,Instr.storeAt,Instr.sureAddr,storeVar,hs,hc,storeCells,e0,hst]
 ·rw [hset,setRow_heap w b _ _ _ _ hb]
  simp [Xh]
 ·rw [hset,setRow_other w b c _ hc]
theorem WL.stA {b o s:Nat} {cs vs:List Value} {E:TypeId} (hS:Sat B w I As) (hk:As[k]?=some (blk b cs E)) (hx:Ev n L x (ptr b o)) (hy:Ev n L y (.agg vs.toArray)) (h1:vs.all Value.oneCell'=true) (hs:∀ w,(Go.sizeOf t).run P w=.ok s w) (hl:vs.length=s) (ho:o+s≤cs.length)
  (h:∀ w',Sat B w' I (As.set k (blk b (cs.take o ++ vs ++ cs.drop (o+s)) E))→WL P n ops K rest L w'):WL P n ops K (⟨none,.store t x y,ty,pos,af,none⟩::rest) L w:=by
 subst hl
 have hb:=hS.block hk
 have hst:=run_storeCells_at P b o E vs 0 cs.toArray w hb (by simpa using ho) (Y18.1 h1)
 simp only [Y2d] at hst
 refine WL.st (w':=w.setRow b (cs.take o ++ vs ++ cs.drop (o+vs.length)).toArray) (fun a ha=>?_) (h _ (hS.write (o':=Xh _ E) hk rfl rfl rfl (setRow_heap w b _ _ E _ hb) fun c hc=>setRow_other w b c _ hc))
 simp [execOp,hx a ha,hy a ha,Instr.storeAt,Instr.sureAddr,storeVar,hs,Value.cells,hst]
theorem WL.append {E size m c nn b:Nat} {v:Value} {xs news:List Value} {i:TypeInfo} {z:Value} {bytes:Nat} {E':TypeId} (hS:Sat B w I (blk b news E'::As)) (hx:Ev n L x v) (hy:Ev n L y (.slice (some (ad b 0)) m c))
  (hk:As[k]?=some (Vec E size v nn xs)) (ht:P.underlying t=some (.slice E)) (hi:P.info? E=some i) (hz:i.zero=some z) (hsize:i.size=size) (hby:i.bytes=bytes) (hzs:z.cells.size=size)
  (hl:news.length=m*size) (hm:Nat.blt 0 m=true) (h1:news.all Value.oneCell'=true) (h63:(nn+m)*bytes≤140737488355328∧nn+m≤maxLen) (hd:Nat.blt d n=true)
  (h:∀ v' w',Sat B w' I (As.set k (Vec E size v' (nn+m) (xs ++ news)))→WL P n ops K rest ((d,v')::L) w') :
  WL P n ops K (⟨some d,.call ⟨.builtin .append,#[x,y],#[t,t]⟩,ty,pos,af,none⟩::rest) L w:=by
 have hb:=hS.block (k:=0) rfl
 obtain ⟨v',w',hr,hS'⟩:=X21 (P:=P) (ty:=ty) (k:=k+1) hS ht hi hz hsize hby hzs hk (p:=ad b 0) (m:=m) (c:=c) hl (Y1r hm) (fun j u hu=>by rw [Xt,Yf]; exact Xp hb hu) (Y18.1 h1) h63.2 h63.1
 have hS2:=hS'.drop (k:=0) (A:=blk b news E') (by simp)
 simp only [Y2x,List.eraseIdx_cons_zero] at hS2
 refine WL.val (v:=v') (w':=w') (fun a ha=>?_) hd (h _ _ hS2)
 simp [execOp,resolve,invoke,builtin,hx a ha,hy a ha,hr]
theorem WL.make {l:Nat} {i:TypeInfo} {z:Value} {y:Operand} (hS:Sat B w I As) (hx:Ev n L x (I64 l)) (hy:Ev n L y (I64 l)) (ht:P.underlying t=some (.slice e)) (hi:P.info? e=some i) (hz:i.zero=some z) (hb:(i.bytes:Int)*l≤281474976710656) (hl:(l:Int)≤9223372036854775807)
  (hone:z.cells=#[z]) (hs:i.size=1) (hd:Nat.blt d n=true)
  (h:∀ b w',Sat B w' I (blk b (List.replicate l z) e::As)→WL P n ops K rest ((d,.slice (some (ad b 0)) l l)::L) w'):WL P n ops K (⟨some d,.makeSlice t x y,ty,pos,af,none⟩::rest) L w:=by
 have hr:=run_make (P:=P) w t e i z ht hi hz .i64 .i64 l l (by omega) (by omega) hb hl
 have hm:madeCells z.cells ((l:Int).toNat*i.size)=(List.replicate l z).toArray:=by
  rw [hone,hs]
  apply Array.ext'
  simp [madeCells]
  apply Y1u
  intro j
  by_cases hj:j<l <;> simp [hj,Nat.mod_one]
 rw [hm] at hr
 refine WL.val (v:=.slice (some (ad w.heap.size 0)) l l) (w':=w.alloc (Xh (List.replicate l z) e)) (fun a ha=>?_) hd (h _ _ (hS.alloc _))
 simp only [Yk] at hr
 simp [execOp,hx a ha,hy a ha,hr,Xh]
theorem Ex.slcTo {d:Option Nat} {a0:Option Addr} {len cap s:Nat} {hi:Int} {z:Operand} (hx:Ev n L x (.slice a0 len cap)) (hz:Ev n L z (I64 hi)) (h1:0≤hi) (h2:hi≤cap) (ht:P.underlying t=some (.slice e)) (hs:∀ w,(Go.sizeOf e).run P w=.ok s w) :
  Ex P n L w ⟨d,.slice t x none (some z) none,ty,pos,af,g⟩ (sliced a0 0 hi.toNat cap s) w:=fun a ha=>by
 have hT:P.underlying t=some (.slice (P.elem t)):=by rw [X3g ht]; exact ht
 have h:=run_slice_h (P:=P) w t a0 len cap hT .i64 hi h1 h2
 rw [X3g ht,hs] at h
 simp [execOp,hx a ha,hz a ha,run_sliceAt_slice w t _ _ _ _ hT,h,Result.andThen]
theorem Ex.slcFrom {d:Option Nat} {a0:Option Addr} {len cap s:Nat} {lo:Int} (hx:Ev n L x (.slice a0 len cap)) (hy:Ev n L y (I64 lo)) (h0:0≤lo) (h1:lo≤len) (ht:P.underlying t=some (.slice e)) (hs:∀ w,(Go.sizeOf e).run P w=.ok s w) :
  Ex P n L w ⟨d,.slice t x (some y) none none,ty,pos,af,g⟩ (sliced a0 lo.toNat len cap s) w:=fun a ha=>by
 have hT:P.underlying t=some (.slice (P.elem t)):=by rw [X3g ht]; exact ht
 have h:=run_slice_l (P:=P) w t a0 len cap hT .i64 lo h0 h1
 rw [X3g ht,hs] at h
 simp [execOp,hx a ha,hy a ha,run_sliceAt_slice w t _ _ _ _ hT,h,Result.andThen]
def Xk (fn : Func) : Bool := fn.name != "runtime.NumGoroutine" && fn.body.isSome
theorem WL.call {f:FuncId} {fn:Func} {xs:List Operand} {ts:Array TypeId} {vs:List Value} {Q:Value→World→Prop} (hf:P.funcs[f]?=some fn) (hc:Xk fn=true) (hx:∀ a,Holds n L a→xs.map a.eval=vs) (hd:Nat.blt d n=true)
  (hcall:Calls P f vs.toArray w (Ret Q)) (h:∀ v w',Q v w'→WL P n ops K rest ((d,v)::L) w'):WL P n ops K (⟨some d,.call ⟨.value (.func f),xs.toArray,ts⟩,ty,pos,af,none⟩::rest) L w:=by
 intro a ha
 refine wpList_plain rfl fun K' hK=>?_
 have he:(execOp a.eval (⟨some d,.call ⟨.value (.func f),xs.toArray,ts⟩,ty,pos,af,none⟩:Oper)).run P w=.ok (.enter f vs.toArray) w:=by
  unfold Xk at hc
  simp only [Yn] at hc
  obtain ⟨h1,h2⟩:=hc
  have h1' : ¬ fn.name = "runtime.NumGoroutine" := by simpa using h1
  have h2':¬ fn.body=none:=by intro e; rw [e] at h2; cases h2
  have hv:=hx a ha
  simp [execOp,resolve,Act.eval,Deferred.ofValue,invoke,callFunc,program,Sem.run,hf,h1',h2',← hv]
 unfold Oper.wp
 rw [he]
 refine hcall.mono fun e w'' hq=>?_
 obtain ⟨v,rfl,hv⟩:=hq
 exact hK _ _ (h v w'' hv _ (ha.put hd v))
theorem X4:∀ a:Act,Holds n L a→([]:List Operand).map a.eval=[]:=fun _ _=>rfl
theorem X0 {xs:List Operand} {v:Value} {vs:List Value} (hx:Ev n L x v) (h:∀ a,Holds n L a→xs.map a.eval=vs):∀ a,Holds n L a→(x::xs).map a.eval=v::vs:=fun a ha=>by
 rw [Y1c,hx a ha,h a ha]
end
end Gk
namespace Gk
open Go
section
variable {P:Program} {n:Nat} {K:X2y} {L:Env} {w w':World} {ops:Array Oper} {rest:List Oper}
variable {B:World} {I:Im} {As:List X9} {k:Nat} {d:Nat} {ty:TypeId} {pos:String} {af:Array Edge} {g:Option (Nat×Bool)} {t e:TypeId} {x y:Operand}
theorem WC.cutS {c c':Code} {σ:Type} (E:σ→Env) (inv:σ→World→Prop) (h:WC P n c (Xaq (fun L w=>∃ s,Sub (E s) L∧inv s w) K) L w) (h2:∀ s w,inv s w→WC P n c' K (E s) w):WC P n (.seq c c') K L w :=
 WC.cut _ h fun _ _ ⟨s,hs,hi⟩=>(h2 s _ hi).sub hs
theorem Xoz {α:Type} (f:α→Value) (l:List α) (dflt:α) (rest:List Value) {i:Int} (hi:0≤i) (hl:i<(l.length:Int)) (s:Nat) (hs:s=1):(l.map f ++ rest)[0+i.toNat*s]?=some (f (l.getD i.toNat dflt)):=by
 subst hs
 have h:i.toNat<l.length:=by omega
 simp [Y2b,h,Yd]
theorem Ex.ldE {d:Option Nat} {α:Type} {b s:Nat} {E:TypeId} (f:α→Value) (l:List α) (dflt:α) (r:List Value) {i:Int} (hx:Ev n L x (ptr b (0+i.toNat*s))) (hS:Sat B w I As) (hk:As[k]?=some (blk b (l.map f ++ r) E)) (hs:s=1) (ht:∀ w,(isAgg t).run P w=.ok false w) (hi:0≤i) (hl:i<(l.length:Int)) :
  Ex P n L w ⟨d,.load t x,ty,pos,af,g⟩ (f (l.getD i.toNat dflt)) w:=Ex.ld hx hS hk ht (Xoz f l dflt r hi hl s hs)
theorem Ex.ldEI {d:Option Nat} {α:Type} {p:Addr} {s:Nat} (f:α→Value) (l:List α) (dflt:α) {i:Int} (hx:Ev n L x (.pointer (some (p.add (i.toNat*s))))) (hS:Sat B w I As) (ha:At I p (l.map f)) (hs:s=1) (ht:∀ w,(isAgg t).run P w=.ok false w) (hi:0≤i) (hl:i<(l.length:Int)) :
  Ex P n L w ⟨d,.load t x,ty,pos,af,g⟩ (f (l.getD i.toNat dflt)) w :=
 Ex.ldI hx hS (ha.add _) ht (by
  subst hs
  have h:i.toNat<l.length:=by omega
  simp [h,Yd])
theorem WL.stE {α:Type} {b s:Nat} {E:TypeId} (f:α→Value) (l:List α) (r:List Value) {i:Int} {u:α} (hS:Sat B w I As) (hk:As[k]?=some (blk b (l.map f ++ r) E)) (hx:Ev n L x (ptr b (0+i.toNat*s))) (hy:Ev n L y (f u)) (h1:(f u).oneCell'=true) (hs:s=1) (ht:∀ w,(Go.sizeOf t).run P w=.ok 1 w) (hi:0≤i) (hl:i<(l.length:Int))
  (h:∀ w',Sat B w' I (As.set k (blk b ((l.set i.toNat u).map f ++ r) E))→WL P n ops K rest L w'):WL P n ops K (⟨none,.store t x y,ty,pos,af,none⟩::rest) L w:=by
 subst hs
 have h0:i.toNat<l.length:=by omega
 refine WL.st1 hS hk hx hy h1 ht (by simp; omega) fun w' hS'=>h w' ?_
 have e:(l.map f ++ r).set (0+i.toNat*1) (f u)=(l.set i.toNat u).map f ++ r:=by
  rw [Y3p _ _ (by simp; omega),List.map_set]
  simp
 rw [e] at hS'
 exact hS'
theorem Sat.vecTake {E size m c nn:Nat} {a:Option Addr} {xs:List Value} (hS:Sat B w I As) (hk:As[k]?=some (Vec E size (.slice a nn c) nn xs)) (hm:m≤nn):Sat B w I (As.set k (Vec E size (sliced a 0 m c size) m (xs.take (m*size)))) :=
 hS.say hk fun h ⟨hl,hh⟩=>by
  have hml:m*size≤xs.length:=by rw [hl]; exact Y3o _ hm
  refine ⟨by rw [Yq]; omega,?_⟩
  rcases hh with ⟨hv,rfl,rfl⟩ | ⟨b,cap,r,hv,rfl,h1,h2,h3⟩
  ·injection hv with hv hv2 hv3
   subst hv; subst hv3
   have hm0:m=0:=by omega
   subst hm0
   exact .inl ⟨rfl,rfl,rfl⟩
  ·injection hv with hv hv2 hv3
   subst hv; subst hv3
   refine .inr ⟨b,c,xs.drop (m*size) ++ r,?_,?_,by omega,h2,?_⟩
   ·simp only [sliced,Y3c,Y41,Y3f]
    congr 1
    split <;> rfl
   ·rw [← Y8,Yw]
   ·rw [Y0,Yq,Yj]; omega
theorem Sat.vecTakeI {α:Type} {f:α→Value} {E m c:Nat} {a:Option Addr} {l:List α} (hS:Sat B w I As) (hk:As[k]?=some (Vec E 1 (.slice a l.length c) l.length (l.map f))) (hm:m≤l.length) :
  ∃ a2 c2,sliced a 0 m c 1=.slice a2 (l.take m).length c2∧Sat B w I (As.set k (Vec E 1 (.slice a2 (l.take m).length c2) (l.take m).length ((l.take m).map f))):=by
 have h:=hS.vecTake hk hm
 have e:(l.take m).length=m:=by rw [Yq]; omega
 rw [Y1i,← List.map_take] at h
 rw [e]
 exact ⟨_,_,rfl,h⟩
theorem WL.appendV {E size m c nn j:Nat} {a:Option Addr} {v:Value} {xs ys:List Value} {i:TypeInfo} {z:Value} {bytes:Nat} (hS:Sat B w I As) (hx:Ev n L x v) (hy:Ev n L y (.slice a m c))
  (hk:As[k]?=some (Vec E size v nn xs)) (hj:As[j]?=some (Vec E size (.slice a m c) m ys)) (ht:P.underlying t=some (.slice E)) (hi:P.info? E=some i) (hz:i.zero=some z) (hsize:i.size=size) (hby:i.bytes=bytes) (hzs:z.cells.size=size)
  (h1:ys.all Value.oneCell'=true) (h63:(nn+m)*bytes≤140737488355328∧nn+m≤maxLen) (hd:Nat.blt d n=true)
  (h:∀ v' w',Sat B w' I (As.set k (Vec E size v' (nn+m) (xs ++ ys)))→WL P n ops K rest ((d,v')::L) w') :
  WL P n ops K (⟨some d,.call ⟨.builtin .append,#[x,y],#[t,t]⟩,ty,pos,af,none⟩::rest) L w:=by
 have hys:ys.length=m*size:=hS.pure_ hj fun _ hh=>hh.1
 rcases Y1k m with h0 | h0
 ·subst h0
  have hy0:ys=[]:=Ye (by simpa using hys)
  subst hy0
  obtain ⟨a0,c0,rfl,hc0,_⟩:=hS.vecSlice hk
  have hr:(Builtin.append_ #[t,t] ty #[.slice a0 nn c0,.slice a 0 c]).run P w=.ok (.slice a0 nn c0) w:=by
   subst hsize
   cases a0 <;> cases a <;> simp [Builtin.append_,run_underlying ht,Go.sizeOf,typeInfo,hi,Builtin.lenOf,Builtin.firstCells,loadCells,loadCellsFrom,storeCells,hc0]
  have h2:=h (.slice a0 nn c0) w (by
   have hlk:k<As.length:=(Y4.1 hk).1
   have:As.set k (Vec E size (.slice a0 nn c0) (nn+0) (xs ++ []))=As:=by
    rw [Y2d,Yg]
    have:=(Y4.1 hk).2
    rw [← this,Y3m]
   rw [this]; exact hS)
  exact WL.val (w':=w) (fun a' ha=>by simp [execOp,resolve,invoke,builtin,hx a' ha,hy a' ha,hr]) hd h2
 ·obtain ⟨b,cap,r,hv,_,_,_,_,hSo⟩:=hS.vecOpen hj h0
  injection hv with hv hv2 hv3
  subst hv; subst hv3
  have hlj:j<As.length:=(Y4.1 hj).1
  have hb:=hSo.block (k:=j) (b:=b) (o:=Xh (ys ++ r) E) (by simp [hlj,blk])
  obtain ⟨v',w',hr,hS'⟩:=X21 (P:=P) (ty:=ty) hS ht hi hz hsize hby hzs hk (p:=ad b 0) (m:=m) (c:=c) hys h0 (fun q u hu=>by
   rw [Xt,Yf]
   refine Xp hb ?_
   have hq:q<ys.length:=(Y4.1 hu).1
   rw [Yi hq]; exact hu) (Y18.1 h1) h63.2 h63.1
  exact WL.val (w':=w') (fun a' ha=>by simp [execOp,resolve,invoke,builtin,hx a' ha,hy a' ha,hr]) hd (h _ _ hS')
theorem Xc (l:List UInt8) {k:Nat} (h:k<l.length):l.drop k=at_ l (k:Int)::l.drop (k+1):=by
 rw [Y1e h]
 simp [at_,Yd,h]
end
end Gk
namespace Gk
open Go
def WQ (P:Program) (n:Nat) (ops:Array Oper) (C:World→Prop) (K:Env→Prop) (l:List Oper) (L:Env):Prop :=
 ∀ a,Holds n L a→wpQuiet P ops C (fun a'=>∃ L',Holds n L' a'∧K L') l a
def WT (P:Program) (n:Nat) (ops:Array Oper) (w:World) (K:X2y) (rest l:List Oper) (L:Env):Prop :=
 ∀ a,Holds n L a→wpStill P ops w (fun a'=>wpList P ops (Xjz n K) rest a' w) l a
section
variable {P:Program} {n:Nat} {K:X2y} {L:Env} {w:World} {ops:Array Oper} {rest tl:List Oper} {C:World→Prop} {k:Env→Prop}
variable {B:World} {I:Im} {As:List X9}
theorem WC.quiet {id:Nat} {l:List Oper} (hm:P.follows .mixedOrders=true) (hB:Region.lexB .any l.toArray=true) (hS:Sat B w I As)
  (h:WQ P n l.toArray (fun w=>Sat B w I As) (fun L'=>∀ w',Sat B w' I As→K .normal L' w') l L):WC P n (.region id l.toArray true) K L w:=by
 intro a ha
 refine wp_region_quiet (C:=fun w=>Sat B w I As) hm hB (hS.world rfl rfl rfl rfl) ?_
 have h1:=h a ha
 have mono:∀ (l':List Oper) (a:Act) (Q Q':Act→Prop),(∀ a,Q a→Q' a)→wpQuiet P l.toArray (fun w=>Sat B w I As) Q l' a→wpQuiet P l.toArray (fun w=>Sat B w I As) Q' l' a:=by
  intro l'
  induction l' with
  | nil=>intro a Q Q' hq hh; exact hq _ hh
  | cons o r ih =>
   intro a Q Q' hq hh
   unfold wpQuiet at hh ⊢
   split
   ·rename_i hw; rw [if_pos hw] at hh; exact Oper.quiet_mono (fun a=>ih a Q Q' hq) hh
   ·rename_i hw; rw [if_neg hw] at hh; exact ih _ Q Q' hq hh
 refine mono l a (fun a'=>∃ L',Holds n L' a'∧∀ w',Sat B w' I As→K .normal L' w') _ (fun a' hh w' hw'=>?_) h1
 obtain ⟨L',hL,hk⟩:=hh
 exact ⟨L',hL,hk w' hw'⟩
theorem WQ.nil (h:k L):WQ P n ops C k [] L:=fun a ha=>wpQuiet_nil ⟨L,ha,h⟩
theorem WQ.val {d:Nat} {op:Op} {ty:TypeId} {pos:String} {af:Array Edge} {v:Value} (hx:∀ w,C w→Ex P n L w ⟨some d,op,ty,pos,af,none⟩ v w) (hd:Nat.blt d n=true)
  (h:WQ P n ops C k rest ((d,v)::L)):WQ P n ops C k (⟨some d,op,ty,pos,af,none⟩::rest) L:=by
 intro a ha
 refine wpQuiet_step fun K' hK=>?_
 rw [if_pos (X1s rfl _)]
 refine ⟨v,fun w hw=>?_,hK _ (h _ (ha.put hd v))⟩
 unfold Oper.quietAt
 rw [hx w hw a ha]
 exact ⟨rfl,rfl⟩
theorem WQ.gvals {d j t:Nat} {c:List (Bool×Bool)} {b want:Bool} {op:Op} {ty:TypeId} {pos:String} {af:Array Edge} {v:Value}
  (hj:(ops[j]?).bind (·.dst)=some t) (ht:Nat.blt t n=true) (hb:look L t=some (gds c (.bool b))) (hx:(∀ p∈c ++ [(b,want)],p.1=p.2)→∀ w,C w→Ex P n L w ⟨some d,op,ty,pos,af,some (j,want)⟩ v w) (hd:Nat.blt d n=true)
  (h:WQ P n ops C k rest ((d,gds (c ++ [(b,want)]) v)::L)):WQ P n ops C k (⟨some d,op,ty,pos,af,some (j,want)⟩::rest) L:=by
 intro a ha
 refine wpQuiet_step fun K' hK=>?_
 have hput:=h _ (ha.put hd (gds (c ++ [(b,want)]) v))
 have hlt:t<a.tmps.size:=by have:=Y1r ht; rw [ha.size]; omega
 have hv:=ha.get t _ hb
 have hy:yielded ops a.tmps j=match gds c (.bool b) with | .bool b=>some b | _=>none:=by
  obtain ⟨o,ho,hdd⟩:=Y26.1 hj
  rw [Y10,Y16 hlt] at hv
  simp only [Y2i] at hv
  have h2:a.tmps[t]?=some (gds c (.bool b)):=by rw [Y16 hlt,hv]
  simp only [yielded,ho,hdd,Y2j,h2]
  generalize gds c (.bool b)=g
  cases g <;> rfl
 by_cases e:∀ p∈c ++ [(b,want)],p.1=p.2
 ·have ec:∀ p∈c,p.1=p.2:=fun p hp=>e p (by simp [hp])
  have eb:b=want:=e (b,want) (by simp)
  rw [X1x ec] at hy
  rw [if_pos (by simp [Region.wanted,hy,eb])]
  rw [X1x e] at hput
  refine ⟨v,fun w hw=>?_,hK _ hput⟩
  unfold Oper.quietAt
  rw [hx e w hw a ha]
  exact ⟨rfl,rfl⟩
 ·have hw:Region.wanted (⟨some d,op,ty,pos,af,some (j,want)⟩:Oper) (yielded ops a.tmps)=false:=by
   by_cases ec:∀ p∈c,p.1=p.2
   ·rw [X1x ec] at hy
    have eb:¬ b=want:=fun eb=>e fun p hp=>by
     rcases Y12.1 hp with hp | hp
     ·exact ec p hp
     ·simp at hp; subst hp; exact eb
    simp [Region.wanted,hy,eb]
   ·rw [X3b ec] at hy
    simp [Region.wanted,hy,undef]
  rw [if_neg (by simp [hw])]
  rw [X3b e] at hput
  exact hK _ hput
theorem WQ.gval {d j t:Nat} {b want:Bool} {op:Op} {ty:TypeId} {pos:String} {af:Array Edge} {v:Value}
  (hj:(ops[j]?).bind (·.dst)=some t) (ht:Nat.blt t n=true) (hb:look L t=some (.bool b)) (hx:b=want→∀ w,C w→Ex P n L w ⟨some d,op,ty,pos,af,some (j,want)⟩ v w) (hd:Nat.blt d n=true)
  (h:WQ P n ops C k rest ((d,gd b want v)::L)):WQ P n ops C k (⟨some d,op,ty,pos,af,some (j,want)⟩::rest) L :=
 WQ.gvals (c:=[]) hj ht hb (fun e=>hx (e (b,want) (by simp))) hd h
theorem WQ.gval2 {d j t:Nat} {b1 w1 b want:Bool} {op:Op} {ty:TypeId} {pos:String} {af:Array Edge} {v:Value}
  (hj:(ops[j]?).bind (·.dst)=some t) (ht:Nat.blt t n=true) (hb:look L t=some (gd b1 w1 (.bool b))) (hx:b1=w1→b=want→∀ w,C w→Ex P n L w ⟨some d,op,ty,pos,af,some (j,want)⟩ v w) (hd:Nat.blt d n=true)
  (h:WQ P n ops C k rest ((d,gd b1 w1 (gd b want v))::L)):WQ P n ops C k (⟨some d,op,ty,pos,af,some (j,want)⟩::rest) L :=
 WQ.gvals (c:=[(b1,w1)]) hj ht hb (fun e=>hx (e (b1,w1) (by simp)) (e (b,want) (by simp))) hd h
theorem WQ.call {d:Nat} {ty:TypeId} {pos:String} {af:Array Edge} {f:FuncId} {fn:Func} {xs:List Operand} {ts:Array TypeId} {vs:List Value} {v:Value} (hf:P.funcs[f]?=some fn) (hc:Xk fn=true) (hx:∀ a,Holds n L a→xs.map a.eval=vs) (hd:Nat.blt d n=true)
  (hcall:∀ w,C w→Calls P f vs.toArray w (Ret fun u w'=>u=v∧C w')) (h:WQ P n ops C k rest ((d,v)::L)):WQ P n ops C k (⟨some d,.call ⟨.value (.func f),xs.toArray,ts⟩,ty,pos,af,none⟩::rest) L:=by
 intro a ha
 refine wpQuiet_step fun K' hK=>?_
 rw [if_pos (X1s rfl _)]
 refine ⟨v,fun w hw=>?_,hK _ (h _ (ha.put hd v))⟩
 have he:(execOp a.eval (⟨some d,.call ⟨.value (.func f),xs.toArray,ts⟩,ty,pos,af,none⟩:Oper)).run P w=.ok (.enter f vs.toArray) w:=by
  unfold Xk at hc
  simp only [Yn] at hc
  obtain ⟨h1,h2⟩:=hc
  have h1' : ¬ fn.name = "runtime.NumGoroutine" := by simpa using h1
  have h2':¬ fn.body=none:=by intro e; rw [e] at h2; cases h2
  have hv:=hx a ha
  simp [execOp,resolve,Act.eval,Deferred.ofValue,invoke,callFunc,program,Sem.run,hf,h1',h2',← hv]
 unfold Oper.quietAt
 rw [he]
 refine ⟨rfl,(hcall w hw).mono ?_⟩
 rintro e w'' ⟨u,rfl,rfl,hC⟩
 exact ⟨rfl,hC⟩
theorem WC.tail {id:Nat} {l:List Oper} (N:Nat) (hm:P.follows .mixedOrders=true) (hB:Region.lexTailB .any l.toArray N=true)
  (h:WT P n l.toArray w.drew K (l.drop N) (l.take N) L):WC P n (.region id l.toArray true) K L w:=by
 intro a ha
 exact wp_region_still_tail N hm hB (h a ha)
theorem WT.nil (h:WL P n ops K tl L w):WT P n ops w K tl [] L:=fun a ha=>wpStill_nil (h a ha)
theorem WT.val {d:Nat} {op:Op} {ty:TypeId} {pos:String} {af:Array Edge} {v:Value} (hx:Ex P n L w ⟨some d,op,ty,pos,af,none⟩ v w) (hd:Nat.blt d n=true)
  (h:WT P n ops w K tl rest ((d,v)::L)):WT P n ops w K tl (⟨some d,op,ty,pos,af,none⟩::rest) L:=by
 intro a ha
 refine wpStill_step fun K' hK=>?_
 rw [if_pos (X1s rfl _)]
 unfold Oper.still
 rw [hx a ha]
 exact ⟨rfl,hK _ (h _ (ha.put hd v))⟩
end
end Gk
namespace Gk
open Go
section
variable {P:Program} {ops:Array Oper} {Q:Exit→Act→World→Prop} {md:Region.Mode} {S:World→Prop} {nd:Nat→Bool}
def X6u (P:Program) (md:Region.Mode) (ops:Array Oper) (Q:Exit→Act→World→Prop) (S:World→Prop) (nd:Nat→Bool):Nat→Array Bool→Act→World→Prop
 | 0,listed,a,w=>Region.ready md ops listed=[]∧Q .normal a w
 | fuel+1,listed,a,w =>
  (Region.ready md ops listed=[]→Q .normal a w) ∧
  ∀ i∈Region.ready md ops listed,wpOp P ops Q i (fun a' w'=>(nd i=true→S w→S w')∧X6u P md ops Q S nd fuel (listed.setIfInBounds i true) a' w') a w
theorem X9r:∀ (fuel:Nat) (listed:Array Bool) (a:Act) (w:World),X6u P md ops Q S nd fuel listed a w→wpAny P md ops Q fuel listed a w
 | 0,_,_,_,h=>h
 | fuel+1,_,_,_,h=>⟨h.1,fun i hi=>wpOp_mono (fun a' w' h'=>X9r fuel _ a' w' h'.2) (h.2 i hi)⟩
def X7s (md:Region.Mode) (ops:Array Oper) (nd:Nat→Bool) (i:Nat):Bool :=
 (List.range ops.size).all fun j=>nd j || j == i || match ops[j]? with
  | some oj=>oj.after.any (fun e=>Region.binds md e && e.on == i)
  | none=>true
theorem Xdl {i:Nat} {oi:Oper} {v:Value} (hi:ops[i]?=some oi) (hsel:∀ (j:Nat) (o:Oper) cs b,ops[j]?=some o→o.op≠.select cs b)
  (hQ:∀ c a w,Q (.panic c) (a.put oi.dst v) w→Q (.panic c) a w) :
  ∀ (fuel:Nat) (listed:Array Bool) (a:Act) (w:World),
   (∀ j oj,ops[j]?=some oj→j≠i→listed.getD j true=false→(∀ e∈oj.after,Region.binds md e=true→e.on≠i)→oi.apart ops oj=true) →
   i∈Region.ready md ops listed→YieldsIf P ops (fun _=>True) oi v a →
   X6u P md ops Q S nd fuel (listed.setIfInBounds i true) (a.put oi.dst v) w→X6u P md ops Q S nd (fuel+1) listed a w:=by
 intro fuel
 induction fuel with
 | zero =>
  intro listed a w _ hr hy H
  refine ⟨fun h=>(by rw [h] at hr; cases hr),fun j hj=>?_⟩
  by_cases hji:j=i
  ·subst hji; exact hy.wpOp hi trivial ⟨fun _ h=>h,H⟩
  ·have:=ready_mono hj hji
   rw [H.1] at this
   cases this
 | succ fuel ih =>
  intro listed a w hfree hr hy H
  refine ⟨fun h=>(by rw [h] at hr; cases hr),fun j hj=>?_⟩
  by_cases hji:j=i
  ·subst hji; exact hy.wpOp hi trivial ⟨fun _ h=>h,H⟩
  ·have h1:=H.2 j (ready_mono hj hji)
   obtain ⟨hjun,oj,hoj,hall⟩:=mem_ready.1 hj
   have hnot:∀ e∈oj.after,Region.binds md e=true→e.on≠i:=fun e he hb heq=>by
    have h1:=hall e he hb
    have h0:=(mem_ready.1 hr).1
    rw [heq] at h1
    rcases Yv i listed.size with h' | h'
    ·simp [h'] at h0 h1; rw [h0] at h1; cases h1
    ·simp [Y3j h'] at h1
   have h2:=wpOp_putIf hoj (hfree j oj hoj hji hjun hnot) (fun cs b=>hsel i oi cs b hi) (fun cs b=>hsel j oj cs b hoj) hQ hy h1
   have hfree':∀ k ok,ops[k]?=some ok→k≠i→(listed.setIfInBounds j true).getD k true=false →
     (∀ e∈ok.after,Region.binds md e=true→e.on≠i)→oi.apart ops ok=true:=fun k ok hk hki hun hno=>by
    refine hfree k ok hk hki ?_ hno
    by_cases hjk:j=k
    ·subst hjk; exact hjun
    ·rw [getD_set_ne true hjk] at hun; exact hun
   refine wpOp_mono (fun a' w' h3=>⟨h3.2.1,ih (listed.setIfInBounds j true) a' w' hfree' (ready_mono hr (Ne.symm hji)) h3.1 ?_⟩) h2
   rw [Y4a _ _ hji]
   exact h3.2.2
theorem X6s {i:Nat} {oi:Oper} {v:Value} (hi:ops[i]?=some oi) (hsel:∀ (j:Nat) (o:Oper) cs b,ops[j]?=some o→o.op≠.select cs b)
  (hQ:∀ c a w,Q (.panic c) (a.put oi.dst v) w→Q (.panic c) a w) (hnd:X7s md ops nd i=true) :
  ∀ (fuel:Nat) (listed:Array Bool) (a:Act) (w:World),
   (∀ j oj,ops[j]?=some oj→j≠i→listed.getD j true=false→(∀ e∈oj.after,Region.binds md e=true→e.on≠i)→oi.apart ops oj=true) →
   i∈Region.ready md ops listed→YieldsIf P ops S oi v a→S w →
   X6u P md ops Q S nd fuel (listed.setIfInBounds i true) (a.put oi.dst v) w→X6u P md ops Q S nd (fuel+1) listed a w:=by
 intro fuel
 induction fuel with
 | zero =>
  intro listed a w _ hr hy hS H
  refine ⟨fun h=>(by rw [h] at hr; cases hr),fun j hj=>?_⟩
  by_cases hji:j=i
  ·subst hji; exact hy.wpOp hi hS ⟨fun _ h=>h,H⟩
  ·have:=ready_mono hj hji
   rw [H.1] at this
   cases this
 | succ fuel ih =>
  intro listed a w hfree hr hy hS H
  refine ⟨fun h=>(by rw [h] at hr; cases hr),fun j hj=>?_⟩
  by_cases hji:j=i
  ·subst hji; exact hy.wpOp hi hS ⟨fun _ h=>h,H⟩
  ·have h1:=H.2 j (ready_mono hj hji)
   obtain ⟨hjun,oj,hoj,hall⟩:=mem_ready.1 hj
   have hnot:∀ e∈oj.after,Region.binds md e=true→e.on≠i:=fun e he hb heq=>by
    have h1:=hall e he hb
    have h0:=(mem_ready.1 hr).1
    rw [heq] at h1
    rcases Yv i listed.size with h' | h'
    ·simp [h'] at h0 h1; rw [h0] at h1; cases h1
    ·simp [Y3j h'] at h1
   have hndj:nd j=true:=by
    have hlt:j<ops.size:=(Y19.1 hoj).1
    have h9:=(Y18.1 hnd) j (Y35.2 hlt)
    simp only [hoj,Y1w,beq_iff_eq,hji,or_false] at h9
    rcases h9 with h9 | h9
    ·exact h9
    ·obtain ⟨e,he,hb⟩:=Array.any_eq_true'.1 h9
     simp only [Yn,beq_iff_eq] at hb
     exact absurd hb.2 (hnot e he hb.1)
   have h2:=wpOp_putIf hoj (hfree j oj hoj hji hjun hnot) (fun cs b=>hsel i oi cs b hi) (fun cs b=>hsel j oj cs b hoj) hQ hy h1
   have hfree':∀ k ok,ops[k]?=some ok→k≠i→(listed.setIfInBounds j true).getD k true=false →
     (∀ e∈ok.after,Region.binds md e=true→e.on≠i)→oi.apart ops ok=true:=fun k ok hk hki hun hno=>by
    refine hfree k ok hk hki ?_ hno
    by_cases hjk:j=k
    ·subst hjk; exact hjun
    ·rw [getD_set_ne true hjk] at hun; exact hun
   refine wpOp_mono (fun a' w' h3=>⟨fun _ _=>h3.2.1 hndj hS,ih (listed.setIfInBounds j true) a' w' hfree' (ready_mono hr (Ne.symm hji)) h3.1 (h3.2.1 hndj hS) ?_⟩) h2
   rw [Y4a _ _ hji]
   exact h3.2.2
end
def noP (K:X2y):X2y
 | .panic _,_,_=>False
 | e,L,w=>K e L w
def WD (P:Program) (n:Nat) (ops:Array Oper) (S:World→Prop) (nd:Nat→Bool) (K:X2y) (fuel:Nat) (listed:Array Bool) (L:Env) (w:World):Prop :=
 ∀ a,Holds n L a→X6u P .any ops (Xjz n (noP K)) S nd fuel listed a w
section
variable {P:Program} {n:Nat} {K:X2y} {L:Env} {w:World} {ops:Array Oper} {S:World→Prop} {nd:Nat→Bool} {fuel:Nat} {listed:Array Bool}
theorem WC.drawn (S:World→Prop) (nd:Nat→Bool) {id:Nat} {l:List Oper} (hm:P.follows .mixedOrders=true) (h:WD P n l.toArray S nd K l.toArray.size (Array.replicate l.toArray.size false) L w.drew):WC P n (.region id l.toArray true) K L w:=by
 refine WC.mono (K:=noP K) (fun a ha=>wp_region_any hm (X9r _ _ _ _ (h a ha))) ?_
 intro e L w hh
 cases e <;> first | exact hh | exact hh.elim
theorem WD.done (hr:Region.ready .any ops listed=[]) (h:K .normal L w):WD P n ops S nd K fuel listed L w:=fun a ha=>by
 cases fuel with
 | zero=>exact ⟨hr,L,ha,h⟩
 | succ f=>exact ⟨fun _=>⟨L,ha,h⟩,by rw [hr]; simp⟩
theorem WD.take {i d:Nat} {op:Op} {ty:TypeId} {pos:String} {af:Array Edge} {v:Value} (hi:ops[i]?=some ⟨some d,op,ty,pos,af,none⟩) (hs:Region.noSelect ops=true) (hf:Region.free .any ops listed i=true) (hr:(Region.ready .any ops listed).contains i=true)
  (hnd:X7s .any ops nd i=true) (hS:S w) (hx:∀ w,S w→Ex P n L w ⟨some d,op,ty,pos,af,none⟩ v w) (hd:Nat.blt d n=true)
  (h:WD P n ops S nd K fuel (listed.setIfInBounds i true) ((d,v)::L) w):WD P n ops S nd K (fuel+1) listed L w:=fun a ha =>
 X6s hi (Region.noSelect_spec hs) (fun _ _ _ ⟨_,_,hk⟩=>hk.elim) hnd fuel listed a w (Region.free_spec hi hf) (by simpa using hr)
  (.inl ⟨X1s rfl _,fun w hw=>hx w hw a ha⟩) hS (h _ (ha.put hd v))
theorem WD.takeP {i d:Nat} {op:Op} {ty:TypeId} {pos:String} {af:Array Edge} {v:Value} (hi:ops[i]?=some ⟨some d,op,ty,pos,af,none⟩) (hs:Region.noSelect ops=true) (hf:Region.free .any ops listed i=true) (hr:(Region.ready .any ops listed).contains i=true)
  (hx:∀ w,Ex P n L w ⟨some d,op,ty,pos,af,none⟩ v w) (hd:Nat.blt d n=true)
  (h:WD P n ops S nd K fuel (listed.setIfInBounds i true) ((d,v)::L) w):WD P n ops S nd K (fuel+1) listed L w:=fun a ha =>
 Xdl hi (Region.noSelect_spec hs) (fun _ _ _ ⟨_,_,hk⟩=>hk.elim) fuel listed a w (Region.free_spec hi hf) (by simpa using hr)
  (.inl ⟨X1s rfl _,fun w _=>hx w a ha⟩) (h _ (ha.put hd v))
theorem WD.takeG {i d j t:Nat} {b want:Bool} {op:Op} {ty:TypeId} {pos:String} {af:Array Edge} {v:Value} (hi:ops[i]?=some ⟨some d,op,ty,pos,af,some (j,want)⟩) (hs:Region.noSelect ops=true) (hf:Region.free .any ops listed i=true) (hr:(Region.ready .any ops listed).contains i=true)
  (hnd:X7s .any ops nd i=true) (hS:S w) (hj:(ops[j]?).bind (·.dst)=some t) (hb:look L t=some (.bool b)) (hx:b=want→∀ w,S w→Ex P n L w ⟨some d,op,ty,pos,af,some (j,want)⟩ v w) (hd:Nat.blt d n=true)
  (h:WD P n ops S nd K fuel (listed.setIfInBounds i true) ((d,gd b want v)::L) w):WD P n ops S nd K (fuel+1) listed L w:=fun a ha=>by
 have hy:=X6d ha hj hb
 have hput:=h _ (ha.put hd (gd b want v))
 refine X6s hi (Region.noSelect_spec hs) (fun _ _ _ ⟨_,_,hk⟩=>hk.elim) hnd fuel listed a w (Region.free_spec hi hf) (by simpa using hr) (v:=gd b want v) ?_ hS hput
 by_cases e:b=want
 ·left
  refine ⟨by simp [Region.wanted,hy,e],fun w hw=>?_⟩
  have:=hx e w hw a ha
  subst e
  simpa [gd] using this
 ·right
  have e':(b == want)=false:=by simpa using e
  refine ⟨by simp [Region.wanted,hy,e],?_⟩
  simp only [gd,e',cond_false]
def WO (P:Program) (n:Nat) (ops:Array Oper) (S:World→Prop) (nd:Nat→Bool) (K:X2y) (fuel:Nat) (listed:Array Bool) (L:Env) (w:World) (rs:List Nat):Prop :=
 ∀ i∈rs,∀ o,ops[i]?=some o→WL P n ops (Xaq (fun L' w'=>(nd i=true→S w→S w')∧WD P n ops S nd K fuel (listed.setIfInBounds i true) L' w') (noP K)) [o] L w
theorem WO.nil:WO P n ops S nd K fuel listed L w []:=fun _ h=>by cases h
theorem WO.cons {i:Nat} {o:Oper} {rs:List Nat} (ho:ops[i]?=some o)
  (h:WL P n ops (Xaq (fun L' w'=>(nd i=true→S w→S w')∧WD P n ops S nd K fuel (listed.setIfInBounds i true) L' w') (noP K)) [o] L w) (hr:WO P n ops S nd K fuel listed L w rs):WO P n ops S nd K fuel listed L w (i::rs):=by
 intro j hj o' ho'
 rcases Y17.1 hj with rfl | hj
 ·rw [ho] at ho'; cases ho'; exact h
 ·exact hr j hj o' ho'
theorem WD.branch (rs:List Nat) (hr:Region.ready .any ops listed=rs) (hne:rs.isEmpty=false) (h:WO P n ops S nd K fuel listed L w rs):WD P n ops S nd K (fuel+1) listed L w:=by
 intro a ha
 refine ⟨fun h0=>?_,fun i hi=>?_⟩
 ·rw [hr] at h0; rw [h0] at hne; cases hne
 ·rw [hr] at hi
  obtain ⟨_,o,ho,_⟩:=mem_ready.1 (hr ▸ hi)
  have h1:=h i hi o ho a ha
  unfold wpOp
  simp only [ho]
  unfold wpList at h1
  have conv:∀ (a':Act) (w':World),wpList P ops (Xjz n (Xaq (fun L' w'=>(nd i=true→S w→S w')∧WD P n ops S nd K fuel (listed.setIfInBounds i true) L' w') (noP K))) [] a' w' →
    (nd i=true→S w→S w')∧X6u P .any ops (Xjz n (noP K)) S nd fuel (listed.setIfInBounds i true) a' w':=fun a' w' ⟨L',hL,hS,hd⟩=>⟨hS,hd a' hL⟩
  have convQ:∀ (e:Exit) (a':Act) (w':World),e≠.normal→Xjz n (Xaq (fun L' w'=>(nd i=true→S w→S w')∧WD P n ops S nd K fuel (listed.setIfInBounds i true) L' w') (noP K)) e a' w'→Xjz n (noP K) e a' w':=fun e a' w' he ⟨L',hL,hk⟩=>⟨L',hL,by cases e <;> first | exact hk | exact absurd rfl he⟩
  split at h1
  ·rename_i hw
   rw [if_pos hw]
   rcases h1 with h1 | ⟨hasks,a1,w1,ho1⟩
   ·left
    have h2:=Oper.wp_mono conv h1
    unfold Oper.wp at h2 ⊢
    generalize (execOp a.eval o).run P w=r at *
    cases r with
    | ok nx w' =>
     cases nx <;> simp only [Oper.upon] at h2 ⊢
     case value=>exact h2
     case skip=>exact h2
     case defer=>exact h2
     case enter f args =>
      refine Calls.mono h2 fun e w'' he=>?_
      cases e with
      | returned u=>exact he
      | panicked c=>exact convQ _ _ _ (by simp) he
      | outgrown =>
       obtain ⟨a1,w1,h9⟩:=he
       exact ⟨a1,w1,convQ _ _ _ (by simp) h9⟩
     case row=>exact h2
    | halt x w' =>
     cases x <;> simp only [Oper.upon] at h2 ⊢
     case panic=>exact convQ _ _ _ (by simp) h2
   ·right
    exact ⟨hasks,a1,w1,convQ _ _ _ (by simp) ho1⟩
  ·rename_i hw
   rw [if_neg hw]
   exact conv _ _ h1
theorem WD.go {i:Nat} {w0:World} (hS:nd i=true→S w0→S w) (h:WD P n ops S nd K fuel (listed.setIfInBounds i true) L w) :
  Xaq (fun L' w'=>(nd i=true→S w0→S w')∧WD P n ops S nd K fuel (listed.setIfInBounds i true) L' w') (noP K) .normal L w:=⟨hS,h⟩
theorem Sat.pick {B:World} {I:Im} {As:List X9} {A:X9} (hS:Sat B w I As) (k:Nat) (hk:As[k]?=some A):Sat B w I (A::As.eraseIdx k):=by
 obtain ⟨h,hs,hg⟩:=hS
 obtain ⟨h1,h2,hp,ha,_,h3,he,hpe⟩:=hs.at_ hk
 exact ⟨h1 ++ h3,⟨h1,h3,rfl,ha,he⟩,hg.perm (hp.trans (hpe.symm.append_left h1))⟩
theorem SepAll.snoc:∀ {As:List X9} {A:X9} {h1 h2:X91},SepAll As h1→A h2→SepAll (As ++ [A]) (h1 ++ h2)
 | [],A,h1,h2,h,ha=>by
  simp only [SepAll] at h
  subst h
  exact ⟨h2,[],by simp,ha,rfl⟩
 | A0::As,A,h1,h2,h,ha=>by
  obtain ⟨g1,g2,rfl,h0,hr⟩:=h
  exact ⟨g1,g2 ++ h2,by rw [Y8],h0,hr.snoc ha⟩
theorem SepAll.unsnoc:∀ {As:List X9} {A:X9} {h:X91},SepAll (As ++ [A]) h→∃ h1 h2,h=h1 ++ h2∧SepAll As h1∧A h2
 | [],A,h,hh=>by
  obtain ⟨h1,h2,rfl,ha,hn⟩:=hh
  simp only [SepAll] at hn
  subst hn
  exact ⟨[],h1,by simp,rfl,ha⟩
 | A0::As,A,h,hh=>by
  obtain ⟨g1,g2,rfl,h0,hr⟩:=hh
  obtain ⟨h1,h2,rfl,h3,h4⟩:=SepAll.unsnoc hr
  exact ⟨g1 ++ h1,h2,by rw [Y8],⟨g1,h1,rfl,h0,h3⟩,h4⟩
theorem Sat.push {B:World} {I:Im} {As Bs:List X9} {A:X9} {k:Nat} (hS:Sat B w I (A::As)) (hk:As[k]?=some (SepAll Bs)):Sat B w I (As.set k (SepAll (Bs ++ [A]))):=by
 obtain ⟨h,⟨g1,g2,rfl,ha,hs⟩,hg⟩:=hS
 obtain ⟨h1,h2,hp,hb,hset,_⟩:=hs.at_ hk
 obtain ⟨h',hs',hp'⟩:=hset (SepAll (Bs ++ [A])) (h1 ++ g1) (hb.snoc ha)
 refine ⟨h',hs',hg.perm ((hp.append_left g1).trans (List.Perm.trans ?_ hp'.symm))⟩
 rw [← Y8]
 exact Y1f.append_right _
theorem Sat.pop {B:World} {I:Im} {As Bs:List X9} {A:X9} {k:Nat} (hS:Sat B w I As) (hk:As[k]?=some (SepAll (Bs ++ [A]))):Sat B w I (A::As.set k (SepAll Bs)):=by
 obtain ⟨h,hs,hg⟩:=hS
 obtain ⟨h1,h2,hp,hb,hset,_⟩:=hs.at_ hk
 obtain ⟨g1,g2,rfl,hb1,ha⟩:=SepAll.unsnoc hb
 obtain ⟨h',hs',hp'⟩:=hset (SepAll Bs) g1 hb1
 refine ⟨g2 ++ h',⟨g2,h',rfl,ha,hs'⟩,hg.perm (hp.trans ?_)⟩
 refine List.Perm.trans ?_ (hp'.symm.append_left g2)
 rw [← Y8]
 exact Y1f.append_right _
theorem Sat.freezeVec {B:World} {I:Im} {As:List X9} {k E size nn c:Nat} {a:Option Addr} {xs:List Value} (hS:Sat B w I As) (hk:As[k]?=some (Vec E size (.slice a nn c) nn xs)):∃ J,Le I J∧RS J a size nn xs∧Sat B w J (As.eraseIdx k):=by
 have hl:xs.length=nn*size:=hS.pure_ hk fun _ hh=>hh.1
 rcases Y1k nn with h0 | h0
 ·exact ⟨I,Le.refl I,⟨hl,fun h=>absurd h (by omega)⟩,hS.drop hk⟩
 ·obtain ⟨b,cap,r,hv,h1,h2,_,_,hSo⟩:=hS.vecOpen hk h0
  injection hv with hv _ hv3
  subst hv; subst hv3
  have hlk:k<As.length:=(Y4.1 hk).1
  obtain ⟨J,hJ,hb,hS'⟩:=hSo.freeze (k:=k) (b:=b) (o:=Xh (xs ++ r) E) (by simp [hlk,blk])
  refine ⟨J,hJ,⟨hl,fun _=>⟨_,rfl,rfl,_,_,_,hb,?_⟩⟩,by simpa [Y34] using hS'⟩
  intro j u hj
  have hjl:j<xs.length:=(Y4.1 hj).1
  simp only [Yf,List.getElem?_toArray]
  rw [Yi hjl]
  exact hj
end
end Gk
namespace Gk
open Go
theorem Xo2 {a b c:Bool} (h:(a && b && c)=true):a=true∧b=true∧c=true:=by cases a <;> cases b <;> cases c <;> simp_all
theorem WD.tp {P:Program} {n:Nat} {K:X2y} {L:Env} {w:World} {ops:Array Oper} {S:World→Prop} {nd:Nat→Bool} {fuel:Nat} {listed:Array Bool} {i d:Nat} {op:Op} {ty:TypeId} {pos:String} {af:Array Edge} {v:Value} (hi:ops[i]?=some ⟨some d,op,ty,pos,af,none⟩) (hs:(Region.noSelect ops && Region.free .any ops listed i && (Region.ready .any ops listed).contains i)=true)
    (hx:∀ w,Ex P n L w ⟨some d,op,ty,pos,af,none⟩ v w) (hd:Nat.blt d n=true)
    (h:WD P n ops S nd K fuel (listed.setIfInBounds i true) ((d,v)::L) w):WD P n ops S nd K (fuel+1) listed L w:=WD.takeP hi (Xo2 hs).1 (Xo2 hs).2.1 (Xo2 hs).2.2 hx hd h
theorem Xmq {a b c d:Bool} (h:(a && b && c && d)=true):a=true∧b=true∧c=true∧d=true:=by cases a <;> cases b <;> cases c <;> cases d <;> simp_all
theorem WD.tk {P:Program} {n:Nat} {K:X2y} {L:Env} {w:World} {ops:Array Oper} {S:World→Prop} {nd:Nat→Bool} {fuel:Nat} {listed:Array Bool} {i d:Nat} {op:Op} {ty:TypeId} {pos:String} {af:Array Edge} {v:Value} (hi:ops[i]?=some ⟨some d,op,ty,pos,af,none⟩) (hs:(Region.noSelect ops && Region.free .any ops listed i && (Region.ready .any ops listed).contains i && X7s .any ops nd i)=true)
    (hS:S w) (hx:∀ w,S w→Ex P n L w ⟨some d,op,ty,pos,af,none⟩ v w) (hd:Nat.blt d n=true)
    (h:WD P n ops S nd K fuel (listed.setIfInBounds i true) ((d,v)::L) w):WD P n ops S nd K (fuel+1) listed L w:=WD.take hi (Xmq hs).1 (Xmq hs).2.1 (Xmq hs).2.2.1 (Xmq hs).2.2.2 hS hx hd h
theorem WD.tg {P:Program} {n:Nat} {K:X2y} {L:Env} {w:World} {ops:Array Oper} {S:World→Prop} {nd:Nat→Bool} {fuel:Nat} {listed:Array Bool} {i d j t:Nat} {b want:Bool} {op:Op} {ty:TypeId} {pos:String} {af:Array Edge} {v:Value} (hi:ops[i]?=some ⟨some d,op,ty,pos,af,some (j,want)⟩) (hs:(Region.noSelect ops && Region.free .any ops listed i && (Region.ready .any ops listed).contains i && X7s .any ops nd i)=true)
    (hS:S w) (hj:(ops[j]?).bind (·.dst)=some t) (hb:look L t=some (.bool b)) (hx:b=want→∀ w,S w→Ex P n L w ⟨some d,op,ty,pos,af,some (j,want)⟩ v w) (hd:Nat.blt d n=true)
    (h:WD P n ops S nd K fuel (listed.setIfInBounds i true) ((d,gd b want v)::L) w):WD P n ops S nd K (fuel+1) listed L w:=WD.takeG hi (Xmq hs).1 (Xmq hs).2.1 (Xmq hs).2.2.1 (Xmq hs).2.2.2 hS hj hb hx hd h
end Gk
namespace Gk
open Go
def noGo (K:X2y):X2y:=fun e L w=>match e with | .goto _=>False | e=>K e L w
theorem WC.scope {P:Program} {n:Nat} {K:X2y} {L:Env} {w:World} {c:Code} (h:WC P n c (noGo K) L w):WC P n (.scope c) K L w:=by
 intro a ha
 refine wp_scope_straight (wp_mono (h a ha) ?_)
 rintro e a' w' ⟨L',h1,h2⟩
 cases e <;> first | exact h2.elim | exact ⟨L',h1,h2⟩
section
variable {P:Program} {n:Nat} {K:X2y} {L:Env} {w:World} {ops:Array Oper} {rest:List Oper}
theorem WL.gcalls {d j t:Nat} {c:List (Bool×Bool)} {b want:Bool} {ty:TypeId} {pos:String} {af:Array Edge} {v0:Value} {f:FuncId} {fn:Func} {xs:List Operand} {ts:Array TypeId} {vs:List Value} {T:World→Prop}
  (hj:(ops[j]?).bind (·.dst)=some t) (ht:Nat.blt t n=true) (hb:look L t=some (gds c (.bool b))) (hf:P.funcs[f]?=some fn) (hc:Xk fn=true)
  (hx:(∀ p∈c ++ [(b,want)],p.1=p.2)→∀ a,Holds n L a→xs.map a.eval=vs) (hd:Nat.blt d n=true)
  (hcall:(∀ p∈c ++ [(b,want)],p.1=p.2)→Calls P f vs.toArray w (Ret fun v w'=>v=v0∧T w')) (h0:T w)
  (h:∀ w',T w'→WL P n ops K rest ((d,gds (c ++ [(b,want)]) v0)::L) w'):WL P n ops K (⟨some d,.call ⟨.value (.func f),xs.toArray,ts⟩,ty,pos,af,some (j,want)⟩::rest) L w:=by
 intro a ha
 refine wpList_step fun K' hK=>?_
 have hlt:t<a.tmps.size:=by have:=Y1r ht; rw [ha.size]; omega
 have hv:=ha.get t _ hb
 have hy:yielded ops a.tmps j=match gds c (.bool b) with | .bool b=>some b | _=>none:=by
  obtain ⟨o,ho,hdd⟩:=Y26.1 hj
  rw [Y10,Y16 hlt] at hv
  simp only [Y2i] at hv
  have h2:a.tmps[t]?=some (gds c (.bool b)):=by rw [Y16 hlt,hv]
  simp only [yielded,ho,hdd,Y2j,h2]
  generalize gds c (.bool b)=g
  cases g <;> rfl
 by_cases e:∀ p∈c ++ [(b,want)],p.1=p.2
 ·have ec:∀ p∈c,p.1=p.2:=fun p hp=>e p (by simp [hp])
  have eb:b=want:=e (b,want) (by simp)
  rw [X1x ec] at hy
  rw [if_pos (by simp [Region.wanted,hy,eb])]
  have he:(execOp a.eval (⟨some d,.call ⟨.value (.func f),xs.toArray,ts⟩,ty,pos,af,some (j,want)⟩:Oper)).run P w=.ok (.enter f vs.toArray) w:=by
   unfold Xk at hc
   simp only [Yn] at hc
   obtain ⟨h1,h2⟩:=hc
   have h1' : ¬ fn.name = "runtime.NumGoroutine" := by simpa using h1
   have h2':¬ fn.body=none:=by intro e; rw [e] at h2; cases h2
   have hv:=hx e a ha
   simp [execOp,resolve,Act.eval,Deferred.ofValue,invoke,callFunc,program,Sem.run,hf,h1',h2',← hv]
  unfold Oper.wp
  rw [he]
  refine (hcall e).mono fun e' w'' hq=>?_
  obtain ⟨v,rfl,rfl,hT⟩:=hq
  have hput:=h w'' hT _ (ha.put hd (gds (c ++ [(b,want)]) v))
  rw [X1x e] at hput
  exact hK _ _ hput
 ·have hw:Region.wanted (⟨some d,.call ⟨.value (.func f),xs.toArray,ts⟩,ty,pos,af,some (j,want)⟩:Oper) (yielded ops a.tmps)=false:=by
   by_cases ec:∀ p∈c,p.1=p.2
   ·rw [X1x ec] at hy
    have eb:¬ b=want:=fun eb=>e fun p hp=>by
     rcases Y12.1 hp with hp | hp
     ·exact ec p hp
     ·simp at hp; subst hp; exact eb
    simp [Region.wanted,hy,eb]
   ·rw [X3b ec] at hy
    simp [Region.wanted,hy,undef]
  rw [if_neg (by simp [hw])]
  have hput:=h w h0 _ (ha.put hd (gds (c ++ [(b,want)]) v0))
  rw [X3b e] at hput
  exact hK _ _ hput
theorem WL.gcall {d j t:Nat} {b want:Bool} {ty:TypeId} {pos:String} {af:Array Edge} {v0:Value} {f:FuncId} {fn:Func} {xs:List Operand} {ts:Array TypeId} {vs:List Value} {T:World→Prop}
  (hj:(ops[j]?).bind (·.dst)=some t) (ht:Nat.blt t n=true) (hb:look L t=some (.bool b)) (hf:P.funcs[f]?=some fn) (hc:Xk fn=true)
  (hx:b=want→∀ a,Holds n L a→xs.map a.eval=vs) (hd:Nat.blt d n=true)
  (hcall:b=want→Calls P f vs.toArray w (Ret fun v w'=>v=v0∧T w')) (h0:T w)
  (h:∀ w',T w'→WL P n ops K rest ((d,gd b want v0)::L) w'):WL P n ops K (⟨some d,.call ⟨.value (.func f),xs.toArray,ts⟩,ty,pos,af,some (j,want)⟩::rest) L w :=
 WL.gcalls (c:=[]) hj ht hb hf hc (fun e=>hx (e (b,want) (by simp))) hd (fun e=>hcall (e (b,want) (by simp))) h0 h
end
end Gk
namespace Gk
open Go
section
variable {P:Program} {n:Nat} {K:X2y} {L:Env} {w:World} {B:World} {I:Im} {As:List X9} {k:Nat} {x y:Operand} {ty:TypeId} {pos:String} {af:Array Edge} {g:Option (Nat×Bool)} {ops:Array Oper} {rest:List Oper}
theorem Ex.extern {d : Option Nat} {f : FuncId} {fn : Func} {e : Array Value → Sem Value} {xs : List Operand} {ts : Array TypeId} {vs : List Value} {v : Value} (hf : P.funcs[f]? = some fn) (hname : (fn.name == "runtime.NumGoroutine") = false) (hb : fn.body.isNone = true) (hn : Extern.findNext fn = none) (he : Extern.find fn = some e)
  (hx:∀ a,Holds n L a→xs.map a.eval=vs) (hv:(e vs.toArray).run P w=.ok v w):Ex P n L w ⟨d,.call ⟨.value (.func f),xs.toArray,ts⟩,ty,pos,af,g⟩ v w:=fun a ha=>by
 have h:=run_callFunc_extern hf hname hb hn he vs.toArray w
 have hv2:=hx a ha
 rw [hv] at h
 simp only [Result.andThen] at h
 subst hv2
 simp [execOp,resolve,Act.eval,Deferred.ofValue,invoke,h]
theorem X88 {b:Nat} {cs:List Value} {E:TypeId} (hb:w.heap[b]?=some (Xh cs E)):w.shape? b=some (E,cs.length):=by
 simp [World.shape?,hb,Xh]
theorem Ex.toUnsafe {d:Option Nat} {src dst t E:TypeId} {j:TypeInfo} {b o:Nat} {cs:List Value} (hx:Ev n L x (ptr b o)) (hS:Sat B w I As) (hk:As[k]?=some (blk b cs E)) (hs:P.underlying src=some (.pointer t)) (hd:P.underlying dst=some .unsafePointer) (ht:P.info? t=some j) (hj:j.size≠0) (ho:o<cs.length) :
  Ex P n L w ⟨d,.convert src dst x,ty,pos,af,g⟩ (ptr b o) w:=fun a ha=>by
 have h:=Go.Lib.run_to_unsafe (P:=P) w ⟨b,o,none⟩ hs hd ht hj (X88 (hS.block hk)) ho
 simp [execOp,hx a ha,h]
theorem Ex.fromUnsafe {d:Option Nat} {src dst u E:TypeId} {j:TypeInfo} {b o:Nat} {cs:List Value} (hx:Ev n L x (ptr b o)) (hS:Sat B w I As) (hk:As[k]?=some (blk b cs E)) (hs:P.underlying src=some .unsafePointer) (hd:P.underlying dst=some (.pointer u)) (hu:P.info? u=some j) (hl:liesAt P P.depth E (cs.length / P.cellsOf E) o u 1=true) :
  Ex P n L w ⟨d,.convert src dst x,ty,pos,af,g⟩ (ptr b o) w:=fun a ha=>by
 have h:=Go.Lib.run_from_unsafe (P:=P) w ⟨b,o,none⟩ hs hd hu (X88 (hS.block hk)) hl
 simp [execOp,hx a ha,h]
theorem Ex.nepSame {d:Option Nat} {t te:TypeId} {j:TypeInfo} {a:Addr} (hx:Ev n L x (.pointer (some a))) (hy:Ev n L y (.pointer (some a))) (hT:P.underlying t=some (.pointer te)) (hj:P.info? te=some j) (ht':True):Ex P n L w ⟨d,.binOp .neq t x y t,ty,pos,af,g⟩ (.bool false) w :=
 Xz hx hy (fun _ _=>by rw [eqGuard_at_pointer]; rfl) (Go.Lib.run_neq_ptr_same w a hT hj)
abbrev bcs (l:List UInt8):List Value:=l.map fun c=>U8 (c.toNat:Int)
theorem Ex.sliceData {d:Option Nat} {ts:Array TypeId} {a:Addr} {m c:Nat} (hx:Ev n L x (.slice (some a) m c)) (hc:c≠0):Ex P n L w ⟨d,.call ⟨.builtin .unsafeSliceData,#[x],ts⟩,ty,pos,af,g⟩ (.pointer (some a)) w:=fun b hb=>by
 have h:=Go.Lib.run_unsafeSliceData_row (P:=P) w ts ty a m c hc
 simp [execOp,resolve,invoke,builtin,hx b hb,h]
theorem Ex.sliceDataNil {d:Option Nat} {ts:Array TypeId} {m c:Nat} (hx:Ev n L x (.slice none m c)):Ex P n L w ⟨d,.call ⟨.builtin .unsafeSliceData,#[x],ts⟩,ty,pos,af,g⟩ (.pointer none) w:=fun b hb=>by
 have h:=Go.Lib.run_unsafeSliceData_nil (P:=P) w ts ty m c
 simp [execOp,resolve,invoke,builtin,hx b hb,h]
theorem Ex.unsafeStringNone {d:Option Nat} {pt it:TypeId} {p:Option Addr} (hx:Ev n L x (.pointer p)) (hy:Ev n L y (I64 0)):Ex P n L w ⟨d,.call ⟨.builtin .unsafeString,#[x,y],#[pt,it]⟩,ty,pos,af,g⟩ (S []) w:=fun b hb=>by
 have h:=Go.Lib.run_unsafeString_none (P:=P) w pt it ty p
 simp [execOp,resolve,invoke,builtin,hx b hb,hy b hb,h]
 rfl
theorem Sat.freezeCells {b m:Nat} {cs:List Value} {E:TypeId} (hS:Sat B w I As) (hk:As[k]?=some (blk b cs E)):Sat B (w.freeze ⟨b,0,none⟩ m) I (As.eraseIdx k):=by
 by_cases h0:m=0
 ·subst h0
  have e:w.freeze ⟨b,0,none⟩ 0=w:=by simp [World.freeze]
  rw [e]; exact hS.drop hk
 ·have hb:=hS.block hk
  have hw:∃ o',(w.freeze ⟨b,0,none⟩ m).heap[b]?=some o':=by
   refine ⟨.cells cs.toArray E (0,m),?_⟩
   simp [World.freeze,h0,Array.getElem?_modify,hb,Xh]
  obtain ⟨o',ho⟩:=hw
  have h1:=hS.write (w':=w.freeze ⟨b,0,none⟩ m) hk (by simp [World.freeze,h0]) (by simp [World.freeze,h0]) (by simp [World.freeze,h0]) ho (fun c hc=>by
   have hne:¬ b=c:=fun e=>hc e.symm
   simp [World.freeze,h0,Array.getElem?_modify,hne])
  have hlk:k<As.length:=(Y4.1 hk).1
  have h2:=h1.drop (k:=k) (A:=own b o') (by simp [hlk])
  simpa [Y34] using h2
theorem WL.unsafeString {d b:Nat} {pt it E:TypeId} {l:List UInt8} {r:List Value} (hS:Sat B w I As) (hk:As[k]?=some (blk b (bcs l ++ r) E)) (hx:Ev n L x (ptr b 0)) (hy:Ev n L y (I64 l.length)) (h0:l≠[]) (hp:P.underlying pt=some (.pointer E)) (hc:P.cellsOf E=1) (h63:l.length≤9223372036854775807) (hd:Nat.blt d n=true)
  (h:∀ w',Sat B w' I (As.eraseIdx k)→WL P n ops K rest ((d,S l)::L) w'):WL P n ops K (⟨some d,.call ⟨.builtin .unsafeString,#[x,y],#[pt,it]⟩,ty,pos,af,none⟩::rest) L w:=by
 have hb:=hS.block hk
 have hr:=Go.Lib.run_unsafeString_row (P:=P) w pt it ty E hp hc b (bcs l ++ r).length (X88 hb) l h0 (by simp) h63 (fun j y hj=>by
  rw [Xt,Yf]
  refine Xp hb ?_
  rw [Yi (by have:=(Y4.1 hj).1; simpa using this)]
  simp [hj])
 refine WL.val (w':=w.freeze ⟨b,0,none⟩ l.length) (fun a ha=>?_) hd (h _ (hS.freezeCells hk))
 simp [execOp,resolve,invoke,builtin,hx a ha,hy a ha,hr]
theorem Ex.bytesStr {d:Option Nat} {src dst E:TypeId} {b o cap:Nat} {l:List UInt8} {cs:List Value} (hx:Ev n L x (.slice (some (ad b o)) l.length cap)) (hS:Sat B w I As) (hk:As[k]?=some (blk b cs E)) (hs:P.underlying src=some (.slice E)) (he:P.underlying E=some (.int .u8)) (hd:P.underlying dst=some .string)
  (hc:∀ j (hj:j<l.length),cs[o+j]?=some (U8 (l[j].toNat:Int))):Ex P n L w ⟨d,.convert src dst x,ty,pos,af,g⟩ (S l) w:=fun a ha=>by
 have hb:=hS.block hk
 have h:=run_convert_bytes_back (P:=P) w src dst E (ad b o) cap l hs he hd (fun j hj=>by rw [Xt]; exact Xp hb (hc j hj))
 simp [execOp,hx a ha,h]
end
end Gk
namespace Flt
open Ieee
def rg (b:Nat):Nat:=b % 9223372036854775808
def sg (b:Nat):Bool:=b / 9223372036854775808 % 2 == 1
def nan (b:Nat):Bool:=decide (9218868437227405312<rg b)
def mag (r:Nat):Nat:=if r<4503599627370496 then r else (4503599627370496+r % 4503599627370496)*2 ^ (r / 4503599627370496 - 1)
def sv (b:Nat):Int:=if sg b then -(mag (rg b):Int) else (mag (rg b):Int)
theorem bn:double.binade=4503599627370496:=by decide
def e0:Nat:=1074
def one:Nat:=2 ^ e0
end Flt
namespace Flt
def lt (a b:Nat):Bool:=!nan a && !nan b && decide (sv a<sv b)
def nf (a:Nat):Option Nat:=if nan a then none else some a
end Flt
namespace Gk
open Go
abbrev F64 (n:Nat):Value:=.float .f64 n
abbrev U64 (n:Int):Value:=.int .u64 n
section
variable {P:Program} {n:Nat} {K:X2y} {L:Env} {w w':World} {ops:Array Oper} {rest:List Oper}
variable {B:World} {I:Im} {As:List X9} {k:Nat} {ty:TypeId} {pos:String} {af:Array Edge} {g:Option (Nat×Bool)} {t t':TypeId} {x y:Operand}
section
variable {d:Option Nat} {a b:Nat}
end
section
variable {d:Option Nat} {i j:Int} {q:IntKind}
theorem X3v {a:Nat} (h:a<18446744073709551616):(BitVec.ofInt IntKind.u64.bits (a:Int)).toNat=a:=by
 rw [BitVec.toNat_ofInt]
 show ((a:Int) % ((2 ^ 64:Nat):Int)).toNat=a
 omega
theorem Xa0 {a:Nat} (h:a<18446744073709551616):IntKind.u64.wrap (a:Int)=(a:Int):=by rw [IntKind.wrap_u64]; omega
theorem Ex.and64 {a b:Nat} (ha:a<18446744073709551616) (hb:b<18446744073709551616) (hx:Ev n L x (U64 a)) (hy:Ev n L y (U64 b)):Ex P n L w ⟨d,.binOp .and t x y t',ty,pos,af,g⟩ (U64 ((a &&& b:Nat):Int)) w :=
 Xz hx hy (Xi _ _ _ _) (by
  have h1:a &&& b<18446744073709551616:=Y44 Nat.and_le_left ha
  have e:(BitVec.ofInt IntKind.u64.bits (a:Int) &&& BitVec.ofInt IntKind.u64.bits (b:Int)).toNat=a &&& b:=by rw [BitVec.toNat_and,X3v ha,X3v hb]
  show (Op.intBits .and .u64 a b).run P w=_
  unfold Op.intBits
  simp only [e,Xa0 h1,Sem.run_pure])
theorem Ex.or64 {a b:Nat} (ha:a<18446744073709551616) (hb:b<18446744073709551616) (hx:Ev n L x (U64 a)) (hy:Ev n L y (U64 b)):Ex P n L w ⟨d,.binOp .or t x y t',ty,pos,af,g⟩ (U64 ((a ||| b:Nat):Int)) w :=
 Xz hx hy (Xi _ _ _ _) (by
  have h1:a ||| b<18446744073709551616:=Nat.or_lt_two_pow (n:=64) ha hb
  have e:(BitVec.ofInt IntKind.u64.bits (a:Int) ||| BitVec.ofInt IntKind.u64.bits (b:Int)).toNat=a ||| b:=by rw [BitVec.toNat_or,X3v ha,X3v hb]
  show (Op.intBits .or .u64 a b).run P w=_
  unfold Op.intBits
  simp only [e,Xa0 h1,Sem.run_pure])
theorem Ex.not64 {t:TypeId} {a:Nat} (ha:a<18446744073709551616) (hx:Ev n L x (U64 a)):Ex P n L w ⟨d,.unOp .xor t x,ty,pos,af,g⟩ (U64 ((18446744073709551615 - a:Nat):Int)) w:=fun e he=>by
 have h1:(BitVec.ofInt IntKind.u64.bits IntKind.u64.max ^^^ BitVec.ofInt IntKind.u64.bits (a:Int)).toNat=18446744073709551615 - a:=by
  have e1:BitVec.ofInt 64 18446744073709551615=BitVec.allOnes 64:=by decide
  have e2:(BitVec.ofInt 64 (a:Int)).toNat=a:=X3v ha
  change (BitVec.ofInt 64 18446744073709551615 ^^^ BitVec.ofInt 64 (a:Int)).toNat=_
  rw [e1,BitVec.allOnes_xor,BitVec.toNat_not,e2]
 have h2:(Op.unary .xor (U64 a)).run P w=.ok (U64 ((18446744073709551615 - a:Nat):Int)) w:=by
  show (Op.intBits .xor .u64 (if IntKind.u64.signed then -1 else IntKind.u64.max) a).run P w=_
  rw [if_neg (by decide)]
  unfold Op.intBits
  simp only [h1,Xa0 (show 18446744073709551615 - a<18446744073709551616 by omega),Sem.run_pure]
 simp only [execOp,hx e he,Sem.run_bind,h2,Result.andThen_ok,Sem.run_pure]
theorem Ex.addx {q:IntKind} (hx:Ev n L x (.int q i)) (hy:Ev n L y (.int q j)) (h:q.wrap (i+j)=i+j):Ex P n L w ⟨d,.binOp .add t x y t',ty,pos,af,g⟩ (.int q (i+j)) w :=
 Xz hx hy (Xi _ _ _ _) (by simp [binOp,Op.intArith,h])
theorem Ex.subx {q:IntKind} (hx:Ev n L x (.int q i)) (hy:Ev n L y (.int q j)) (h:q.wrap (i - j)=i - j):Ex P n L w ⟨d,.binOp .sub t x y t',ty,pos,af,g⟩ (.int q (i - j)) w :=
 Xz hx hy (Xi _ _ _ _) (by simp [binOp,Op.intArith,h])
theorem Ex.andHi {a:Nat} (ha:a<18446744073709551616) (hx:Ev n L x (U64 a)) (hy:Ev n L y (U64 9223372036854775808)):Ex P n L w ⟨d,.binOp .and t x y t',ty,pos,af,g⟩ (U64 ((a &&& 9223372036854775808:Nat):Int)) w :=
 Ex.and64 ha (by decide) hx hy
theorem Ex.orHi {a:Nat} (ha:a<18446744073709551616) (hx:Ev n L x (U64 a)) (hy:Ev n L y (U64 9223372036854775808)):Ex P n L w ⟨d,.binOp .or t x y t',ty,pos,af,g⟩ (U64 ((a ||| 9223372036854775808:Nat):Int)) w :=
 Ex.or64 ha (by decide) hx hy
theorem Ex.quo {q:IntKind} (hx:Ev n L x (.int q i)) (hy:Ev n L y (.int q j)) (h0:0≤i) (h1:0<j) (hw:q.wrap (i / j)=i / j):Ex P n L w ⟨d,.binOp .quo t x y t',ty,pos,af,g⟩ (.int q (i / j)) w :=
 Xz hx hy (Xi _ _ _ _) (by
  have h2:¬ j=0:=by omega
  have e:i.tdiv j=i / j:=Int.tdiv_eq_ediv_of_nonneg h0
  simp [binOp,Op.intDiv,h2,e,hw])
theorem Ex.rem {q:IntKind} (hx:Ev n L x (.int q i)) (hy:Ev n L y (.int q j)) (h0:0≤i) (h1:0<j):Ex P n L w ⟨d,.binOp .rem t x y t',ty,pos,af,g⟩ (.int q (i % j)) w :=
 Xz hx hy (Xi _ _ _ _) (by
  have h2:¬ j=0:=by omega
  have e:i.tmod j=i % j:=Int.tmod_eq_emod_of_nonneg h0
  simp [binOp,Op.intDiv,h2,e])
theorem Ex.cvi {src dst:TypeId} {q r:IntKind} (hx:Ev n L x (.int q i)) (hs:P.underlying src=some (.int q)) (hd:P.underlying dst=some (.int r)) (hw:r.wrap i=i):Ex P n L w ⟨d,.convert src dst x,ty,pos,af,g⟩ (.int r i) w:=fun e he=>by
 simp [execOp,hx e he,convert,run_underlying hs,run_underlying hd,Conv.intToInt,hw]
theorem Ex.shr1 {q r:IntKind} (hx:Ev n L x (.int q i)) (hy:Ev n L y (.int r 1)) (hb:1≤q.bits):Ex P n L w ⟨d,.binOp .shr t x y t',ty,pos,af,g⟩ (.int q (i / 2)) w:=fun e he=>by
 have h1:min 1 q.bits=1:=by omega
 have h2:i.fdiv 2=i / 2:=Y3z _ (by decide)
 simp [execOp,hx e he,hy e he,binOp,Op.shift,h1,h2,eqGuard]
theorem Ex.makeFunc {f:Fn} {captured:List Operand} {vs:List Value} (hx:∀ a,Holds n L a→captured.map a.eval=vs):Ex P n L w ⟨d,.makeFunc f #[] captured.toArray,ty,pos,af,g⟩ (.func f #[] vs.toArray) w:=fun e he=>by
 have h:=hx e he
 simp [execOp,Instr.makeFunc,← h]
end
theorem X41 {a:Act} (he:Holds n L a) {d:Option Nat} {f:FuncId} {fn:Func} {c:Operand} {cap:List Value} {xs:List Operand} {ts:Array TypeId} {vs:List Value} (hf:P.funcs[f]?=some fn) (hc:Xk fn=true) (hv:Ev n L c (.func (.func f) #[] cap.toArray)) (hx:xs.map a.eval=vs) :
  (execOp a.eval (⟨d,.call ⟨.value c,xs.toArray,ts⟩,ty,pos,af,g⟩:Oper)).run P w=.ok (.enter f (vs ++ cap).toArray) w:=by
 unfold Xk at hc
 simp only [Yn] at hc
 obtain ⟨h1,h2⟩:=hc
 have h1' : ¬ fn.name = "runtime.NumGoroutine" := by simpa using h1
 have h2':¬ fn.body=none:=by intro e; rw [e] at h2; cases h2
 simp [execOp,resolve,hv a he,Deferred.ofValue,invoke,callFunc,program,Sem.run,hf,h1',h2',← hx]
theorem WQ.vcall {C:World→Prop} {kk:Env→Prop} {d:Nat} {f:FuncId} {fn:Func} {c:Operand} {cap:List Value} {xs:List Operand} {ts:Array TypeId} {vs:List Value} {v:Value} (hf:P.funcs[f]?=some fn) (hc:Xk fn=true) (hv:Ev n L c (.func (.func f) #[] cap.toArray)) (hx:∀ a,Holds n L a→xs.map a.eval=vs) (hd:Nat.blt d n=true)
  (hcall:∀ w,C w→Calls P f (vs ++ cap).toArray w (Ret fun u w'=>u=v∧C w')) (h:WQ P n ops C kk rest ((d,v)::L)):WQ P n ops C kk (⟨some d,.call ⟨.value c,xs.toArray,ts⟩,ty,pos,af,none⟩::rest) L:=by
 intro a ha
 refine wpQuiet_step fun K' hK=>?_
 rw [if_pos (X1s rfl _)]
 refine ⟨v,fun w hw=>?_,hK _ (h _ (ha.put hd v))⟩
 unfold Oper.quietAt
 rw [X41 ha hf hc hv (hx a ha)]
 refine ⟨rfl,(hcall w hw).mono ?_⟩
 rintro e w'' ⟨u,rfl,rfl,hC⟩
 exact ⟨rfl,hC⟩
theorem WQ.gvcall {C:World→Prop} {kk:Env→Prop} {d j s:Nat} {b want:Bool} {f:FuncId} {fn:Func} {c:Operand} {cap:List Value} {xs:List Operand} {ts:Array TypeId} {vs:List Value} {v:Value} (hj:(ops[j]?).bind (·.dst)=some s) (ht:Nat.blt s n=true) (hb:look L s=some (.bool b)) (hf:P.funcs[f]?=some fn) (hc:Xk fn=true)
  (hv:b=want→Ev n L c (.func (.func f) #[] cap.toArray)) (hx:b=want→∀ a,Holds n L a→xs.map a.eval=vs) (hd:Nat.blt d n=true)
  (hcall:b=want→∀ w,C w→Calls P f (vs ++ cap).toArray w (Ret fun u w'=>u=v∧C w')) (h:WQ P n ops C kk rest ((d,gd b want v)::L)):WQ P n ops C kk (⟨some d,.call ⟨.value c,xs.toArray,ts⟩,ty,pos,af,some (j,want)⟩::rest) L:=by
 intro a ha
 refine wpQuiet_step fun K' hK=>?_
 have hput:=h _ (ha.put hd (gd b want v))
 have hy:=X6d ha hj hb
 unfold Gk.gd at hput
 by_cases e:b=want
 ·rw [if_pos (by simp [Region.wanted,hy,e])]
  subst e
  refine ⟨v,fun w hw=>?_,hK _ (by simpa using hput)⟩
  unfold Oper.quietAt
  rw [X41 ha hf hc (hv rfl) (hx rfl a ha)]
  refine ⟨rfl,(hcall rfl w hw).mono ?_⟩
  rintro e w'' ⟨u,rfl,rfl,hC⟩
  exact ⟨rfl,hC⟩
 ·rw [if_neg (by simp [Region.wanted,hy,e])]
  have e':(b == want)=false:=by simpa using e
  rw [e'] at hput
  exact hK _ (by simpa using hput)
theorem X18 {f:FuncId} {args:Array Value} {w:World} {v:Value} {C:World→Prop} (h:Calls P f args w (Ret fun u w'=>u=v∧w=w')) (hC:C w):Calls P f args w (Ret fun u w'=>u=v∧C w') :=
 h.mono fun e w' he=>by
  obtain ⟨u,rfl,rfl,rfl⟩:=he
  exact ⟨_,rfl,rfl,hC⟩
theorem WQ.gcalls {C:World→Prop} {kk:Env→Prop} {d j t:Nat} {c:List (Bool×Bool)} {b want:Bool} {f:FuncId} {fn:Func} {xs:List Operand} {ts:Array TypeId} {vs:List Value} {v:Value}
  (hj:(ops[j]?).bind (·.dst)=some t) (ht:Nat.blt t n=true) (hb:look L t=some (gds c (.bool b))) (hf:P.funcs[f]?=some fn) (hc:Xk fn=true)
  (hx:(∀ p∈c ++ [(b,want)],p.1=p.2)→∀ a,Holds n L a→xs.map a.eval=vs) (hd:Nat.blt d n=true)
  (hcall:(∀ p∈c ++ [(b,want)],p.1=p.2)→∀ w,C w→Calls P f vs.toArray w (Ret fun u w'=>u=v∧C w'))
  (h:WQ P n ops C kk rest ((d,gds (c ++ [(b,want)]) v)::L)):WQ P n ops C kk (⟨some d,.call ⟨.value (.func f),xs.toArray,ts⟩,ty,pos,af,some (j,want)⟩::rest) L:=by
 intro a ha
 refine wpQuiet_step fun K' hK=>?_
 have hput:=h _ (ha.put hd (gds (c ++ [(b,want)]) v))
 have hlt:t<a.tmps.size:=by have:=Y1r ht; rw [ha.size]; omega
 have hv:=ha.get t _ hb
 have hy:yielded ops a.tmps j=match gds c (.bool b) with | .bool b=>some b | _=>none:=by
  obtain ⟨o,ho,hdd⟩:=Y26.1 hj
  rw [Y10,Y16 hlt] at hv
  simp only [Y2i] at hv
  have h2:a.tmps[t]?=some (gds c (.bool b)):=by rw [Y16 hlt,hv]
  simp only [yielded,ho,hdd,Y2j,h2]
  generalize gds c (.bool b)=g
  cases g <;> rfl
 by_cases e:∀ p∈c ++ [(b,want)],p.1=p.2
 ·have ec:∀ p∈c,p.1=p.2:=fun p hp=>e p (by simp [hp])
  have eb:b=want:=e (b,want) (by simp)
  rw [X1x ec] at hy
  rw [if_pos (by simp [Region.wanted,hy,eb])]
  rw [X1x e] at hput
  refine ⟨v,fun w hw=>?_,hK _ hput⟩
  have he:(execOp a.eval (⟨some d,.call ⟨.value (.func f),xs.toArray,ts⟩,ty,pos,af,some (j,want)⟩:Oper)).run P w=.ok (.enter f vs.toArray) w:=by
   unfold Xk at hc
   simp only [Yn] at hc
   obtain ⟨h1,h2⟩:=hc
   have h1' : ¬ fn.name = "runtime.NumGoroutine" := by simpa using h1
   have h2':¬ fn.body=none:=by intro e; rw [e] at h2; cases h2
   have hv:=hx e a ha
   simp [execOp,resolve,Act.eval,Deferred.ofValue,invoke,callFunc,program,Sem.run,hf,h1',h2',← hv]
  unfold Oper.quietAt
  rw [he]
  refine ⟨rfl,(hcall e w hw).mono ?_⟩
  rintro e' w'' ⟨u,rfl,rfl,hC⟩
  exact ⟨rfl,hC⟩
 ·have hw:Region.wanted (⟨some d,.call ⟨.value (.func f),xs.toArray,ts⟩,ty,pos,af,some (j,want)⟩:Oper) (yielded ops a.tmps)=false:=by
   by_cases ec:∀ p∈c,p.1=p.2
   ·rw [X1x ec] at hy
    have eb:¬ b=want:=fun eb=>e fun p hp=>by
     rcases Y12.1 hp with hp | hp
     ·exact ec p hp
     ·simp at hp; subst hp; exact eb
    simp [Region.wanted,hy,eb]
   ·rw [X3b ec] at hy
    simp [Region.wanted,hy,undef]
  rw [if_neg (by simp [hw])]
  rw [X3b e] at hput
  exact hK _ hput
theorem WQ.gcall {C:World→Prop} {kk:Env→Prop} {d j t:Nat} {b want:Bool} {f:FuncId} {fn:Func} {xs:List Operand} {ts:Array TypeId} {vs:List Value} {v:Value}
  (hj:(ops[j]?).bind (·.dst)=some t) (ht:Nat.blt t n=true) (hb:look L t=some (.bool b)) (hf:P.funcs[f]?=some fn) (hc:Xk fn=true)
  (hx:b=want→∀ a,Holds n L a→xs.map a.eval=vs) (hd:Nat.blt d n=true)
  (hcall:b=want→∀ w,C w→Calls P f vs.toArray w (Ret fun u w'=>u=v∧C w'))
  (h:WQ P n ops C kk rest ((d,gd b want v)::L)):WQ P n ops C kk (⟨some d,.call ⟨.value (.func f),xs.toArray,ts⟩,ty,pos,af,some (j,want)⟩::rest) L :=
 WQ.gcalls (c:=[]) hj ht hb hf hc (fun e=>hx (e (b,want) (by simp))) hd (fun e=>hcall (e (b,want) (by simp))) h
theorem WQ.gval3 {C:World→Prop} {kk:Env→Prop} {d j t:Nat} {b1 w1 b2 w2 b want:Bool} {op:Op} {v:Value}
  (hj:(ops[j]?).bind (·.dst)=some t) (ht:Nat.blt t n=true) (hb:look L t=some (gd b1 w1 (gd b2 w2 (.bool b)))) (hx:b1=w1→b2=w2→b=want→∀ w,C w→Ex P n L w ⟨some d,op,ty,pos,af,some (j,want)⟩ v w) (hd:Nat.blt d n=true)
  (h:WQ P n ops C kk rest ((d,gd b1 w1 (gd b2 w2 (gd b want v)))::L)):WQ P n ops C kk (⟨some d,op,ty,pos,af,some (j,want)⟩::rest) L :=
 WQ.gvals (c:=[(b1,w1),(b2,w2)]) hj ht hb (fun e=>hx (e (b1,w1) (by simp)) (e (b2,w2) (by simp)) (e (b,want) (by simp))) hd h
theorem Sat.weaken {J:Im} (hS:Sat B w J As) (hl:Le I J):Sat B w I As:=by
 obtain ⟨h,hs,hg⟩:=hS
 refine ⟨h,hs,hg.os,hg.tape,hg.output,fun b o e=>hg.imm b o (hl b o e),hg.own,hg.nodup,fun b o hm=>?_⟩
 have:=hg.apart b o hm
 cases hi:I b with
 | none=>rfl
 | some z=>rw [hl b z hi] at this; cases this
end
end Gk
namespace Gk
open Go
section
variable {P:Program} {n:Nat} {K:X2y} {L:Env} {w w':World} {ops:Array Oper} {rest:List Oper}
variable {B:World} {I:Im} {As:List X9} {k:Nat} {ty:TypeId} {pos:String} {af:Array Edge} {g:Option (Nat×Bool)} {t t':TypeId} {x y:Operand}
theorem Ex.sub3k {d:Option Nat} {i j:Int} {q r:IntKind} {l:List UInt8} {z:Operand} (hx:Ev n L x (S l)) (hy:Ev n L y (.int q i)) (hz:Ev n L z (.int r j)) (h0:0≤i) (h1:i≤j) (h2:j≤(l.length:Int)) (hT:P.underlying t=some .string) :
  Ex P n L w ⟨d,.slice t x (some y) (some z) none,ty,pos,af,g⟩ (S ((l.drop i.toNat).take (j.toNat - i.toNat))) w:=fun a ha=>by
 have h:=run_slice_string (P:=P) w t ⟨l.toArray⟩ q r i j hT h0 h1 h2
 rw [X8k] at h
 simp [execOp,hx a ha,hy a ha,hz a ha,run_sliceAt_string w t _ _ _ _ hT,h]
theorem Ex.str1 {d:Option Nat} {src dst E:TypeId} {b cap:Nat} {c:UInt8} {i:Int} (hx:Ev n L x (.slice (some (ad b 0)) 1 cap)) (hS:Sat B w I As) (hk:As[k]?=some (blk b [.int .u8 i] E)) (hi:i=(c.toNat:Int)) (hs:P.underlying src=some (.slice E)) (he:P.underlying E=some (.int .u8)) (hd:P.underlying dst=some .string) :
  Ex P n L w ⟨d,.convert src dst x,ty,pos,af,g⟩ (S [c]) w:=by
 subst hi
 exact Ex.bytesStr (l:=[c]) hx hS hk hs he hd (fun j hj=>by
  have:j=0:=by simp at hj; omega
  subst this; rfl)
theorem Ex.index8 {d:Option Nat} {i:Int} {q:IntKind} {l:List UInt8} (hx:Ev n L x (S l)) (hy:Ev n L y (.int q i)) (hi:0≤i) (hl:i<(l.length:Int)) (hT:P.underlying t=some .string):Ex P n L w ⟨d,.index t x y,ty,pos,af,g⟩ (U8 (at_ l i).toNat) w :=
 fun a ha=>by
  have h1:i.toNat<l.length:=by omega
  have h3:0≤i∧i<((ByteArray.size ⟨l.toArray⟩:Nat):Int):=⟨hi,by show i<(l.length:Int); omega⟩
  have h:=run_index_string (P:=P) w t ⟨l.toArray⟩ q i hT
  rw [dif_pos h3] at h
  have h4:(⟨l.toArray⟩:ByteArray)[i.toNat]'(by show i.toNat<l.length; omega)=at_ l i:=by
   rw [at_,Yd,Y7 h1]; rfl
  rw [h4] at h
  simp [execOp,hx a ha,hy a ha,h]
theorem Xea {t e:TypeId} {m:Nat} (hT:P.underlying t=some (.array m e)):P.elem t=e∧P.arrayLen t=m:=by
 simp [Program.elem,Program.arrayLen,hT]
theorem Ex.arrAddrI {d:Option Nat} {p:Addr} {m s:Nat} {e:TypeId} {i:Int} {q:IntKind} (hx:Ev n L x (.pointer (some p))) (hy:Ev n L y (.int q i)) (hi:0≤i) (hl:i<(m:Int)) (ht:P.underlying t=some (.array m e)) (hs:∀ w,(Go.sizeOf e).run P w=.ok s w) :
  Ex P n L w ⟨d,.indexAddr t x y,ty,pos,af,g⟩ (.pointer (some (p.add (i.toNat*s)))) w:=fun a ha=>by
 obtain ⟨e1,e2⟩:=Xea ht
 have h:=run_indexAt_array (P:=P) w t p q i (by rw [e1,e2]; exact ht)
 rw [e2,if_pos ⟨hi,hl⟩,e1,hs] at h
 simp [execOp,hx a ha,hy a ha,h,Result.andThen]
theorem Ex.indexArr {d:Option Nat} {m:Nat} {e:TypeId} {vs:List Value} {v:Value} {i:Int} {q:IntKind} (hx:Ev n L x (.agg vs.toArray)) (hy:Ev n L y (.int q i)) (hi:0≤i) (hl:i<(m:Int)) (ht:P.underlying t=some (.array m e)) (hs:∀ w,(Go.sizeOf e).run P w=.ok 1 w) (ha:∀ w,(isAgg e).run P w=.ok false w) (hv:vs[i.toNat]?=some v) :
  Ex P n L w ⟨d,.index t x y,ty,pos,af,g⟩ v w:=fun b hb=>by
 have hlt:i.toNat<vs.length:=(Y4.1 hv).1
 have hg:=(Y4.1 hv).2
 simp [execOp,hx b hb,hy b hb,Instr.index,run_underlying ht,asIntOf,hi,hl,hs,ha,hlt,hg,part]
theorem Ex.ibits {d:Option Nat} {op:BinOp} {q:IntKind} {i j:Int} (hop:op=.and∨op=.or∨op=.xor) (hx:Ev n L x (.int q i)) (hy:Ev n L y (.int q j)):Ex P n L w ⟨d,.binOp op t x y t',ty,pos,af,g⟩ (.int q (bits op q i j)) w :=
 Xz hx hy (Xi _ _ _ _) (by rcases hop with rfl | rfl | rfl <;> simp [binOp,Op.intBits,bits])
theorem Ex.shl {d:Option Nat} {q r:IntKind} {i j:Int} (hx:Ev n L x (.int q i)) (hy:Ev n L y (.int r j)) (h0:0≤j) (h1:j≤q.bits):Ex P n L w ⟨d,.binOp .shl t x y t',ty,pos,af,g⟩ (.int q (q.wrap (i*2 ^ j.toNat))) w:=fun e he=>by
 have h:=shift_shl q r i j h0 h1
 simp [execOp,hx e he,hy e he,binOp,h,eqGuard]
theorem Ex.shr {d:Option Nat} {q r:IntKind} {i j:Int} (hx:Ev n L x (.int q i)) (hy:Ev n L y (.int r j)) (h0:0≤j) (h1:j≤q.bits):Ex P n L w ⟨d,.binOp .shr t x y t',ty,pos,af,g⟩ (.int q (i / 2 ^ j.toNat)) w:=fun e he=>by
 have hm:min j.toNat q.bits=j.toNat:=by omega
 have hn:¬ j<0:=by omega
 have h2:i.fdiv (2 ^ j.toNat)=i / 2 ^ j.toNat:=Y3z _ (Int.le_of_lt (Int.pow_pos (by decide)))
 simp [execOp,hx e he,hy e he,binOp,Op.shift,hm,hn,h2,eqGuard]
theorem Ex.cvw {d:Option Nat} {i:Int} {src dst:TypeId} {q r:IntKind} (hx:Ev n L x (.int q i)) (hs:P.underlying src=some (.int q)) (hd:P.underlying dst=some (.int r)):Ex P n L w ⟨d,.convert src dst x,ty,pos,af,g⟩ (.int r (r.wrap i)) w:=fun e he=>by
 simp [execOp,hx e he,convert,run_underlying hs,run_underlying hd,Conv.intToInt]
theorem WL.vcall {d:Nat} {f:FuncId} {fn:Func} {c:Operand} {cap:List Value} {xs:List Operand} {ts:Array TypeId} {vs:List Value} {Q:Value→World→Prop} (hf:P.funcs[f]?=some fn) (hc:Xk fn=true) (hv:Ev n L c (.func (.func f) #[] cap.toArray)) (hx:∀ a,Holds n L a→xs.map a.eval=vs) (hd:Nat.blt d n=true)
  (hcall:Calls P f (vs ++ cap).toArray w (Ret Q)) (h:∀ v w',Q v w'→WL P n ops K rest ((d,v)::L) w'):WL P n ops K (⟨some d,.call ⟨.value c,xs.toArray,ts⟩,ty,pos,af,none⟩::rest) L w:=by
 intro a ha
 refine wpList_plain rfl fun K' hK=>?_
 unfold Oper.wp
 rw [X41 ha hf hc hv (hx a ha)]
 refine hcall.mono fun e w'' hq=>?_
 obtain ⟨v,rfl,hv⟩:=hq
 exact hK _ _ (h v w'' hv _ (ha.put hd v))
open Go.RowKit in
theorem Sat.grown {As:List X9} (hS:Sat B w I As) (h:Below w.heap.size w w'):Sat B w' I As:=by
 obtain ⟨hh,hs,hg⟩:=hS
 have old:∀ b o,w.heap[b]?=some o→w'.heap[b]?=some o:=fun b o e=>by
  rw [h.block b (Y19.1 e).1]; exact e
 exact ⟨hh,hs,h.os.trans hg.os,h.tape.trans hg.tape,h.output.trans hg.output,fun b o e=>old b o (hg.imm b o e),fun b o e=>old b o (hg.own b o e),hg.nodup,hg.apart⟩
open Go.RowKit in
theorem Sat.grownRow {E size m:Nat} {v:Value} {xs:List Value} (hS:Sat B w I As) (h:Below w.heap.size w w') (ho:w'.ownsRow w.heap.size E size v m xs):Sat B w' I (Vec E size v m xs::As):=by
 have hS2:=hS.grown h
 obtain ⟨hl,hv | ⟨g,cap,cur,rfl,hb,hh,h1,h2,h3,h4⟩⟩:=ho
 ·obtain ⟨hv,h0⟩:=hv
  subst hv; subst h0
  have hx:xs=[]:=Ye (by simpa using hl)
  subst hx
  exact hS2.vecNil E size
 ·obtain ⟨hh0,hs,hg⟩:=hS
  obtain ⟨hh2,hs2,hg2⟩:∃ h,SepAll As h∧Good B w' I h∧h=hh0:=by
   refine ⟨hh0,hs,?_,rfl⟩
   have old:∀ b o,w.heap[b]?=some o→w'.heap[b]?=some o:=fun b o e=>by
    rw [h.block b (Y19.1 e).1]; exact e
   exact ⟨h.os.trans hg.os,h.tape.trans hg.tape,h.output.trans hg.output,fun b o e=>old b o (hg.imm b o e),fun b o e=>old b o (hg.own b o e),hg.nodup,hg.apart⟩
  obtain ⟨hg2,rfl⟩:=hg2
  have cut:cur=(xs ++ cur.toList.drop (m*size)).toArray:=by
   apply Array.ext'
   simp only [List.toList_toArray]
   rw [← h4,Yw]
  have hcell:w'.heap[g]?=some (Xh (xs ++ cur.toList.drop (m*size)) E):=by
   unfold Xh; rw [← cut]; exact hh
  have hn:∀ b o,(b,o)∈hh2→b≠g:=fun b o hm e=>by
   subst e
   have:=(Y19.1 (hg.own b o hm)).1
   omega
  refine ⟨(g,Xh (xs ++ cur.toList.drop (m*size)) E)::hh2,⟨[(g,Xh (xs ++ cur.toList.drop (m*size)) E)],hh2,rfl,⟨hl,.inr ⟨g,cap,cur.toList.drop (m*size),rfl,rfl,h1,h2,?_⟩⟩,hs2⟩,hg2.os,hg2.tape,hg2.output,hg2.imm,fun b o hm=>?_,?_,fun b o hm=>?_⟩
  ·rw [Yj,hl,Y2s,h3]
   have:=Y3o size h1
   omega
  ·rcases Y17.1 hm with e | hm
   ·cases e; exact hcell
   ·exact hg2.own b o hm
  ·simp only [Y1c,Y2r]
   refine ⟨fun hm=>?_,hg2.nodup⟩
   obtain ⟨⟨b,x⟩,hm,e⟩:=Y2c.1 hm
   exact hn b x hm e
  ·rcases Y17.1 hm with e | hm
   ·cases e
    cases hi:I g with
    | none=>rfl
    | some y=>have:=(Y19.1 (hg.imm _ _ hi)).1; omega
   ·exact hg2.apart b o hm
open Go.RowKit in
theorem X93 {row:Option Nat} (h:w.grownBy w' row) (hr:row=none):Below w.heap.size w w' :=
 ⟨h.os,h.tape,h.output,h.size,fun k hk=>h.block k hk (by rw [hr]; simp)⟩
theorem X45 (s:List UInt8):Lib.strCells ⟨s.toArray⟩=bcs s:=by simp [Lib.strCells]
theorem X95 {t u ty E:TypeId} {i:TypeInfo} {v:Value} {m:Nat} {xs:List Value} (hS:Sat B w I As) (ht:P.underlying t=some (.slice E)) (hu:P.underlying u=some .string) (hi:P.info? E=some i) (hz:i.zero=some (.int .u8 0)) (hsize:i.size=1) (hby:i.bytes=1)
  (hk:As[k]?=some (Vec E 1 v m xs)) (s:List UInt8) (hb:m+s.length≤140737488355328) :
  ∃ v' w',(Builtin.append_ #[t,u] ty #[v,S s]).run P w=.ok v' w'∧Sat B w' I (As.set k (Vec E 1 v' (m+s.length) (xs ++ bcs s))):=by
 have hml:m+s.length≤maxLen:=by simp only [maxLen]; omega
 have hxl:xs.length=m*1:=hS.pure_ hk fun h ⟨hl,_⟩=>hl
 have hlk:k<As.length:=(Y4.1 hk).1
 have hsz:ByteArray.size ⟨s.toArray⟩=s.length:=rfl
 have hcase:(v=.slice none 0 0∧m=0)∨∃ g cap rest,v=.slice (some ⟨g,0,none⟩) m cap∧m≤cap∧cap≤maxLen∧xs.length+rest.length=cap*1∧Sat B w I (As.set k (blk g (xs ++ rest) E)):=by
  obtain ⟨g,hs,hg⟩:=hS
  obtain ⟨h1,h2,hp,⟨hl,ha⟩,hset,_⟩:=hs.at_ hk
  rcases ha with ⟨hv,h0,_⟩ | ⟨b,cap,rest,rfl,rfl,h3,h4,h5⟩
  ·exact .inl ⟨hv,h0⟩
  ·obtain ⟨h',hs',hp'⟩:=hset (blk b (xs ++ rest) E) _ rfl
   exact .inr ⟨b,cap,rest,rfl,h3,h4,h5,h',hs',hg.perm (hp.trans hp'.symm)⟩
 rcases hcase with ⟨rfl,rfl⟩ | ⟨g,cap,rest,rfl,hnc,hcm,hcs,hSo⟩
 ·have hx:xs=[]:=Ye (by simpa using hxl)
  subst hx
  obtain ⟨v',w',hr,ho,hgr,_⟩:=Go.Lib.run_append_own_string (P:=P) w w.heap.size t u ty E i ht hu hi hz hsize hby (.slice none 0 0) 0 [] ⟨rfl,.inl ⟨rfl,rfl⟩⟩ ⟨s.toArray⟩ (by rw [hsz]; exact hml) (by rw [hsz]; exact hb) (Ys _)
  rw [X45,hsz] at ho
  have hS2:=hS.grownRow (X93 hgr rfl) ho
  refine ⟨v',w',hr,?_⟩
  -- the new one stands at the old one's place
  obtain ⟨h,hs,hg⟩:=hS2
  obtain ⟨q1,q2,rfl,hq1,hq2⟩:=hs
  obtain ⟨h1',h2',hp,_,hset,_⟩:=SepAll.at_ hk hq2
  obtain ⟨h',hs',hp'⟩:=hset _ q1 hq1
  have g2:Good B w' I (q1 ++ h2'):=by
   have g:=hg.perm (hp.append_left q1)
   have:(q1 ++ (h1' ++ h2')).Perm ((q1 ++ h2') ++ h1'):=by
    rw [Y8]
    exact (Y1f).append_left q1
   exact (g.perm this).left
  exact ⟨h',hs',g2.perm hp'.symm⟩
 ·have hko:(As.set k (blk g (xs ++ rest) E))[k]?=some (blk g (xs ++ rest) E):=by simp [hlk]
  have hblk:=hSo.block hko
  by_cases hroom:m+s.length≤cap
  ·have hfit:m+ByteArray.size ⟨s.toArray⟩≤(xs ++ rest).toArray.size:=by
    simp only [Y3k,Y0,hsz]; omega
   have hr:=Go.Lib.run_append_room_string (P:=P) w t u ty E i ht hu hi hsize g m cap (xs ++ rest).toArray hblk ⟨s.toArray⟩ hroom hfit
   rw [X45,hsz] at hr
   have e2:((xs ++ rest).toArray.toList.take m ++ bcs s ++ (xs ++ rest).toArray.toList.drop (m+s.length)).toArray=((xs ++ bcs s) ++ rest.drop s.length).toArray:=by
    have hm:m=xs.length:=by omega
    subst hm
    simp only [List.toList_toArray,Y3l]
    rw [Y4d,Y15 (by omega:xs.length≤xs.length+s.length)]
    simp
   rw [e2] at hr
   refine ⟨_,_,hr,?_⟩
   have hw:=hSo.write (w':=w.setRow g ((xs ++ bcs s) ++ rest.drop s.length).toArray) (o':=Xh ((xs ++ bcs s) ++ rest.drop s.length) E) hko rfl rfl rfl (setRow_heap w g _ _ E _ hblk) (fun x hx=>setRow_other w g x _ hx)
   have hsh:=hw.vecShut (k:=k) (g:=g) (E:=E) (n:=m+s.length) (size:=1) (cap:=cap) (xs:=xs ++ bcs s) (rest:=rest.drop s.length) (by simp [hlk,blk]) hroom hcm (by rw [Y0,Y13]; omega) (by
    rw [Y0,Yj,Y13]; omega)
   simpa using hsh
  ·have holds:∀ j u,xs[j]?=some u→w.cell? ((⟨g,0,none⟩:Addr).add j)=some u:=by
    intro j u hu'
    have hj:j<xs.length:=(Y4.1 hu').1
    rw [Addr.add_lit,Yf]
    have h9:w.heap[g]?=some (.cells (xs ++ rest).toArray E (0,0)):=hblk
    simp only [World.cell?,h9,Option.isSome_none,Bool.false_eq_true,if_false]
    simp [hj] at hu' ⊢
    simp [Y2b,hj,hu']
   have hr:=Go.Lib.run_append_grow_string (P:=P) w t u ty E i (.int .u8 0) ht hu hi hz ⟨g,0,none⟩ m cap xs (by rw [hsize]; exact hxl) holds ⟨s.toArray⟩ (by rw [hsz]; omega) (by rw [hsz]; omega) (growslice_fits (by rw [hsz]; omega) (by rw [hby,hsz]; omega))
   rw [X45,hsz] at hr
   refine ⟨_,_,hr,?_⟩
   have hge:=grownCap_ge w (m+s.length) cap E
   have hcm2:grownCap w (m+s.length) cap E≤maxLen:=grownCap_le_maxLen w (m+s.length) cap E hml
   have hS2:=hS.drew.alloc (.cells (xs.toArray ++ (bcs s).toArray ++ Builtin.zeroCells (Value.int .u8 0).cells (grownCap w (m+s.length) cap E - (m+s.length))) E)
   have e1:(own w.drew.heap.size (.cells (xs.toArray ++ (bcs s).toArray ++ Builtin.zeroCells (Value.int .u8 0).cells (grownCap w (m+s.length) cap E - (m+s.length))) E))=blk w.heap.size ((xs ++ bcs s) ++ (Builtin.zeroCells (Value.int .u8 0).cells (grownCap w (m+s.length) cap E - (m+s.length))).toList) E:=by
    unfold blk Xh
    congr 2
    apply Array.ext'
    simp
   rw [e1] at hS2
   have hS3:=hS2.vecShut (k:=0) (n:=m+s.length) (size:=1) (cap:=grownCap w (m+s.length) cap E) rfl hge hcm2 (by rw [Y0,Y13]; omega) (by
    have hzc:∀ q,(Builtin.zeroCells (Value.int .u8 0).cells q).toList.length=q:=fun q=>by rw [Y2s,size_zeroCells]; exact Y1i q
    rw [Y0,Y13,hzc]
    omega)
   obtain ⟨h,hs,hg⟩:=hS3
   obtain ⟨q1,q2,rfl,hq1,hq2⟩:=hs
   obtain ⟨h1',h2',hp,_,hset,_⟩:=SepAll.at_ hk hq2
   obtain ⟨h',hs',hp'⟩:=hset _ q1 hq1
   refine ⟨h',hs',Good.perm ?_ hp'.symm⟩
   have g:=hg.perm (hp.append_left q1)
   have:(q1 ++ (h1' ++ h2')).Perm ((q1 ++ h2') ++ h1'):=by
    rw [Y8]
    exact (Y1f).append_left q1
   exact (g.perm this).left
theorem WL.appendStr {d:Nat} {t u E:TypeId} {i:TypeInfo} {v:Value} {m:Nat} {xs:List Value} {s:List UInt8} (hS:Sat B w I As) (hx:Ev n L x v) (hy:Ev n L y (S s)) (hk:As[k]?=some (Vec E 1 v m xs)) (ht:P.underlying t=some (.slice E)) (hu:P.underlying u=some .string) (hi:P.info? E=some i) (hz:i.zero=some (.int .u8 0)) (hsize:i.size=1) (hby:i.bytes=1)
  (hb:m+s.length≤140737488355328) (hd:Nat.blt d n=true) (h:∀ v' w',Sat B w' I (As.set k (Vec E 1 v' (m+s.length) (xs ++ bcs s)))→WL P n ops K rest ((d,v')::L) w') :
  WL P n ops K (⟨some d,.call ⟨.builtin .append,#[x,y],#[t,u]⟩,ty,pos,af,none⟩::rest) L w:=by
 obtain ⟨v',w',hr,hS'⟩:=X95 (P:=P) (ty:=ty) hS ht hu hi hz hsize hby hk s hb
 exact WL.val (w':=w') (fun a ha=>by simp [execOp,resolve,invoke,builtin,hx a ha,hy a ha,hr]) hd (h _ _ hS')
end
end Gk
namespace Pc
def plain (c:UInt8):Bool:=(97≤c && c≤122) || (65≤c && c≤90) || (48≤c && c≤57) || c == 45 || c == 46 || c == 95 || c == 126
def X2b (c:UInt8):Int:=if 48≤c && c≤57 then c.toNat - 48 else if 97≤c && c≤102 then c.toNat - 87 else if 65≤c && c≤70 then c.toNat - 55 else -1
def X9b (n:Nat):UInt8:=if n<10 then UInt8.ofNat (48+n) else UInt8.ofNat (55+n)
def X7a (c:UInt8):List UInt8:=[37,X9b (c.toNat / 16),X9b (c.toNat % 16)]
def one (c:UInt8):List UInt8:=if plain c then [c] else X7a c
def byteOf (a b:UInt8):UInt8:=UInt8.ofNat (16*X2b a+X2b b).toNat
def told:List UInt8→Option UInt8
 | a::b::_=>if X2b a<0∨X2b b<0 then none else some (byteOf a b)
 | _=>none
def Xcr:Nat→List UInt8→Option (List UInt8)
 | 0,_=>some []
 | _+1,[]=>some []
 | f+1,c::r=>if c=37 then match told r with
   | none=>none
   | some v=>(Xcr f (r.drop 2)).map (one v ++ ·)
  else (Xcr f r).map (c::·)
def X2s (s:List UInt8):Option (List UInt8):=Xcr (s.length+1) s
theorem X1y {r:List UInt8} {v:UInt8} (h:told r=some v):2≤r.length:=by
 match r,h with
 | a::b::_,_=>simp
 | [_],h=>simp [told] at h
 | [],h=>simp [told] at h
theorem X6f:∀ (f g:Nat) (s:List UInt8),s.length<f→s.length<g→Xcr f s=Xcr g s
 | 0,_,_,h,_=>by omega
 | _+1,0,_,_,h=>by omega
 | f+1,g+1,[],_,_=>rfl
 | f+1,g+1,c::r,hf,hg=>by
  simp only [Xcr]
  split
  ·cases ht:told r with
   | none=>rfl
   | some v =>
    simp only
    have:=X1y ht
    simp only [Y6] at hf hg
    rw [X6f f g (r.drop 2) (by rw [Yj]; omega) (by rw [Yj]; omega)]
  ·simp only [Y6] at hf hg
   rw [X6f f g r (by omega) (by omega)]
theorem X17:X2s []=some []:=rfl
theorem Xo (c:UInt8) (r:List UInt8):X2s (c::r)=if c=37 then match told r with
   | none=>none
   | some v=>(X2s (r.drop 2)).map (one v ++ ·)
  else (X2s r).map (c::·):=by
 unfold X2s
 simp only [Y6,Xcr]
 split
 ·cases ht:told r with
  | none=>rfl
  | some v =>
   simp only
   have:=X1y ht
   rw [X6f (r.length+1) ((r.drop 2).length+1) (r.drop 2) (by rw [Yj]; omega) (by omega)]
 ·rfl
theorem X1e (c:UInt8):X2b c=-1∨(0≤X2b c∧X2b c≤15):=by
 unfold X2b
 have h:=c.toNat_lt
 simp only [Yn,decide_eq_true_eq,Y23]
 have e1:(48:UInt8).toNat=48:=rfl
 have e2:(57:UInt8).toNat=57:=rfl
 have e3:(97:UInt8).toNat=97:=rfl
 have e4:(102:UInt8).toNat=102:=rfl
 have e5:(65:UInt8).toNat=65:=rfl
 have e6:(70:UInt8).toNat=70:=rfl
 rw [e1,e2,e3,e4,e5,e6]
 split
 ·right; omega
 ·split
  ·right; omega
  ·split
   ·right; omega
   ·left; rfl
theorem X9z:∀ (s t:List UInt8),X2s s=some t→t.length≤s.length:=by
 intro s
 induction hn:s.length using Nat.strongRecOn generalizing s with
 | _ n ih =>
  intro t h
  cases s with
  | nil=>rw [X17] at h; injection h with h; subst h; simp
  | cons c r =>
   rw [Xo] at h
   simp only [Y6] at hn
   split at h
   ·cases ht:told r with
    | none=>rw [ht] at h; cases h
    | some v =>
     rw [ht] at h
     simp only at h
     have hl:=X1y ht
     cases hr:X2s (r.drop 2) with
     | none=>rw [hr] at h; cases h
     | some u =>
      rw [hr] at h
      simp at h
      subst h
      have:=ih (r.drop 2).length (by rw [Yj]; omega) (r.drop 2) rfl u hr
      rw [Yj] at this
      rw [Y0]
      have:(one v).length≤3:=by unfold one; split <;> simp [X7a]
      omega
   ·cases hr:X2s r with
    | none=>rw [hr] at h; cases h
    | some u =>
     rw [hr] at h
     simp at h
     subst h
     have:=ih r.length (by omega) r rfl u hr
     simp only [Y6]
     omega
theorem Xbk:∀ c:UInt8,plain c=([97,98,99,100,101,102,103,104,105,106,107,108,109,110,111,112,113,114,115,116,117,118,119,120,121,122,65,66,67,68,69,70,71,72,73,74,75,76,77,78,79,80,81,82,83,84,85,86,87,88,89,90,48,49,50,51,52,53,54,55,56,57,45,46,95,126]:List UInt8).contains c:=by
 intro c
 have:∀ n:Fin 256,plain (UInt8.ofNat n.val)=([97,98,99,100,101,102,103,104,105,106,107,108,109,110,111,112,113,114,115,116,117,118,119,120,121,122,65,66,67,68,69,70,71,72,73,74,75,76,77,78,79,80,81,82,83,84,85,86,87,88,89,90,48,49,50,51,52,53,54,55,56,57,45,46,95,126]:List UInt8).contains (UInt8.ofNat n.val):=by decide +kernel
 have h:=this ⟨c.toNat,c.toNat_lt⟩
 simpa using h
theorem Xj {p:UInt8→Bool} (h:(List.range 256).all (fun n=>p (UInt8.ofNat n))=true) (c:UInt8):p c=true:=by
 have:=Y18.1 h c.toNat (Y35.2 c.toNat_lt)
 simpa using this
def LOW:List UInt8:=[48,49,50,51,52,53,54,55,56,57,97,98,99,100,101,102]
def HIGH:List UInt8:=[48,49,50,51,52,53,54,55,56,57,65,66,67,68,69,70]
def PLAINS:List UInt8:=[97,98,99,100,101,102,103,104,105,106,107,108,109,110,111,112,113,114,115,116,117,118,119,120,121,122,65,66,67,68,69,70,71,72,73,74,75,76,77,78,79,80,81,82,83,84,85,86,87,88,89,90,48,49,50,51,52,53,54,55,56,57,45,46,95,126]
theorem Xo0 {c:UInt8} {i:Nat} (h:i<16) (hc:LOW.getD i 0=c∨HIGH.getD i 0=c):X2b c=(i:Int):=by
 have:=Xj (p:=fun c=>(List.range 16).all fun i=>!(LOW.getD i 0 == c || HIGH.getD i 0 == c) || X2b c == (i:Int)) (by decide +kernel) c
 have:=Y18.1 this i (Y35.2 h)
 simp only [Y1w,Bool.not_eq_true',Y1g,beq_eq_false_iff_ne,beq_iff_eq] at this
 rcases this with ⟨h1,h2⟩ | h1
 ·rcases hc with hc | hc
  ·exact absurd hc h1
  ·exact absurd hc h2
 ·exact h1
theorem Xl4 {c:UInt8} (h:∀ i,i<16→LOW.getD i 0≠c∧HIGH.getD i 0≠c):X2b c=-1:=by
 have:=Xj (p:=fun c=>(List.range 16).any (fun i=>LOW.getD i 0 == c || HIGH.getD i 0 == c) || X2b c == -1) (by decide +kernel) c
 simp only [Y1w,beq_iff_eq] at this
 rcases this with h1 | h1
 ·obtain ⟨i,hi,h2⟩:=Y38.1 h1
  simp only [Y1w,beq_iff_eq] at h2
  have:=h i (Y35.1 hi)
  rcases h2 with h2 | h2
  ·exact absurd h2 this.1
  ·exact absurd h2 this.2
 ·exact h1
theorem pct_of (c:UInt8):([37] ++ (HIGH.drop (c.toNat / 16)).take 1) ++ (HIGH.drop (c.toNat % 16)).take 1=X7a c:=by
 have:=Xj (p:=fun c=>([37] ++ (HIGH.drop (c.toNat / 16)).take 1) ++ (HIGH.drop (c.toNat % 16)).take 1 == X7a c) (by decide +kernel) c
 simpa using this
theorem X6v (a b:UInt8) (ha:0≤X2b a) (hb:0≤X2b b):((byteOf a b).toNat:Int)=16*X2b a+X2b b:=by
 have h1:=X1e a
 have h2:=X1e b
 unfold byteOf
 rw [Y45]
 omega
end Pc
section
open Go.Proofs
abbrev Xl3:=@Tryz.func109
abbrev Xke:=@Tryz.func134
abbrev Xmd:=@Tryz.func138
abbrev Xow:=@Tryz.func15
abbrev Xlw:=@Tryz.func151
abbrev Xk9:=@Tryz.func152
abbrev Xlz:=@Tryz.func165
abbrev Qf175:=@Tryz.func175
abbrev Qf179:=@Tryz.func179
abbrev Xkx:=@Tryz.func180
abbrev Xi9:=@Tryz.func191
abbrev Qf20:=@Tryz.func20
abbrev Xlh:=@Tryz.func200
abbrev Xfo:=@Tryz.func201
abbrev Xgv:=@Tryz.func206
abbrev Xi6:=@Tryz.func207
abbrev Qf209:=@Tryz.func209
abbrev Qf210:=@Tryz.func210
abbrev Qf211:=@Tryz.func211
abbrev Qf213:=@Tryz.func213
abbrev X67:=@Tryz.func223
abbrev Xm8:=@Tryz.func226
abbrev Xlm:=@Tryz.func232
abbrev Qf234:=@Tryz.func234
abbrev Xip:=@Tryz.func245
abbrev Xhj:=@Tryz.func246
abbrev Xl6:=@Tryz.func253
abbrev Qf33:=@Tryz.func33
abbrev Qf38:=@Tryz.func38
abbrev Qf43:=@Tryz.func43
abbrev Xn9:=@Tryz.func44
abbrev Qf50:=@Tryz.func50
abbrev Qf52:=@Tryz.func52
abbrev Xn2:=@Tryz.func54
abbrev Qf58:=@Tryz.func58
abbrev Qf59:=@Tryz.func59
abbrev Qf86:=@Tryz.func86
abbrev Qf90:=@Tryz.func90
abbrev Qf96:=@Tryz.func96
abbrev Qg0:=@Tryz.isAgg0
abbrev Xdi:=@Tryz.isAgg101
abbrev Xj1:=@Tryz.isAgg157
abbrev Xcb:=@Tryz.isAgg160
abbrev Xbv:=@Tryz.isAgg168
abbrev Xd2:=@Tryz.isAgg172
abbrev Qg21:=@Tryz.isAgg21
abbrev X6k:=@Tryz.isAgg233
abbrev Xd8:=@Tryz.isAgg242
abbrev Xhd:=@Tryz.isAgg253
abbrev Qg26:=@Tryz.isAgg26
abbrev Qg3:=@Tryz.isAgg3
abbrev Xjt:=@Tryz.isAgg30
abbrev Qg31:=@Tryz.isAgg31
abbrev Xi4:=@Tryz.isAgg37
abbrev Xd9:=@Tryz.isAgg39
abbrev Qg4:=@Tryz.isAgg4
abbrev Qg48:=@Tryz.isAgg48
abbrev Qg49:=@Tryz.isAgg49
abbrev Qg5:=@Tryz.isAgg5
abbrev X97:=@Tryz.isAgg54
abbrev Xjw:=@Tryz.isAgg57
abbrev Xjs:=@Tryz.isAgg59
abbrev X58:=@Tryz.isAgg63
abbrev Qg9:=@Tryz.isAgg9
abbrev Xks:=@Tryz.results103
abbrev Xl1:=@Tryz.results114
abbrev Xcs:=@Tryz.results129
abbrev Qr13:=@Tryz.results13
abbrev Xo1:=@Tryz.results145
abbrev Xhy:=@Tryz.results147
abbrev Xod:=@Tryz.results155
abbrev Xjv:=@Tryz.results17
abbrev Xk8:=@Tryz.results175
abbrev Xlb:=@Tryz.results180
abbrev Xd0:=@Tryz.results189
abbrev Xo9:=@Tryz.results192
abbrev Xkd:=@Tryz.results199
abbrev Qr20:=@Tryz.results20
abbrev Xco:=@Tryz.results200
abbrev Xnw:=@Tryz.results201
abbrev Xhz:=@Tryz.results202
abbrev Xl7:=@Tryz.results224
abbrev Xnc:=@Tryz.results231
abbrev Xk3:=@Tryz.results246
abbrev Xmz:=@Tryz.results38
abbrev Qr47:=@Tryz.results47
abbrev Qr48:=@Tryz.results48
abbrev Qr50:=@Tryz.results50
abbrev Qr51:=@Tryz.results51
abbrev Qr64:=@Tryz.results64
abbrev Qr7:=@Tryz.results7
abbrev Qr91:=@Tryz.results91
abbrev Qs0:=@Tryz.sizeOf0
abbrev X2f:=@Tryz.sizeOf101
abbrev Xjy:=@Tryz.sizeOf104
abbrev Xcu:=@Tryz.sizeOf157
abbrev X2w:=@Tryz.sizeOf160
abbrev X1n:=@Tryz.sizeOf168
abbrev X7v:=@Tryz.sizeOf172
abbrev Xfp:=@Tryz.sizeOf178
abbrev Qs21:=@Tryz.sizeOf21
abbrev X56:=@Tryz.sizeOf233
abbrev X8d:=@Tryz.sizeOf238
abbrev Qs24:=@Tryz.sizeOf24
abbrev X3u:=@Tryz.sizeOf242
abbrev Xj9:=@Tryz.sizeOf243
abbrev Xhw:=@Tryz.sizeOf253
abbrev Xn5:=@Tryz.sizeOf26
abbrev Qs27:=@Tryz.sizeOf27
abbrev Qs3:=@Tryz.sizeOf3
abbrev Xf0:=@Tryz.sizeOf30
abbrev Xmm:=@Tryz.sizeOf31
abbrev Xfl:=@Tryz.sizeOf39
abbrev Qs4:=@Tryz.sizeOf4
abbrev Xg9:=@Tryz.sizeOf48
abbrev Qs49:=@Tryz.sizeOf49
abbrev Qs5:=@Tryz.sizeOf5
abbrev X26:=@Tryz.sizeOf54
abbrev Xih:=@Tryz.sizeOf57
abbrev X74:=@Tryz.sizeOf59
abbrev X1r:=@Tryz.sizeOf63
abbrev Qs9:=@Tryz.sizeOf9
abbrev Qs95:=@Tryz.sizeOf95
abbrev Qu0:=@Tryz.underlying0
abbrev Xg5:=@Tryz.underlying101
abbrev Xop:=@Tryz.underlying104
abbrev Xdy:=@Tryz.underlying111
abbrev X5e:=@Tryz.underlying114
abbrev X63:=@Tryz.underlying157
abbrev Xgl:=@Tryz.underlying160
abbrev Xdv:=@Tryz.underlying162
abbrev Xaf:=@Tryz.underlying167
abbrev Xm:=@Tryz.underlying168
abbrev Xdo:=@Tryz.underlying170
abbrev X19:=@Tryz.underlying172
abbrev X9w:=@Tryz.underlying178
abbrev Xnl:=@Tryz.underlying193
abbrev Qu21:=@Tryz.underlying21
abbrev Qu22:=@Tryz.underlying22
abbrev X62:=@Tryz.underlying233
abbrev Xd5:=@Tryz.underlying235
abbrev X4r:=@Tryz.underlying238
abbrev Xkt:=@Tryz.underlying239
abbrev Qu24:=@Tryz.underlying24
abbrev X68:=@Tryz.underlying242
abbrev Xjl:=@Tryz.underlying243
abbrev X72:=@Tryz.underlying245
abbrev X5w:=@Tryz.underlying253
abbrev Xk4:=@Tryz.underlying258
abbrev Qu26:=@Tryz.underlying26
abbrev X1c:=@Tryz.underlying267
abbrev Xos:=@Tryz.underlying275
abbrev Qu29:=@Tryz.underlying29
abbrev Qu3:=@Tryz.underlying3
abbrev X7e:=@Tryz.underlying30
abbrev Qu31:=@Tryz.underlying31
abbrev Qu4:=@Tryz.underlying4
abbrev X70:=@Tryz.underlying44
abbrev Xaw:=@Tryz.underlying48
abbrev Qu5:=@Tryz.underlying5
abbrev X20:=@Tryz.underlying54
abbrev X1f:=@Tryz.underlying57
abbrev Xdt:=@Tryz.underlying59
abbrev X3r:=@Tryz.underlying63
abbrev Qu9:=@Tryz.underlying9
abbrev X4o:=@Tryz.underlying95
abbrev Qz0:=@Tryz.zeroValue0
abbrev X6g:=@Tryz.zeroValue101
abbrev Xfu:=@Tryz.zeroValue160
abbrev Xof:=@Tryz.zeroValue168
abbrev Xp4:=@Tryz.zeroValue178
abbrev Qz21:=@Tryz.zeroValue21
abbrev Xlx:=@Tryz.zeroValue238
abbrev Xp3:=@Tryz.zeroValue245
abbrev Xi3:=@Tryz.zeroValue253
abbrev Qz27:=@Tryz.zeroValue27
abbrev Xnf:=@Tryz.zeroValue275
abbrev Qz3:=@Tryz.zeroValue3
abbrev Qz4:=@Tryz.zeroValue4
abbrev Qz48:=@Tryz.zeroValue48
abbrev Qz5:=@Tryz.zeroValue5
abbrev Xbl:=@Tryz.zeroValue54
abbrev Qz57:=@Tryz.zeroValue57
abbrev Xmt:=@Tryz.zeroValue59
abbrev Xjx:=@Tryz.zeroValue63
abbrev Qz9:=@Tryz.zeroValue9
end
namespace Go.Proofs.YtfibbpgikjggfaaGreatDoor
open Gk Pc
theorem X6n (c:UInt8) (w:World) :
  Calls Tryz.prog 185 [U8 c.toNat].toArray w (Ret fun v w'=>v=I64 (X2b c)∧w=w'):=by
 obtain ⟨w0,hw0⟩:∃ w0,w=w0:=⟨_,rfl⟩
 rw [show (fun (v:Value) (w':World)=>v=I64 (X2b c)∧w=w')=(fun v w'=>v=I64 (X2b c)∧w0=w') by rw [hw0]]
 refine calls Tryz.func185 rfl Tryz.ntmps185 rfl (.seq (.q 1 rfl (.seq (.q 1 rfl (.seq (.q 1 rfl (.seq (.seq (.q 1 rfl (.block (.loop (σ:=Nat) (fun i=>[(0,U8 c.toNat),(3,S LOW),(4,S HIGH),(5,I64 (i:Nat))]) (fun i w=>i≤16∧(∀ j,j<i→LOW.getD j 0≠c∧HIGH.getD j 0≠c)∧w=w0) (fun i=>16 - i) 0 ⟨rfl,rfl,rfl,rfl,trivial⟩ ⟨by decide,fun _ h=>absurd h (by omega),hw0⟩ ?_)))))))))))
 rintro i w ⟨hi,hno,hw⟩
 change WC _ _ _ _ [(0,U8 c.toNat),(3,S LOW),(4,S HIGH),(5,I64 (i:Nat))] w
 have hLW:LOW.length=16:=rfl
 have hHI:HIGH.length=16:=rfl
 refine .seq (.seq (.q 2 rfl ?_))
 refine WC.cond rfl (fun hb7=>?_) (fun hb7=>?_)
 ·
  have hc7:=hb7; try simp only [Y5] at hc7
  refine .skip (.seq (.block (.seq (.t 2 rfl (.val (.index8 (l:=LOW) (i:=(i:Int)) (.of rfl) (.of rfl) (by omega) (by omega) Qu9) rfl (.q 3 rfl (.gval rfl rfl (fun hg1=>(.move (.of rfl))) rfl (.gval rfl rfl (fun hg1=>(.move (.of rfl))) rfl (.gval rfl rfl (fun hg1=>.index8 (l:=HIGH) (i:=(i:Int)) (.gd hg1 rfl) (.gd hg1 rfl) (by omega) (by omega) Qu9) rfl (.gval rfl rfl (fun hg1=>(.move (.of rfl))) rfl (.gval rfl rfl (fun hg1=>(.eql (.gd hg1 rfl) (.gd hg1 rfl))) rfl (.val (.por (.of rfl) (.of rfl) (.of rfl)) rfl (.nil ?_)))))))))))))
  refine WC.cond rfl (fun hb21=>?_) (fun hb21=>?_)
  ·
   have hc21:=hb21; try simp only [Y5] at hc21
   refine .seq (.q 2 rfl (.ret (Xe Tryz.results185 rfl ?_)))
   refine ⟨_,rfl,?_,hw.symm⟩
   rw [Xo0 (c:=c) (i:=i) (by omega)]
   simp only [Y1w,beq_iff_eq,at_,Yk] at hb21
   rcases hb21 with h | h
   ·exact .inl (Yz.1 (by omega))
   ·exact .inr (Yz.1 (by omega))
  have hc21:=hb21; try simp only [Y5] at hc21
  refine .skip (.region (.run 3 rfl ⟨⟨by omega,by omega⟩,trivial⟩ (.nil ?_)))
  refine ⟨i+1,⟨rfl,rfl,rfl,rfl,trivial⟩,⟨by omega,fun j hj=>?_,hw⟩,by omega⟩
  rcases Yv j i with h1 | h1
  ·exact hno j h1
  ·have e:j=i:=by omega
   subst e
   simp only [Y1g,beq_eq_false_iff_ne,at_,Yk] at hb21
   exact ⟨fun e=>hb21.1 (by rw [e]),fun e=>hb21.2 (by rw [e])⟩
 have hc7:=hb7; try simp only [Y5] at hc7
 refine .exit (.seq (.q 1 rfl (.ret (Xe Tryz.results185 rfl ?_))))
 exact ⟨_,rfl,by rw [Xl4 (fun j hj=>hno j (by omega))],hw.symm⟩
theorem Xbo (c:UInt8) (w:World) :
  Calls Tryz.prog 163 [U8 c.toNat].toArray w (Ret fun v w'=>v=.bool (plain c)∧w=w'):=by
 obtain ⟨w0,hw0⟩:∃ w0,w=w0:=⟨_,rfl⟩
 rw [show (fun (v:Value) (w':World)=>v=.bool (plain c)∧w=w')=(fun v w'=>v=.bool (plain c)∧w0=w') by rw [hw0]]
 refine calls Tryz.func163 rfl Tryz.ntmps163 rfl (.seq (.q 1 rfl (.seq (.q 1 rfl (.seq (.seq (.q 1 rfl (.block (.loop (σ:=Nat) (fun i=>[(0,U8 c.toNat),(3,S PLAINS),(4,I64 (i:Nat))]) (fun i w=>i≤66∧(∀ j,j<i→PLAINS.getD j 0≠c)∧w=w0) (fun i=>66 - i) 0 ⟨rfl,rfl,rfl,trivial⟩ ⟨by decide,fun _ h=>absurd h (by omega),hw0⟩ ?_)))))))))
 rintro i w ⟨hi,hno,hw⟩
 change WC _ _ _ _ [(0,U8 c.toNat),(3,S PLAINS),(4,I64 (i:Nat))] w
 have hPL:PLAINS.length=66:=rfl
 refine .seq (.seq (.t 2 rfl (.val (.len (l:=PLAINS) (.of rfl) Qu9) rfl (.q 1 rfl (.nil ?_)))))
 refine WC.cond rfl (fun hb8=>?_) (fun hb8=>?_)
 ·
  have hc8:=hb8; try simp only [Y5] at hc8
  refine .skip (.seq (.block (.seq (.t 2 rfl (.val (.index8 (l:=PLAINS) (i:=(i:Int)) (.of rfl) (.of rfl) (by omega) (by omega) Qu9) rfl (.q 2 rfl (.nil ?_)))))))
  refine WC.cond rfl (fun hb15=>?_) (fun hb15=>?_)
  ·
   have hc15:=hb15; try simp only [Y5] at hc15
   refine .seq (.q 1 rfl (.ret (Xe Tryz.results163 rfl ?_)))
   refine ⟨_,rfl,?_,hw.symm⟩
   rw [show plain c=true by
    rw [Xbk,Y24]
    simp only [beq_iff_eq,at_,Yk] at hb15
    have e:PLAINS.getD i 0=c:=Yz.1 (by omega)
    have hm:c∈PLAINS:=by
     rw [← e,Yd,Y7 (by omega)]
     exact Y2k _
    exact hm]
  have hc15:=hb15; try simp only [Y5] at hc15
  refine .skip (.region (.run 3 rfl ⟨⟨by omega,by omega⟩,trivial⟩ (.nil ?_)))
  refine ⟨i+1,⟨rfl,rfl,rfl,trivial⟩,⟨by omega,fun j hj=>?_,hw⟩,by omega⟩
  rcases Yv j i with h1 | h1
  ·exact hno j h1
  ·have e:j=i:=by omega
   subst e
   simp only [beq_eq_false_iff_ne,at_,Yk] at hb15
   exact fun e=>hb15 (by rw [e])
 have hc8:=hb8; try simp only [Y5] at hc8
 refine .exit (.seq (.q 1 rfl (.ret (Xe Tryz.results163 rfl ?_))))
 refine ⟨_,rfl,?_,hw.symm⟩
 rw [show plain c=false by
  rw [Xbk,← Y2g,Y24]
  intro hm
  obtain ⟨j,hj,e⟩:=Y3q.1 (show c∈PLAINS from hm)
  refine hno j (by omega) ?_
  rw [Yd,Y7 hj,← e]; rfl]
theorem X92 (c:UInt8) (B w:World) (I:Im) (As:List X9) (hS:Sat B w I As) :
  Calls Tryz.prog 164 [U8 c.toNat].toArray w (Ret fun v w'=>v=S (X7a c)∧Sat B w' I As):=by
 refine calls Tryz.func164 rfl Tryz.ntmps164 rfl (.seq (.q 1 rfl (.seq (.q 1 rfl (.seq ?_)))))
 have hHI:HIGH.length=16:=rfl
 have hc:=c.toNat_lt
 refine .quiet (by kernel_rfl) (by kernel_rfl) hS (.val (fun w hS=>(.move (.of rfl))) rfl (.val (fun w hS=>(.move (.of rfl))) rfl ?_))
 refine WQ.val (fun w hS=>.quo (.of rfl) (.of rfl) (by omega) (by omega) (by rw [IntKind.wrap_u8]; omega)) rfl ?_
 refine .val (fun w hS=>(.move (.of rfl))) rfl ?_
 refine WQ.val (fun w hS=>.quo (.of rfl) (.of rfl) (by omega) (by omega) (by rw [IntKind.wrap_u8]; omega)) rfl ?_
 refine WQ.val (fun w hS=>.addx (.of rfl) (.of rfl) (by rw [IntKind.wrap_u8]; omega)) rfl ?_
 refine .val (fun w hS=>.sub3k (l:=HIGH) (.of rfl) (.of rfl) (.of rfl) (by omega) (by omega) (by omega) Qu9) rfl ?_
 refine WQ.val (fun w hS=>.cat (l:=[37]) (.of rfl) (.of rfl) (by simp only [Y0,Yq,Yj,Y6,Yh]; omega)) rfl ?_
 refine .val (fun w hS=>(.move (.of rfl))) rfl (.val (fun w hS=>(.move (.of rfl))) rfl (.val (fun w hS=>(.rem (.of rfl) (.of rfl) (by omega) (by omega))) rfl (.val (fun w hS=>(.move (.of rfl))) rfl (.val (fun w hS=>(.rem (.of rfl) (.of rfl) (by omega) (by omega))) rfl ?_))))
 refine WQ.val (fun w hS=>.addx (.of rfl) (.of rfl) (by rw [IntKind.wrap_u8]; omega)) rfl ?_
 refine .val (fun w hS=>.sub3k (l:=HIGH) (.of rfl) (.of rfl) (.of rfl) (by omega) (by omega) (by omega) Qu9) rfl ?_
 refine WQ.val (fun w hS=>.cat (.of rfl) (.of rfl) (by simp only [Y0,Yq,Yj,Y6,Yh]; omega)) rfl ?_
 refine .val (fun w hS=>(.assign (.of rfl))) rfl (.nil ?_)
 clear hS; intro w hS
 refine .ret (Xe Tryz.results164 rfl ?_)
 refine ⟨_,rfl,?_,hS⟩
 rw [← pct_of c]
 have e1:((c.toNat:Int) / 16).toNat=c.toNat / 16:=by omega
 have e2:((c.toNat:Int) % 16).toNat=c.toNat % 16:=by omega
 have e3:((c.toNat:Int) / 16+1).toNat - c.toNat / 16=1:=by omega
 have e4:((c.toNat:Int) % 16+1).toNat - c.toNat % 16=1:=by omega
 rw [e1,e2,e3,e4]
theorem X87 (s:List UInt8) (i:Int) (h0:0≤i) (h1:i≤9223372036854775800) (w:World) :
  Calls Tryz.prog 145 [S s,I64 i].toArray w (Ret fun v w'=>v=I64 (if (s.length:Int)≤i+2 then -1 else if X2b (at_ s (i+1))<0∨X2b (at_ s (i+2))<0 then -1 else 16*X2b (at_ s (i+1))+X2b (at_ s (i+2)))∧w=w'):=by
 refine calls Tryz.func145 rfl Tryz.ntmps145 rfl (.seq (.q 1 rfl (.seq (.seq (.region (.run 5 rfl ⟨⟨by omega,by omega⟩,Qu9,trivial⟩ (.nil ?_)))))))
 refine WC.cond rfl (fun hb11=>?_) (fun hb11=>?_)
 ·
  have hc11:=hb11; try simp only [Y5] at hc11
  refine .seq (.q 1 rfl (.ret (Xe Xo1 rfl ?_)))
  exact ⟨_,rfl,by rw [if_pos hc11],rfl⟩
 have hc11:=hb11; try simp only [Y5] at hc11
 refine .skip (.seq (.region (.run 4 rfl ⟨⟨by omega,by omega⟩,⟨⟨by omega,by omega⟩,Qu9⟩,trivial⟩ (.call Tryz.func185 rfl (X0 (.of rfl) X4) rfl (X6n _ _) ?_))))
 rintro _ _ ⟨rfl,rfl⟩
 refine .q 1 rfl (.nil (.seq (.region (.run 4 rfl ⟨⟨by omega,by omega⟩,⟨⟨by omega,by omega⟩,Qu9⟩,trivial⟩ (.call Tryz.func185 rfl (X0 (.of rfl) X4) rfl (X6n _ _) ?_)))))
 rintro _ _ ⟨rfl,rfl⟩
 refine .q 1 rfl (.nil (.seq (.seq (.t 3 rfl (.gval rfl rfl (fun hg1=>(.move (.of rfl))) rfl (.gval rfl rfl (fun hg1=>(.lss (.gd hg1 rfl) (.of rfl))) rfl (.val (.por (.of rfl) (.of rfl) (.of rfl)) rfl (.nil ?_))))))))
 refine WC.cond rfl (fun hb27=>?_) (fun hb27=>?_)
 ·
  have hc27:=hb27; try simp only [Y5] at hc27
  refine .seq (.q 1 rfl (.ret (Xe Xo1 rfl ?_)))
  exact ⟨_,rfl,by rw [if_neg (by omega),if_pos hc27],rfl⟩
 have hc27:=hb27; try simp only [Y5] at hc27
 refine .skip (.seq ?_)
 have hr1:=X1e (at_ s (i+1))
 have hr2:=X1e (at_ s (i+2))
 refine .region (.run 5 rfl ⟨⟨by omega,by omega⟩,⟨by omega,by omega⟩,trivial⟩ (.nil (.ret (Xe Xo1 rfl ?_))))
 exact ⟨_,rfl,by rw [if_neg (by omega),if_neg (by omega)],rfl⟩
theorem Xij (s:List UInt8) (i:Nat):(if (s.length:Int)≤(i:Int)+2 then (-1:Int) else if X2b (at_ s ((i:Int)+1))<0∨X2b (at_ s ((i:Int)+2))<0 then -1 else 16*X2b (at_ s ((i:Int)+1))+X2b (at_ s ((i:Int)+2)))=match told (s.drop (i+1)) with | none=>-1 | some v=>(v.toNat:Int):=by
 by_cases h:s.length≤i+2
 ·rw [if_pos (by omega)]
  have:told (s.drop (i+1))=none:=by
   have hl:(s.drop (i+1)).length≤1:=by rw [Yj]; omega
   match s.drop (i+1),hl with
   | [],_=>rfl
   | [_],_=>rfl
  rw [this]
 ·rw [if_neg (by omega)]
  have e1:s.drop (i+1)=at_ s ((i:Int)+1)::at_ s ((i:Int)+2)::s.drop (i+3):=by
   rw [Xc s (show i+1<s.length by omega),Xc s (show i+1+1<s.length by omega)]
   rfl
  rw [e1]
  simp only [told]
  split
  ·rfl
  ·rename_i hn
   have hn1:=X1e (at_ s ((i:Int)+1))
   have hn2:=X1e (at_ s ((i:Int)+2))
   exact (X6v _ _ (by omega) (by omega)).symm
set_option maxHeartbeats 400000 in
theorem Xa1 (s:List UInt8) (hl:s.length≤1000000) (B w:World) (I:Im) (As:List X9) (hS:Sat B w I As) :
  Calls Tryz.prog 120 [S s].toArray w (Ret fun v w'=>v=(match X2s s with | none=>.tuple #[S [],I64 11] | some t=>.tuple #[S t,I64 0])∧Sat B w' I As):=by
 refine calls Tryz.func120 rfl Tryz.ntmps120 rfl (.seq (.q 2 rfl (.seq (.q 1 rfl (.seq (.seq (.q 1 rfl (.block (.loop (σ:=List UInt8×Nat) (fun ⟨out,i⟩=>[(0,S s),(4,S out),(5,I64 (i:Nat))]) (fun ⟨out,i⟩ w=>i≤s.length∧out.length+(s.length - i)*3≤s.length*3∧X2s s=(X2s (s.drop i)).map (out ++ ·)∧Sat B w I As) (fun ⟨out,i⟩=>s.length - i) ([],0) ⟨rfl,rfl,rfl,trivial⟩ ⟨Yp _,by simp,by simp,hS⟩ ?_)))))))))
 rintro ⟨out,i⟩ w ⟨hi,hol,hno,hS⟩
 change WC _ _ _ _ [(0,S s),(4,S out),(5,I64 (i:Nat))] w
 refine .seq (.seq (.region (.run 4 rfl ⟨Qu9,trivial⟩ (.nil ?_))))
 refine WC.cond rfl (fun hb11=>?_) (fun hb11=>?_)
 ·
  have hc11:=hb11; try simp only [Y5] at hc11
  refine .skip (.seq (.block (.seq (.seq (.region (.run 4 rfl ⟨⟨⟨by omega,by omega⟩,Qu9⟩,trivial⟩ (.nil ?_)))))))
  refine WC.cond rfl (fun hb17=>?_) (fun hb17=>?_)
  ·
   have hc17:=hb17; try simp only [Y5] at hc17
   refine .seq (.region (.run 5 rfl ⟨⟨by omega,by omega⟩,trivial⟩ (.val (.sub3 (l:=s) (i:=(i:Int)) (j:=(i:Int)+1) (.of rfl) (.of rfl) (.of rfl) (by omega) (by omega) (by omega) Qu9) rfl ?_)))
   rw [show (s.drop (i:Int).toNat).take (((i:Int)+1).toNat - (i:Int).toNat)=[at_ s (i:Int)] by rw [Yk,show ((i:Int)+1).toNat - i=1 by omega,Xc s (by omega)]; rfl]
   refine WL.val (.cat (.of rfl) (.of rfl) (by simp only [Y6,Yh]; omega)) rfl ?_
   refine .q 1 rfl (.nil (.exit (.region (.run 3 rfl ⟨⟨by omega,by omega⟩,trivial⟩ (.nil ?_)))))
   have e37:at_ s (i:Int)≠37:=fun e=>by rw [e] at hb17; simp at hb17
   refine ⟨(out ++ [at_ s (i:Int)],i+1),⟨rfl,rfl,rfl,trivial⟩,⟨by (try dsimp only); omega,by (try dsimp only); rw [Y0]; simp only [Y6,Yh]; omega,?_,hS⟩,by (try dsimp only); omega⟩
   rw [hno,Xc s (by omega),Xo,if_neg e37]
   cases X2s (s.drop (i+1)) <;> simp
  have hc17:=hb17; try simp only [Y5] at hc17
  refine .skip (.seq (.t 2 rfl (.call Tryz.func145 rfl (X0 (.of rfl) (X0 (.of rfl) X4)) rfl (X87 s (i:Int) (by omega) (by omega) _) ?_)))
  rintro _ _ ⟨rfl,rfl⟩
  rw [Xij]
  refine .q 1 rfl (.nil (.seq (.seq (.q 2 rfl ?_))))
  refine WC.cond rfl (fun hb29=>?_) (fun hb29=>?_)
  ·
   have hc29:=hb29; try simp only [Y5] at hc29
   refine .seq (.q 2 rfl (.ret (X1g Tryz.results120 rfl rfl ?_)))
   refine ⟨_,rfl,?_,hS⟩
   have e37:at_ s (i:Int)=37:=Yz.1 (by simp only [bne_eq_false_iff_eq] at hb17; show (at_ s (i:Int)).toNat=37; omega)
   have ht:told (s.drop (i+1))=none:=by
    cases ht:told (s.drop (i+1)) with
    | none=>rfl
    | some v=>rw [ht] at hc29; simp at hc29; omega
   have:X2s s=none:=by rw [hno,Xc s (by omega),Xo,if_pos e37,ht]; rfl
   rw [this]
  have hc29:=hb29; try simp only [Y5] at hc29
  refine .skip (.seq ?_)
  have e37:at_ s (i:Int)=37:=Yz.1 (by simp only [bne_eq_false_iff_eq] at hb17; show (at_ s (i:Int)).toNat=37; omega)
  obtain ⟨v,hv⟩:∃ v,told (s.drop (i+1))=some v:=by
   cases ht:told (s.drop (i+1)) with
   | some v=>exact ⟨v,rfl⟩
   | none=>rw [ht] at hc29; simp at hc29
  rw [hv]
  try dsimp only
  have hvl:=X1y hv
  rw [Yj] at hvl
  have hv8:=v.toNat_lt
  refine .t 1 rfl ?_
  refine WL.val (.cvi (.of rfl) Qu3 Qu5 (by rw [IntKind.wrap_u8]; omega)) rfl ?_
  refine .call Tryz.func163 rfl (X0 (.of rfl) X4) rfl (Xbo v _) ?_
  rintro _ _ ⟨rfl,rfl⟩
  refine .q 1 rfl (.nil (.seq (.seq (.q 1 rfl ?_))))
  refine WC.cond rfl (fun hb33=>?_) (fun hb33=>?_)
  ·
   have hc33:=hb33; try simp only [Y5] at hc33
   have hpl:plain v=true:=hb33
   refine .t 2 rfl ?_
   refine WL.val (.cvi (.of rfl) Qu3 Qu5 (by rw [IntKind.wrap_u8]; omega)) rfl ?_
   refine .buildSlice (cs:=[_]) hS (X5 (.of rfl) X6) X19 Qs5 Qz5 rfl rfl rfl rfl ?_
   clear hS; intro b37 w hS
   refine .val (.str1 (c:=v) (.of rfl) hS (k:=0) rfl rfl X19 Qu5 Qu9) rfl ?_
   replace hS:=hS.drop (k:=0) rfl; try dsimp only [List.eraseIdx] at hS
   refine WL.val (.cat (.of rfl) (.of rfl) (by simp only [Y6,Yh]; omega)) rfl ?_
   refine .q 1 rfl (.nil (.region (.run 3 rfl ⟨⟨by omega,by omega⟩,trivial⟩ (.nil (.region (.run 3 rfl ⟨⟨by omega,by omega⟩,trivial⟩ (.nil ?_)))))))
   refine ⟨(out ++ one v,i+3),⟨rfl,by rw [one,if_pos hpl]; rfl,rfl,trivial⟩,⟨by (try dsimp only); omega,by (try dsimp only); rw [Y0]; have:(one v).length≤3:=(by unfold one; split <;> simp [X7a]); omega,?_,hS⟩,by (try dsimp only); omega⟩
   rw [hno,Xc s (by omega),Xo,if_pos e37,hv]
   simp only [Y1l]
   cases X2s (s.drop (i+3)) <;> simp [Y8,Y2m]
  have hc33:=hb33; try simp only [Y5] at hc33
  have hpl:plain v=false:=hb33
  refine .t 2 rfl ?_
  refine WL.val (.cvi (.of rfl) Qu3 Qu5 (by rw [IntKind.wrap_u8]; omega)) rfl ?_
  refine .call Tryz.func164 rfl (X0 (.of rfl) X4) rfl (X92 v B w I _ hS) ?_
  clear hS
  rintro _ w ⟨rfl,hS⟩
  refine WL.val (.cat (.of rfl) (.of rfl) (by simp only [X7a,Y6,Yh]; omega)) rfl ?_
  refine .q 1 rfl (.nil (.region (.run 3 rfl ⟨⟨by omega,by omega⟩,trivial⟩ (.nil (.region (.run 3 rfl ⟨⟨by omega,by omega⟩,trivial⟩ (.nil ?_)))))))
  refine ⟨(out ++ one v,i+3),⟨rfl,by rw [one,if_neg (by rw [hpl]; simp)]; rfl,rfl,trivial⟩,⟨by (try dsimp only); omega,by (try dsimp only); rw [Y0]; have:(one v).length≤3:=(by unfold one; split <;> simp [X7a]); omega,?_,hS⟩,by (try dsimp only); omega⟩
  rw [hno,Xc s (by omega),Xo,if_pos e37,hv]
  simp only [Y1l]
  cases X2s (s.drop (i+3)) <;> simp [Y8,Y2m]
 have hc11:=hb11; try simp only [Y5] at hc11
 refine .exit (.seq (.q 3 rfl (.ret (X1g Tryz.results120 rfl rfl ?_))))
 refine ⟨_,rfl,?_,hS⟩
 have:X2s s=some out:=by rw [hno,Y15 (by omega),X17]; simp
 rw [this]
end Go.Proofs.YtfibbpgikjggfaaGreatDoor
namespace Go.Proofs.YtfibbpgikjggfaaGreatDoor
open Gk Pc
theorem X86:Tryz.prog.info? 5=some Tryz.t5:=by kernel_rfl
theorem X57:Tryz.prog.info? 245=some Tryz.t245:=by kernel_rfl
def DigAt (I:Im):Prop:=At I (ad 2 0) (bcs HIGH)
theorem DigAt.mono {I J:Im} (h:DigAt I) (hl:Le I J):DigAt J:=At.mono h hl
theorem Xic (c:UInt8):((((((decide (97≤(c.toNat:Int)) && decide ((c.toNat:Int)≤122)) || (decide (65≤(c.toNat:Int)) && decide ((c.toNat:Int)≤90))) || (decide (48≤(c.toNat:Int)) && decide ((c.toNat:Int)≤57))) || ((c.toNat:Int) == 45)) || ((c.toNat:Int) == 46)) || ((c.toNat:Int) == 95) || ((c.toNat:Int) == 126))=plain c :=
 eq_of_beq (Xj (p:=fun c=>((((((decide (97≤(c.toNat:Int)) && decide ((c.toNat:Int)≤122)) || (decide (65≤(c.toNat:Int)) && decide ((c.toNat:Int)≤90))) || (decide (48≤(c.toNat:Int)) && decide ((c.toNat:Int)≤57))) || ((c.toNat:Int) == 45)) || ((c.toNat:Int) == 46)) || ((c.toNat:Int) == 95) || ((c.toNat:Int) == 126)) == plain c) (by decide +kernel) c)
theorem Xhn {n:Nat} (h:n<16):(bcs HIGH)[n]?=some (U8 (X9b n).toNat):=by
 have:∀ n:Fin 16,HIGH[n.val]?=some (X9b n.val):=by decide +kernel
 rw [Yx,this ⟨n,h⟩]; rfl
theorem shr4 (c:UInt8):((c.toNat:Int) / 2 ^ (4:Int).toNat)=((c.toNat / 16:Nat):Int):=by
 show (c.toNat:Int) / 16=_
 omega
theorem and15 (c:UInt8):bits .and .u8 (c.toNat:Int) 15=((c.toNat % 16:Nat):Int) :=
 eq_of_beq (Xj (p:=fun c=>bits .and .u8 (c.toNat:Int) 15 == ((c.toNat % 16:Nat):Int)) (by decide +kernel) c)
theorem X7t (c:UInt8) (w:World) :
  Calls Tryz.prog 138 [U8 c.toNat].toArray w (Ret fun v w'=>v=.bool (plain c)∧w=w'):=by
 refine calls Xmd rfl Tryz.ntmps138 rfl (.seq (.q 1 rfl (.seq (.t 3 rfl (.gval rfl rfl (fun hg1=>(.move (.of rfl))) rfl (.gval rfl rfl (fun hg1=>(.leq (.gd hg1 rfl) (.of rfl))) rfl (.val (.pand (.of rfl) (.of rfl) (.of rfl)) rfl (.q 1 rfl (.gval rfl rfl (fun hg1=>(.move (.of rfl))) rfl (.gval rfl rfl (fun hg1=>(.geq (.gd hg1 rfl) (.of rfl))) rfl (.gval rfl rfl (fun hg1=>(.move (.gd hg1 rfl))) rfl (.gval2 rfl rfl rfl (fun hg1 hg2=>(.move (.of rfl))) rfl (.gval2 rfl rfl rfl (fun hg1 hg2=>(.leq (.gd2 hg1 hg2 rfl) (.of rfl))) rfl (.gval rfl rfl (fun hg1=>(.pand (.gd hg1 rfl) (.gd hg1 rfl) (.of rfl))) rfl (.val (.por (.of rfl) (.of rfl) (.of rfl)) rfl (.q 1 rfl (.gval rfl rfl (fun hg1=>(.move (.of rfl))) rfl (.gval rfl rfl (fun hg1=>(.geq (.gd hg1 rfl) (.of rfl))) rfl (.gval rfl rfl (fun hg1=>(.move (.gd hg1 rfl))) rfl (.gval2 rfl rfl rfl (fun hg1 hg2=>(.move (.of rfl))) rfl (.gval2 rfl rfl rfl (fun hg1 hg2=>(.leq (.gd2 hg1 hg2 rfl) (.of rfl))) rfl (.gval rfl rfl (fun hg1=>(.pand (.gd hg1 rfl) (.gd hg1 rfl) (.of rfl))) rfl (.val (.por (.of rfl) (.of rfl) (.of rfl)) rfl (.q 1 rfl (.gval rfl rfl (fun hg1=>(.move (.of rfl))) rfl (.gval rfl rfl (fun hg1=>(.eql (.gd hg1 rfl) (.of rfl))) rfl (.val (.por (.of rfl) (.of rfl) (.of rfl)) rfl (.q 1 rfl (.gval rfl rfl (fun hg1=>(.move (.of rfl))) rfl (.gval rfl rfl (fun hg1=>(.eql (.gd hg1 rfl) (.of rfl))) rfl (.val (.por (.of rfl) (.of rfl) (.of rfl)) rfl (.q 1 rfl (.gval rfl rfl (fun hg1=>(.move (.of rfl))) rfl (.gval rfl rfl (fun hg1=>(.eql (.gd hg1 rfl) (.of rfl))) rfl (.val (.por (.of rfl) (.of rfl) (.of rfl)) rfl (.q 1 rfl (.gval rfl rfl (fun hg1=>(.move (.of rfl))) rfl (.gval rfl rfl (fun hg1=>(.eql (.gd hg1 rfl) (.of rfl))) rfl (.val (.por (.of rfl) (.of rfl) (.of rfl)) rfl (.q 1 rfl (.nil (.ret (Xe Tryz.results138 rfl ?_)))))))))))))))))))))))))))))))))))))))))))
 exact ⟨_,rfl,congrArg Value.bool (Xic c),rfl⟩
theorem X8f (c:UInt8) (B w:World) (I:Im) (hd:DigAt I) (As:List X9) (hS:Sat B w I As) :
  Calls Tryz.prog 182 [U8 c.toNat].toArray w (Ret fun v w'=>v=S (X7a c)∧Sat B w' I As):=by
 refine calls Tryz.func182 rfl Tryz.ntmps182 rfl (.seq (.q 1 rfl (.seq ?_)))
 have h16:c.toNat / 16<16:=by have:=c.toNat_lt; omega
 have h15:c.toNat % 16<16:=by omega
 refine .tail 8 (by kernel_rfl) (by kernel_rfl) ?_
 replace hS:=hS.drew; generalize w.drew=w at hS ⊢
 refine .val (.move (.of rfl)) rfl (.val (.shr (.of rfl) (.of rfl) (by decide) (by decide)) rfl ?_)
 rw [shr4 c]
 refine .val (.arrAddrI (i:=((c.toNat / 16:Nat):Int)) (.of rfl) (.of rfl) (by omega) (by omega) Xk4 Qs5) rfl ?_
 refine WT.val (.ldI (.of rfl) hS (hd.add _) Qg5 (by rw [Y1d,Y2d,Y1i,Yk]; exact Xhn (n:=c.toNat / 16) h16)) rfl ?_
 refine .val (.move (.of rfl)) rfl (.val (.ibits (.inl rfl) (.of rfl) (.of rfl)) rfl ?_)
 rw [and15 c]
 refine .val (.arrAddrI (i:=((c.toNat % 16:Nat):Int)) (.of rfl) (.of rfl) (by omega) (by omega) Xk4 Qs5) rfl ?_
 refine WT.val (.ldI (.of rfl) hS (hd.add _) Qg5 (by rw [Y1d,Y2d,Y1i,Yk]; exact Xhn (n:=c.toNat % 16) h15)) rfl ?_
 refine .nil ?_
 show WL _ _ _ _ _ _ _
 refine .buildSlice (cs:=[_,_,_]) hS (X5 (.of rfl) (X5 (.of rfl) (X5 (.of rfl) X6))) X19 Qs5 Qz5 rfl rfl rfl rfl ?_
 clear hS; intro b11 w hS
 refine WL.val (.bytesStr (l:=X7a c) (b:=b11) (o:=0) (cap:=3) (.of rfl) hS (k:=0) rfl X19 Qu5 Qu9 (fun j hj=>by
  have hj3:j<3:=hj
  match j,hj3 with
  | 0,_=>rfl
  | 1,_=>rfl
  | 2,_=>rfl)) rfl ?_
 refine .q 1 rfl (.nil (.ret (Xe Tryz.results182 rfl ?_)))
 exact ⟨_,rfl,rfl,hS.drop (k:=0) rfl⟩
def upB (c:UInt8):UInt8:=if 97≤c && c≤102 then c - 32 else c
theorem up_low {c:UInt8} (h:97≤c.toNat∧c.toNat≤102):(c.toNat:Int) - 32=((upB c).toNat:Int):=by
 have:=Xj (p:=fun c=>!(decide (97≤c.toNat∧c.toNat≤102)) || (c.toNat:Int) - 32 == ((upB c).toNat:Int)) (by decide +kernel) c
 simpa [h] using this
theorem up_not {c:UInt8} (h:¬ (97≤c.toNat∧c.toNat≤102)):upB c=c:=by
 have:=Xj (p:=fun c=>decide (97≤c.toNat∧c.toNat≤102) || upB c == c) (by decide +kernel) c
 simpa [h] using this
theorem up_hit {c:UInt8} {i:Nat} (h:i<16) (he:upB c=HIGH.getD i 0):X2b c=(i:Int):=by
 have:=Xj (p:=fun c=>(List.range 16).all fun i=>!(upB c == HIGH.getD i 0) || X2b c == (i:Int)) (by decide +kernel) c
 have:=Y18.1 this i (Y35.2 h)
 simpa [he] using this
theorem Xnn {c:UInt8} (h:∀ i,i<16→HIGH.getD i 0≠upB c):X2b c=-1:=by
 have:=Xj (p:=fun c=>(List.range 16).any (fun i=>HIGH.getD i 0 == upB c) || X2b c == -1) (by decide +kernel) c
 simp only [Y1w,beq_iff_eq] at this
 rcases this with h1 | h1
 ·obtain ⟨i,hi,h2⟩:=Y38.1 h1
  simp only [beq_iff_eq] at h2
  exact absurd h2 (h i (Y35.1 hi))
 ·exact h1
theorem Xc1 (c:UInt8) (B w:World) (I:Im) (hd:DigAt I) (As:List X9) (hS:Sat B w I As) :
  Calls Tryz.prog 236 [U8 c.toNat].toArray w (Ret fun v w'=>v=I64 (X2b c)∧Sat B w' I As):=by
 refine calls Tryz.func236 rfl Tryz.ntmps236 rfl (.seq (.q 1 rfl ?_))
 refine WC.cutS (σ:=UInt8) (fun u=>[(0,U8 u.toNat)]) (fun u w=>u=upB c∧Sat B w I As) ?_ ?_
 ·
  refine .seq (.t 3 rfl (.gval rfl rfl (fun hg1=>(.move (.of rfl))) rfl (.gval rfl rfl (fun hg1=>(.leq (.gd hg1 rfl) (.of rfl))) rfl (.val (.pand (.of rfl) (.of rfl) (.of rfl)) rfl (.nil ?_)))))
  refine WC.cond rfl (fun hb10=>?_) (fun hb10=>?_)
  ·
   have hc10:=hb10; try simp only [Y5] at hc10
   refine .t 1 rfl ?_
   refine WL.val (.subx (.of rfl) (.of rfl) (by rw [IntKind.wrap_u8]; simp only [Yn,decide_eq_true_eq] at hb10; omega)) rfl ?_
   refine .q 1 rfl (.nil ?_)
   refine ⟨upB c,⟨?_,trivial⟩,rfl,hS⟩
   have h97:97≤c.toNat∧c.toNat≤102:=by simp only [Yn,decide_eq_true_eq] at hb10; omega
   show some (Value.int .u8 ((c.toNat:Int) - 32))=some (U8 ((upB c).toNat:Int))
   rw [up_low h97]
  have hc10:=hb10; try simp only [Y5] at hc10
  refine .skip ?_
  refine ⟨upB c,⟨?_,trivial⟩,rfl,hS⟩
  have h97:¬ (97≤c.toNat∧c.toNat≤102):=by simp only [Bool.and_eq_false_iff,decide_eq_false_iff_not] at hb10; omega
  show some (U8 (c.toNat:Int))=some (U8 ((upB c).toNat:Int))
  rw [up_not h97]
 rintro u w ⟨hu,hS⟩
 change WC _ _ _ _ [(0,U8 u.toNat)] w
 refine .seq (.seq (.region (.val (.ldsI (us:=bcs HIGH) (.of rfl) hS hd Tryz.isAgg258 Tryz.sizeOf258 rfl (fun _ _ h=>h)) rfl (.q 1 rfl (.nil (.block (.loop (σ:=Nat) (fun i=>[(0,U8 u.toNat),(13,.agg (bcs HIGH).toArray),(14,I64 (i:Nat))]) (fun i w=>i≤16∧(∀ j,j<i→HIGH.getD j 0≠u)∧Sat B w I As) (fun i=>16 - i) 0 ⟨rfl,rfl,rfl,trivial⟩ ⟨by decide,fun _ h=>absurd h (by omega),hS⟩ ?_)))))))
 rintro i w ⟨hi,hno,hS⟩
 change WC _ _ _ _ [(0,U8 u.toNat),(13,.agg (bcs HIGH).toArray),(14,I64 (i:Nat))] w
 refine .seq (.q 1 rfl (.seq ?_))
 refine WC.cond rfl (fun hb15=>?_) (fun hb15=>?_)
 ·
  have hc15:=hb15; try simp only [Y5] at hc15
  refine .skip (.seq (.block (.seq (.t 1 rfl ?_))))
  refine WL.val (.indexArr (vs:=bcs HIGH) (v:=U8 (HIGH.getD i 0).toNat) (.of rfl) (.of rfl) (by omega) (by omega) Xk4 Qs5 Qg5 (by rw [Yx,Yk,Yd,Y7 (show i<HIGH.length by have:HIGH.length=16:=rfl; omega)]; rfl)) rfl ?_
  refine .q 2 rfl (.nil (.seq (.q 3 rfl ?_)))
  refine WC.cond rfl (fun hb20=>?_) (fun hb20=>?_)
  ·
   have hc20:=hb20; try simp only [Y5] at hc20
   refine .seq (.q 2 rfl (.ret (Xe Tryz.results236 rfl ?_)))
   refine ⟨_,rfl,?_,hS⟩
   simp only [beq_iff_eq] at hb20
   rw [hu] at hb20
   rw [up_hit (c:=c) (i:=i) (by omega) (Yz.1 (by omega))]
  have hc20:=hb20; try simp only [Y5] at hc20
  refine .skip (.region (.run 2 rfl ⟨⟨by omega,by omega⟩,trivial⟩ (.nil ?_)))
  refine ⟨i+1,⟨rfl,rfl,rfl,trivial⟩,⟨by omega,fun j hj=>?_,hS⟩,by omega⟩
  rcases Yv j i with h1 | h1
  ·exact hno j h1
  ·have e:j=i:=by omega
   subst e
   simp only [beq_eq_false_iff_ne] at hb20
   exact fun e=>hb20 (by rw [e])
 have hc15:=hb15; try simp only [Y5] at hc15
 refine .exit (.seq (.q 1 rfl (.ret (Xe Tryz.results236 rfl ?_))))
 refine ⟨_,rfl,?_,hS⟩
 rw [hu] at hno
 rw [Xnn (c:=c) (fun j hj=>hno j (by omega))]
def tval (a b:Int):Int:=IntKind.u8.wrap (bits .or .i64 (IntKind.i64.wrap (a*2 ^ (4:Int).toNat)) (bits .and .i64 b 15))
theorem Xib (a b:UInt8) (ha:0≤X2b a) (hb:0≤X2b b):tval (X2b a) (X2b b)=((Pc.byteOf a b).toNat:Int):=by
 rw [X6v a b ha hb]
 have h1:=X1e a
 have h2:=X1e b
 have h:∀ x y:Fin 16,tval (x.val:Int) (y.val:Int)=16*(x.val:Int)+(y.val:Int):=by decide +kernel
 have:=h ⟨(X2b a).toNat,by omega⟩ ⟨(X2b b).toNat,by omega⟩
 simp only [Int.toNat_of_nonneg ha,Int.toNat_of_nonneg hb] at this
 exact this
theorem Xlp (s:List UInt8) (i:Int) (h0:0≤i) (h1:i≤9223372036854775800) (B w:World) (I:Im) (hd:DigAt I) (As:List X9) (hS:Sat B w I As) :
  Calls Tryz.prog 214 [S s,I64 i].toArray w (Ret fun v w'=>v=(if (s.length:Int)≤i+2 then .tuple #[.int .u8 0,.bool false] else .tuple #[.int .u8 (tval (X2b (at_ s (i+1))) (X2b (at_ s (i+2)))),.bool (decide (0≤X2b (at_ s (i+1))) && decide (0≤X2b (at_ s (i+2))))])∧Sat B w' I As):=by
 refine calls Tryz.func214 rfl Tryz.ntmps214 rfl (.seq (.q 2 rfl (.seq (.seq (.region (.run 5 rfl ⟨⟨by omega,by omega⟩,Qu9,trivial⟩ (.nil ?_)))))))
 refine WC.cond rfl (fun hb12=>?_) (fun hb12=>?_)
 ·
  have hc12:=hb12; try simp only [Y5] at hc12
  refine .seq (.q 2 rfl (.ret (X1g Tryz.results214 rfl rfl ?_)))
  exact ⟨_,rfl,by rw [if_pos hc12],hS⟩
 have hc12:=hb12; try simp only [Y5] at hc12
 refine .skip (.seq (.quiet (by kernel_rfl) (by kernel_rfl) hS (.val (fun w hS=>(.move (.of rfl))) rfl (.val (fun w hS=>(.move (.of rfl))) rfl (.val (fun w hS=>(.add (.of rfl) (.of rfl) ⟨by omega,by omega⟩)) rfl (.val (fun w hS=>(.index (.of rfl) (.of rfl) (by omega) (by omega) Qu9)) rfl (.call Tryz.func236 rfl (X0 (.of rfl) X4) rfl (fun w hS=>Xc1 (at_ s (i+1)) B w I hd _ hS) (.val (fun w hS=>(.move (.of rfl))) rfl (.val (fun w hS=>(.move (.of rfl))) rfl (.val (fun w hS=>(.add (.of rfl) (.of rfl) ⟨by omega,by omega⟩)) rfl (.val (fun w hS=>(.index (.of rfl) (.of rfl) (by omega) (by omega) Qu9)) rfl (.call Tryz.func236 rfl (X0 (.of rfl) X4) rfl (fun w hS=>Xc1 (at_ s (i+2)) B w I hd _ hS) (.val (fun w hS=>(.assign (.of rfl))) rfl (.val (fun w hS=>(.assign (.of rfl))) rfl (.nil ?_)))))))))))))))
 clear hS; intro w hS
 refine .seq (.t 1 rfl (.val (.shl (.of rfl) (.of rfl) (by decide) (by decide)) rfl (.q 1 rfl (.val (.ibits (.inl rfl) (.of rfl) (.of rfl)) rfl (.val (.ibits (.inr (.inl rfl)) (.of rfl) (.of rfl)) rfl (.val (.cvw (.of rfl) Qu3 Qu5) rfl (.q 3 rfl (.gval rfl rfl (fun hg1=>(.move (.of rfl))) rfl (.gval rfl rfl (fun hg1=>(.geq (.gd hg1 rfl) (.of rfl))) rfl (.val (.pand (.of rfl) (.of rfl) (.of rfl)) rfl (.q 2 rfl (.nil (.ret (X1g Tryz.results214 rfl rfl ?_))))))))))))))
 exact ⟨_,rfl,by rw [if_neg (by omega)]; rfl,hS⟩
theorem X7m (c:UInt8) (b:Bool) (B w:World) (I:Im) (hd:DigAt I) (As:List X9) (hS:Sat B w I As) :
  Calls Tryz.prog 181 [U8 c.toNat,.bool b].toArray w (Ret fun v w'=>v=S (if (b && !plain c)=true then X7a c else [c])∧Sat B w' I As):=by
 refine calls Tryz.func181 rfl Tryz.ntmps181 rfl (.seq (.q 1 rfl (.seq (.seq (.t 2 rfl (.gval rfl rfl (fun hg1=>(.move (.of rfl))) rfl (.gcall (T:=fun w=>Sat B w I As) rfl rfl rfl Xmd rfl (fun hg1=>(X0 (.gd hg1 rfl) X4)) rfl (fun hg1=>X18 (X7t c w) hS) hS ?_)))))))
 clear hS; rintro w hS
 refine .gval rfl rfl (fun hg1=>(.not (.gd hg1 rfl))) rfl (.val (.pand (.of rfl) (.of rfl) (.of rfl)) rfl (.nil ?_))
 refine WC.cond rfl (fun hb10=>?_) (fun hb10=>?_)
 ·
  have hc10:=hb10; try simp only [Y5] at hc10
  refine .seq (.t 1 rfl (.call Tryz.func182 rfl (X0 (.of rfl) X4) rfl (X8f c B w I hd _ hS) ?_))
  clear hS
  rintro _ w ⟨rfl,hS⟩
  refine .q 1 rfl (.nil (.ret (Xe Tryz.results181 rfl ?_)))
  exact ⟨_,rfl,by rw [if_pos hb10],hS⟩
 have hc10:=hb10; try simp only [Y5] at hc10
 refine .skip (.seq (.t 1 rfl (.buildSlice (cs:=[_]) hS (X5 (.of rfl) X6) X19 Qs5 Qz5 rfl rfl rfl rfl ?_)))
 clear hS; intro b14 w hS
 refine .val (.str1 (c:=c) (.of rfl) hS (k:=0) rfl rfl X19 Qu5 Qu9) rfl (.q 1 rfl (.nil (.ret (Xe Tryz.results181 rfl ?_))))
 exact ⟨_,rfl,by rw [if_neg (by rw [hb10]; simp)],hS.drop (k:=0) rfl⟩
theorem X5p (bb:Nat) (p v:Value) (hp:p=.pointer none∨p=ptr bb 0) (B w:World) (I:Im) (F:List X9) (hS:Sat B w I (blk bb [p,v] 245::F)) :
  Calls Tryz.prog 232 [ptr bb 0].toArray w (Ret fun u w'=>u=.tuple #[]∧Sat B w' I (blk bb [ptr bb 0,v] 245::F)):=by
 rcases hp with rfl | rfl
 ·
  refine calls Xlm rfl Tryz.ntmps232 rfl (.seq (.t 2 rfl (.val (.fieldAddr 0 (.of rfl) X72 rfl rfl Xj9 rfl) rfl (.val (.ld (.of rfl) hS (k:=0) rfl Tryz.isAgg243 rfl) rfl (.val (.eqp (.of rfl) (.of rfl) Xjl) rfl (.nil (.condT (rfl) (.t 2 rfl (.val (.toUnsafe (.of rfl) hS (k:=0) rfl Xjl Tryz.underlying286 X57 (by decide) (by simp)) rfl (.val (.extern Tryz.func247 (by kernel_rfl) (by kernel_rfl) (by kernel_rfl) (e:=Extern.AbiNoEscape.same) (by kernel_rfl) (X0 (.of rfl) X4) (Go.Lib.run_noEscape w _)) rfl (.val (.fromUnsafe (.of rfl) hS (k:=0) rfl Tryz.underlying286 Xjl X57 (by kernel_rfl)) rfl (.q 1 rfl (.val (.fieldAddr 0 (.of rfl) X72 rfl rfl Xj9 rfl) rfl (.st1 hS (k:=0) rfl (.of rfl) (.of rfl) rfl Xj9 (by simp) ?_))))))))))))))
  clear hS; intro w hS; try dsimp only [List.set] at hS
  refine .nil (X7d Tryz.results232 ?_)
  exact ⟨_,rfl,rfl,hS⟩
 ·
  refine calls Xlm rfl Tryz.ntmps232 rfl (.seq (.t 2 rfl (.val (.fieldAddr 0 (.of rfl) X72 rfl rfl Xj9 rfl) rfl (.val (.ld (.of rfl) hS (k:=0) rfl Tryz.isAgg243 rfl) rfl (.val (.eqp (.of rfl) (.of rfl) Xjl) rfl (.nil (.condF (rfl) (.seq (.t 2 rfl (.val (.fieldAddr 0 (.of rfl) X72 rfl rfl Xj9 rfl) rfl (.val (.ld (.of rfl) hS (k:=0) rfl Tryz.isAgg243 rfl) rfl (.q 1 rfl (.val (.nepSame (.of rfl) (.of rfl) Xjl X57 trivial) rfl (.nil (.condF (rfl) (.skip (X7d Tryz.results232 ?_)))))))))))))))))
  exact ⟨_,rfl,rfl,hS⟩
theorem Xah (bb:Nat) (p v:Value) (l:List UInt8) (c:UInt8) (hp:p=.pointer none∨p=ptr bb 0) (B w:World) (I:Im) (F:List X9) (hS:Sat B w I (blk bb [p,v] 245::Vec 5 1 v l.length (bcs l)::F)) (hl:l.length≤140737488000000) :
  Calls Tryz.prog 205 [ptr bb 0,U8 c.toNat].toArray w (Ret fun u w'=>u=.nilIface∧∃ v',Sat B w' I (blk bb [ptr bb 0,v'] 245::Vec 5 1 v' (l ++ [c]).length (bcs (l ++ [c]))::F)):=by
 refine calls Tryz.func205 rfl Tryz.ntmps205 rfl (.seq (.q 1 rfl (.seq (.t 1 rfl (.call Xlm rfl (X0 (.of rfl) X4) rfl (X5p bb p v hp B w I _ hS) ?_)))))
 clear hS
 rintro _ w ⟨rfl,hS⟩
 refine .nil (.seq ?_)
 obtain ⟨va,vc,rfl,hvc,_⟩:=hS.vecSlice (k:=1) rfl
 refine .t 3 rfl ?_
 refine WL.val (.fieldAddr 1 (.of rfl) X72 rfl rfl X7v rfl) rfl ?_
 refine WL.val (.ld (.of rfl) hS (k:=0) rfl Xd2 rfl) rfl ?_
 refine .q 1 rfl (.buildSlice (cs:=[_]) hS (X5 (.of rfl) X6) X19 Qs5 Qz5 rfl rfl rfl rfl ?_)
 clear hS; intro b13 w hS
 refine WL.append (size:=1) (bytes:=1) hS (.of rfl) (.of rfl) (k:=1) rfl X19 X86 rfl rfl rfl rfl rfl rfl rfl ⟨by omega,by unfold maxLen; omega⟩ rfl ?_
 clear hS; intro v14 w hS; try dsimp only [List.set] at hS
 obtain ⟨a14,c14,rfl,hcap14,_⟩:=hS.vecSlice (k:=1) (v:=v14) rfl
 refine .q 1 rfl ?_
 refine WL.val (.fieldAddr 1 (.of rfl) X72 rfl rfl X7v rfl) rfl ?_
 refine WL.st1 hS (k:=0) rfl (.of rfl) (.of rfl) rfl X7v (by simp) ?_
 clear hS; intro w hS; try dsimp only [List.set] at hS
 refine .nil (.seq (.q 1 rfl (.ret (Xe Tryz.results205 rfl ?_))))
 exact ⟨_,rfl,rfl,_,by simpa using hS⟩
theorem X13 (bb:Nat) (p v:Value) (l s:List UInt8) (hp:p=.pointer none∨p=ptr bb 0) (B w:World) (I:Im) (F:List X9) (hS:Sat B w I (blk bb [p,v] 245::Vec 5 1 v l.length (bcs l)::F)) (hl:l.length+s.length≤140737488000000) :
  Calls Tryz.prog 206 [ptr bb 0,S s].toArray w (Ret fun u w'=>u=.tuple #[I64 s.length,.nilIface]∧∃ v',Sat B w' I (blk bb [ptr bb 0,v'] 245::Vec 5 1 v' (l ++ s).length (bcs (l ++ s))::F)):=by
 refine calls Xgv rfl Tryz.ntmps206 rfl (.seq (.q 2 rfl (.seq (.t 1 rfl (.call Xlm rfl (X0 (.of rfl) X4) rfl (X5p bb p v hp B w I _ hS) ?_)))))
 clear hS
 rintro _ w ⟨rfl,hS⟩
 refine .nil (.seq ?_)
 obtain ⟨va,vc,rfl,hvc,_⟩:=hS.vecSlice (k:=1) rfl
 refine .t 3 rfl (.val (.fieldAddr 1 (.of rfl) X72 rfl rfl X7v rfl) rfl (.val (.ld (.of rfl) hS (k:=0) rfl Xd2 rfl) rfl (.q 1 rfl (.appendStr hS (.of rfl) (.of rfl) (k:=1) rfl X19 Qu9 X86 rfl rfl rfl (by omega) rfl ?_))))
 clear hS; intro v14 w hS; dsimp only [List.set] at hS
 obtain ⟨a14,c14,rfl,hcap14,_⟩:=hS.vecSlice (k:=1) (v:=v14) rfl
 refine .q 1 rfl (.val (.fieldAddr 1 (.of rfl) X72 rfl rfl X7v rfl) rfl (.st1 hS (k:=0) rfl (.of rfl) (.of rfl) rfl X7v (by simp) ?_))
 clear hS; intro w hS; try dsimp only [List.set] at hS
 refine .nil (.seq (.region (.run 4 rfl ⟨Qu9,trivial⟩ (.nil (.ret (X1g Tryz.results206 rfl rfl ?_))))))
 exact ⟨_,rfl,rfl,_,by simpa using hS⟩
set_option maxRecDepth 8000 in
theorem X6a (bb:Nat) (p v:Value) (l:List UInt8) (hv:l=[]→v=.slice none 0 0) (B w:World) (I:Im) (F:List X9) (hS:Sat B w I (blk bb [p,v] 245::Vec 5 1 v l.length (bcs l)::F)) :
  Calls Tryz.prog 207 [ptr bb 0].toArray w (Ret fun u w'=>u=S l∧Sat B w' I F):=by
 by_cases h0:l=[]
 ·obtain rfl:=hv h0
  subst h0
  refine calls Xi6 rfl Tryz.ntmps207 rfl (.seq (.q 1 rfl (.seq (.tail 10 (by kernel_rfl) (by kernel_rfl) ?_))))
  replace hS:=hS.drew; generalize w.drew=w at hS ⊢
  refine .val (.move (.of rfl)) rfl (.val (.nilCheck (.of rfl)) rfl (.val (.fieldAddr 1 (.of rfl) X72 rfl rfl X7v rfl) rfl (.val (.ld (.of rfl) hS (k:=0) rfl Xd2 rfl) rfl (.val (.sliceDataNil (.of rfl)) rfl (.val (.move (.of rfl)) rfl (.val (.nilCheck (.of rfl)) rfl (.val (.fieldAddr 1 (.of rfl) X72 rfl rfl X7v rfl) rfl (.val (.ld (.of rfl) hS (k:=0) rfl Xd2 rfl) rfl (.val (.lenSlice (.of rfl) X19) rfl (.nil ?_))))))))))
  show WL _ _ _ _ _ _ _
  refine .val (.unsafeStringNone (.of rfl) (.of rfl)) rfl (.q 1 rfl (.nil (.ret (Xe Tryz.results207 rfl ?_))))
  exact ⟨_,rfl,rfl,(hS.drop (k:=0) rfl).drop (k:=0) rfl⟩
 ·have h1:0<l.length:=Y1q.2 h0
  obtain ⟨vb,vc,r,rfl,hv1,hv2,hv3,hv4,hT⟩:=hS.vecOpen (k:=1) rfl h1
  clear hS; have hS:=hT; clear hT; try dsimp only [List.set] at hS
  have h63:l.length≤9223372036854775807:=by unfold maxLen at hv2; omega
  refine calls Xi6 rfl Tryz.ntmps207 rfl (.seq (.q 1 rfl (.seq (.tail 10 (by kernel_rfl) (by kernel_rfl) ?_))))
  replace hS:=hS.drew; generalize w.drew=w at hS ⊢
  refine .val (.move (.of rfl)) rfl (.val (.nilCheck (.of rfl)) rfl (.val (.fieldAddr 1 (.of rfl) X72 rfl rfl X7v rfl) rfl (.val (.ld (.of rfl) hS (k:=0) rfl Xd2 rfl) rfl (.val (.sliceData (.of rfl) (by omega)) rfl (.val (.move (.of rfl)) rfl (.val (.nilCheck (.of rfl)) rfl (.val (.fieldAddr 1 (.of rfl) X72 rfl rfl X7v rfl) rfl (.val (.ld (.of rfl) hS (k:=0) rfl Xd2 rfl) rfl (.val (.lenSlice (.of rfl) X19) rfl (.nil ?_))))))))))
  show WL _ _ _ _ _ _ _
  refine .unsafeString hS (k:=1) rfl (.of rfl) (.of rfl) h0 Tryz.underlying274 (by kernel_rfl) (by omega) rfl ?_
  clear hS; intro w hS; try dsimp only [List.eraseIdx] at hS
  refine .q 1 rfl (.nil (.ret (Xe Tryz.results207 rfl ?_)))
  exact ⟨_,rfl,rfl,hS.drop (k:=0) rfl⟩
theorem Xhb (c:UInt8) (B w:World) (I:Im) (hd:DigAt I) (As:List X9) (hS:Sat B w I As):Calls Tryz.prog 181 [U8 c.toNat,.bool false].toArray w (Ret fun v w'=>v=S [c]∧Sat B w' I As) :=
 (X7m c false B w I hd As hS).mono fun e w' he=>by
  obtain ⟨v,rfl,rfl,h⟩:=he
  exact ⟨_,rfl,by simp,h⟩
theorem Xhk (c:UInt8) (B w:World) (I:Im) (hd:DigAt I) (As:List X9) (hS:Sat B w I As):Calls Tryz.prog 181 [U8 c.toNat,.bool true].toArray w (Ret fun v w'=>v=S (one c)∧Sat B w' I As) :=
 (X7m c true B w I hd As hS).mono fun e w' he=>by
  obtain ⟨v,rfl,rfl,h⟩:=he
  refine ⟨_,rfl,?_,h⟩
  unfold one
  cases plain c <;> rfl
theorem Xmv (s:List UInt8) (i:Nat) (h1:i≤9223372036854775800) (B w:World) (I:Im) (hd:DigAt I) (As:List X9) (hS:Sat B w I As):Calls Tryz.prog 214 [S s,I64 (i:Nat)].toArray w (Ret fun v w'=>∃ tv ok,v=.tuple #[.int .u8 tv,.bool ok]∧(match Pc.told (s.drop (i+1)) with | none=>ok=false | some b=>ok=true∧tv=(b.toNat:Int))∧Sat B w' I As) :=
 (Xlp s (i:Int) (by omega) (by omega) B w I hd As hS).mono fun e w' he=>by
  obtain ⟨v,rfl,rfl,h⟩:=he
  by_cases hl:s.length≤i+2
  ·have:Pc.told (s.drop (i+1))=none:=by
    have hl:(s.drop (i+1)).length≤1:=by rw [Yj]; omega
    match s.drop (i+1),hl with
    | [],_=>rfl
    | [_],_=>rfl
   rw [if_pos (by omega),this]
   exact ⟨_,rfl,0,false,rfl,rfl,h⟩
  ·have e1:s.drop (i+1)=at_ s ((i:Int)+1)::at_ s ((i:Int)+2)::s.drop (i+3):=by
    rw [Xc s (show i+1<s.length by omega),Xc s (show i+1+1<s.length by omega)]
    rfl
   rw [if_neg (by omega),e1]
   refine ⟨_,rfl,_,_,rfl,?_,h⟩
   simp only [Pc.told]
   by_cases hn:X2b (at_ s ((i:Int)+1))<0∨X2b (at_ s ((i:Int)+2))<0
   ·rw [if_pos hn]
    simp only [Bool.and_eq_false_iff,decide_eq_false_iff_not]
    omega
   ·rw [if_neg hn]
    refine ⟨?_,Xib _ _ (by omega) (by omega)⟩
    simp only [Yn,decide_eq_true_eq]
    omega
set_option maxHeartbeats 400000 in
set_option maxRecDepth 4000 in
theorem Xll (s:List UInt8) (hl:s.length≤1000000) (B w:World) (I:Im) (hd:DigAt I) (As:List X9) (hS:Sat B w I As) :
  Calls Tryz.prog 180 [S s,.func (.func 181) #[] #[]].toArray w (Ret fun v w'=>v=(match X2s s with | none=>.tuple #[S [],I64 11] | some t=>.tuple #[S t,I64 0])∧Sat B w' I As):=by
 refine calls Xkx rfl Tryz.ntmps180 rfl (.seq (.q 2 rfl (.seq (.region (.allocA (cs:=[_,_]) hS Xp3 rfl ?_)))))
 clear hS; intro b6 w hS
 refine .nil (.seq (.seq (.q 1 rfl (.block ?_))))
 replace hS:=(hS.vecNil 5 1).pick 1 rfl; try dsimp only [List.eraseIdx] at hS
 refine .loop (σ:=List UInt8×Value×Value×Nat) (fun ⟨out,p,v,i⟩=>[(0,S s),(1,.func (.func 181) #[] #[]),(6,ptr b6 0),(7,I64 (i:Nat))]) (fun ⟨out,p,v,i⟩ w=>i≤s.length∧out.length+(s.length - i)*3≤s.length*3∧X2s s=(X2s (s.drop i)).map (out ++ ·)∧(p=.pointer none∨p=ptr b6 0)∧(out=[]→v=.slice none 0 0)∧Sat B w I (blk b6 [p,v] 245::Vec 5 1 v (out).length (bcs (out))::As)) (fun ⟨out,p,v,i⟩=>s.length - i) ([],.pointer none,.slice none 0 0,0) ⟨rfl,rfl,rfl,rfl,trivial⟩ ⟨Yp _,by simp,by simp,.inl rfl,fun _=>rfl,hS⟩ ?_
 rintro ⟨out,p,v,i⟩ w ⟨hi,hol,hno,hp,hpv,hS⟩
 change WC _ _ _ _ [(0,S s),(1,.func (.func 181) #[] #[]),(6,ptr b6 0),(7,I64 (i:Nat))] w
 refine .seq (.seq (.region (.run 4 rfl ⟨Qu9,trivial⟩ (.nil ?_))))
 refine WC.cond rfl (fun hb13=>?_) (fun hb13=>?_)
 ·
  have hc13:=hb13; try simp only [Y5] at hc13
  refine .skip (.seq (.block (.seq (.seq (.region (.run 4 rfl ⟨⟨⟨by omega,by omega⟩,Qu9⟩,trivial⟩ (.nil ?_)))))))
  refine WC.cond rfl (fun hb19=>?_) (fun hb19=>?_)
  ·
   have hc19:=hb19; try simp only [Y5] at hc19
   refine .seq (.region (.run 4 rfl ⟨⟨⟨by omega,by omega⟩,Qu9⟩,trivial⟩ (.vcall (cap:=[]) Tryz.func181 rfl (.of rfl) (X0 (.of rfl) (X0 (.of rfl) X4)) rfl (Xhb (at_ s (i:Int)) B w I hd _ hS) ?_)))
   clear hS
   rintro _ w ⟨rfl,hS⟩
   refine WL.call Xgv rfl (X0 (.of rfl) (X0 (.of rfl) X4)) rfl (X13 b6 p v out ([at_ s (i:Int)]) hp B w I _ hS (by simp only [Y6,Yh]; omega)) ?_
   clear hS
   rintro _ w ⟨rfl,v2,hS⟩
   refine .nil (.exit (.region (.run 3 rfl ⟨⟨by omega,by omega⟩,trivial⟩ (.nil ?_))))
   have e37:at_ s (i:Int)≠37:=fun e=>by rw [e] at hb19; simp at hb19
   refine ⟨(out ++ [at_ s (i:Int)],ptr b6 0,v2,i+1),⟨rfl,rfl,rfl,rfl,trivial⟩,⟨by (try dsimp only); omega,by (try dsimp only); rw [Y0]; simp only [Y6,Yh]; omega,?_,.inr rfl,fun h=>absurd h (by simp),hS⟩,by (try dsimp only); omega⟩
   rw [hno,Xc s (by omega),Xo,if_neg e37]
   cases X2s (s.drop (i+1)) <;> simp
  have hc19:=hb19; try simp only [Y5] at hc19
  refine .skip (.seq (.t 2 rfl (.call Tryz.func214 rfl (X0 (.of rfl) (X0 (.of rfl) X4)) rfl (Xmv s i (by omega) B w I hd _ hS) ?_)))
  clear hS
  rintro _ w ⟨tv,ok,rfl,htv,hS⟩
  refine .q 5 rfl (.nil (.seq (.seq (.q 2 rfl ?_))))
  refine WC.cond rfl (fun hb33=>?_) (fun hb33=>?_)
  ·
   have hc33:=hb33; try simp only [Y5] at hc33
   refine .seq (.q 2 rfl (.ret (X1g Xlb rfl rfl ?_)))
   refine ⟨_,rfl,?_,(hS.drop (k:=0) rfl).drop (k:=0) rfl⟩
   have e37:at_ s (i:Int)=37:=Yz.1 (by simp only [bne_eq_false_iff_eq] at hb19; show (at_ s (i:Int)).toNat=37; omega)
   have ht:Pc.told (s.drop (i+1))=none:=by
    cases ht:Pc.told (s.drop (i+1)) with
    | none=>rfl
    | some v=>rw [ht] at htv; rw [htv.1] at hb33; simp at hb33
   have:X2s s=none:=by rw [hno,Xc s (by omega),Xo,if_pos e37,ht]; rfl
   rw [this]
  have hc33:=hb33; try simp only [Y5] at hc33
  refine .skip (.seq ?_)
  have e37:at_ s (i:Int)=37:=Yz.1 (by simp only [bne_eq_false_iff_eq] at hb19; show (at_ s (i:Int)).toNat=37; omega)
  obtain ⟨vb,hv⟩:∃ v,Pc.told (s.drop (i+1))=some v:=by
   cases ht:Pc.told (s.drop (i+1)) with
   | some v=>exact ⟨v,rfl⟩
   | none=>rw [ht] at htv; simp only at htv; rw [htv] at hb33; simp at hb33
  rw [hv] at htv
  obtain ⟨_,rfl⟩:=htv
  have hvl:=X1y hv
  rw [Yj] at hvl
  have hone3:(one vb).length≤3:=by unfold one; split <;> simp [X7a]
  have hone0:out ++ one vb≠[]:=fun e=>by
   have:=(List.append_eq_nil_iff.1 e).2
   unfold one at this; split at this <;> simp [X7a] at this
  refine .t 2 rfl (.vcall (cap:=[]) Tryz.func181 rfl (.of rfl) (X0 (.of rfl) (X0 (.of rfl) X4)) rfl (Xhk vb B w I hd _ hS) ?_)
  clear hS
  rintro _ w ⟨rfl,hS⟩
  refine .call Xgv rfl (X0 (.of rfl) (X0 (.of rfl) X4)) rfl (X13 b6 p v out (one vb) hp B w I _ hS (by omega)) ?_
  clear hS
  rintro _ w ⟨rfl,v2,hS⟩
  refine .nil (.region (.run 3 rfl ⟨⟨by omega,by omega⟩,trivial⟩ (.nil (.region (.run 3 rfl ⟨⟨by omega,by omega⟩,trivial⟩ (.nil ?_))))))
  refine ⟨(out ++ one vb,ptr b6 0,v2,i+3),⟨rfl,rfl,rfl,rfl,trivial⟩,⟨by (try dsimp only); omega,by (try dsimp only); rw [Y0]; omega,?_,.inr rfl,fun h=>absurd h hone0,hS⟩,by (try dsimp only); omega⟩
  rw [hno,Xc s (by omega),Xo,if_pos e37,hv]
  simp only [Y1l]
  cases X2s (s.drop (i+3)) <;> simp [Y8,Y2m]
 have hc13:=hb13; try simp only [Y5] at hc13
 refine .exit (.seq (.region (.call Xi6 rfl (X0 (.of rfl) X4) rfl (X6a b6 p v out hpv B w I _ hS) ?_)))
 clear hS
 rintro _ w ⟨rfl,hS⟩
 refine .q 2 rfl (.nil (.ret (X1g Xlb rfl rfl ?_)))
 refine ⟨_,rfl,?_,hS⟩
 have:X2s s=some out:=by rw [hno,Y15 (by omega),X17]; simp
 rw [this]
theorem each_e (s:List UInt8) (hl:s.length≤1000000) (B w:World) (I:Im) (hd:DigAt I) (As:List X9) (hS:Sat B w I As):Calls Tryz.prog 180 [S s,.func (.func 181) #[] #[]].toArray w (Ret fun v w'=>∃ n1 n2,v=.tuple #[n1,n2]∧.tuple #[n1,n2]=(match X2s s with | none=>Value.tuple #[S [],I64 11] | some t=>.tuple #[S t,I64 0])∧Sat B w' I As) :=
 (Xll s hl B w I hd As hS).mono fun e w' he=>by
  obtain ⟨v,rfl,rfl,h⟩:=he
  cases X2s s with
  | none=>exact ⟨_,rfl,_,_,rfl,rfl,h⟩
  | some t=>exact ⟨_,rfl,_,_,rfl,rfl,h⟩
theorem Xcq (s:List UInt8) (hl:s.length≤1000000) (B w:World) (I:Im) (hd:DigAt I) (As:List X9) (hS:Sat B w I As) :
  Calls Tryz.prog 142 [S s].toArray w (Ret fun v w'=>v=(match X2s s with | none=>.tuple #[S [],I64 11] | some t=>.tuple #[S t,I64 0])∧Sat B w' I As):=by
 refine calls Tryz.func142 rfl Tryz.ntmps142 rfl (.seq (.q 2 rfl (.seq (.t 1 rfl (.call Xkx rfl (X0 (.of rfl) (X0 (.of rfl) X4)) rfl (each_e s hl B w I hd _ hS) ?_)))))
 clear hS
 rintro _ w ⟨n1,n2,rfl,hn,hS⟩
 refine .q 4 rfl (.nil (.ret (X1g Tryz.results142 rfl rfl ?_)))
 exact ⟨_,rfl,hn,hS⟩
end Go.Proofs.YtfibbpgikjggfaaGreatDoor
