/- Part 1 of what the proof stands on: GkA, GkB, GkV, GkC, GkD, GkE, GkF, GkG, GkH, GkS, Flt, Flu, GkR, GkT, GkU, GkX, GkY, GkW, GkJ, GkM, SxA, SxB, SxC, SxD, SxE. -/
import Derived.WalkKit
import Derived.Lib.Strings
import Derived.Deep.Quiet
import Derived.StillTail
import Derived.OrdersHeld
import Derived.Scope
import Derived.Lib.Builder
import Derived.Lib.Bytealg
import Derived.Lib.UnsafeStr
import Derived.Laws.IdiomStrings
import Ieee.Arith
import Derived.Laws.FloatArith
import Derived.Lib.AppendStr
import Derived.Below
import Derived.Laws.RangeAny
import Derived.Lib.MapLaws
import Derived.Defers
import Derived.Lib.LazyBuf
import Derived.Laws.IdiomCopy
import Derived.WideMake
import Derived.ArgAppend
set_option linter.unusedVariables false
set_option linter.unusedSimpArgs false
namespace Gk
theorem cs0 : (∀ (p : Prop) [Decidable p], (decide p = true) = p) ∧ (∀ (p : Prop) [Decidable p], (decide p = false) ↔ ¬ p) ∧ (∀ {α : Type} [BEq α] [LawfulBEq α] {a b : α}, (a == b) = true ↔ a = b) ∧ (∀ {α : Type} [BEq α] [LawfulBEq α] {a b : α}, (a == b) = false ↔ a ≠ b) ∧ (∀ {α : Type} [BEq α] [LawfulBEq α] {a b : α}, (a != b) = true ↔ a ≠ b) ∧ (∀ (b : Bool), ((!b) = true) = (b = false)) ∧ (∀ (b : Bool), ((!b) = false) = (b = true)) ∧ (∀ (a b : Bool), ((a || b) = true) = (a = true ∨ b = true)) ∧ (∀ (a b : Bool), ((a && b) = true) = (a = true ∧ b = true)) ∧ (∀ (a b : Bool), ((a || b) = false) = (a = false ∧ b = false)) ∧ (∀ (a b : Bool), ((a && b) = false) = (a = false ∨ b = false)) ∧ (∀ {α : Type} (a b : α), (a ≠ b) = ¬ (a = b)) ∧ (∀ {a b : Int}, ¬ a < b ↔ b ≤ a) ∧ (∀ {a b : Int}, ¬ a ≤ b ↔ b < a) ∧ (∀ {α : Type} [BEq α] [LawfulBEq α] {a b : α}, (a != b) = false ↔ a = b) ∧ (∀ (b : Bool), (¬ (b = true)) = (b = false)) ∧ (∀ (b : Bool), (¬ (b = false)) = (b = true)) :=
 ⟨fun p _ => decide_eq_true_eq, fun p _ => decide_eq_false_iff_not, beq_iff_eq, beq_eq_false_iff_ne, bne_iff_ne, (by intro b; cases b <;> decide), (by intro b; cases b <;> decide), (by intro a b; cases a <;> cases b <;> decide), (by intro a b; cases a <;> cases b <;> decide), (by intro a b; cases a <;> cases b <;> decide), (by intro a b; cases a <;> cases b <;> decide), fun _ _ => ne_eq _ _, Int.not_lt, Int.not_le, bne_eq_false_iff_eq, (by intro b; cases b <;> decide), (by intro b; cases b <;> decide)⟩
end Gk
abbrev Y0:=@List.getElem?_eq_some_iff
abbrev Y1:=@Nat.le_of_ble_eq_true
abbrev Y2:=@List.length_append
abbrev Y3:=@List.length_cons
abbrev Y4:=@Nat.eq_of_beq_eq_true
abbrev Y5:=@Bool.and_eq_true
abbrev Y6:=@List.length_drop
abbrev Y7:=@List.append_assoc
abbrev Y8:=@List.getD_eq_getElem?_getD
abbrev Y9:=@Array.getD_eq_getD_getElem?
abbrev Ya:=@List.getElem?_append_left
abbrev Yb:=@List.getElem?_eq_getElem
abbrev Yc:=@List.eq_nil_of_length_eq_zero
abbrev Yd:=@Nat.le_refl
abbrev Ye:=@List.length_nil
abbrev Yf:=@Gk.cs0
abbrev Yg:=@Array.getElem?_eq_some_iff
abbrev Yh:=@Int.toNat_natCast
abbrev Yi:=@List.length_take
abbrev Yj:=@Array.getElem?_eq_getElem
abbrev Yk:=@List.getElem?_map
abbrev Yl:=@List.map_cons
abbrev Yn:=@List.getElem?_append_right
abbrev Yo:=@List.length_map
abbrev Yp:=@List.getElem?_drop
abbrev Yq:=@Nat.zero_add
abbrev Yr:=@List.cons_append
abbrev Ys:=@Int.natCast_nonneg
abbrev Yt:=@Nat.add_zero
abbrev Yu:=@List.getElem?_set_self
abbrev Yw:=@List.mem_of_getElem?
abbrev Yx:=@List.drop_succ_cons
abbrev Yy:=@List.drop_drop
abbrev Yz:=@List.drop_eq_getElem_cons
abbrev Y10:=@Nat.add_assoc
abbrev Y11:=@List.perm_append_comm
abbrev Y12:=@List.getElem?_take
abbrev Y13:=@Option.map_eq_some_iff
abbrev Y14:=@Nat.zero_le
abbrev Y15:=@List.getElem?_eq_none
abbrev Y16:=@List.mem_cons_of_mem
abbrev Y17:=@List.ext_getElem?
abbrev Y18:=@List.map_append
abbrev Y19:=@List.mem_cons
abbrev Y1a:=@Option.map_some
abbrev Y1b:=@Nat.ble_eq_true_of_le
abbrev Y1c:=@Nat.lt_or_ge
abbrev Y1d:=@List.append_nil
abbrev Y1e:=@List.nil_append
abbrev Y1f:=@List.getElem?_set
abbrev Y1g:=@Array.length_toList
abbrev Y1h:=@List.take_append_drop
abbrev Y1i:=@List.drop_zero
abbrev Y1j:=@List.getElem?_modify
abbrev Y1k:=@List.take_of_length_le
abbrev Y1l:=@Array.getElem?_setIfInBounds
abbrev Y1m:=@Bool.false_eq_true
abbrev Y1n:=@List.mem_append
abbrev Y1o:=@List.mem_cons_self
abbrev Y1p:=@Nat.add_mul
abbrev Y1q:=@Nat.add_sub_cancel_left
abbrev Y1r:=@List.drop_length
abbrev Y1s:=@Array.getElem?_modify
abbrev Y1t:=@Option.isSome_iff_exists
abbrev Y1u:=@UInt8.toNat_ofNat'
abbrev Y1v:=@Option.bind_eq_some_iff
abbrev Y1w:=@List.size_toArray
abbrev Y1x:=@Nat.mul_one
abbrev Y1y:=@Nat.le_of_mul_le_mul_right
abbrev Y1z:=@Nat.le_trans
abbrev Y20:=@UInt8.le_iff_toNat_le
abbrev Y21:=@List.getElem?_append
abbrev Y22:=@Nat.mul_le_mul_right
abbrev Y23:=@List.take_append_of_le_length
abbrev Y24:=@Option.bind_some
abbrev Y25:=@Option.getD_some
abbrev Y26:=@List.drop_of_length_le
abbrev Y27:=@Nat.lt_of_lt_of_le
abbrev Y28:=@Bool.eq_iff_iff
abbrev Y29:=@Bool.or_eq_true
abbrev Y2a:=@List.getElem?_toArray
abbrev Y2b:=@List.idxOf_lt_length_of_mem
abbrev Y2c:=@List.nodup_cons
abbrev Y2d:=@Nat.beq_refl
abbrev Y2e:=@Nat.min_eq_left
abbrev Y2f:=@List.flatten_cons
abbrev Y2g:=@List.eraseIdx_set_eq
abbrev Y2h:=@List.mem_append_left
abbrev Y2i:=@List.mem_range
abbrev Y2j:=@List.getElem_map
abbrev Y2k:=@Nat.mod_eq_of_lt
abbrev Y2l:=@List.dropWhile_cons
abbrev Y2m:=@List.replicate_succ
abbrev Y2n:=@Array.getElem?_replicate
abbrev Y2o:=@List.set_set
abbrev Y2p:=@List.eraseIdx_append_of_lt_length
abbrev Y2q:=@List.mem_filter
abbrev Y2r:=@UInt8.toNat_inj
abbrev Y2s:=@Array.getElem?_setIfInBounds_ne
abbrev Y2t:=@List.takeWhile_append_dropWhile
abbrev Y2u:=@List.take_add_one
abbrev Y2v:=@Nat.lt_trichotomy
abbrev Y2w:=@List.take_left
abbrev Y2x:=@Array.getElem?_toList
abbrev Y2y:=@Nat.pow_succ
abbrev Y2z:=@List.all_eq_true
abbrev Y30:=@List.drop_append
abbrev Y31:=@List.drop_append_of_le_length
abbrev Y32:=@List.lookup_cons
abbrev Y33:=@List.getElem?_of_mem
abbrev Y34:=@List.set_append_left
abbrev Y35:=@List.length_set
abbrev Y36:=@List.takeWhile_cons
abbrev Y37:=@Int.fdiv_eq_ediv_of_nonneg
abbrev Y38:=@List.isPrefixOf_iff_prefix
abbrev Y39:=@List.filter_filter
abbrev Y3a:=@List.map_nil
abbrev Y3b:=@List.mem_map
abbrev Y3c:=@Nat.add_comm
abbrev Y3d:=@Nat.eq_zero_or_pos
abbrev Y3e:=@Nat.succ_mul
abbrev Y3f:=@Option.toList_some
abbrev Y3g:=@Array.mapM_eq_mapM_toList
abbrev Y3h:=@Bool.not_false
abbrev Y3i:=@List.drop_left
abbrev Y3j:=@List.pairwise_iff_getElem
abbrev Y3k:=@List.nodup_append
abbrev Y3l:=@List.getElem?_replicate
abbrev Y3m:=@Array.toList_map
abbrev Y3n:=@List.filter_cons
abbrev Y3o:=@List.take_append
abbrev Y3p:=@Nat.le_of_not_lt
abbrev Y3q:=@Array.getElem?_eq_none
abbrev Y3r:=@Nat.le_of_eq
abbrev Y3s:=@Nat.sub_zero
abbrev Y3t:=@Option.map_none
abbrev Y3u:=@Option.map_map
abbrev Y3v:=@Nat.le_succ
abbrev Y3w:=@Bool.true_and
abbrev Y3x:=@List.all_cons
abbrev Y3y:=@List.drop_nil
abbrev Y3z:=@List.map_drop
abbrev Y40:=@List.map_take
namespace Gk
open Go
abbrev Env:=List (Nat×Value)
abbrev S (l:List UInt8):Value:=.string ⟨l.toArray⟩
abbrev I64 (n:Int):Value:=.int .i64 n
abbrev U8 (n:Int):Value:=.int .u8 n
theorem X7z {a b:Nat} (h:¬ a=b):Nat.beq a b=false:=by
 cases hb:Nat.beq a b
 ·rfl
 ·exact absurd (Y4 hb) h
def look0:Env→Nat→Option Value
 | [],_=>none
 | (k,v)::L,t=>bif Nat.beq k t then some v else look0 L t
abbrev DK:Nat:=1099511627776
def look (L:Env) (t:Nat):Option Value:=bif Nat.beq t DK then none else look0 L t
def dl (L:Env):List Deferred:=match look0 L DK with
 | some (.func f _ cap)=>[{ target:=.fn f cap,args:=#[] }]
 | some (.map (some r))=>[{ target:=.collected r,args:=#[] }]
 | _=>[]
theorem X3c {L:Env} {t:Nat} {v:Value} (h:look L t=some v):t≠DK∧look0 L t=some v:=by
 unfold look at h
 cases hb:Nat.beq t DK with
 | true=>rw [hb] at h; cases h
 | false=>rw [hb] at h; exact ⟨fun e=>by subst e; simp at hb,h⟩
theorem X7i {L:Env} {t:Nat} {v:Value} (ht:t≠DK) (h:look0 L t=some v):look L t=some v:=by
 unfold look
 rw [X7z ht]
 exact h
structure Holds (n:Nat) (L:Env) (a:Act):Prop where
 size:a.tmps.size=n
 small:n≤DK
 defers:a.defers=dl L
 get:∀ t v,look L t=some v→a.tmps.getD t undef=v
def ev (L:Env):Operand→Option Value
 | .tmp t=>look L t
 | .const v=>some v
 | .global g=>some (.pointer (some ⟨g,0,none⟩))
 | .func f=>some (.func (.func f) #[] #[])
theorem X9b {n:Nat} {L:Env} {a:Act} (h:Holds n L a) {x:Operand} {v:Value} (hx:ev L x=some v):a.eval x=v:=by
 cases x with
 | tmp t=>exact h.get t v hx
 | const u=>simpa [ev,Act.eval] using hx
 | global g=>simpa [ev,Act.eval] using hx
 | func f=>simpa [ev,Act.eval] using hx
theorem Holds.put {n:Nat} {L:Env} {a:Act} (h:Holds n L a) {d:Nat} (hd:Nat.blt d n=true) (v:Value):Holds n ((d,v)::L) (a.put (some d) v):=by
 have hd':d<n:=by have:=Y1 hd; omega
 have hk:¬ d=DK:=fun e=>by have:=h.small; omega
 refine ⟨by simp [Act.put,h.size],h.small,?_,fun t u hu=>?_⟩
 ·have:dl ((d,v)::L)=dl L:=by unfold dl; rw [look0,X7z hk]; rfl
  rw [this]; exact h.defers
 obtain ⟨h1,hu⟩:=X3c hu
 unfold look0 at hu
 by_cases e:d=t
 ·subst e
  simp at hu
  subst hu
  simp [Act.put,h.size,hd',Y9]
 ·have hb:=X7z e
  rw [hb] at hu
  have:=h.get t u (X7i h1 hu)
  simpa [Act.put,Y9,Y1l,e] using this
theorem Holds.skip {n:Nat} {L:Env} {a:Act} (h:Holds n L a) (v:Value):Holds n L (a.put none v):=h
def Sub:Env→Env→Prop
 | [],M=>match look0 M DK with
  | none=>True
  | some _=>False
 | (t,v)::L,M=>look M t=some v∧Sub L M
theorem Sub.look0:∀ {L M:Env},Sub L M→∀ {t v},look0 L t=some v→look M t=some v
 | [],_,_,_,_,h=>by cases h
 | (k,u)::L,M,hs,t,v,h=>by
  unfold Gk.look0 at h
  by_cases e:k=t
  ·subst e
   simp at h
   subst h
   exact hs.1
  ·have hb:=X7z e
   rw [hb] at h
   exact hs.2.look0 h
theorem Sub.none:∀ {L M:Env},Sub L M→Gk.look0 M DK=.none
 | [],M,h=>by
  unfold Sub at h
  cases e:Gk.look0 M DK with
  | none=>rfl
  | some v=>rw [e] at h; exact h.elim
 | (k,u)::L,M,h=>h.2.none
theorem Sub.look {L M:Env} (hs:Sub L M) {t v} (h:look L t=some v):look M t=some v:=hs.look0 (X3c h).2
theorem Sub.dl {L M:Env} (hs:Sub L M):dl M=dl L:=by
 unfold Gk.dl
 rw [hs.none]
 cases e:Gk.look0 L DK with
 | none=>rfl
 | some v=>have:=(X3c (hs.look0 e)).1; exact absurd rfl this
theorem Holds.sub {n:Nat} {L M:Env} {a:Act} (h:Holds n M a) (hs:Sub L M):Holds n L a:=⟨h.size,h.small,h.defers.trans hs.dl,fun t v hv=>h.get t v (hs.look hv)⟩
abbrev X1u:=Exit→Env→World→Prop
def lift (n:Nat) (K:X1u):Exit→Act→World→Prop:=fun e a w=>∃ L,Holds n L a∧K e L w
def WL (P:Program) (n:Nat) (ops:Array Oper) (K:X1u) (l:List Oper) (L:Env) (w:World):Prop:=∀ a,Holds n L a→wpList P ops (lift n K) l a w
def WC (P:Program) (n:Nat) (c:Code) (K:X1u) (L:Env) (w:World):Prop:=∀ a,Holds n L a→c.wp P (lift n K) a w
def Xa1 (next:Env→World→Prop) (K:X1u):X1u
 | .normal,L,w=>next L w
 | e,L,w=>K e L w
def inBlk (id:Nat) (K:X1u):X1u
 | .exit i,L,w=>bif Nat.beq i id then K .normal L w else K (.exit i) L w
 | e,L,w=>K e L w
section
variable {P:Program} {n:Nat} {K:X1u} {L:Env} {w:World}
theorem WC.mono {c:Code} {K':X1u} (h:WC P n c K L w) (hk:∀ e L w,K e L w→K' e L w):WC P n c K' L w:=fun a ha=>wp_mono (h a ha) fun _ _ _ ⟨L',h1,h2⟩=>⟨L',h1,hk _ _ _ h2⟩
theorem WC.sub {c:Code} {M:Env} (h:WC P n c K M w) (hs:Sub M L):WC P n c K L w:=fun a ha=>h a (ha.sub hs)
theorem WL.sub {ops:Array Oper} {l:List Oper} {M:Env} (h:WL P n ops K l M w) (hs:Sub M L):WL P n ops K l L w:=fun a ha=>h a (ha.sub hs)
theorem WC.seq {x y:Code} (h:WC P n x (Xa1 (fun L w=>WC P n y K L w) K) L w):WC P n (.seq x y) K L w:=by
 intro a ha
 refine wp_seq (wp_mono (h a ha) ?_)
 rintro e a' w' ⟨L',h1,h2⟩
 cases e with
 | normal=>exact h2 a' h1
 | _=>exact ⟨L',h1,h2⟩
theorem WC.cut {x y:Code} (J:Env→World→Prop) (h:WC P n x (Xa1 J K) L w) (h2:∀ L w,J L w→WC P n y K L w):WC P n (.seq x y) K L w :=
 WC.seq (h.mono fun e L w he=>by cases e <;> first | exact h2 _ _ he | exact he)
theorem WC.skip (h:K .normal L w):WC P n .skip K L w:=fun _ ha=>wp_skip ⟨L,ha,h⟩
theorem WC.label {l:Nat} (h:K .normal L w):WC P n (.label l) K L w:=fun _ ha=>wp_label ⟨L,ha,h⟩
theorem WC.exit {id:Nat} (h:K (.exit id) L w):WC P n (.exit id) K L w:=fun _ ha=>wp_exit ⟨L,ha,h⟩
theorem WC.ret (h:K .ret L w):WC P n .ret K L w:=fun _ ha=>wp_ret ⟨L,ha,h⟩
theorem WC.block {id:Nat} {c:Code} (h:WC P n c (inBlk id K) L w):WC P n (.block id c) K L w:=by
 intro a ha
 refine wp_block (wp_mono (h a ha) ?_)
 rintro e a' w' ⟨L',h1,h2⟩
 cases e with
 | exit i =>
  unfold Exit.inBlock
  unfold inBlk at h2
  by_cases e:i=id
  ·subst e
   simp only [if_true]
   simp at h2
   exact ⟨L',h1,h2⟩
  ·simp only [e,if_false]
   have hb:=X7z e
   exact ⟨L',h1,by simpa [hb] using h2⟩
 | _=>exact ⟨L',h1,h2⟩
theorem WC.cond {c:Operand} {x y:Code} {b:Bool} (hc:ev L c=some (.bool b)) (ht:b=true→WC P n x K L w) (hf:b=false→WC P n y K L w):WC P n (.cond c x y) K L w:=by
 intro a ha
 have he:=X9b ha hc
 cases b with
 | true=>exact wp_cond_true he (ht rfl a ha)
 | false=>exact wp_cond_false he (hf rfl a ha)
theorem WC.condT {c:Operand} {x y:Code} (hc:ev L c=some (.bool true)) (h:WC P n x K L w):WC P n (.cond c x y) K L w:=WC.cond hc (fun _=>h) (fun e=>by cases e)
theorem WC.condF {c:Operand} {x y:Code} (hc:ev L c=some (.bool false)) (h:WC P n y K L w):WC P n (.cond c x y) K L w:=WC.cond hc (fun e=>by cases e) (fun _=>h)
theorem WC.loop {c:Code} {σ:Type} (E:σ→Env) (inv:σ→World→Prop) (μ:σ→Nat) (s0:σ) (hs:Sub (E s0) L) (h0:inv s0 w)
  (round:∀ s w,inv s w→WC P n c (Xa1 (fun L' w'=>∃ s',Sub (E s') L'∧inv s' w'∧μ s'<μ s) K) (E s) w):WC P n (.loop c) K L w:=by
 intro a ha b k cs
 have key:∀ m s a w,μ s=m→Holds n (E s) a→inv s w →
   ∃ e a' w',lift n K e a' w'∧Arrives P (lone (b.at a (.code c::.inLoop c::k)) cs w) b k cs e a' w':=by
  intro m
  induction m using Nat.strongRecOn with
  | _ m ih =>
   intro s a w hm ha hi
   obtain ⟨e,a1,w1,⟨L1,hL,hq⟩,harr⟩:=round s w hi a ha b (.inLoop c::k) cs
   cases e with
   | normal =>
    obtain ⟨s',hsub,hi',hlt⟩:=hq
    obtain ⟨e2,a2,w2,hq2,harr2⟩:=ih (μ s') (hm ▸ hlt) s' a1 w1 rfl (hL.sub hsub) hi'
    exact ⟨e2,a2,w2,hq2,.of_steps (Steps.trans harr (.one step_inLoop)) harr2⟩
   | exit id=>exact ⟨_,a1,w1,⟨L1,hL,hq⟩,.pass (x:=.inLoop c) rfl (fun _ _=>.inl (by simp)) harr⟩
   | goto l=>exact ⟨_,a1,w1,⟨L1,hL,hq⟩,.pass (x:=.inLoop c) rfl (fun _ _=>.inl (by simp)) harr⟩
   | ret=>exact ⟨_,a1,w1,⟨L1,hL,hq⟩,.pass (x:=.inLoop c) rfl (fun _ _=>.inl (by simp)) harr⟩
   | panic ch=>exact ⟨_,a1,w1,⟨L1,hL,hq⟩,.pass (x:=.inLoop c) rfl (fun _ _=>.inl (by simp)) harr⟩
   | outgrown=>exact ⟨_,a1,w1,⟨L1,hL,hq⟩,.pass (x:=.inLoop c) rfl (fun _ _=>.inl (by simp)) harr⟩
 obtain ⟨e,a',w',hq,harr⟩:=key _ s0 a w rfl (ha.sub hs) h0
 exact ⟨e,a',w',hq,.of_steps (.one step_loop) harr⟩
theorem WC.region {id:Nat} {l:List Oper} (h:WL P n l.toArray K l L w):WC P n (.region id l.toArray false) K L w:=fun a ha=>wp_region_lit (h a ha)
def X89 (P:Program) (n:Nat) (fn:Func) (R:Ending→World→Prop):X1u
 | .normal,L,w | .ret,L,w=>dl L=[]∧∀ a,Holds n L a→∃ v,(results fn a.tmps).run P w=.ok v w∧R (.returned v) w
 | _,_,_=>False
def X69:Nat→List Value→Env
 | _,[]=>[]
 | i,v::l=>(i,v)::X69 (i+1) l
theorem X23:∀ (l:List Value) (i t:Nat) (v:Value),look0 (X69 i l) t=some v→i≤t∧l[t - i]?=some v
 | [],_,_,_,h=>by cases h
 | u::l,i,t,v,h=>by
  unfold X69 look0 at h
  by_cases e:i=t
  ·subst e
   simp at h
   exact ⟨Yd _,by simp [h]⟩
  ·have hb:=X7z e
   rw [hb] at h
   obtain ⟨h1,h2⟩:=X23 l (i+1) t v h
   exact ⟨by omega,by rw [show t - i=(t - (i+1))+1 by omega]; simpa using h2⟩
theorem X5d {fn:Func} {args:List Value} (hn:fn.ntmps=n) (hle:(Nat.ble args.length n && Nat.ble n DK)=true):Holds n (X69 0 args) { tmps:=args.toArray ++ Array.replicate (fn.ntmps - args.toArray.size) undef,defers:=[] }:=by
 have hle':args.length≤n∧n≤DK:=by simpa using hle
 refine ⟨by simp [hn]; omega,hle'.2,?_,fun t v hv=>?_⟩
 ·unfold dl
  cases e:look0 (X69 0 args) DK with
  | none=>rfl
  | some v =>
   obtain ⟨_,h2⟩:=X23 args 0 DK v e
   have:=(Y0.1 h2).1
   simp only [Y3s] at this
   omega
 obtain ⟨_,h2⟩:=X23 args 0 t v (X3c hv).2
 simp only [Y3s] at h2
 have ht:t<args.length:=(Y0.1 h2).1
 rw [Yb ht] at h2
 simpa [Y9,Array.getElem?_append,ht] using h2
theorem calls {f:FuncId} {fn:Func} {c:Code} {args:List Value} {R:Ending→World→Prop} (hf:P.funcs[f]?=some fn) (hb:fn.body=some c) (hn:fn.ntmps=n) (hle:(Nat.ble args.length n && Nat.ble n DK)=true)
  (h:WC P n c (X89 P n fn R) (X69 0 args) w):Calls P f args.toArray w R:=by
 refine calls_of_wp hf hb (wp_mono (h _ (X5d hn hle)) ?_)
 rintro e a' w' ⟨L',h1,h2⟩
 cases e with
 | normal=>exact ⟨h1.defers.trans h2.1,h2.2 a' h1⟩
 | ret=>exact ⟨h1.defers.trans h2.1,h2.2 a' h1⟩
 | _=>exact h2.elim
section rets
variable {fn:Func} {R:Ending→World→Prop}
theorem end0 (h:fn.results=#[]) (hR:R (.returned (.tuple #[])) w) (hd:dl L=[]:=by rfl):X89 P n fn R .normal L w:=⟨hd,fun a _=>⟨_,by simp [results,h],hR⟩⟩
theorem X38 {t:Nat} {v:Value} (h:fn.results=#[.tmp t]) (hv:look L t=some v) (hR:R (.returned v) w) (hd:dl L=[]:=by rfl):X89 P n fn R .ret L w :=
 ⟨hd,fun a ha=>⟨v,by have:=ha.get t v hv; simp [results,h]; simpa [Y9] using this,hR⟩⟩
theorem ret2 {t u:Nat} {v x:Value} (h:fn.results=#[.tmp t,.tmp u]) (hv:look L t=some v) (hx:look L u=some x) (hR:R (.returned (.tuple #[v,x])) w) (hd:dl L=[]:=by rfl):X89 P n fn R .ret L w :=
 ⟨hd,fun a ha=>⟨_,by have h1:=ha.get t v hv; have h2:=ha.get u x hx; simp only [Y9] at h1 h2; simp [results,h,h1,h2],hR⟩⟩
theorem ret3 {t u r:Nat} {v x y:Value} (h:fn.results=#[.tmp t,.tmp u,.tmp r]) (hv:look L t=some v) (hx:look L u=some x) (hy:look L r=some y) (hR:R (.returned (.tuple #[v,x,y])) w) (hd:dl L=[]:=by rfl):X89 P n fn R .ret L w :=
 ⟨hd,fun a ha=>⟨_,by have h1:=ha.get t v hv; have h2:=ha.get u x hx; have h3:=ha.get r y hy; simp only [Y9] at h1 h2 h3; simp [results,h,h1,h2,h3],hR⟩⟩
end rets
end
end Gk
namespace Gk
open Go
def Ev (n:Nat) (L:Env) (x:Operand) (v:Value):Prop:=∀ a,Holds n L a→a.eval x=v
def gd (b want:Bool) (v:Value):Value:=bif b == want then v else undef
def Ex (P:Program) (n:Nat) (L:Env) (w:World) (o:Oper) (v:Value) (w':World):Prop:=∀ a,Holds n L a→(execOp a.eval o).run P w=.ok (.value v) w'
def Es (P:Program) (n:Nat) (L:Env) (w:World) (o:Oper) (w':World):Prop:=∀ a,Holds n L a→(execOp a.eval o).run P w=.ok .skip w'
section
variable {P:Program} {n:Nat} {K:X1u} {L:Env} {w w':World} {ops:Array Oper} {rest:List Oper}
theorem Ev.of {x:Operand} {v:Value} (h:ev L x=some v):Ev n L x v:=fun _ ha=>X9b ha h
theorem Ev.gd {x:Operand} {v:Value} {b want:Bool} (hb:b=want) (h:ev L x=some (gd b want v)):Ev n L x v:=fun a ha=>by
 rw [X9b ha h,hb]
 cases want <;> rfl
theorem X2i {o:Oper} (hg:o.guard=none) (y:Nat→Option Bool):Region.wanted o y=true:=by simp [Region.wanted,hg]
theorem WL.nil (h:K .normal L w):WL P n ops K [] L w:=fun a ha=>wpList_nil ⟨L,ha,h⟩
theorem WL.val {d:Nat} {op:Op} {ty:TypeId} {pos:String} {af:Array Edge} {v:Value} (hx:Ex P n L w ⟨some d,op,ty,pos,af,none⟩ v w') (hd:Nat.blt d n=true)
  (h:WL P n ops K rest ((d,v)::L) w'):WL P n ops K (⟨some d,op,ty,pos,af,none⟩::rest) L w:=by
 intro a ha
 refine wpList_plain rfl fun K' hK=>?_
 unfold Oper.wp
 rw [hx a ha]
 exact hK _ _ (h _ (ha.put hd v))
theorem WL.st {op:Op} {ty:TypeId} {pos:String} {af:Array Edge} (hx:Es P n L w ⟨none,op,ty,pos,af,none⟩ w')
  (h:WL P n ops K rest L w'):WL P n ops K (⟨none,op,ty,pos,af,none⟩::rest) L w:=by
 intro a ha
 refine wpList_plain rfl fun K' hK=>?_
 unfold Oper.wp
 rw [hx a ha]
 exact hK _ _ (h _ ha)
theorem Xc4 {a:Act} {L:Env} (ha:Holds n L a) {j t:Nat} {b:Bool} (hj:(ops[j]?).bind (·.dst)=some t) (hb:look L t=some (.bool b)):yielded ops a.tmps j=some b:=by
 have h1:=ha.get t _ hb
 have hlt:t<a.tmps.size:=by
  apply Classical.byContradiction
  intro hn
  rw [Y9,Y3q (by omega)] at h1
  cases h1
 rw [Y9,Yj hlt] at h1
 simp only [Y25] at h1
 have h2:a.tmps[t]?=some (.bool b):=by rw [Yj hlt,h1]
 obtain ⟨o,ho,hd⟩:=Y1v.1 hj
 simp [yielded,ho,hd,h2]
theorem WL.gval {d j t:Nat} {b want:Bool} {op:Op} {ty:TypeId} {pos:String} {af:Array Edge} {v:Value}
  (hj:(ops[j]?).bind (·.dst)=some t) (hb:look L t=some (.bool b)) (hx:b=want→Ex P n L w ⟨some d,op,ty,pos,af,some (j,want)⟩ v w) (hd:Nat.blt d n=true)
  (h:WL P n ops K rest ((d,gd b want v)::L) w):WL P n ops K (⟨some d,op,ty,pos,af,some (j,want)⟩::rest) L w:=by
 intro a ha
 refine wpList_step fun K' hK=>?_
 have hy:=Xc4 ha hj hb
 have hput:=h _ (ha.put hd (Gk.gd b want v))
 unfold Gk.gd at hput
 by_cases e:b=want
 ·rw [if_pos (by simp [Region.wanted,hy,e])]
  unfold Oper.wp
  rw [hx e a ha]
  subst e
  exact hK _ _ (by simpa using hput)
 ·rw [if_neg (by simp [Region.wanted,hy,e])]
  have e':(b == want)=false:=by simpa using e
  rw [e'] at hput
  exact hK _ _ (by simpa using hput)
def gds:List (Bool×Bool)→Value→Value
 | [],v=>v
 | (b,want)::r,v=>gd b want (gds r v)
theorem X3b:∀ {c:List (Bool×Bool)} {v:Value},(∀ p∈c,p.1=p.2)→gds c v=v
 | [],_,_=>rfl
 | (b,want)::r,v,h=>by
  have h1:b=want:=h (b,want) (by simp)
  subst h1
  simp only [gds,Gk.gd,beq_self_eq_true,cond_true]
  exact X3b fun p hp=>h p (Y16 _ hp)
theorem X5b:∀ {c:List (Bool×Bool)} {v:Value},¬ (∀ p∈c,p.1=p.2)→gds c v=undef
 | [],_,h=>absurd (fun _ hp=>by cases hp) h
 | (b,want)::r,v,h=>by
  by_cases e:b=want
  ·subst e
   simp only [gds,Gk.gd,beq_self_eq_true,cond_true]
   exact X5b fun hr=>h fun p hp=>by
    rcases Y19.1 hp with rfl | hp
    ·rfl
    ·exact hr p hp
  ·have e':(b == want)=false:=by simpa using e
   simp only [gds,Gk.gd,e',cond_false]
theorem WL.gvals {d j t:Nat} {c:List (Bool×Bool)} {b want:Bool} {op:Op} {ty:TypeId} {pos:String} {af:Array Edge} {v:Value}
  (hj:(ops[j]?).bind (·.dst)=some t) (ht:Nat.blt t n=true) (hb:look L t=some (gds c (.bool b))) (hx:(∀ p∈c ++ [(b,want)],p.1=p.2)→Ex P n L w ⟨some d,op,ty,pos,af,some (j,want)⟩ v w) (hd:Nat.blt d n=true)
  (h:WL P n ops K rest ((d,gds (c ++ [(b,want)]) v)::L) w):WL P n ops K (⟨some d,op,ty,pos,af,some (j,want)⟩::rest) L w:=by
 intro a ha
 refine wpList_step fun K' hK=>?_
 have hput:=h _ (ha.put hd (gds (c ++ [(b,want)]) v))
 have hlt:t<a.tmps.size:=by have:=Y1 ht; rw [ha.size]; omega
 have hv:=ha.get t _ hb
 have hy:yielded ops a.tmps j=match gds c (.bool b) with | .bool b=>some b | _=>none:=by
  obtain ⟨o,ho,hdd⟩:=Y1v.1 hj
  rw [Y9,Yj hlt] at hv
  simp only [Y25] at hv
  have h2:a.tmps[t]?=some (gds c (.bool b)):=by rw [Yj hlt,hv]
  simp only [yielded,ho,hdd,Y24,h2]
  generalize gds c (.bool b)=g
  cases g <;> rfl
 by_cases e:∀ p∈c ++ [(b,want)],p.1=p.2
 ·have ec:∀ p∈c,p.1=p.2:=fun p hp=>e p (by simp [hp])
  have eb:b=want:=e (b,want) (by simp)
  rw [X3b ec] at hy
  rw [if_pos (by simp [Region.wanted,hy,eb])]
  unfold Oper.wp
  rw [hx e a ha]
  rw [X3b e] at hput
  exact hK _ _ hput
 ·have hw:Region.wanted (⟨some d,op,ty,pos,af,some (j,want)⟩:Oper) (yielded ops a.tmps)=false:=by
   by_cases ec:∀ p∈c,p.1=p.2
   ·rw [X3b ec] at hy
    have eb:¬ b=want:=fun eb=>e fun p hp=>by
     rcases Y1n.1 hp with hp | hp
     ·exact ec p hp
     ·simp at hp; subst hp; exact eb
    simp [Region.wanted,hy,eb]
   ·rw [X5b ec] at hy
    simp [Region.wanted,hy,undef]
  rw [if_neg (by simp [hw])]
  rw [X5b e] at hput
  exact hK _ _ hput
section pure
variable {d:Option Nat} {ty:TypeId} {pos:String} {af:Array Edge} {g:Option (Nat×Bool)}
theorem Ex.move {x:Operand} {v:Value} (hx:Ev n L x v):Ex P n L w ⟨d,.move x,ty,pos,af,g⟩ v w:=fun a ha=>by simp [execOp,hx a ha]
theorem Ex.assign {x:Operand} {v:Value} (hx:Ev n L x v):Ex P n L w ⟨d,.assign x,ty,pos,af,g⟩ v w:=fun a ha=>by simp [execOp,hx a ha]
theorem Ex.pick {c x y:Operand} {b:Bool} {u v:Value} (hc:Ev n L c (.bool b)) (hx:Ev n L x u) (hy:Ev n L y v):Ex P n L w ⟨d,.pick c x y,ty,pos,af,g⟩ (bif b then u else v) w :=
 fun a ha=>by cases b <;> simp [execOp,hx a ha,hy a ha,hc a ha,asBool]
theorem Ex.por {c x y:Operand} {b r:Bool} (hc:Ev n L c (.bool b)) (hx:Ev n L x (.bool true)) (hy:Ev n L y (Gk.gd b false (.bool r))):Ex P n L w ⟨d,.pick c x y,ty,pos,af,g⟩ (.bool (b || r)) w :=
 fun a ha=>by cases b <;> simp [execOp,hx a ha,hy a ha,hc a ha,asBool,Gk.gd]
theorem Ex.pand {c x y:Operand} {b r:Bool} (hc:Ev n L c (.bool b)) (hx:Ev n L x (Gk.gd b true (.bool r))) (hy:Ev n L y (.bool false)):Ex P n L w ⟨d,.pick c x y,ty,pos,af,g⟩ (.bool (b && r)) w :=
 fun a ha=>by cases b <;> simp [execOp,hx a ha,hy a ha,hc a ha,asBool,Gk.gd]
theorem Ex.extract {x:Operand} {i:Nat} {vs:Array Value} {v:Value} (hx:Ev n L x (.tuple vs)) (hi:vs[i]?=some v):Ex P n L w ⟨d,.extract x i,ty,pos,af,g⟩ v w :=
 fun a ha=>by simp [execOp,hx a ha,Instr.extract,hi]
theorem Ex.not {x:Operand} {b:Bool} {t:TypeId} (hx:Ev n L x (.bool b)):Ex P n L w ⟨d,.unOp .not t x,ty,pos,af,g⟩ (.bool (!b)) w :=
 fun a ha=>by simp [execOp,hx a ha,Op.unary]
theorem Ex.nilCheck {x:Operand} {p:Addr} (hx:Ev n L x (.pointer (some p))):Ex P n L w ⟨d,.nilCheck x,ty,pos,af,g⟩ (.pointer (some p)) w :=
 fun a ha=>by simp [execOp,hx a ha]
variable {t t':TypeId} {x y:Operand}
theorem Xi {op:BinOp} {u v r:Value} (hx:Ev n L x u) (hy:Ev n L y v) (he:∀ p q,(eqGuard op t p q u v).run P w=.ok () w) (hr:(binOp op t u v).run P w=.ok r w):Ex P n L w ⟨d,.binOp op t x y t',ty,pos,af,g⟩ r w :=
 fun a ha=>by simp [execOp,hx a ha,hy a ha,he,hr]
theorem Xa (op:BinOp) (k:IntKind) (a b:Int) (p q:Operand):(eqGuard op t p q (.int k a) (.int k b)).run P w=.ok () w:=by
 unfold eqGuard; split <;> simp
theorem X3a (op:BinOp) (a b:ByteArray) (p q:Operand):(eqGuard op t p q (.string a) (.string b)).run P w=.ok () w:=by
 unfold eqGuard; split <;> simp
theorem X4c (op:BinOp) (a b:Bool) (p q:Operand):(eqGuard op t p q (.bool a) (.bool b)).run P w=.ok () w:=by
 unfold eqGuard; split <;> simp
variable {k:IntKind} {i j:Int}
theorem Ex.lss (hx:Ev n L x (.int k i)) (hy:Ev n L y (.int k j)):Ex P n L w ⟨d,.binOp .lss t x y t',ty,pos,af,g⟩ (.bool (decide (i<j))) w :=
 Xi hx hy (Xa _ _ _ _) (by simp [binOp,Op.intCmp])
theorem Ex.leq (hx:Ev n L x (.int k i)) (hy:Ev n L y (.int k j)):Ex P n L w ⟨d,.binOp .leq t x y t',ty,pos,af,g⟩ (.bool (decide (i≤j))) w :=
 Xi hx hy (Xa _ _ _ _) (by simp [binOp,Op.intCmp])
theorem Ex.gtr (hx:Ev n L x (.int k i)) (hy:Ev n L y (.int k j)):Ex P n L w ⟨d,.binOp .gtr t x y t',ty,pos,af,g⟩ (.bool (decide (j<i))) w :=
 Xi hx hy (Xa _ _ _ _) (by simp [binOp,Op.intCmp])
theorem Ex.geq (hx:Ev n L x (.int k i)) (hy:Ev n L y (.int k j)):Ex P n L w ⟨d,.binOp .geq t x y t',ty,pos,af,g⟩ (.bool (decide (j≤i))) w :=
 Xi hx hy (Xa _ _ _ _) (by simp [binOp,Op.intCmp])
theorem Ex.eql (hx:Ev n L x (.int k i)) (hy:Ev n L y (.int k j)):Ex P n L w ⟨d,.binOp .eql t x y t',ty,pos,af,g⟩ (.bool (i == j)) w :=
 Xi hx hy (Xa _ _ _ _) (by simp [binOp,Op.intCmp])
theorem Ex.neq (hx:Ev n L x (.int k i)) (hy:Ev n L y (.int k j)):Ex P n L w ⟨d,.binOp .neq t x y t',ty,pos,af,g⟩ (.bool (i != j)) w :=
 Xi hx hy (Xa _ _ _ _) (by simp [binOp,Op.intCmp])
theorem Ex.addw (hx:Ev n L x (.int k i)) (hy:Ev n L y (.int k j)):Ex P n L w ⟨d,.binOp .add t x y t',ty,pos,af,g⟩ (.int k (k.wrap (i+j))) w :=
 Xi hx hy (Xa _ _ _ _) (by simp [binOp,Op.intArith])
theorem Ex.mulw (hx:Ev n L x (.int k i)) (hy:Ev n L y (.int k j)):Ex P n L w ⟨d,.binOp .mul t x y t',ty,pos,af,g⟩ (.int k (k.wrap (i*j))) w :=
 Xi hx hy (Xa _ _ _ _) (by simp [binOp,Op.intArith])
abbrev Xhf (i:Int):Prop:=-9223372036854775808≤i∧i≤9223372036854775807
theorem Xa5 {i:Int} (h:Xhf i):IntKind.i64.wrap i=i:=by
 obtain ⟨h1,h2⟩:=h
 rw [IntKind.wrap_i64]
 omega
theorem Ex.add (hx:Ev n L x (I64 i)) (hy:Ev n L y (I64 j)) (h:Xhf (i+j)):Ex P n L w ⟨d,.binOp .add t x y t',ty,pos,af,g⟩ (I64 (i+j)) w :=
 Xi hx hy (Xa _ _ _ _) (by simp [binOp,Op.intArith,Xa5 h])
theorem Ex.sub (hx:Ev n L x (I64 i)) (hy:Ev n L y (I64 j)) (h:Xhf (i - j)):Ex P n L w ⟨d,.binOp .sub t x y t',ty,pos,af,g⟩ (I64 (i - j)) w :=
 Xi hx hy (Xa _ _ _ _) (by simp [binOp,Op.intArith,Xa5 h])
theorem Ex.mul (hx:Ev n L x (I64 i)) (hy:Ev n L y (I64 j)) (h:Xhf (i*j)):Ex P n L w ⟨d,.binOp .mul t x y t',ty,pos,af,g⟩ (I64 (i*j)) w :=
 Xi hx hy (Xa _ _ _ _) (by simp [binOp,Op.intArith,Xa5 h])
theorem Ex.eqb {p q:Bool} (hx:Ev n L x (.bool p)) (hy:Ev n L y (.bool q)) (hT:P.underlying t=some .bool):Ex P n L w ⟨d,.binOp .eql t x y t',ty,pos,af,g⟩ (.bool (p == q)) w :=
 Xi hx hy (X4c _ _ _) (run_eql_bool w t p q hT)
theorem Ex.neb {p q:Bool} (hx:Ev n L x (.bool p)) (hy:Ev n L y (.bool q)) (hT:P.underlying t=some .bool):Ex P n L w ⟨d,.binOp .neq t x y t',ty,pos,af,g⟩ (.bool (p != q)) w :=
 Xi hx hy (X4c _ _ _) (by rw [run_neq_bool w t p q hT]; rfl)
theorem Ex.eqp {p:Option Addr} {e:TypeId} (hx:Ev n L x (.pointer p)) (hy:Ev n L y (.pointer none)) (hT:P.underlying t=some (.pointer e)):Ex P n L w ⟨d,.binOp .eql t x y t',ty,pos,af,g⟩ (.bool p.isNone) w :=
 Xi hx hy (fun _ _=>by unfold eqGuard; split <;> simp) (run_eql_pointer_nil w t p (by simp [Program.pointee,hT]))
theorem Ex.nep {p:Option Addr} {e:TypeId} (hx:Ev n L x (.pointer p)) (hy:Ev n L y (.pointer none)) (hT:P.underlying t=some (.pointer e)):Ex P n L w ⟨d,.binOp .neq t x y t',ty,pos,af,g⟩ (.bool (!p.isNone)) w :=
 Xi hx hy (fun _ _=>by unfold eqGuard; split <;> simp) (run_neq_pointer_nil w t p (by simp [Program.pointee,hT]))
variable {l m:List UInt8}
theorem Ex.eqs (hx:Ev n L x (S l)) (hy:Ev n L y (S m)):Ex P n L w ⟨d,.binOp .eql t x y t',ty,pos,af,g⟩ (.bool (l == m)) w :=
 Xi hx hy (X3a _ _ _) (by simp [binOp,Op.stringOp])
theorem Ex.nes (hx:Ev n L x (S l)) (hy:Ev n L y (S m)):Ex P n L w ⟨d,.binOp .neq t x y t',ty,pos,af,g⟩ (.bool (!(l == m))) w :=
 Xi hx hy (X3a _ _ _) (by simp [binOp,Op.stringOp])
theorem Ex.cat (hx:Ev n L x (S l)) (hy:Ev n L y (S m)) (h:((l.length+m.length:Nat):Int)≤9223372036854775807):Ex P n L w ⟨d,.binOp .add t x y t',ty,pos,af,g⟩ (S (l ++ m)) w :=
 Xi hx hy (X3a _ _ _) (by
  have h1:((ByteArray.size ⟨l.toArray⟩+ByteArray.size ⟨m.toArray⟩:Nat):Int)=((l.length+m.length:Nat):Int):=rfl
  have h2:¬ (((l.length+m.length:Nat):Int) > IntKind.i64.max):=by show ¬ ((l.length+m.length:Nat):Int) > 9223372036854775807; omega
  have h3:(⟨l.toArray⟩ ++ ⟨m.toArray⟩:ByteArray)=⟨(l ++ m).toArray⟩:=by
   apply ByteArray.ext
   simp
  simp only [binOp,Op.stringOp,h1,if_neg h2,h3,Sem.run_pure])
theorem X1f {t e:TypeId} (hT:P.underlying t=some (.slice e)):P.elem t=e:=by simp [Program.elem,hT]
theorem Ex.len (hx:Ev n L x (S l)) (hT:P.underlying t=some .string):Ex P n L w ⟨d,.call ⟨.builtin .len,#[x],#[t]⟩,ty,pos,af,g⟩ (I64 l.length) w :=
 fun a ha=>by
  have h:=run_len_string (P:=P) w t ty ⟨l.toArray⟩ hT
  simp [execOp,resolve,invoke,builtin,hx a ha,h,goInt,ByteArray.size]
theorem Ex.lenSlice {p:Option Addr} {c k:Nat} {e:TypeId} (hx:Ev n L x (.slice p k c)) (hT:P.underlying t=some (.slice e)):Ex P n L w ⟨d,.call ⟨.builtin .len,#[x],#[t]⟩,ty,pos,af,g⟩ (I64 k) w :=
 fun a ha=>by
  have h:=run_len_slice (P:=P) w t ty p k c (by rw [X1f hT]; exact hT)
  simp [execOp,resolve,invoke,builtin,hx a ha,h,goInt]
def at_ (l:List UInt8) (i:Int):UInt8:=l.getD i.toNat 0
theorem Ex.index_ {c:UInt8} (hx:Ev n L x (S l)) (hy:Ev n L y (I64 i)) (hi:0≤i) (hc:l[i.toNat]?=some c) (hT:P.underlying t=some .string):Ex P n L w ⟨d,.index t x y,ty,pos,af,g⟩ (U8 c.toNat) w :=
 fun a ha=>by
  have h1:i.toNat<l.length:=(Y0.1 hc).1
  have h2:=(Y0.1 hc).2
  have h3:0≤i∧i<((ByteArray.size ⟨l.toArray⟩:Nat):Int):=⟨hi,by show i<(l.length:Int); omega⟩
  have h:=run_index_string (P:=P) w t ⟨l.toArray⟩ .i64 i hT
  rw [dif_pos h3] at h
  have h4:(⟨l.toArray⟩:ByteArray)[i.toNat]'(by show i.toNat<l.length; omega)=c:=h2
  rw [h4] at h
  simp [execOp,hx a ha,hy a ha,h]
theorem Ex.index (hx:Ev n L x (S l)) (hy:Ev n L y (I64 i)) (hi:0≤i) (hl:i<(l.length:Int)) (hT:P.underlying t=some .string):Ex P n L w ⟨d,.index t x y,ty,pos,af,g⟩ (U8 (at_ l i).toNat) w:=by
 have h1:i.toNat<l.length:=by omega
 refine Ex.index_ hx hy hi ?_ hT
 rw [at_,Y8,Yb h1]
 rfl
theorem Xa0 (l:List UInt8) (a b:Nat):(Value.string ((⟨l.toArray⟩:ByteArray).extract a b))=S ((l.drop a).take (b - a)):=by
 rw [S,Lib.extract_eq]
theorem Ex.sub3 {z:Operand} (hx:Ev n L x (S l)) (hy:Ev n L y (I64 i)) (hz:Ev n L z (I64 j)) (h0:0≤i) (h1:i≤j) (h2:j≤(l.length:Int)) (hT:P.underlying t=some .string) :
  Ex P n L w ⟨d,.slice t x (some y) (some z) none,ty,pos,af,g⟩ (S ((l.drop i.toNat).take (j.toNat - i.toNat))) w:=fun a ha=>by
 have h:=run_slice_string (P:=P) w t ⟨l.toArray⟩ .i64 .i64 i j hT h0 h1 h2
 rw [Xa0] at h
 simp [execOp,hx a ha,hy a ha,hz a ha,run_sliceAt_string w t _ _ _ _ hT,h]
theorem Ex.subFrom (hx:Ev n L x (S l)) (hy:Ev n L y (I64 i)) (h0:0≤i) (h1:i≤(l.length:Int)) (hT:P.underlying t=some .string) :
  Ex P n L w ⟨d,.slice t x (some y) none none,ty,pos,af,g⟩ (S (l.drop i.toNat)) w:=fun a ha=>by
 have h:=run_slice_string_l (P:=P) w t ⟨l.toArray⟩ hT .i64 i h0 h1
 rw [Xa0] at h
 have e:(l.drop i.toNat).take ((⟨l.toArray⟩:ByteArray).size - i.toNat)=l.drop i.toNat:=Y1k (by simp [ByteArray.size])
 rw [e] at h
 simp [execOp,hx a ha,hy a ha,run_sliceAt_string w t _ _ _ _ hT,h]
theorem Ex.subTo {z:Operand} (hx:Ev n L x (S l)) (hz:Ev n L z (I64 j)) (h1:0≤j) (h2:j≤(l.length:Int)) (hT:P.underlying t=some .string) :
  Ex P n L w ⟨d,.slice t x none (some z) none,ty,pos,af,g⟩ (S (l.take j.toNat)) w:=fun a ha=>by
 have h:=run_slice_string_h (P:=P) w t ⟨l.toArray⟩ hT .i64 j h1 h2
 rw [Xa0] at h
 simp only [Y1i,Y3s] at h
 simp [execOp,hx a ha,hz a ha,run_sliceAt_string w t _ _ _ _ hT,h]
theorem Ex.min2 {z:Operand} {ts:Array TypeId} (hx:Ev n L x (.int k i)) (hz:Ev n L z (.int k j)):Ex P n L w ⟨d,.call ⟨.builtin .min,#[x,z],ts⟩,ty,pos,af,g⟩ (.int k (min i j)) w:=fun a ha=>by
 have e:(if j<i then j else i)=min i j:=by split <;> omega
 simp [execOp,resolve,invoke,builtin,hx a ha,hz a ha,Builtin.min_,Builtin.min2,e]
theorem Ex.max2 {z:Operand} {ts:Array TypeId} (hx:Ev n L x (.int k i)) (hz:Ev n L z (.int k j)):Ex P n L w ⟨d,.call ⟨.builtin .max,#[x,z],ts⟩,ty,pos,af,g⟩ (.int k (max i j)) w:=fun a ha=>by
 have e:(if i<j then j else i)=max i j:=by split <;> omega
 simp [execOp,resolve,invoke,builtin,hx a ha,hz a ha,Builtin.max_,Builtin.max2,e]
end pure
end
end Gk
namespace Gk
open Go
def binV:BinOp→Value→Value→Option (Value×Option Prop)
 | .lss,.int k a,.int k' b=>if k=k' then some (.bool (decide (a<b)),none) else none
 | .leq,.int k a,.int k' b=>if k=k' then some (.bool (decide (a≤b)),none) else none
 | .gtr,.int k a,.int k' b=>if k=k' then some (.bool (decide (b<a)),none) else none
 | .geq,.int k a,.int k' b=>if k=k' then some (.bool (decide (b≤a)),none) else none
 | .eql,.int k a,.int k' b=>if k=k' then some (.bool (a == b),none) else none
 | .neq,.int k a,.int k' b=>if k=k' then some (.bool (a != b),none) else none
 | .eql,.string ⟨⟨a⟩⟩,.string ⟨⟨b⟩⟩=>some (.bool (a == b),none)
 | .neq,.string ⟨⟨a⟩⟩,.string ⟨⟨b⟩⟩=>some (.bool (!(a == b)),none)
 | .add,.int .i64 a,.int .i64 b=>some (.int .i64 (a+b),some (Xhf (a+b)))
 | .sub,.int .i64 a,.int .i64 b=>some (.int .i64 (a - b),some (Xhf (a - b)))
 | .mul,.int .i64 a,.int .i64 b=>some (.int .i64 (a*b),some (Xhf (a*b)))
 | .add,.string ⟨⟨a⟩⟩,.string ⟨⟨b⟩⟩=>some (.string ⟨⟨a ++ b⟩⟩,some (((a.length+b.length:Nat):Int)≤9223372036854775807))
 | _,_,_=>none
def X9o (P:Program) (L:Env):Op→Option (Value×Option Prop)
 | .move x=>match ev L x with
  | some v=>some (v,none)
  | none=>none
 | .assign x=>match ev L x with
  | some v=>some (v,none)
  | none=>none
 | .extract x i=>match ev L x with
  | some (.tuple vs)=>match vs[i]? with
   | some v=>some (v,none)
   | none=>none
  | _=>none
 | .nilCheck x=>match ev L x with
  | some (.pointer (some p))=>some (.pointer (some p),none)
  | _=>none
 | .unOp .not _ x=>match ev L x with
  | some (.bool b)=>some (.bool (!b),none)
  | _=>none
 | .binOp op _ x y _=>match ev L x with
  | some u=>match ev L y with
   | some v=>binV op u v
   | none=>none
  | none=>none
 | .call ⟨.builtin .len,⟨[x]⟩,⟨[t]⟩⟩=>match ev L x with
  | some (.string ⟨⟨l⟩⟩)=>some (.int .i64 (l.length:Nat),some (P.underlying t=some .string))
  | some (.slice _ k _)=>some (.int .i64 (k:Nat),some (∃ e,P.underlying t=some (.slice e)))
  | _=>none
 | .index t x y=>match ev L x with
  | some (.string ⟨⟨l⟩⟩)=>match ev L y with
   | some (.int .i64 i)=>some (U8 (at_ l i).toNat,some ((0≤i∧i<(l.length:Int))∧P.underlying t=some .string))
   | _=>none
  | _=>none
 | _=>none
def X9z (P:Program) (n:Nat) (L:Env) (o:Oper):Option (Nat×Value×Option Prop) :=
 match o.dst,o.guard with
 | some d,none=>match Nat.blt d n with
  | true=>match X9o P L o.op with
   | some (v,c)=>some (d,v,c)
   | none=>none
  | false=>none
 | _,_=>none
def Xev (P:Program) (n:Nat):Nat→List Oper→Env→List Oper×Env×Prop
 | 0,l,L=>(l,L,True)
 | _+1,[],L=>([],L,True)
 | k+1,o::r,L=>match X9z P n L o with
  | some (d,v,none)=>Xev P n k r ((d,v)::L)
  | some (d,v,some c)=>match Xev P n k r ((d,v)::L) with
   | (r',L',C)=>(r',L',c∧C)
  | none=>(o::r,L,True)
section
variable {P:Program} {n:Nat} {K:X1u} {L:Env} {w:World} {ops:Array Oper}
def Xc8:Option Prop→Prop
 | none=>True
 | some c=>c
theorem Xhv {d:Option Nat} {ty t t':TypeId} {pos:String} {af:Array Edge} {g:Option (Nat×Bool)} {x y:Operand} {op:BinOp} {u v r:Value} {c:Option Prop} (hx:Ev n L x u) (hy:Ev n L y v) (h:binV op u v=some (r,c)) (hc:Xc8 c):Ex P n L w ⟨d,.binOp op t x y t',ty,pos,af,g⟩ r w:=by
 unfold binV at h
 split at h
 ·split at h
  ·rename_i e; subst e; cases h; exact .lss hx hy
  ·cases h
 ·split at h
  ·rename_i e; subst e; cases h; exact .leq hx hy
  ·cases h
 ·split at h
  ·rename_i e; subst e; cases h; exact .gtr hx hy
  ·cases h
 ·split at h
  ·rename_i e; subst e; cases h; exact .geq hx hy
  ·cases h
 ·split at h
  ·rename_i e; subst e; cases h; exact .eql hx hy
  ·cases h
 ·split at h
  ·rename_i e; subst e; cases h; exact .neq hx hy
  ·cases h
 ·cases h; exact .eqs hx hy
 ·cases h; exact .nes hx hy
 ·cases h; exact .add hx hy hc
 ·cases h; exact .sub hx hy hc
 ·cases h; exact .mul hx hy hc
 ·cases h; exact .cat hx hy hc
 ·cases h
theorem Xbx {d:Option Nat} {ty:TypeId} {pos:String} {af:Array Edge} {g:Option (Nat×Bool)} {op:Op} {v:Value} {c:Option Prop} (h:X9o P L op=some (v,c)) (hc:Xc8 c):Ex P n L w ⟨d,op,ty,pos,af,g⟩ v w:=by
 unfold X9o at h
 split at h
 ·split at h
  ·rename_i hx; cases h; exact .move (.of hx)
  ·cases h
 ·split at h
  ·rename_i hx; cases h; exact .assign (.of hx)
  ·cases h
 ·split at h
  ·rename_i hx
   split at h
   ·rename_i hi; cases h; exact .extract (.of hx) hi
   ·cases h
  ·cases h
 ·split at h
  ·rename_i hx; cases h; exact .nilCheck (.of hx)
  ·cases h
 ·split at h
  ·rename_i hx; cases h; exact .not (.of hx)
  ·cases h
 ·split at h
  ·rename_i hx
   split at h
   ·rename_i hy; exact Xhv (.of hx) (.of hy) h hc
   ·cases h
  ·cases h
 ·split at h
  ·rename_i hx; cases h; exact .len (.of hx) hc
  ·rename_i hx; cases h
   obtain ⟨e,he⟩:=hc
   exact .lenSlice (.of hx) he
  ·cases h
 ·split at h
  ·rename_i hx
   split at h
   ·rename_i hy; cases h; exact .index (.of hx) (.of hy) hc.1.1 hc.1.2 hc.2
   ·cases h
  ·cases h
 ·cases h
theorem WL.step_ok {o:Oper} {r:List Oper} {d:Nat} {v:Value} {c:Option Prop} (h1:X9z P n L o=some (d,v,c)) (hc:Xc8 c) (h:WL P n ops K r ((d,v)::L) w):WL P n ops K (o::r) L w:=by
 obtain ⟨dst,op,ty,pos,af,g⟩:=o
 unfold X9z at h1
 cases dst with
 | none=>cases h1
 | some d =>
  cases g with
  | some g=>cases h1
  | none =>
   simp only at h1
   split at h1
   ·rename_i hd
    split at h1
    ·rename_i v c hv
     cases h1
     exact WL.val (Xbx hv hc) hd h
    ·cases h1
   ·cases h1
theorem WL.runs_ok:∀ (k:Nat) (l:List Oper) (L:Env),(Xev P n k l L).2.2→WL P n ops K (Xev P n k l L).1 (Xev P n k l L).2.1 w→WL P n ops K l L w
 | 0,_,_,_,h=>h
 | _+1,[],_,_,h=>h
 | k+1,o::r,L,hc,h=>by
  unfold Xev at h hc
  split at h
  ·rename_i d v he
   rw [he] at hc
   exact WL.step_ok he trivial (WL.runs_ok k r ((d,v)::L) hc h)
  ·rename_i d v c he
   rw [he] at hc
   simp only at hc h
   exact WL.step_ok he hc.1 (WL.runs_ok k r ((d,v)::L) hc.2 h)
  ·exact h
theorem WL.run (k:Nat) {l r:List Oper} {M:Env} {C:Prop} (hr:Xev P n k l L=(r,M,C)) (hc:C) (h:WL P n ops K r M w):WL P n ops K l L w:=by
 refine WL.runs_ok k l L ?_ ?_
 ·rw [hr]; exact hc
 ·rw [hr]; exact h
end
end Gk
namespace Gk
open Go
theorem WL.q {P:Program} {n:Nat} {K:X1u} {L:Env} {w:World} {ops:Array Oper} (k:Nat) {l r:List Oper} {M:Env} (hr:Xev P n k l L=(r,M,True)) (h:WL P n ops K r M w):WL P n ops K l L w:=WL.run k hr trivial h
theorem WC.q {P:Program} {n:Nat} {K:X1u} {L:Env} {w:World} (k:Nat) {id:Nat} {l:List Oper} {M:Env} (hr:Xev P n k l L=([],M,True)) (h:K .normal M w):WC P n (.region id l.toArray false) K L w:=WC.region (WL.run k hr trivial (WL.nil h))
theorem WC.t {P:Program} {n:Nat} {K:X1u} {L:Env} {w:World} (k:Nat) {id:Nat} {l r:List Oper} {M:Env} (hr:Xev P n k l L=(r,M,True)) (h:WL P n l.toArray K r M w):WC P n (.region id l.toArray false) K L w:=WC.region (WL.run k hr trivial h)
end Gk
namespace Gk
open Go
abbrev X3h:=List (Nat×Obj)
abbrev Xe:=X3h→Prop
abbrev Im:=Nat→Option Obj
def own (b:Nat) (o:Obj):Xe:=fun h=>h=[(b,o)]
def Xh (cs:List Value) (E:TypeId):Obj:=.cells cs.toArray E (0,0)
def blk (b:Nat) (cs:List Value) (E:TypeId):Xe:=own b (Xh cs E)
abbrev ptr (b o:Nat):Value:=.pointer (some ⟨b,o,none⟩)
def SepAll:List Xe→Xe
 | [],h=>h=[]
 | A::As,h=>∃ h1 h2,h=h1 ++ h2∧A h1∧SepAll As h2
structure Good (B w:World) (I:Im) (h:X3h):Prop where
 os:w.os=B.os
 tape:w.tape=B.tape
 output:w.output=B.output
 imm:∀ b o,I b=some o→w.heap[b]?=some o
 own:∀ b o,(b,o)∈h→w.heap[b]?=some o
 nodup:(h.map (·.1)).Nodup
 apart:∀ b o,(b,o)∈h→I b=none
def Sat (B w:World) (I:Im) (As:List Xe):Prop:=∃ h,SepAll As h∧Good B w I h
def Le (I J:Im):Prop:=∀ b o,I b=some o→J b=some o
theorem Le.refl (I:Im):Le I I:=fun _ _ h=>h
theorem Le.trans {I J M:Im} (h:Le I J) (k:Le J M):Le I M:=fun b o e=>k b o (h b o e)
theorem Good.perm {B w:World} {I:Im} {h h':X3h} (g:Good B w I h) (p:h.Perm h'):Good B w I h' :=
 ⟨g.os,g.tape,g.output,g.imm,fun b o hm=>g.own b o (p.mem_iff.2 hm),(p.map _).nodup_iff.1 g.nodup,fun b o hm=>g.apart b o (p.mem_iff.2 hm)⟩
theorem Good.left {B w:World} {I:Im} {h h':X3h} (g:Good B w I (h ++ h')):Good B w I h :=
 ⟨g.os,g.tape,g.output,g.imm,fun b o hm=>g.own b o (Y2h _ hm),by have:=g.nodup; rw [Y18] at this; exact (Y3k.1 this).1,fun b o hm=>g.apart b o (Y2h _ hm)⟩
theorem Good.right {B w:World} {I:Im} {h h':X3h} (g:Good B w I (h ++ h')):Good B w I h' :=
 (g.perm Y11).left
theorem SepAll.at_:∀ {As:List Xe} {k:Nat} {A:Xe} {h:X3h},As[k]?=some A→SepAll As h →
  ∃ h1 h2,h.Perm (h1 ++ h2)∧A h1∧(∀ (A':Xe) (h1':X3h),A' h1'→∃ h',SepAll (As.set k A') h'∧h'.Perm (h1' ++ h2))∧(∃ h',SepAll (As.eraseIdx k) h'∧h'.Perm h2)
 | [],_,_,_,hk,_=>by simp at hk
 | A0::As,0,A,h,hk,hs=>by
  obtain ⟨h1,h2,rfl,ha,hr⟩:=hs
  simp at hk
  subst hk
  exact ⟨h1,h2,.refl _,ha,fun A' h1' ha'=>⟨h1' ++ h2,⟨h1',h2,rfl,ha',hr⟩,.refl _⟩,⟨h2,hr,.refl _⟩⟩
 | A0::As,k+1,A,h,hk,hs=>by
  obtain ⟨g1,g2,rfl,ha0,hr⟩:=hs
  obtain ⟨h1,h2,hp,ha,X1l,h3,he,hpe⟩:=SepAll.at_ (As:=As) (k:=k) (by simpa using hk) hr
  refine ⟨h1,g1 ++ h2,?_,ha,fun A' h1' ha'=>?_,⟨g1 ++ h3,⟨g1,h3,rfl,ha0,he⟩,hpe.append_left g1⟩⟩
  ·refine (hp.append_left g1).trans ?_
   rw [← Y7,← Y7]
   exact Y11.append_right _
  ·obtain ⟨h',hs',hp'⟩:=X1l A' h1' ha'
   refine ⟨g1 ++ h',⟨g1,h',rfl,ha0,hs'⟩,(hp'.append_left g1).trans ?_⟩
   rw [← Y7,← Y7]
   exact Y11.append_right _
section
variable {B w w':World} {I:Im} {As:List Xe} {k:Nat} {A A':Xe} {b:Nat} {o o':Obj}
theorem Sat.block (hS:Sat B w I As) (hk:As[k]?=some (own b o)):w.heap[b]?=some o:=by
 obtain ⟨h,hs,hg⟩:=hS
 obtain ⟨h1,h2,hp,ha,_⟩:=hs.at_ hk
 rw [own] at ha
 subst ha
 exact (hg.perm hp).own b o (by simp)
theorem Sat.say (hS:Sat B w I As) (hk:As[k]?=some A) (h:∀ h,A h→A' h):Sat B w I (As.set k A'):=by
 obtain ⟨g,hs,hg⟩:=hS
 obtain ⟨h1,h2,hp,ha,X1l,_⟩:=hs.at_ hk
 obtain ⟨h',hs',hp'⟩:=X1l A' h1 (h h1 ha)
 exact ⟨h',hs',hg.perm (hp.trans hp'.symm)⟩
theorem Sat.opened (hS:Sat B w I As) (hk:As[k]?=some A) {X:Type} {T:X→Xe} (h:∀ h,A h→∃ x,T x h):∃ x,Sat B w I (As.set k (T x)):=by
 obtain ⟨g,hs,hg⟩:=hS
 obtain ⟨h1,h2,hp,ha,X1l,_⟩:=hs.at_ hk
 obtain ⟨x,hx⟩:=h h1 ha
 obtain ⟨h',hs',hp'⟩:=X1l (T x) h1 hx
 exact ⟨x,h',hs',hg.perm (hp.trans hp'.symm)⟩
theorem Sat.pure_ (hS:Sat B w I As) (hk:As[k]?=some A) {p:Prop} (h:∀ h,A h→p):p:=by
 obtain ⟨g,hs,hg⟩:=hS
 obtain ⟨h1,h2,hp,ha,_⟩:=hs.at_ hk
 exact h h1 ha
theorem Sat.drop (hS:Sat B w I As) (hk:As[k]?=some A):Sat B w I (As.eraseIdx k):=by
 obtain ⟨h,hs,hg⟩:=hS
 obtain ⟨h1,h2,hp,_,_,h3,he,hpe⟩:=hs.at_ hk
 exact ⟨h3,he,(hg.perm hp).right.perm hpe.symm⟩
theorem Sat.freeze (hS:Sat B w I As) (hk:As[k]?=some (own b o)):∃ J,Le I J∧J b=some o∧Sat B w J (As.eraseIdx k):=by
 obtain ⟨h,hs,hg⟩:=hS
 obtain ⟨h1,h2,hp,ha,_,h3,he,hpe⟩:=hs.at_ hk
 rw [own] at ha
 subst ha
 have g:=hg.perm hp
 have hb:I b=none:=g.apart b o (by simp)
 refine ⟨fun x=>if x=b then some o else I x,fun x y hx=>?_,by simp,h3,he,Good.perm ?_ hpe.symm⟩
 ·by_cases e:x=b
  ·subst e; rw [hb] at hx; cases hx
  ·simpa [e] using hx
 ·have hn:b ∉ h2.map (·.1):=by
   have:=g.nodup
   simp only [Yr,Y1e,Yl,Y2c] at this
   exact this.1
  refine ⟨g.os,g.tape,g.output,fun x y hx=>?_,g.right.own,g.right.nodup,fun x y hm=>?_⟩
  ·by_cases e:x=b
   ·subst e
    simp at hx
    subst hx
    exact g.own _ _ (by simp)
   ·simp [e] at hx
    exact g.imm x y hx
  ·have e:x≠b:=fun e=>hn (e ▸ List.mem_map_of_mem hm)
   simpa [e] using g.right.apart x y hm
theorem Sat.world (hS:Sat B w I As) (h1:w'.os=w.os) (h2:w'.tape=w.tape) (h3:w'.output=w.output) (h4:w'.heap=w.heap):Sat B w' I As:=by
 obtain ⟨h,hs,hg⟩:=hS
 exact ⟨h,hs,h1.trans hg.os,h2.trans hg.tape,h3.trans hg.output,fun b o e=>by rw [h4]; exact hg.imm b o e,fun b o e=>by rw [h4]; exact hg.own b o e,hg.nodup,hg.apart⟩
theorem Sat.drew (hS:Sat B w I As):Sat B w.drew I As:=hS.world rfl rfl rfl rfl
theorem Sat.alloc (hS:Sat B w I As) (o:Obj):Sat B (w.alloc o) I (own w.heap.size o::As):=by
 obtain ⟨h,hs,hg⟩:=hS
 have old:∀ b x,w.heap[b]?=some x→b<w.heap.size:=fun b x e=>(Yg.1 e).1
 have keep:∀ b x,w.heap[b]?=some x→(w.alloc o).heap[b]?=some x:=fun b x e=>by
  rw [heap_alloc_old w o (old b x e)]; exact e
 refine ⟨(w.heap.size,o)::h,⟨[(w.heap.size,o)],h,rfl,rfl,hs⟩,hg.os,hg.tape,hg.output,fun b x e=>keep b x (hg.imm b x e),fun b x hm=>?_,?_,fun b x hm=>?_⟩
 ·rcases Y19.1 hm with e | hm
  ·cases e
   exact heap_alloc_new w o
  ·exact keep b x (hg.own b x hm)
 ·simp only [Yl,Y2c]
  refine ⟨fun hm=>?_,hg.nodup⟩
  obtain ⟨⟨b,x⟩,hm,e⟩:=Y3b.1 hm
  have:=old b x (hg.own b x hm)
  simp at e
  omega
 ·rcases Y19.1 hm with e | hm
  ·cases e
   cases hi:I w.heap.size with
   | none=>rfl
   | some y=>have:=old _ _ (hg.imm _ _ hi); omega
  ·exact hg.apart b x hm
theorem Sat.write (hS:Sat B w I As) (hk:As[k]?=some (own b o)) (h1:w'.os=w.os) (h2:w'.tape=w.tape) (h3:w'.output=w.output) (hb:w'.heap[b]?=some o') (hne:∀ c,c≠b→w'.heap[c]?=w.heap[c]?) :
  Sat B w' I (As.set k (own b o')):=by
 obtain ⟨h,hs,hg⟩:=hS
 obtain ⟨g1,g2,hp,ha,X1l,_⟩:=hs.at_ hk
 rw [own] at ha
 subst ha
 obtain ⟨h',hs',hp'⟩:=X1l (own b o') [(b,o')] rfl
 have g:=hg.perm hp
 have hn:b ∉ g2.map (·.1):=by
  have:=g.nodup
  simp only [Yr,Y1e,Yl,Y2c] at this
  exact this.1
 refine ⟨h',hs',Good.perm ?_ hp'.symm⟩
 refine ⟨h1.trans g.os,h2.trans g.tape,h3.trans g.output,fun x y e=>?_,fun x y hm=>?_,by simpa using g.nodup,fun x y hm=>?_⟩
 ·have e':x≠b:=fun e'=>by have:=g.apart b o (by simp); rw [← e',e] at this; cases this
  rw [hne x e']
  exact g.imm x y e
 ·rcases Y19.1 hm with e | hm
  ·cases e; exact hb
  ·have e':x≠b:=fun e'=>hn (e' ▸ List.mem_map_of_mem hm)
   rw [hne x e']
   exact g.own x y (Y16 _ hm)
 ·rcases Y19.1 hm with e | hm
  ·cases e; exact g.apart b o (by simp)
  ·exact g.apart x y (Y16 _ hm)
end
def Vec (E size:Nat) (v:Value) (n:Nat) (xs:List Value):Xe:=fun h =>
 xs.length=n*size∧((v=.slice none 0 0∧n=0∧h=[]) ∨
  ∃ g cap rest,v=.slice (some ⟨g,0,none⟩) n cap∧h=[(g,Xh (xs ++ rest) E)]∧n≤cap∧cap≤maxLen∧xs.length+rest.length=cap*size)
section
variable {B w w':World} {I:Im} {As:List Xe} {k:Nat} {A A':Xe} {b:Nat} {o o':Obj} {E size n:Nat} {v:Value} {xs:List Value}
theorem Sat.vecNil (hS:Sat B w I As) (E size:Nat):Sat B w I (Vec E size (.slice none 0 0) 0 []::As):=by
 obtain ⟨h,hs,hg⟩:=hS
 exact ⟨h,⟨[],h,rfl,⟨by simp,.inl ⟨rfl,rfl,rfl⟩⟩,hs⟩,hg⟩
theorem Sat.vecOpen (hS:Sat B w I As) (hk:As[k]?=some (Vec E size v n xs)) (hn:0<n) :
  ∃ (b cap:Nat) (r:List Value),v=.slice (some ⟨b,0,none⟩) n cap∧n≤cap∧cap≤maxLen∧xs.length=n*size∧xs.length+r.length=cap*size∧Sat B w I (As.set k (blk b (xs ++ r) E)):=by
 obtain ⟨g,hs,hg⟩:=hS
 obtain ⟨h1,h2,hp,⟨hl,ha⟩,X1l,_⟩:=hs.at_ hk
 rcases ha with ⟨_,h0,_⟩ | ⟨b,cap,rest,rfl,rfl,h3,h4,h5⟩
 ·omega
 ·obtain ⟨h',hs',hp'⟩:=X1l (blk b (xs ++ rest) E) _ rfl
  exact ⟨b,cap,rest,rfl,h3,h4,hl,h5,h',hs',hg.perm (hp.trans hp'.symm)⟩
theorem Sat.vecShut (hS:Sat B w I As) {g cap:Nat} {rest:List Value} (hk:As[k]?=some (blk g (xs ++ rest) E)) (h3:n≤cap) (h4:cap≤maxLen) (hl:xs.length=n*size) (h5:xs.length+rest.length=cap*size) :
  Sat B w I (As.set k (Vec E size (.slice (some ⟨g,0,none⟩) n cap) n xs)) :=
 hS.say hk fun _ hh=>⟨hl,.inr ⟨g,cap,rest,rfl,hh,h3,h4,h5⟩⟩
theorem Sat.vecSlice (hS:Sat B w I As) (hk:As[k]?=some (Vec E size v n xs)):∃ a c,v=.slice a n c∧n≤c∧xs.length=n*size :=
 hS.pure_ hk fun _ ⟨hl,hh⟩=>by
  rcases hh with ⟨rfl,rfl,_⟩ | ⟨g,cap,rest,rfl,_,h3,_⟩
  ·exact ⟨none,0,rfl,Yd _,hl⟩
  ·exact ⟨_,_,rfl,h3,hl⟩
theorem X6d {P:Program} (hS:Sat B w I As) {t ty:TypeId} {i:TypeInfo} {z:Value} {bytes:Nat} (ht:P.underlying t=some (.slice E)) (hi:P.info? E=some i) (hz:i.zero=some z)
  (hsize:i.size=size) (hby:i.bytes=bytes) (hzs:z.cells.size=size) (hk:As[k]?=some (Vec E size v n xs)) {p:Addr} {m c:Nat} {news:List Value} (hl:news.length=m*size) (hm:0<m)
  (hnews:∀ j u,news[j]?=some u→w.cell? (p.add j)=some u) (h1:∀ u∈news,u.oneCell'=true) (h63:n+m≤maxLen) (hbytes:(n+m)*bytes≤140737488355328) :
  ∃ v' w',(Builtin.append_ #[t,t] ty #[v,.slice (some p) m c]).run P w=.ok v' w'∧Sat B w' I (As.set k (Vec E size v' (n+m) (xs ++ news))):=by
 subst hsize
 subst hby
 have hsmall:n+m≤9223372036854775807:=by simp only [maxLen] at h63; omega
 have hxl:xs.length=n*i.size:=hS.pure_ hk fun h ⟨hl,_⟩=>hl
 have hlen:(xs ++ news).length=(n+m)*i.size:=by rw [Y2,hxl,hl,Y1p]
 have grown:∀ (old:Nat),Sat B (w.drew.alloc (.cells (xs.toArray ++ news.toArray ++ Builtin.zeroCells z.cells (grownCap w (n+m) old E - (n+m))) E)) I
   (As.set k (Vec E i.size (.slice (some ⟨w.heap.size,0,none⟩) (n+m) (grownCap w (n+m) old E)) (n+m) (xs ++ news))):=by
  intro old
  have hge:=grownCap_ge w (n+m) old E
  have hcm:grownCap w (n+m) old E≤maxLen:=grownCap_le_maxLen w (n+m) old E h63
  have hS2:=hS.drew.alloc (.cells (xs.toArray ++ news.toArray ++ Builtin.zeroCells z.cells (grownCap w (n+m) old E - (n+m))) E)
  have e1:(own w.drew.heap.size (.cells (xs.toArray ++ news.toArray ++ Builtin.zeroCells z.cells (grownCap w (n+m) old E - (n+m))) E))=blk w.heap.size ((xs ++ news) ++ (Builtin.zeroCells z.cells (grownCap w (n+m) old E - (n+m))).toList) E:=by
   unfold blk Xh
   congr 2
   apply Array.ext'
   simp
  rw [e1] at hS2
  have hS3:=hS2.vecShut (k:=0) (n:=n+m) (size:=i.size) (cap:=grownCap w (n+m) old E) rfl hge hcm hlen (by
   rw [hlen,Y1g,size_zeroCells,hzs,← Y1p]
   congr 1
   omega)
  -- the new one stands at the old one's place
  obtain ⟨h,hs,hg⟩:=hS3
  obtain ⟨q1,q2,rfl,hq1,hq2⟩:=hs
  obtain ⟨h1',h2',hp,_,X1l,_⟩:=SepAll.at_ hk hq2
  obtain ⟨h',hs',hp'⟩:=X1l _ q1 hq1
  have g2:Good B (w.drew.alloc (.cells (xs.toArray ++ news.toArray ++ Builtin.zeroCells z.cells (grownCap w (n+m) old E - (n+m))) E)) I (q1 ++ h2'):=by
   have g:=hg.perm (hp.append_left q1)
   have:(q1 ++ (h1' ++ h2')).Perm ((q1 ++ h2') ++ h1'):=by
    rw [Y7]
    exact (Y11).append_left q1
   exact (g.perm this).left
  exact ⟨h',hs',g2.perm hp'.symm⟩
 have hcase:(v=.slice none 0 0∧n=0)∨∃ g cap rest,v=.slice (some ⟨g,0,none⟩) n cap∧n≤cap∧cap≤maxLen∧xs.length+rest.length=cap*i.size∧Sat B w I (As.set k (blk g (xs ++ rest) E)):=by
  by_cases hn:0<n
  ·obtain ⟨g,cap,rest,h1,h2,h3,_,h5,h6⟩:=hS.vecOpen hk hn
   exact .inr ⟨g,cap,rest,h1,h2,h3,h5,h6⟩
  ·obtain ⟨g,hs,hg⟩:=hS
   obtain ⟨h1,h2,hp,⟨hl,ha⟩,X1l,_⟩:=hs.at_ hk
   rcases ha with ⟨hv,h0,_⟩ | ⟨b,cap,rest,rfl,rfl,h3,h4,h5⟩
   ·exact .inl ⟨hv,h0⟩
   ·obtain ⟨h',hs',hp'⟩:=X1l (blk b (xs ++ rest) E) _ rfl
    exact .inr ⟨b,cap,rest,rfl,h3,h4,h5,h',hs',hg.perm (hp.trans hp'.symm)⟩
 rcases hcase with ⟨rfl,rfl⟩ | ⟨g,cap,rest,rfl,hnc,hcm,hcs,hSo⟩
 ·have hx:xs=[]:=Yc (by simpa using hxl)
  subst hx
  have hr:=run_append_nil (P:=P) w t ty E i z ht hi hz p m c news hl hnews hm (by omega) (by have hb:=hbytes; simp only [Yq] at hb; omega)
  have hgr:=grown 0
  simp only [Yq,Y1e,Array.empty_append] at hgr ⊢
  exact ⟨_,_,hr,hgr⟩
 ·have hlk:k<As.length:=(Y0.1 hk).1
  have hko:(As.set k (blk g (xs ++ rest) E))[k]?=some (blk g (xs ++ rest) E):=by simp [hlk]
  have hblk:=hSo.block hko
  by_cases hroom:n+m≤cap
  ·have hfit:n*i.size+news.length≤(xs ++ rest).toArray.size:=by
    simp only [Y1w,Y2]
    rw [hcs,hl,← Y1p]
    exact Y22 _ hroom
   have hr:=run_append_room (P:=P) w t ty E i ht hi g n cap (xs ++ rest).toArray hblk p m c news hl hnews h1 hroom hfit
   have e2:((xs ++ rest).take (n*i.size) ++ news ++ (xs ++ rest).drop (n*i.size+news.length)).toArray=((xs ++ news) ++ rest.drop news.length).toArray:=by
    rw [← hxl,Y2w,Y30,Y26 (by omega:xs.length≤xs.length+news.length)]
    simp
   rw [e2] at hr
   refine ⟨_,_,hr,?_⟩
   have hw:=hSo.write (w':=w.setRow g ((xs ++ news) ++ rest.drop news.length).toArray) (o':=Xh ((xs ++ news) ++ rest.drop news.length) E) hko rfl rfl rfl (setRow_heap w g _ _ E _ hblk) (fun x hx=>setRow_other w g x _ hx)
   have hsh:=hw.vecShut (k:=k) (g:=g) (E:=E) (n:=n+m) (size:=i.size) (cap:=cap) (xs:=xs ++ news) (rest:=rest.drop news.length) (by simp [hlk,blk]) hroom hcm hlen (by
    have h7:news.length≤rest.length:=by
     have h8:n*i.size+news.length≤(xs ++ rest).length:=hfit
     rw [Y2] at h8; omega
    rw [Y2,Y6,← hcs]; omega)
   simpa using hsh
  ·have holds:∀ j u,xs[j]?=some u→w.cell? ((⟨g,0,none⟩:Addr).add j)=some u:=by
    intro j u hu
    have hj:j<xs.length:=(Y0.1 hu).1
    rw [Addr.add_lit,Yq]
    have h9:w.heap[g]?=some (.cells (xs ++ rest).toArray E (0,0)):=hblk
    simp only [World.cell?,h9,Option.isSome_none,Y1m,if_false]
    simp [hj] at hu ⊢
    simp [Y21,hj,hu]
   have hr:=run_append_grow (P:=P) w t ty E i z ht hi hz ⟨g,0,none⟩ n cap xs hxl holds p m c news hl hnews (by omega) (by omega) (growslice_fits (by omega) hbytes)
   exact ⟨_,_,hr,grown cap⟩
end
def Ret (Q:Value→World→Prop):Ending→World→Prop:=fun e w=>∃ v,e=.returned v∧Q v w
def At (I:Im) (p:Addr) (vs:List Value):Prop:=p.spot=none∧∃ arr E fr,I p.block=some (.cells arr E fr)∧∀ j v,vs[j]?=some v→arr[p.off+j]?=some v
theorem At.mono {I J:Im} {p:Addr} {vs:List Value} (h:At I p vs) (hl:Le I J):At J p vs:=by
 obtain ⟨hs,arr,E,fr,hi,hv⟩:=h
 exact ⟨hs,arr,E,fr,hl _ _ hi,hv⟩
def RS (I:Im) (a:Option Addr) (size n:Nat) (xs:List Value):Prop:=xs.length=n*size∧(0<n→∃ p,a=some p∧At I p xs)
theorem RS.mono {I J:Im} {a:Option Addr} {size n:Nat} {xs:List Value} (h:RS I a size n xs) (hl:Le I J):RS J a size n xs :=
 ⟨h.1,fun hn=>let ⟨p,e,ha⟩:=h.2 hn; ⟨p,e,ha.mono hl⟩⟩
theorem RS.nil (I:Im) (size:Nat):RS I none size 0 []:=⟨by simp,fun h=>absurd h (by omega)⟩
abbrev ad (b o:Nat):Addr:=⟨b,o,none⟩
theorem Xo (b o i:Nat):(ad b o).add i=ad b (o+i):=by
 unfold Addr.add
 split
 ·simp_all
 ·rfl
def X9x (cs:List Value) (off:Nat) (l:List Value):List Value:=cs.take off ++ l ++ cs.drop (off+l.length)
def X87 (pl:Nat→Option (Nat×Nat)):List Value→List (Nat×Value)→Option (List Value)
 | cs,[]=>some cs
 | cs,(i,v)::rest=>match pl i with
  | none=>none
  | some (off,size)=>bif Nat.beq v.cells.toList.length size && Nat.ble (off+size) cs.length then X87 pl (X9x cs off v.cells.toList) rest else none
theorem X8a:∀ (l:List Value) (cs:List Value) (off k:Nat),off+k+l.length≤cs.length →
  (l.zipIdx k).foldl (fun (cs:Array Value) (p:Value×Nat)=>cs.setIfInBounds (off+p.2) p.1) cs.toArray=(X9x cs (off+k) l).toArray
 | [],cs,off,k,_=>by simp [X9x]
 | v::l,cs,off,k,h=>by
  rw [List.zipIdx_cons,List.foldl_cons]
  have e:cs.toArray.setIfInBounds (off+k) v=(cs.set (off+k) v).toArray:=by simp
  have ih:=X8a l (cs.set (off+k) v) off (k+1) (by simp at h ⊢; omega)
  simp only at ih ⊢
  rw [e,ih]
  congr 1
  unfold X9x
  have h9:=list_seg_step cs (off+k) v l (by simp at h; omega)
  simpa [Y10] using h9
theorem X2y {pl:Nat→Option (Nat×Nat)}:∀ {vs:List (Nat×Value)} {cs ds:List Value},X87 pl cs vs=some ds→Instr.fill pl cs.toArray vs=some ds.toArray
 | [],cs,ds,h=>by simp [X87] at h; simp [Instr.fill,h]
 | (i,v)::rest,cs,ds,h=>by
  unfold X87 at h
  unfold Instr.fill
  split at h
  ·cases h
  ·rename_i off size hp
   rw [hp]
   simp only
   by_cases hc:(Nat.beq v.cells.toList.length size && Nat.ble (off+size) cs.length)=true
   ·rw [hc,cond_true] at h
    simp only [Y5] at hc
    have h1:v.cells.size=size:=by have:=Y4 hc.1; simpa using this
    have h2:off+size≤cs.length:=Y1 hc.2
    have e:=X8a v.cells.toList cs off 0 (by simp [h1]; omega)
    have hz:(v.cells.zipIdx.foldl (fun cs (x:Value×Nat)=>cs.setIfInBounds (off+x.2) x.1) cs.toArray)=(X9x cs off v.cells.toList).toArray:=by
     rw [← Array.foldl_toList,Array.toList_zipIdx]
     simpa using e
    rw [if_neg (by simp [h1]; omega)]
    rw [hz]
    exact X2y h
   ·have hc':(Nat.beq v.cells.toList.length size && Nat.ble (off+size) cs.length)=false:=Bool.eq_false_iff.2 hc
    rw [hc',cond_false] at h
    cases h
theorem Xeo (z:Value) (s:Nat) (hz:z.cells.size=s):∀ len,(Array.range (len*s)).map (z.cells[· % z.cells.size]!)=((List.replicate len z.cells.toList).flatten).toArray:=by
 intro len
 apply Array.ext'
 simp only [Y3m,Array.toList_range]
 induction len with
 | zero=>simp
 | succ k ih =>
  rw [List.replicate_succ',List.flatten_append,Y3e,List.range_add,Y18,ih]
  simp only [Y2f,List.flatten_nil,Y1d]
  congr 1
  apply Y17
  intro j
  by_cases hj:j<s
  ·have:(k*s+j) % s=j:=by rw [Y3c,Nat.add_mul_mod_self_right,Y2k hj]
   have h3:j<z.cells.size:=by omega
   simp [hj,hz,this,h3]
  ·simp [hj,hz]
section
variable {P:Program} {n:Nat} {K:X1u} {L:Env} {w w':World} {ops:Array Oper} {rest:List Oper}
variable {B:World} {I:Im} {As:List Xe} {k:Nat} {d:Nat} {ty:TypeId} {pos:String} {af:Array Edge} {g:Option (Nat×Bool)} {t e:TypeId} {x y:Operand}
theorem X1i {α:Type} (o:Obj) (f:Nat→Sem α):(Sem.new o f).run P w=(f w.heap.size).run P (w.alloc o):=rfl
theorem X29 {b:Nat} {cs:List Value} {E:TypeId} (hb:w.heap[b]?=some (Xh cs E)) {o:Nat} {v:Value} (hv:cs[o]?=some v):w.cell? (ad b o)=some v:=by
 unfold Xh at hb
 simp [World.cell?,hb,hv]
theorem Xbt {b:Nat} {cs:List Value} {E:TypeId} (hb:w.heap[b]?=some (Xh cs E)) (o:Nat):w.frozen? (ad b o)=false:=by
 unfold Xh at hb
 simp [World.frozen?,hb]
theorem X98 {p:Addr} {vs:List Value} (hS:Sat B w I As) (ha:At I p vs) {j:Nat} {v:Value} (hv:vs[j]?=some v):w.cell? (p.add j)=some v:=by
 obtain ⟨hs,arr,E,fr,hi,h⟩:=ha
 obtain ⟨h',_,hg⟩:=hS
 have hb:=hg.imm _ _ hi
 have hj:=h j v hv
 obtain ⟨pb,po,ps⟩:=p
 simp only at hs hi hb hj
 subst hs
 have e:(⟨pb,po,none⟩:Addr).add j=⟨pb,po+j,none⟩:=Xo pb po j
 rw [e]
 simp [World.cell?,hb,hj]
theorem Ex.ld {d:Option Nat} {b o:Nat} {cs:List Value} {E:TypeId} {v:Value} (hx:Ev n L x (ptr b o)) (hS:Sat B w I As) (hk:As[k]?=some (blk b cs E)) (ht:∀ w,(isAgg t).run P w=.ok false w) (hv:cs[o]?=some v) :
  Ex P n L w ⟨d,.load t x,ty,pos,af,g⟩ v w:=fun a ha=>by
 have h:=X29 (hS.block hk) hv
 simp [execOp,hx a ha,Instr.loadAt,Instr.sureAddr,loadVar,ht,load,Sem.run,h]
theorem Ex.ldI {d:Option Nat} {p:Addr} {vs:List Value} {v:Value} (hx:Ev n L x (.pointer (some p))) (hS:Sat B w I As) (ha:At I p vs) (ht:∀ w,(isAgg t).run P w=.ok false w) (hv:vs[0]?=some v) :
  Ex P n L w ⟨d,.load t x,ty,pos,af,g⟩ v w:=fun a hh=>by
 have h:=X98 hS ha hv
 rw [show p.add 0=p from rfl] at h
 simp [execOp,hx a hh,Instr.loadAt,Instr.sureAddr,loadVar,ht,load,Sem.run,h]
theorem Ex.fieldAddr {d:Option Nat} {b o f:Nat} {fs:Array Field} {fd:Field} {s:Nat} (off:Nat) (hx:Ev n L x (ptr b o)) (ht:P.underlying t=some (.struct fs)) (hf:fs[f]?=some fd) (ho:fd.offset=off) (hs:∀ w,(Go.sizeOf fd.type).run P w=.ok s w) (h0:Nat.beq s 0=false) :
  Ex P n L w ⟨d,.fieldAddr t x f,ty,pos,af,g⟩ (ptr b (o+off)) w:=fun a ha=>by
 subst ho
 have h0':s≠0:=fun e=>by rw [e] at h0; cases h0
 have h1:=Xo b o fd.offset
 simp [execOp,hx a ha,Instr.fieldAt,run_underlying ht,hf,Instr.sureAddr,fieldPlace,hs,h0',h1]
theorem Ex.fieldAddrI {d:Option Nat} {p:Addr} {f:Nat} {fs:Array Field} {fd:Field} {s:Nat} (off:Nat) (hx:Ev n L x (.pointer (some p))) (ht:P.underlying t=some (.struct fs)) (hf:fs[f]?=some fd) (ho:fd.offset=off) (hs:∀ w,(Go.sizeOf fd.type).run P w=.ok s w) (h0:Nat.beq s 0=false) :
  Ex P n L w ⟨d,.fieldAddr t x f,ty,pos,af,g⟩ (.pointer (some (p.add off))) w:=fun a ha=>by
 subst ho
 have h0':s≠0:=fun e=>by rw [e] at h0; cases h0
 simp [execOp,hx a ha,Instr.fieldAt,run_underlying ht,hf,Instr.sureAddr,fieldPlace,hs,h0']
theorem At.add {p:Addr} {vs:List Value} (h:At I p vs) (i:Nat):At I (p.add i) (vs.drop i):=by
 obtain ⟨hs,arr,E,fr,hi,hv⟩:=h
 obtain ⟨pb,po,ps⟩:=p
 simp only at hs hi hv
 subst hs
 have e:(⟨pb,po,none⟩:Addr).add i=⟨pb,po+i,none⟩:=Xo pb po i
 rw [e]
 exact ⟨rfl,arr,E,fr,hi,fun j v hj=>by rw [show po+i+j=po+(i+j) by omega]; exact hv (i+j) v (by simpa using hj)⟩
theorem Ex.indexAddr {d:Option Nat} {b o len cap s:Nat} {i:Int} (hx:Ev n L x (.slice (some (ad b o)) len cap)) (hy:Ev n L y (I64 i)) (hi:0≤i) (hl:i<len) (ht:P.underlying t=some (.slice e)) (hs:∀ w,(Go.sizeOf e).run P w=.ok s w) :
  Ex P n L w ⟨d,.indexAddr t x y,ty,pos,af,g⟩ (ptr b (o+i.toNat*s)) w:=fun a ha=>by
 have h:=run_indexAt_slice (P:=P) w t (ad b o) len cap .i64 i (by rw [X1f ht]; exact ht)
 rw [if_pos ⟨hi,hl⟩,X1f ht,hs] at h
 simp only [Result.andThen_ok,Xo] at h
 simp [execOp,hx a ha,hy a ha,h]
theorem Ex.indexAddrI {d:Option Nat} {p:Addr} {len cap s:Nat} {i:Int} (hx:Ev n L x (.slice (some p) len cap)) (hy:Ev n L y (I64 i)) (hi:0≤i) (hl:i<len) (ht:P.underlying t=some (.slice e)) (hs:∀ w,(Go.sizeOf e).run P w=.ok s w) :
  Ex P n L w ⟨d,.indexAddr t x y,ty,pos,af,g⟩ (.pointer (some (p.add (i.toNat*s)))) w:=fun a ha=>by
 have h:=run_indexAt_slice (P:=P) w t p len cap .i64 i (by rw [X1f ht]; exact ht)
 rw [if_pos ⟨hi,hl⟩,X1f ht,hs] at h
 simp [execOp,hx a ha,hy a ha,h,Result.andThen]
theorem WL.box1 {E:TypeId} {v:Value} (hS:Sat B w I As) (hx:Ev n L x v) (h1:v.oneCell'=true) (hd:Nat.blt d n=true)
  (h:∀ b w',Sat B w' I (blk b [v] E::As)→WL P n ops K rest ((d,ptr b 0)::L) w'):WL P n ops K (⟨some d,.box E x,ty,pos,af,none⟩::rest) L w:=by
 refine WL.val (v:=ptr w.heap.size 0) (w':=w.alloc (Xh [v] E)) (fun a ha=>?_) hd (h _ _ (hS.alloc _))
 have hc:v.cells=#[v]:=by cases v <;> first | rfl | cases h1
 simp [execOp,hx a ha,Instr.box,newVar,newRow,newObj,X1i,hc,Xh]
theorem WL.alloc1 {E:TypeId} {v:Value} (hS:Sat B w I As) (hz:∀ w,(zeroValue E).run P w=.ok v w) (h1:v.oneCell'=true) (hd:Nat.blt d n=true)
  (h:∀ b w',Sat B w' I (blk b [v] E::As)→WL P n ops K rest ((d,ptr b 0)::L) w'):WL P n ops K (⟨some d,.alloc E,ty,pos,af,none⟩::rest) L w:=by
 refine WL.val (v:=ptr w.heap.size 0) (w':=w.alloc (Xh [v] E)) (fun a ha=>?_) hd (h _ _ (hS.alloc _))
 have hc:v.cells=#[v]:=by cases v <;> first | rfl | cases h1
 simp [execOp,Instr.alloc,hz,newVar,newRow,newObj,X1i,hc,Xh]
theorem WL.allocA {E:TypeId} {cs:List Value} (hS:Sat B w I As) (hz:∀ w,(zeroValue E).run P w=.ok (.agg cs.toArray) w) (hd:Nat.blt d n=true)
  (h:∀ b w',Sat B w' I (blk b cs E::As)→WL P n ops K rest ((d,ptr b 0)::L) w'):WL P n ops K (⟨some d,.alloc E,ty,pos,af,none⟩::rest) L w:=by
 refine WL.val (v:=ptr w.heap.size 0) (w':=w.alloc (Xh cs E)) (fun a ha=>?_) hd (h _ _ (hS.alloc _))
 simp [execOp,Instr.alloc,hz,newVar,newRow,newObj,X1i,Value.cells,Xh]
theorem WL.buildSlice {len s:Nat} {parts:Array (Nat×Operand)} {vs:List (Nat×Value)} {z:Value} {cs:List Value} (hS:Sat B w I As) (hp:∀ a,Holds n L a→parts.toList.map (fun p=>(p.1,a.eval p.2))=vs)
  (ht:P.underlying t=some (.slice e)) (hs:∀ w,(Go.sizeOf e).run P w=.ok s w) (hz:∀ w,(zeroValue e).run P w=.ok z w) (h24:Nat.ble (len*s) 16777216=true) (hzs:z.cells.size=s)
  (hf:X87 (fun i=>some (i*s,s)) ((List.replicate len z.cells.toList).flatten) vs=some cs) (hd:Nat.blt d n=true)
  (h:∀ b w',Sat B w' I (blk b cs e::As)→WL P n ops K rest ((d,.slice (some (ad b 0)) len len)::L) w'):WL P n ops K (⟨some d,.buildSlice t len parts,ty,pos,af,none⟩::rest) L w:=by
 refine WL.val (v:=.slice (some (ad w.heap.size 0)) len len) (w':=w.alloc (Xh cs e)) (fun a ha=>?_) hd (h _ _ (hS.alloc _))
 have h24':¬ (16777216<len*s):=by have:=Y1 h24; omega
 have hv:=hp a ha
 have hf:=X2y hf
 rw [← Xeo z s hzs] at hf
 by_cases h0:len*s=0
 ·have hr:(Array.range (len*s)).map (z.cells[· % z.cells.size]!)=#[]:=by simp [h0]
  rw [hr] at hf
  simp [execOp,Instr.buildSlice,run_underlying ht,hs,h0,newRow,newObj,X1i,Array.range_zero',hv,hf,Xh]
 ·simp [execOp,Instr.buildSlice,run_underlying ht,hs,h24',h0,hz,newRow,newObj,X1i,hv,hf,Xh]
theorem X18:∀ a:Act,Holds n L a→(#[]:Array (Nat×Operand)).toList.map (fun p=>(p.1,a.eval p.2))=[]:=fun _ _=>rfl
theorem X10 {i:Nat} {v:Value} {ps:List (Nat×Operand)} {vs:List (Nat×Value)} (hx:Ev n L x v) (h:∀ a,Holds n L a→ps.toArray.toList.map (fun p=>(p.1,a.eval p.2))=vs) :
  ∀ a,Holds n L a→((i,x)::ps).toArray.toList.map (fun p=>(p.1,a.eval p.2))=(i,v)::vs:=fun a ha=>by
 have:=h a ha
 simp only [Yl] at this ⊢
 rw [hx a ha,this]
def Bld (P:Program) (t:TypeId) (pl:List (Nat×Nat)) (zs:List Value):Prop:=∀ (parts:Array (Nat×Value)) (cs:Array Value) (w:World),Instr.fill (fun i:Nat=>pl[i]?) zs.toArray parts.toList=some cs→(Instr.build t parts).run P w=.ok (.agg cs) w
theorem Ex.build {d:Option Nat} {parts:Array (Nat×Operand)} {vs:List (Nat×Value)} {pl:List (Nat×Nat)} {zs cs:List Value} (hp:∀ a,Holds n L a→parts.toList.map (fun p=>(p.1,a.eval p.2))=vs) (hb:Bld P t pl zs)
  (hf:X87 (fun i:Nat=>pl[i]?) zs vs=some cs):Ex P n L w ⟨d,.build t parts,ty,pos,af,g⟩ (.agg cs.toArray) w:=fun a ha=>by
 have hr:=hb (parts.map fun (i,x)=>(i,a.eval x)) cs.toArray w (by rw [Y3m,hp a ha]; exact X2y hf)
 simp only [execOp,hr,Sem.run_bind,Result.andThen_ok,Sem.run_pure]
theorem bld_of {fs:Array Field} {z:Value} {pl:List (Nat×Nat)} (ht:P.underlying t=some (.struct fs)) (hz:∀ w,(zeroValue t).run P w=.ok z w) (hm:∀ w,((fs.mapM fun f=>do pure (f.offset,← Go.sizeOf f.type)):Sem (Array (Nat×Nat))).run P w=.ok pl.toArray w):Bld P t pl z.cells.toList:=by
 intro parts cs w hf
 have e:(fun i:Nat=>pl.toArray[i]?)=(fun i:Nat=>pl[i]?):=by funext i; simp
 simp only [Array.toArray_toList] at hf
 rw [← e] at hf
 simp only [Instr.build,Sem.run_bind,hz,run_underlying ht,Result.andThen_ok,hm,hf,Sem.run_pure]
theorem WL.st1 {b o:Nat} {cs:List Value} {E:TypeId} {v:Value} (hS:Sat B w I As) (hk:As[k]?=some (blk b cs E)) (hx:Ev n L x (ptr b o)) (hy:Ev n L y v) (h1:v.oneCell'=true) (hs:∀ w,(Go.sizeOf t).run P w=.ok 1 w) (ho:o<cs.length)
  (h:∀ w',Sat B w' I (As.set k (blk b (cs.set o v) E))→WL P n ops K rest L w'):WL P n ops K (⟨none,.store t x y,ty,pos,af,none⟩::rest) L w:=by
 have hb:=hS.block hk
 have hcell:=X29 hb (Yb ho)
 have hfro:=Xbt hb o
 have hc:v.cells=#[v]:=by cases v <;> first | rfl | cases h1
 have hlt:b<w.heap.size:=(Yg.1 hb).1
 have hst:=run_store P w (ad b o) v .plain h1
 rw [hcell] at hst
 simp only [hfro] at hst
 have X1l:=setCell_eq_setRow w b o _ _ (0,0) v hb
 refine WL.st (w':=w.setCell (ad b o) v) (fun a ha=>?_) (h _ (hS.write (o':=Xh (cs.set o v) E) hk rfl rfl rfl ?_ fun c hc=>?_))
 ·have e0:(ad b o).add 0=ad b o:=rfl
  simp [execOp,hx a ha,hy a ha,Instr.storeAt,Instr.sureAddr,storeVar,hs,hc,storeCells,e0,hst]
 ·rw [X1l,setRow_heap w b _ _ _ _ hb]
  simp [Xh]
 ·rw [X1l,setRow_other w b c _ hc]
theorem WL.append {E size m c nn b:Nat} {v:Value} {xs news:List Value} {i:TypeInfo} {z:Value} {bytes:Nat} {E':TypeId} (hS:Sat B w I (blk b news E'::As)) (hx:Ev n L x v) (hy:Ev n L y (.slice (some (ad b 0)) m c))
  (hk:As[k]?=some (Vec E size v nn xs)) (ht:P.underlying t=some (.slice E)) (hi:P.info? E=some i) (hz:i.zero=some z) (hsize:i.size=size) (hby:i.bytes=bytes) (hzs:z.cells.size=size)
  (hl:news.length=m*size) (hm:Nat.blt 0 m=true) (h1:news.all Value.oneCell'=true) (h63:(nn+m)*bytes≤140737488355328∧nn+m≤maxLen) (hd:Nat.blt d n=true)
  (h:∀ v' w',Sat B w' I (As.set k (Vec E size v' (nn+m) (xs ++ news)))→WL P n ops K rest ((d,v')::L) w') :
  WL P n ops K (⟨some d,.call ⟨.builtin .append,#[x,y],#[t,t]⟩,ty,pos,af,none⟩::rest) L w:=by
 have hb:=hS.block (k:=0) rfl
 obtain ⟨v',w',hr,hS'⟩:=X6d (P:=P) (ty:=ty) (k:=k+1) hS ht hi hz hsize hby hzs hk (p:=ad b 0) (m:=m) (c:=c) hl (Y1 hm) (fun j u hu=>by rw [Xo,Yq]; exact X29 hb hu) (Y2z.1 h1) h63.2 h63.1
 have hS2:=hS'.drop (k:=0) (A:=blk b news E') (by simp)
 simp only [List.set_cons_succ,List.eraseIdx_cons_zero] at hS2
 refine WL.val (v:=v') (w':=w') (fun a ha=>?_) hd (h _ _ hS2)
 simp [execOp,resolve,invoke,builtin,hx a ha,hy a ha,hr]
theorem WL.make {l:Nat} {i:TypeInfo} {z:Value} {y:Operand} (hS:Sat B w I As) (hx:Ev n L x (I64 l)) (hy:Ev n L y (I64 l)) (ht:P.underlying t=some (.slice e)) (hi:P.info? e=some i) (hz:i.zero=some z) (hb:(i.bytes:Int)*l≤281474976710656) (hl:(l:Int)≤9223372036854775807)
  (hone:z.cells=#[z]) (hs:i.size=1) (hd:Nat.blt d n=true)
  (h:∀ b w',Sat B w' I (blk b (List.replicate l z) e::As)→WL P n ops K rest ((d,.slice (some (ad b 0)) l l)::L) w'):WL P n ops K (⟨some d,.makeSlice t x y,ty,pos,af,none⟩::rest) L w:=by
 have hr:=run_make (P:=P) w t e i z ht hi hz .i64 .i64 l l (by omega) (by omega) hb hl
 have hm:madeCells z.cells ((l:Int).toNat*i.size)=(List.replicate l z).toArray:=by
  rw [hone,hs]
  apply Array.ext'
  simp [madeCells]
  apply Y17
  intro j
  by_cases hj:j<l <;> simp [hj,Nat.mod_one]
 rw [hm] at hr
 refine WL.val (v:=.slice (some (ad w.heap.size 0)) l l) (w':=w.alloc (Xh (List.replicate l z) e)) (fun a ha=>?_) hd (h _ _ (hS.alloc _))
 simp only [Yh] at hr
 simp [execOp,hx a ha,hy a ha,hr,Xh]
theorem Ex.slc {d:Option Nat} {a0:Option Addr} {len cap s:Nat} {lo hi:Int} {z:Operand} (hx:Ev n L x (.slice a0 len cap)) (hy:Ev n L y (I64 lo)) (hz:Ev n L z (I64 hi)) (h0:0≤lo) (h1:lo≤hi) (h2:hi≤cap) (ht:P.underlying t=some (.slice e)) (hs:∀ w,(Go.sizeOf e).run P w=.ok s w) :
  Ex P n L w ⟨d,.slice t x (some y) (some z) none,ty,pos,af,g⟩ (sliced a0 lo.toNat hi.toNat cap s) w:=fun a ha=>by
 have hT:P.underlying t=some (.slice (P.elem t)):=by rw [X1f ht]; exact ht
 have h:=run_slice_lh (P:=P) w t a0 len cap hT .i64 .i64 lo hi h0 h1 h2
 rw [X1f ht,hs] at h
 simp [execOp,hx a ha,hy a ha,hz a ha,run_sliceAt_slice w t _ _ _ _ hT,h,Result.andThen]
theorem Ex.slcTo {d:Option Nat} {a0:Option Addr} {len cap s:Nat} {hi:Int} {z:Operand} (hx:Ev n L x (.slice a0 len cap)) (hz:Ev n L z (I64 hi)) (h1:0≤hi) (h2:hi≤cap) (ht:P.underlying t=some (.slice e)) (hs:∀ w,(Go.sizeOf e).run P w=.ok s w) :
  Ex P n L w ⟨d,.slice t x none (some z) none,ty,pos,af,g⟩ (sliced a0 0 hi.toNat cap s) w:=fun a ha=>by
 have hT:P.underlying t=some (.slice (P.elem t)):=by rw [X1f ht]; exact ht
 have h:=run_slice_h (P:=P) w t a0 len cap hT .i64 hi h1 h2
 rw [X1f ht,hs] at h
 simp [execOp,hx a ha,hz a ha,run_sliceAt_slice w t _ _ _ _ hT,h,Result.andThen]
theorem Ex.slcFrom {d:Option Nat} {a0:Option Addr} {len cap s:Nat} {lo:Int} (hx:Ev n L x (.slice a0 len cap)) (hy:Ev n L y (I64 lo)) (h0:0≤lo) (h1:lo≤len) (ht:P.underlying t=some (.slice e)) (hs:∀ w,(Go.sizeOf e).run P w=.ok s w) :
  Ex P n L w ⟨d,.slice t x (some y) none none,ty,pos,af,g⟩ (sliced a0 lo.toNat len cap s) w:=fun a ha=>by
 have hT:P.underlying t=some (.slice (P.elem t)):=by rw [X1f ht]; exact ht
 have h:=run_slice_l (P:=P) w t a0 len cap hT .i64 lo h0 h1
 rw [X1f ht,hs] at h
 simp [execOp,hx a ha,hy a ha,run_sliceAt_slice w t _ _ _ _ hT,h,Result.andThen]
def X13 (fn : Func) : Bool := fn.name != "runtime.NumGoroutine" && fn.body.isSome
theorem WL.call {f:FuncId} {fn:Func} {xs:List Operand} {ts:Array TypeId} {vs:List Value} {Q:Value→World→Prop} (hf:P.funcs[f]?=some fn) (hc:X13 fn=true) (hx:∀ a,Holds n L a→xs.map a.eval=vs) (hd:Nat.blt d n=true)
  (hcall:Calls P f vs.toArray w (Ret Q)) (h:∀ v w',Q v w'→WL P n ops K rest ((d,v)::L) w'):WL P n ops K (⟨some d,.call ⟨.value (.func f),xs.toArray,ts⟩,ty,pos,af,none⟩::rest) L w:=by
 intro a ha
 refine wpList_plain rfl fun K' hK=>?_
 have he:(execOp a.eval (⟨some d,.call ⟨.value (.func f),xs.toArray,ts⟩,ty,pos,af,none⟩:Oper)).run P w=.ok (.enter f vs.toArray) w:=by
  unfold X13 at hc
  simp only [Y5] at hc
  obtain ⟨h1,h2⟩:=hc
  have h1' : ¬ fn.name = "runtime.NumGoroutine" := by simpa using h1
  have h2':¬ fn.body=none:=by intro e; rw [e] at h2; cases h2
  have hv:=hx a ha
  simp [execOp,resolve,Act.eval,Deferred.ofValue,invoke,callFunc,program,Sem.run,hf,h1',h2',← hv]
 unfold Oper.wp
 rw [he]
 refine hcall.mono fun e w'' hq=>?_
 obtain ⟨v,rfl,hv⟩:=hq
 exact hK _ _ (h v w'' hv _ (ha.put hd v))
theorem X6:∀ a:Act,Holds n L a→([]:List Operand).map a.eval=[]:=fun _ _=>rfl
theorem X1 {xs:List Operand} {v:Value} {vs:List Value} (hx:Ev n L x v) (h:∀ a,Holds n L a→xs.map a.eval=vs):∀ a,Holds n L a→(x::xs).map a.eval=v::vs:=fun a ha=>by
 rw [Yl,hx a ha,h a ha]
end
end Gk
namespace Gk
open Go
section
variable {P:Program} {n:Nat} {K:X1u} {L:Env} {w w':World} {ops:Array Oper} {rest:List Oper}
variable {B:World} {I:Im} {As:List Xe} {k:Nat} {d:Nat} {ty:TypeId} {pos:String} {af:Array Edge} {g:Option (Nat×Bool)} {t e:TypeId} {x y:Operand}
theorem Xi3 (l:List UInt8) {k:Nat} (h:k<l.length):l.drop k=at_ l (k:Int)::l.drop (k+1):=by
 rw [Yz h]
 simp [at_,Y8,h]
end
end Gk
namespace Gk
open Go
def WQ (P:Program) (n:Nat) (ops:Array Oper) (C:World→Prop) (K:Env→Prop) (l:List Oper) (L:Env):Prop :=
 ∀ a,Holds n L a→wpQuiet P ops C (fun a'=>∃ L',Holds n L' a'∧K L') l a
def WT (P:Program) (n:Nat) (ops:Array Oper) (w:World) (K:X1u) (rest l:List Oper) (L:Env):Prop :=
 ∀ a,Holds n L a→wpStill P ops w (fun a'=>wpList P ops (lift n K) rest a' w) l a
section
variable {P:Program} {n:Nat} {K:X1u} {L:Env} {w:World} {ops:Array Oper} {rest tl:List Oper} {C:World→Prop} {k:Env→Prop}
variable {B:World} {I:Im} {As:List Xe}
theorem WC.quiet {id:Nat} {l:List Oper} (hm:P.follows .mixedOrders=true) (hB:Region.lexB .any l.toArray=true) (hS:Sat B w I As)
  (h:WQ P n l.toArray (fun w=>Sat B w I As) (fun L'=>∀ w',Sat B w' I As→K .normal L' w') l L):WC P n (.region id l.toArray true) K L w:=by
 intro a ha
 refine wp_region_quiet (C:=fun w=>Sat B w I As) hm hB (hS.world rfl rfl rfl rfl) ?_
 have h1:=h a ha
 have mono:∀ (l':List Oper) (a:Act) (Q Q':Act→Prop),(∀ a,Q a→Q' a)→wpQuiet P l.toArray (fun w=>Sat B w I As) Q l' a→wpQuiet P l.toArray (fun w=>Sat B w I As) Q' l' a:=by
  intro l'
  induction l' with
  | nil=>intro a Q Q' hq hh; exact hq _ hh
  | cons o r ih =>
   intro a Q Q' hq hh
   unfold wpQuiet at hh ⊢
   split
   ·rename_i hw; rw [if_pos hw] at hh; exact Oper.quiet_mono (fun a=>ih a Q Q' hq) hh
   ·rename_i hw; rw [if_neg hw] at hh; exact ih _ Q Q' hq hh
 refine mono l a (fun a'=>∃ L',Holds n L' a'∧∀ w',Sat B w' I As→K .normal L' w') _ (fun a' hh w' hw'=>?_) h1
 obtain ⟨L',hL,hk⟩:=hh
 exact ⟨L',hL,hk w' hw'⟩
theorem WQ.nil (h:k L):WQ P n ops C k [] L:=fun a ha=>wpQuiet_nil ⟨L,ha,h⟩
theorem WQ.val {d:Nat} {op:Op} {ty:TypeId} {pos:String} {af:Array Edge} {v:Value} (hx:∀ w,C w→Ex P n L w ⟨some d,op,ty,pos,af,none⟩ v w) (hd:Nat.blt d n=true)
  (h:WQ P n ops C k rest ((d,v)::L)):WQ P n ops C k (⟨some d,op,ty,pos,af,none⟩::rest) L:=by
 intro a ha
 refine wpQuiet_step fun K' hK=>?_
 rw [if_pos (X2i rfl _)]
 refine ⟨v,fun w hw=>?_,hK _ (h _ (ha.put hd v))⟩
 unfold Oper.quietAt
 rw [hx w hw a ha]
 exact ⟨rfl,rfl⟩
theorem WQ.gvals {d j t:Nat} {c:List (Bool×Bool)} {b want:Bool} {op:Op} {ty:TypeId} {pos:String} {af:Array Edge} {v:Value}
  (hj:(ops[j]?).bind (·.dst)=some t) (ht:Nat.blt t n=true) (hb:look L t=some (gds c (.bool b))) (hx:(∀ p∈c ++ [(b,want)],p.1=p.2)→∀ w,C w→Ex P n L w ⟨some d,op,ty,pos,af,some (j,want)⟩ v w) (hd:Nat.blt d n=true)
  (h:WQ P n ops C k rest ((d,gds (c ++ [(b,want)]) v)::L)):WQ P n ops C k (⟨some d,op,ty,pos,af,some (j,want)⟩::rest) L:=by
 intro a ha
 refine wpQuiet_step fun K' hK=>?_
 have hput:=h _ (ha.put hd (gds (c ++ [(b,want)]) v))
 have hlt:t<a.tmps.size:=by have:=Y1 ht; rw [ha.size]; omega
 have hv:=ha.get t _ hb
 have hy:yielded ops a.tmps j=match gds c (.bool b) with | .bool b=>some b | _=>none:=by
  obtain ⟨o,ho,hdd⟩:=Y1v.1 hj
  rw [Y9,Yj hlt] at hv
  simp only [Y25] at hv
  have h2:a.tmps[t]?=some (gds c (.bool b)):=by rw [Yj hlt,hv]
  simp only [yielded,ho,hdd,Y24,h2]
  generalize gds c (.bool b)=g
  cases g <;> rfl
 by_cases e:∀ p∈c ++ [(b,want)],p.1=p.2
 ·have ec:∀ p∈c,p.1=p.2:=fun p hp=>e p (by simp [hp])
  have eb:b=want:=e (b,want) (by simp)
  rw [X3b ec] at hy
  rw [if_pos (by simp [Region.wanted,hy,eb])]
  rw [X3b e] at hput
  refine ⟨v,fun w hw=>?_,hK _ hput⟩
  unfold Oper.quietAt
  rw [hx e w hw a ha]
  exact ⟨rfl,rfl⟩
 ·have hw:Region.wanted (⟨some d,op,ty,pos,af,some (j,want)⟩:Oper) (yielded ops a.tmps)=false:=by
   by_cases ec:∀ p∈c,p.1=p.2
   ·rw [X3b ec] at hy
    have eb:¬ b=want:=fun eb=>e fun p hp=>by
     rcases Y1n.1 hp with hp | hp
     ·exact ec p hp
     ·simp at hp; subst hp; exact eb
    simp [Region.wanted,hy,eb]
   ·rw [X5b ec] at hy
    simp [Region.wanted,hy,undef]
  rw [if_neg (by simp [hw])]
  rw [X5b e] at hput
  exact hK _ hput
theorem WQ.gval {d j t:Nat} {b want:Bool} {op:Op} {ty:TypeId} {pos:String} {af:Array Edge} {v:Value}
  (hj:(ops[j]?).bind (·.dst)=some t) (ht:Nat.blt t n=true) (hb:look L t=some (.bool b)) (hx:b=want→∀ w,C w→Ex P n L w ⟨some d,op,ty,pos,af,some (j,want)⟩ v w) (hd:Nat.blt d n=true)
  (h:WQ P n ops C k rest ((d,gd b want v)::L)):WQ P n ops C k (⟨some d,op,ty,pos,af,some (j,want)⟩::rest) L :=
 WQ.gvals (c:=[]) hj ht hb (fun e=>hx (e (b,want) (by simp))) hd h
theorem WQ.call {d:Nat} {ty:TypeId} {pos:String} {af:Array Edge} {f:FuncId} {fn:Func} {xs:List Operand} {ts:Array TypeId} {vs:List Value} {v:Value} (hf:P.funcs[f]?=some fn) (hc:X13 fn=true) (hx:∀ a,Holds n L a→xs.map a.eval=vs) (hd:Nat.blt d n=true)
  (hcall:∀ w,C w→Calls P f vs.toArray w (Ret fun u w'=>u=v∧C w')) (h:WQ P n ops C k rest ((d,v)::L)):WQ P n ops C k (⟨some d,.call ⟨.value (.func f),xs.toArray,ts⟩,ty,pos,af,none⟩::rest) L:=by
 intro a ha
 refine wpQuiet_step fun K' hK=>?_
 rw [if_pos (X2i rfl _)]
 refine ⟨v,fun w hw=>?_,hK _ (h _ (ha.put hd v))⟩
 have he:(execOp a.eval (⟨some d,.call ⟨.value (.func f),xs.toArray,ts⟩,ty,pos,af,none⟩:Oper)).run P w=.ok (.enter f vs.toArray) w:=by
  unfold X13 at hc
  simp only [Y5] at hc
  obtain ⟨h1,h2⟩:=hc
  have h1' : ¬ fn.name = "runtime.NumGoroutine" := by simpa using h1
  have h2':¬ fn.body=none:=by intro e; rw [e] at h2; cases h2
  have hv:=hx a ha
  simp [execOp,resolve,Act.eval,Deferred.ofValue,invoke,callFunc,program,Sem.run,hf,h1',h2',← hv]
 unfold Oper.quietAt
 rw [he]
 refine ⟨rfl,(hcall w hw).mono ?_⟩
 rintro e w'' ⟨u,rfl,rfl,hC⟩
 exact ⟨rfl,hC⟩
theorem WC.tail {id:Nat} {l:List Oper} (N:Nat) (hm:P.follows .mixedOrders=true) (hB:Region.lexTailB .any l.toArray N=true)
  (h:WT P n l.toArray w.drew K (l.drop N) (l.take N) L):WC P n (.region id l.toArray true) K L w:=by
 intro a ha
 exact wp_region_still_tail N hm hB (h a ha)
theorem WT.nil (h:WL P n ops K tl L w):WT P n ops w K tl [] L:=fun a ha=>wpStill_nil (h a ha)
theorem WT.val {d:Nat} {op:Op} {ty:TypeId} {pos:String} {af:Array Edge} {v:Value} (hx:Ex P n L w ⟨some d,op,ty,pos,af,none⟩ v w) (hd:Nat.blt d n=true)
  (h:WT P n ops w K tl rest ((d,v)::L)):WT P n ops w K tl (⟨some d,op,ty,pos,af,none⟩::rest) L:=by
 intro a ha
 refine wpStill_step fun K' hK=>?_
 rw [if_pos (X2i rfl _)]
 unfold Oper.still
 rw [hx a ha]
 exact ⟨rfl,hK _ (h _ (ha.put hd v))⟩
end
end Gk
namespace Gk
open Go
section
variable {P:Program} {ops:Array Oper} {Q:Exit→Act→World→Prop} {md:Region.Mode} {S:World→Prop} {nd:Nat→Bool}
def X92 (P:Program) (md:Region.Mode) (ops:Array Oper) (Q:Exit→Act→World→Prop) (S:World→Prop) (nd:Nat→Bool):Nat→Array Bool→Act→World→Prop
 | 0,listed,a,w=>Region.ready md ops listed=[]∧Q .normal a w
 | fuel+1,listed,a,w =>
  (Region.ready md ops listed=[]→Q .normal a w) ∧
  ∀ i∈Region.ready md ops listed,wpOp P ops Q i (fun a' w'=>(nd i=true→S w→S w')∧X92 P md ops Q S nd fuel (listed.setIfInBounds i true) a' w') a w
theorem X6x:∀ (fuel:Nat) (listed:Array Bool) (a:Act) (w:World),X92 P md ops Q S nd fuel listed a w→wpAny P md ops Q fuel listed a w
 | 0,_,_,_,h=>h
 | fuel+1,_,_,_,h=>⟨h.1,fun i hi=>wpOp_mono (fun a' w' h'=>X6x fuel _ a' w' h'.2) (h.2 i hi)⟩
def Xa4 (md:Region.Mode) (ops:Array Oper) (nd:Nat→Bool) (i:Nat):Bool :=
 (List.range ops.size).all fun j=>nd j || j == i || match ops[j]? with
  | some oj=>oj.after.any (fun e=>Region.binds md e && e.on == i)
  | none=>true
theorem X93 {i:Nat} {oi:Oper} {v:Value} (hi:ops[i]?=some oi) (hsel:∀ (j:Nat) (o:Oper) cs b,ops[j]?=some o→o.op≠.select cs b)
  (hQ:∀ c a w,Q (.panic c) (a.put oi.dst v) w→Q (.panic c) a w) (hnd:Xa4 md ops nd i=true) :
  ∀ (fuel:Nat) (listed:Array Bool) (a:Act) (w:World),
   (∀ j oj,ops[j]?=some oj→j≠i→listed.getD j true=false→(∀ e∈oj.after,Region.binds md e=true→e.on≠i)→oi.apart ops oj=true) →
   i∈Region.ready md ops listed→YieldsIf P ops S oi v a→S w →
   X92 P md ops Q S nd fuel (listed.setIfInBounds i true) (a.put oi.dst v) w→X92 P md ops Q S nd (fuel+1) listed a w:=by
 intro fuel
 induction fuel with
 | zero =>
  intro listed a w _ hr hy hS H
  refine ⟨fun h=>(by rw [h] at hr; cases hr),fun j hj=>?_⟩
  by_cases hji:j=i
  ·subst hji; exact hy.wpOp hi hS ⟨fun _ h=>h,H⟩
  ·have:=ready_mono hj hji
   rw [H.1] at this
   cases this
 | succ fuel ih =>
  intro listed a w hfree hr hy hS H
  refine ⟨fun h=>(by rw [h] at hr; cases hr),fun j hj=>?_⟩
  by_cases hji:j=i
  ·subst hji; exact hy.wpOp hi hS ⟨fun _ h=>h,H⟩
  ·have h1:=H.2 j (ready_mono hj hji)
   obtain ⟨hjun,oj,hoj,hall⟩:=mem_ready.1 hj
   have hnot:∀ e∈oj.after,Region.binds md e=true→e.on≠i:=fun e he hb heq=>by
    have h1:=hall e he hb
    have h0:=(mem_ready.1 hr).1
    rw [heq] at h1
    rcases Y1c i listed.size with h' | h'
    ·simp [h'] at h0 h1; rw [h0] at h1; cases h1
    ·simp [Y3q h'] at h1
   have hndj:nd j=true:=by
    have hlt:j<ops.size:=(Yg.1 hoj).1
    have h9:=(Y2z.1 hnd) j (Y2i.2 hlt)
    simp only [hoj,Y29,beq_iff_eq,hji,or_false] at h9
    rcases h9 with h9 | h9
    ·exact h9
    ·obtain ⟨e,he,hb⟩:=Array.any_eq_true'.1 h9
     simp only [Y5,beq_iff_eq] at hb
     exact absurd hb.2 (hnot e he hb.1)
   have h2:=wpOp_putIf hoj (hfree j oj hoj hji hjun hnot) (fun cs b=>hsel i oi cs b hi) (fun cs b=>hsel j oj cs b hoj) hQ hy h1
   have hfree':∀ k ok,ops[k]?=some ok→k≠i→(listed.setIfInBounds j true).getD k true=false →
     (∀ e∈ok.after,Region.binds md e=true→e.on≠i)→oi.apart ops ok=true:=fun k ok hk hki hun hno=>by
    refine hfree k ok hk hki ?_ hno
    by_cases hjk:j=k
    ·subst hjk; exact hjun
    ·rw [getD_set_ne true hjk] at hun; exact hun
   refine wpOp_mono (fun a' w' h3=>⟨fun _ _=>h3.2.1 hndj hS,ih (listed.setIfInBounds j true) a' w' hfree' (ready_mono hr (Ne.symm hji)) h3.1 (h3.2.1 hndj hS) ?_⟩) h2
   rw [Array.setIfInBounds_comm _ _ hji]
   exact h3.2.2
end
def noP (K:X1u):X1u
 | .panic _,_,_=>False
 | e,L,w=>K e L w
def WD (P:Program) (n:Nat) (ops:Array Oper) (S:World→Prop) (nd:Nat→Bool) (K:X1u) (fuel:Nat) (listed:Array Bool) (L:Env) (w:World):Prop :=
 ∀ a,Holds n L a→X92 P .any ops (lift n (noP K)) S nd fuel listed a w
section
variable {P:Program} {n:Nat} {K:X1u} {L:Env} {w:World} {ops:Array Oper} {S:World→Prop} {nd:Nat→Bool} {fuel:Nat} {listed:Array Bool}
theorem WC.drawn (S:World→Prop) (nd:Nat→Bool) {id:Nat} {l:List Oper} (hm:P.follows .mixedOrders=true) (h:WD P n l.toArray S nd K l.toArray.size (Array.replicate l.toArray.size false) L w.drew):WC P n (.region id l.toArray true) K L w:=by
 refine WC.mono (K:=noP K) (fun a ha=>wp_region_any hm (X6x _ _ _ _ (h a ha))) ?_
 intro e L w hh
 cases e <;> first | exact hh | exact hh.elim
theorem WD.done (hr:Region.ready .any ops listed=[]) (h:K .normal L w):WD P n ops S nd K fuel listed L w:=fun a ha=>by
 cases fuel with
 | zero=>exact ⟨hr,L,ha,h⟩
 | succ f=>exact ⟨fun _=>⟨L,ha,h⟩,by rw [hr]; simp⟩
theorem WD.take {i d:Nat} {op:Op} {ty:TypeId} {pos:String} {af:Array Edge} {v:Value} (hi:ops[i]?=some ⟨some d,op,ty,pos,af,none⟩) (hs:Region.noSelect ops=true) (hf:Region.free .any ops listed i=true) (hr:(Region.ready .any ops listed).contains i=true)
  (hnd:Xa4 .any ops nd i=true) (hS:S w) (hx:∀ w,S w→Ex P n L w ⟨some d,op,ty,pos,af,none⟩ v w) (hd:Nat.blt d n=true)
  (h:WD P n ops S nd K fuel (listed.setIfInBounds i true) ((d,v)::L) w):WD P n ops S nd K (fuel+1) listed L w:=fun a ha =>
 X93 hi (Region.noSelect_spec hs) (fun _ _ _ ⟨_,_,hk⟩=>hk.elim) hnd fuel listed a w (Region.free_spec hi hf) (by simpa using hr)
  (.inl ⟨X2i rfl _,fun w hw=>hx w hw a ha⟩) hS (h _ (ha.put hd v))
def WO (P:Program) (n:Nat) (ops:Array Oper) (S:World→Prop) (nd:Nat→Bool) (K:X1u) (fuel:Nat) (listed:Array Bool) (L:Env) (w:World) (rs:List Nat):Prop :=
 ∀ i∈rs,∀ o,ops[i]?=some o→WL P n ops (Xa1 (fun L' w'=>(nd i=true→S w→S w')∧WD P n ops S nd K fuel (listed.setIfInBounds i true) L' w') (noP K)) [o] L w
theorem WO.nil:WO P n ops S nd K fuel listed L w []:=fun _ h=>by cases h
theorem WO.cons {i:Nat} {o:Oper} {rs:List Nat} (ho:ops[i]?=some o)
  (h:WL P n ops (Xa1 (fun L' w'=>(nd i=true→S w→S w')∧WD P n ops S nd K fuel (listed.setIfInBounds i true) L' w') (noP K)) [o] L w) (hr:WO P n ops S nd K fuel listed L w rs):WO P n ops S nd K fuel listed L w (i::rs):=by
 intro j hj o' ho'
 rcases Y19.1 hj with rfl | hj
 ·rw [ho] at ho'; cases ho'; exact h
 ·exact hr j hj o' ho'
theorem WD.go {i:Nat} {w0:World} (hS:nd i=true→S w0→S w) (h:WD P n ops S nd K fuel (listed.setIfInBounds i true) L w) :
  Xa1 (fun L' w'=>(nd i=true→S w0→S w')∧WD P n ops S nd K fuel (listed.setIfInBounds i true) L' w') (noP K) .normal L w:=⟨hS,h⟩
theorem Sat.pick {B:World} {I:Im} {As:List Xe} {A:Xe} (hS:Sat B w I As) (k:Nat) (hk:As[k]?=some A):Sat B w I (A::As.eraseIdx k):=by
 obtain ⟨h,hs,hg⟩:=hS
 obtain ⟨h1,h2,hp,ha,_,h3,he,hpe⟩:=hs.at_ hk
 exact ⟨h1 ++ h3,⟨h1,h3,rfl,ha,he⟩,hg.perm (hp.trans (hpe.symm.append_left h1))⟩
theorem SepAll.snoc:∀ {As:List Xe} {A:Xe} {h1 h2:X3h},SepAll As h1→A h2→SepAll (As ++ [A]) (h1 ++ h2)
 | [],A,h1,h2,h,ha=>by
  simp only [SepAll] at h
  subst h
  exact ⟨h2,[],by simp,ha,rfl⟩
 | A0::As,A,h1,h2,h,ha=>by
  obtain ⟨g1,g2,rfl,h0,hr⟩:=h
  exact ⟨g1,g2 ++ h2,by rw [Y7],h0,hr.snoc ha⟩
theorem Sat.push {B:World} {I:Im} {As Bs:List Xe} {A:Xe} {k:Nat} (hS:Sat B w I (A::As)) (hk:As[k]?=some (SepAll Bs)):Sat B w I (As.set k (SepAll (Bs ++ [A]))):=by
 obtain ⟨h,⟨g1,g2,rfl,ha,hs⟩,hg⟩:=hS
 obtain ⟨h1,h2,hp,hb,X1l,_⟩:=hs.at_ hk
 obtain ⟨h',hs',hp'⟩:=X1l (SepAll (Bs ++ [A])) (h1 ++ g1) (hb.snoc ha)
 refine ⟨h',hs',hg.perm ((hp.append_left g1).trans (List.Perm.trans ?_ hp'.symm))⟩
 rw [← Y7]
 exact Y11.append_right _
theorem Sat.freezeVec {B:World} {I:Im} {As:List Xe} {k E size nn c:Nat} {a:Option Addr} {xs:List Value} (hS:Sat B w I As) (hk:As[k]?=some (Vec E size (.slice a nn c) nn xs)):∃ J,Le I J∧RS J a size nn xs∧Sat B w J (As.eraseIdx k):=by
 have hl:xs.length=nn*size:=hS.pure_ hk fun _ hh=>hh.1
 rcases Y3d nn with h0 | h0
 ·exact ⟨I,Le.refl I,⟨hl,fun h=>absurd h (by omega)⟩,hS.drop hk⟩
 ·obtain ⟨b,cap,r,hv,h1,h2,_,_,hSo⟩:=hS.vecOpen hk h0
  injection hv with hv _ hv3
  subst hv; subst hv3
  have hlk:k<As.length:=(Y0.1 hk).1
  obtain ⟨J,hJ,hb,hS'⟩:=hSo.freeze (k:=k) (b:=b) (o:=Xh (xs ++ r) E) (by simp [hlk,blk])
  refine ⟨J,hJ,⟨hl,fun _=>⟨_,rfl,rfl,_,_,_,hb,?_⟩⟩,by simpa [Y2g] using hS'⟩
  intro j u hj
  have hjl:j<xs.length:=(Y0.1 hj).1
  simp only [Yq,Y2a]
  rw [Ya hjl]
  exact hj
end
end Gk
namespace Gk
open Go
theorem three {a b c:Bool} (h:(a && b && c)=true):a=true∧b=true∧c=true:=by cases a <;> cases b <;> cases c <;> simp_all
theorem four {a b c d:Bool} (h:(a && b && c && d)=true):a=true∧b=true∧c=true∧d=true:=by cases a <;> cases b <;> cases c <;> cases d <;> simp_all
theorem WD.tk {P:Program} {n:Nat} {K:X1u} {L:Env} {w:World} {ops:Array Oper} {S:World→Prop} {nd:Nat→Bool} {fuel:Nat} {listed:Array Bool} {i d:Nat} {op:Op} {ty:TypeId} {pos:String} {af:Array Edge} {v:Value} (hi:ops[i]?=some ⟨some d,op,ty,pos,af,none⟩) (hs:(Region.noSelect ops && Region.free .any ops listed i && (Region.ready .any ops listed).contains i && Xa4 .any ops nd i)=true)
    (hS:S w) (hx:∀ w,S w→Ex P n L w ⟨some d,op,ty,pos,af,none⟩ v w) (hd:Nat.blt d n=true)
    (h:WD P n ops S nd K fuel (listed.setIfInBounds i true) ((d,v)::L) w):WD P n ops S nd K (fuel+1) listed L w:=WD.take hi (four hs).1 (four hs).2.1 (four hs).2.2.1 (four hs).2.2.2 hS hx hd h
end Gk
namespace Gk
open Go
def noGo (K:X1u):X1u:=fun e L w=>match e with | .goto _=>False | e=>K e L w
theorem WC.scope {P:Program} {n:Nat} {K:X1u} {L:Env} {w:World} {c:Code} (h:WC P n c (noGo K) L w):WC P n (.scope c) K L w:=by
 intro a ha
 refine wp_scope_straight (wp_mono (h a ha) ?_)
 rintro e a' w' ⟨L',h1,h2⟩
 cases e <;> first | exact h2.elim | exact ⟨L',h1,h2⟩
section
variable {P:Program} {n:Nat} {K:X1u} {L:Env} {w:World} {ops:Array Oper} {rest:List Oper}
end
end Gk
namespace Gk
open Go
section
variable {P:Program} {n:Nat} {K:X1u} {L:Env} {w:World} {B:World} {I:Im} {As:List Xe} {k:Nat} {x y:Operand} {ty:TypeId} {pos:String} {af:Array Edge} {g:Option (Nat×Bool)} {ops:Array Oper} {rest:List Oper}
theorem Ex.extern {d : Option Nat} {f : FuncId} {fn : Func} {e : Array Value → Sem Value} {xs : List Operand} {ts : Array TypeId} {vs : List Value} {v : Value} (hf : P.funcs[f]? = some fn) (hname : (fn.name == "runtime.NumGoroutine") = false) (hb : fn.body.isNone = true) (hn : Extern.findNext fn = none) (he : Extern.find fn = some e)
  (hx:∀ a,Holds n L a→xs.map a.eval=vs) (hv:(e vs.toArray).run P w=.ok v w):Ex P n L w ⟨d,.call ⟨.value (.func f),xs.toArray,ts⟩,ty,pos,af,g⟩ v w:=fun a ha=>by
 have h:=run_callFunc_extern hf hname hb hn he vs.toArray w
 have hv2:=hx a ha
 rw [hv] at h
 simp only [Result.andThen] at h
 subst hv2
 simp [execOp,resolve,Act.eval,Deferred.ofValue,invoke,h]
theorem X60 {b:Nat} {cs:List Value} {E:TypeId} (hb:w.heap[b]?=some (Xh cs E)):w.shape? b=some (E,cs.length):=by
 simp [World.shape?,hb,Xh]
theorem Ex.toUnsafe {d:Option Nat} {src dst t E:TypeId} {j:TypeInfo} {b o:Nat} {cs:List Value} (hx:Ev n L x (ptr b o)) (hS:Sat B w I As) (hk:As[k]?=some (blk b cs E)) (hs:P.underlying src=some (.pointer t)) (hd:P.underlying dst=some .unsafePointer) (ht:P.info? t=some j) (hj:j.size≠0) (ho:o<cs.length) :
  Ex P n L w ⟨d,.convert src dst x,ty,pos,af,g⟩ (ptr b o) w:=fun a ha=>by
 have h:=Go.Lib.run_to_unsafe (P:=P) w ⟨b,o,none⟩ hs hd ht hj (X60 (hS.block hk)) ho
 simp [execOp,hx a ha,h]
theorem Ex.fromUnsafe {d:Option Nat} {src dst u E:TypeId} {j:TypeInfo} {b o:Nat} {cs:List Value} (hx:Ev n L x (ptr b o)) (hS:Sat B w I As) (hk:As[k]?=some (blk b cs E)) (hs:P.underlying src=some .unsafePointer) (hd:P.underlying dst=some (.pointer u)) (hu:P.info? u=some j) (hl:liesAt P P.depth E (cs.length / P.cellsOf E) o u 1=true) :
  Ex P n L w ⟨d,.convert src dst x,ty,pos,af,g⟩ (ptr b o) w:=fun a ha=>by
 have h:=Go.Lib.run_from_unsafe (P:=P) w ⟨b,o,none⟩ hs hd hu (X60 (hS.block hk)) hl
 simp [execOp,hx a ha,h]
theorem Ex.nepSame {d:Option Nat} {t te:TypeId} {j:TypeInfo} {a:Addr} (hx:Ev n L x (.pointer (some a))) (hy:Ev n L y (.pointer (some a))) (hT:P.underlying t=some (.pointer te)) (hj:P.info? te=some j) (ht':True):Ex P n L w ⟨d,.binOp .neq t x y t,ty,pos,af,g⟩ (.bool false) w :=
 Xi hx hy (fun _ _=>by rw [eqGuard_at_pointer]; rfl) (Go.Lib.run_neq_ptr_same w a hT hj)
abbrev bcs (l:List UInt8):List Value:=l.map fun c=>U8 (c.toNat:Int)
theorem Ex.sliceData {d:Option Nat} {ts:Array TypeId} {a:Addr} {m c:Nat} (hx:Ev n L x (.slice (some a) m c)) (hc:c≠0):Ex P n L w ⟨d,.call ⟨.builtin .unsafeSliceData,#[x],ts⟩,ty,pos,af,g⟩ (.pointer (some a)) w:=fun b hb=>by
 have h:=Go.Lib.run_unsafeSliceData_row (P:=P) w ts ty a m c hc
 simp [execOp,resolve,invoke,builtin,hx b hb,h]
theorem Ex.sliceDataNil {d:Option Nat} {ts:Array TypeId} {m c:Nat} (hx:Ev n L x (.slice none m c)):Ex P n L w ⟨d,.call ⟨.builtin .unsafeSliceData,#[x],ts⟩,ty,pos,af,g⟩ (.pointer none) w:=fun b hb=>by
 have h:=Go.Lib.run_unsafeSliceData_nil (P:=P) w ts ty m c
 simp [execOp,resolve,invoke,builtin,hx b hb,h]
theorem Ex.unsafeStringNone {d:Option Nat} {pt it:TypeId} {p:Option Addr} (hx:Ev n L x (.pointer p)) (hy:Ev n L y (I64 0)):Ex P n L w ⟨d,.call ⟨.builtin .unsafeString,#[x,y],#[pt,it]⟩,ty,pos,af,g⟩ (S []) w:=fun b hb=>by
 have h:=Go.Lib.run_unsafeString_none (P:=P) w pt it ty p
 simp [execOp,resolve,invoke,builtin,hx b hb,hy b hb,h]
 rfl
theorem Sat.freezeCells {b m:Nat} {cs:List Value} {E:TypeId} (hS:Sat B w I As) (hk:As[k]?=some (blk b cs E)):Sat B (w.freeze ⟨b,0,none⟩ m) I (As.eraseIdx k):=by
 by_cases h0:m=0
 ·subst h0
  have e:w.freeze ⟨b,0,none⟩ 0=w:=by simp [World.freeze]
  rw [e]; exact hS.drop hk
 ·have hb:=hS.block hk
  have hw:∃ o',(w.freeze ⟨b,0,none⟩ m).heap[b]?=some o':=by
   refine ⟨.cells cs.toArray E (0,m),?_⟩
   simp [World.freeze,h0,Y1s,hb,Xh]
  obtain ⟨o',ho⟩:=hw
  have h1:=hS.write (w':=w.freeze ⟨b,0,none⟩ m) hk (by simp [World.freeze,h0]) (by simp [World.freeze,h0]) (by simp [World.freeze,h0]) ho (fun c hc=>by
   have hne:¬ b=c:=fun e=>hc e.symm
   simp [World.freeze,h0,Y1s,hne])
  have hlk:k<As.length:=(Y0.1 hk).1
  have h2:=h1.drop (k:=k) (A:=own b o') (by simp [hlk])
  simpa [Y2g] using h2
theorem WL.unsafeString {d b:Nat} {pt it E:TypeId} {l:List UInt8} {r:List Value} (hS:Sat B w I As) (hk:As[k]?=some (blk b (bcs l ++ r) E)) (hx:Ev n L x (ptr b 0)) (hy:Ev n L y (I64 l.length)) (h0:l≠[]) (hp:P.underlying pt=some (.pointer E)) (hc:P.cellsOf E=1) (h63:l.length≤9223372036854775807) (hd:Nat.blt d n=true)
  (h:∀ w',Sat B w' I (As.eraseIdx k)→WL P n ops K rest ((d,S l)::L) w'):WL P n ops K (⟨some d,.call ⟨.builtin .unsafeString,#[x,y],#[pt,it]⟩,ty,pos,af,none⟩::rest) L w:=by
 have hb:=hS.block hk
 have hr:=Go.Lib.run_unsafeString_row (P:=P) w pt it ty E hp hc b (bcs l ++ r).length (X60 hb) l h0 (by simp) h63 (fun j y hj=>by
  rw [Xo,Yq]
  refine X29 hb ?_
  rw [Ya (by have:=(Y0.1 hj).1; simpa using this)]
  simp [hj])
 refine WL.val (w':=w.freeze ⟨b,0,none⟩ l.length) (fun a ha=>?_) hd (h _ (hS.freezeCells hk))
 simp [execOp,resolve,invoke,builtin,hx a ha,hy a ha,hr]
theorem Ex.bytesStr {d:Option Nat} {src dst E:TypeId} {b o cap:Nat} {l:List UInt8} {cs:List Value} (hx:Ev n L x (.slice (some (ad b o)) l.length cap)) (hS:Sat B w I As) (hk:As[k]?=some (blk b cs E)) (hs:P.underlying src=some (.slice E)) (he:P.underlying E=some (.int .u8)) (hd:P.underlying dst=some .string)
  (hc:∀ j (hj:j<l.length),cs[o+j]?=some (U8 (l[j].toNat:Int))):Ex P n L w ⟨d,.convert src dst x,ty,pos,af,g⟩ (S l) w:=fun a ha=>by
 have hb:=hS.block hk
 have h:=run_convert_bytes_back (P:=P) w src dst E (ad b o) cap l hs he hd (fun j hj=>by rw [Xo]; exact X29 hb (hc j hj))
 simp [execOp,hx a ha,h]
end
end Gk
namespace Flt
open Ieee
def rg (b:Nat):Nat:=b % 9223372036854775808
def sg (b:Nat):Bool:=b / 9223372036854775808 % 2 == 1
def nan (b:Nat):Bool:=decide (9218868437227405312<rg b)
def mag (r:Nat):Nat:=if r<4503599627370496 then r else (4503599627370496+r % 4503599627370496)*2 ^ (r / 4503599627370496 - 1)
def sv (b:Nat):Int:=if sg b then -(mag (rg b):Int) else (mag (rg b):Int)
def e0:Nat:=1074
def one:Nat:=2 ^ e0
end Flt
namespace Flt
def lt (a b:Nat):Bool:=!nan a && !nan b && decide (sv a<sv b)
def nf (a:Nat):Option Nat:=if nan a then none else some a
end Flt
namespace Gk
open Go
abbrev F64 (n:Nat):Value:=.float .f64 n
abbrev U64 (n:Int):Value:=.int .u64 n
section
variable {P:Program} {n:Nat} {K:X1u} {L:Env} {w w':World} {ops:Array Oper} {rest:List Oper}
variable {B:World} {I:Im} {As:List Xe} {k:Nat} {ty:TypeId} {pos:String} {af:Array Edge} {g:Option (Nat×Bool)} {t t':TypeId} {x y:Operand}
section
variable {d:Option Nat} {a b:Nat}
end
section
variable {d:Option Nat} {i j:Int} {q:IntKind}
theorem X8y {a:Nat} (h:a<18446744073709551616):(BitVec.ofInt IntKind.u64.bits (a:Int)).toNat=a:=by
 rw [BitVec.toNat_ofInt]
 show ((a:Int) % ((2 ^ 64:Nat):Int)).toNat=a
 omega
theorem Xgl {a:Nat} (h:a<18446744073709551616):IntKind.u64.wrap (a:Int)=(a:Int):=by rw [IntKind.wrap_u64]; omega
theorem Ex.or64 {a b:Nat} (ha:a<18446744073709551616) (hb:b<18446744073709551616) (hx:Ev n L x (U64 a)) (hy:Ev n L y (U64 b)):Ex P n L w ⟨d,.binOp .or t x y t',ty,pos,af,g⟩ (U64 ((a ||| b:Nat):Int)) w :=
 Xi hx hy (Xa _ _ _ _) (by
  have h1:a ||| b<18446744073709551616:=Nat.or_lt_two_pow (n:=64) ha hb
  have e:(BitVec.ofInt IntKind.u64.bits (a:Int) ||| BitVec.ofInt IntKind.u64.bits (b:Int)).toNat=a ||| b:=by rw [BitVec.toNat_or,X8y ha,X8y hb]
  show (Op.intBits .or .u64 a b).run P w=_
  unfold Op.intBits
  simp only [e,Xgl h1,Sem.run_pure])
theorem Ex.addx {q:IntKind} (hx:Ev n L x (.int q i)) (hy:Ev n L y (.int q j)) (h:q.wrap (i+j)=i+j):Ex P n L w ⟨d,.binOp .add t x y t',ty,pos,af,g⟩ (.int q (i+j)) w :=
 Xi hx hy (Xa _ _ _ _) (by simp [binOp,Op.intArith,h])
theorem Ex.subx {q:IntKind} (hx:Ev n L x (.int q i)) (hy:Ev n L y (.int q j)) (h:q.wrap (i - j)=i - j):Ex P n L w ⟨d,.binOp .sub t x y t',ty,pos,af,g⟩ (.int q (i - j)) w :=
 Xi hx hy (Xa _ _ _ _) (by simp [binOp,Op.intArith,h])
theorem Ex.mulx {q:IntKind} (hx:Ev n L x (.int q i)) (hy:Ev n L y (.int q j)) (h:q.wrap (i*j)=i*j):Ex P n L w ⟨d,.binOp .mul t x y t',ty,pos,af,g⟩ (.int q (i*j)) w :=
 Xi hx hy (Xa _ _ _ _) (by simp [binOp,Op.intArith,h])
theorem Ex.quo {q:IntKind} (hx:Ev n L x (.int q i)) (hy:Ev n L y (.int q j)) (h0:0≤i) (h1:0<j) (hw:q.wrap (i / j)=i / j):Ex P n L w ⟨d,.binOp .quo t x y t',ty,pos,af,g⟩ (.int q (i / j)) w :=
 Xi hx hy (Xa _ _ _ _) (by
  have h2:¬ j=0:=by omega
  have e:i.tdiv j=i / j:=Int.tdiv_eq_ediv_of_nonneg h0
  simp [binOp,Op.intDiv,h2,e,hw])
theorem Ex.rem {q:IntKind} (hx:Ev n L x (.int q i)) (hy:Ev n L y (.int q j)) (h0:0≤i) (h1:0<j):Ex P n L w ⟨d,.binOp .rem t x y t',ty,pos,af,g⟩ (.int q (i % j)) w :=
 Xi hx hy (Xa _ _ _ _) (by
  have h2:¬ j=0:=by omega
  have e:i.tmod j=i % j:=Int.tmod_eq_emod_of_nonneg h0
  simp [binOp,Op.intDiv,h2,e])
theorem Ex.cvi {src dst:TypeId} {q r:IntKind} (hx:Ev n L x (.int q i)) (hs:P.underlying src=some (.int q)) (hd:P.underlying dst=some (.int r)) (hw:r.wrap i=i):Ex P n L w ⟨d,.convert src dst x,ty,pos,af,g⟩ (.int r i) w:=fun e he=>by
 simp [execOp,hx e he,convert,run_underlying hs,run_underlying hd,Conv.intToInt,hw]
theorem Ex.makeFunc {f:Fn} {captured:List Operand} {vs:List Value} (hx:∀ a,Holds n L a→captured.map a.eval=vs):Ex P n L w ⟨d,.makeFunc f #[] captured.toArray,ty,pos,af,g⟩ (.func f #[] vs.toArray) w:=fun e he=>by
 have h:=hx e he
 simp [execOp,Instr.makeFunc,← h]
end
end
end Gk
namespace Gk
open Go
section
variable {P:Program} {n:Nat} {K:X1u} {L:Env} {w w':World} {ops:Array Oper} {rest:List Oper}
variable {B:World} {I:Im} {As:List Xe} {k:Nat} {ty:TypeId} {pos:String} {af:Array Edge} {g:Option (Nat×Bool)} {t t':TypeId} {x y:Operand}
theorem Ex.str1 {d:Option Nat} {src dst E:TypeId} {b cap:Nat} {c:UInt8} {i:Int} (hx:Ev n L x (.slice (some (ad b 0)) 1 cap)) (hS:Sat B w I As) (hk:As[k]?=some (blk b [.int .u8 i] E)) (hi:i=(c.toNat:Int)) (hs:P.underlying src=some (.slice E)) (he:P.underlying E=some (.int .u8)) (hd:P.underlying dst=some .string) :
  Ex P n L w ⟨d,.convert src dst x,ty,pos,af,g⟩ (S [c]) w:=by
 subst hi
 exact Ex.bytesStr (l:=[c]) hx hS hk hs he hd (fun j hj=>by
  have:j=0:=by simp at hj; omega
  subst this; rfl)
theorem Ex.index8 {d:Option Nat} {i:Int} {q:IntKind} {l:List UInt8} (hx:Ev n L x (S l)) (hy:Ev n L y (.int q i)) (hi:0≤i) (hl:i<(l.length:Int)) (hT:P.underlying t=some .string):Ex P n L w ⟨d,.index t x y,ty,pos,af,g⟩ (U8 (at_ l i).toNat) w :=
 fun a ha=>by
  have h1:i.toNat<l.length:=by omega
  have h3:0≤i∧i<((ByteArray.size ⟨l.toArray⟩:Nat):Int):=⟨hi,by show i<(l.length:Int); omega⟩
  have h:=run_index_string (P:=P) w t ⟨l.toArray⟩ q i hT
  rw [dif_pos h3] at h
  have h4:(⟨l.toArray⟩:ByteArray)[i.toNat]'(by show i.toNat<l.length; omega)=at_ l i:=by
   rw [at_,Y8,Yb h1]; rfl
  rw [h4] at h
  simp [execOp,hx a ha,hy a ha,h]
theorem X3m {t e:TypeId} {m:Nat} (hT:P.underlying t=some (.array m e)):P.elem t=e∧P.arrayLen t=m:=by
 simp [Program.elem,Program.arrayLen,hT]
theorem Ex.arrAddrI {d:Option Nat} {p:Addr} {m s:Nat} {e:TypeId} {i:Int} {q:IntKind} (hx:Ev n L x (.pointer (some p))) (hy:Ev n L y (.int q i)) (hi:0≤i) (hl:i<(m:Int)) (ht:P.underlying t=some (.array m e)) (hs:∀ w,(Go.sizeOf e).run P w=.ok s w) :
  Ex P n L w ⟨d,.indexAddr t x y,ty,pos,af,g⟩ (.pointer (some (p.add (i.toNat*s)))) w:=fun a ha=>by
 obtain ⟨e1,e2⟩:=X3m ht
 have h:=run_indexAt_array (P:=P) w t p q i (by rw [e1,e2]; exact ht)
 rw [e2,if_pos ⟨hi,hl⟩,e1,hs] at h
 simp [execOp,hx a ha,hy a ha,h,Result.andThen]
theorem Ex.shl {d:Option Nat} {q r:IntKind} {i j:Int} (hx:Ev n L x (.int q i)) (hy:Ev n L y (.int r j)) (h0:0≤j) (h1:j≤q.bits):Ex P n L w ⟨d,.binOp .shl t x y t',ty,pos,af,g⟩ (.int q (q.wrap (i*2 ^ j.toNat))) w:=fun e he=>by
 have h:=shift_shl q r i j h0 h1
 simp [execOp,hx e he,hy e he,binOp,h,eqGuard]
theorem Ex.shr {d:Option Nat} {q r:IntKind} {i j:Int} (hx:Ev n L x (.int q i)) (hy:Ev n L y (.int r j)) (h0:0≤j) (h1:j≤q.bits):Ex P n L w ⟨d,.binOp .shr t x y t',ty,pos,af,g⟩ (.int q (i / 2 ^ j.toNat)) w:=fun e he=>by
 have hm:min j.toNat q.bits=j.toNat:=by omega
 have hn:¬ j<0:=by omega
 have h2:i.fdiv (2 ^ j.toNat)=i / 2 ^ j.toNat:=Y37 _ (Int.le_of_lt (Int.pow_pos (by decide)))
 simp [execOp,hx e he,hy e he,binOp,Op.shift,hm,hn,h2,eqGuard]
theorem Ex.cvw {d:Option Nat} {i:Int} {src dst:TypeId} {q r:IntKind} (hx:Ev n L x (.int q i)) (hs:P.underlying src=some (.int q)) (hd:P.underlying dst=some (.int r)):Ex P n L w ⟨d,.convert src dst x,ty,pos,af,g⟩ (.int r (r.wrap i)) w:=fun e he=>by
 simp [execOp,hx e he,convert,run_underlying hs,run_underlying hd,Conv.intToInt]
open Go.RowKit in
theorem Sat.grown {As:List Xe} (hS:Sat B w I As) (h:Below w.heap.size w w'):Sat B w' I As:=by
 obtain ⟨hh,hs,hg⟩:=hS
 have old:∀ b o,w.heap[b]?=some o→w'.heap[b]?=some o:=fun b o e=>by
  rw [h.block b (Yg.1 e).1]; exact e
 exact ⟨hh,hs,h.os.trans hg.os,h.tape.trans hg.tape,h.output.trans hg.output,fun b o e=>old b o (hg.imm b o e),fun b o e=>old b o (hg.own b o e),hg.nodup,hg.apart⟩
open Go.RowKit in
theorem Sat.grownRow {E size m:Nat} {v:Value} {xs:List Value} (hS:Sat B w I As) (h:Below w.heap.size w w') (ho:w'.ownsRow w.heap.size E size v m xs):Sat B w' I (Vec E size v m xs::As):=by
 have hS2:=hS.grown h
 obtain ⟨hl,hv | ⟨g,cap,cur,rfl,hb,hh,h1,h2,h3,h4⟩⟩:=ho
 ·obtain ⟨hv,h0⟩:=hv
  subst hv; subst h0
  have hx:xs=[]:=Yc (by simpa using hl)
  subst hx
  exact hS2.vecNil E size
 ·obtain ⟨hh0,hs,hg⟩:=hS
  obtain ⟨hh2,hs2,hg2⟩:∃ h,SepAll As h∧Good B w' I h∧h=hh0:=by
   refine ⟨hh0,hs,?_,rfl⟩
   have old:∀ b o,w.heap[b]?=some o→w'.heap[b]?=some o:=fun b o e=>by
    rw [h.block b (Yg.1 e).1]; exact e
   exact ⟨h.os.trans hg.os,h.tape.trans hg.tape,h.output.trans hg.output,fun b o e=>old b o (hg.imm b o e),fun b o e=>old b o (hg.own b o e),hg.nodup,hg.apart⟩
  obtain ⟨hg2,rfl⟩:=hg2
  have cut:cur=(xs ++ cur.toList.drop (m*size)).toArray:=by
   apply Array.ext'
   simp only [List.toList_toArray]
   rw [← h4,Y1h]
  have hcell:w'.heap[g]?=some (Xh (xs ++ cur.toList.drop (m*size)) E):=by
   unfold Xh; rw [← cut]; exact hh
  have hn:∀ b o,(b,o)∈hh2→b≠g:=fun b o hm e=>by
   subst e
   have:=(Yg.1 (hg.own b o hm)).1
   omega
  refine ⟨(g,Xh (xs ++ cur.toList.drop (m*size)) E)::hh2,⟨[(g,Xh (xs ++ cur.toList.drop (m*size)) E)],hh2,rfl,⟨hl,.inr ⟨g,cap,cur.toList.drop (m*size),rfl,rfl,h1,h2,?_⟩⟩,hs2⟩,hg2.os,hg2.tape,hg2.output,hg2.imm,fun b o hm=>?_,?_,fun b o hm=>?_⟩
  ·rw [Y6,hl,Y1g,h3]
   have:=Y22 size h1
   omega
  ·rcases Y19.1 hm with e | hm
   ·cases e; exact hcell
   ·exact hg2.own b o hm
  ·simp only [Yl,Y2c]
   refine ⟨fun hm=>?_,hg2.nodup⟩
   obtain ⟨⟨b,x⟩,hm,e⟩:=Y3b.1 hm
   exact hn b x hm e
  ·rcases Y19.1 hm with e | hm
   ·cases e
    cases hi:I g with
    | none=>rfl
    | some y=>have:=(Yg.1 (hg.imm _ _ hi)).1; omega
   ·exact hg2.apart b o hm
open Go.RowKit in
theorem X67 {row:Option Nat} (h:w.grownBy w' row) (hr:row=none):Below w.heap.size w w' :=
 ⟨h.os,h.tape,h.output,h.size,fun k hk=>h.block k hk (by rw [hr]; simp)⟩
theorem X1t (s:List UInt8):Lib.strCells ⟨s.toArray⟩=bcs s:=by simp [Lib.strCells]
theorem X6c {t u ty E:TypeId} {i:TypeInfo} {v:Value} {m:Nat} {xs:List Value} (hS:Sat B w I As) (ht:P.underlying t=some (.slice E)) (hu:P.underlying u=some .string) (hi:P.info? E=some i) (hz:i.zero=some (.int .u8 0)) (hsize:i.size=1) (hby:i.bytes=1)
  (hk:As[k]?=some (Vec E 1 v m xs)) (s:List UInt8) (hb:m+s.length≤140737488355328) :
  ∃ v' w',(Builtin.append_ #[t,u] ty #[v,S s]).run P w=.ok v' w'∧Sat B w' I (As.set k (Vec E 1 v' (m+s.length) (xs ++ bcs s))):=by
 have hml:m+s.length≤maxLen:=by simp only [maxLen]; omega
 have hxl:xs.length=m*1:=hS.pure_ hk fun h ⟨hl,_⟩=>hl
 have hlk:k<As.length:=(Y0.1 hk).1
 have hsz:ByteArray.size ⟨s.toArray⟩=s.length:=rfl
 have hcase:(v=.slice none 0 0∧m=0)∨∃ g cap rest,v=.slice (some ⟨g,0,none⟩) m cap∧m≤cap∧cap≤maxLen∧xs.length+rest.length=cap*1∧Sat B w I (As.set k (blk g (xs ++ rest) E)):=by
  obtain ⟨g,hs,hg⟩:=hS
  obtain ⟨h1,h2,hp,⟨hl,ha⟩,X1l,_⟩:=hs.at_ hk
  rcases ha with ⟨hv,h0,_⟩ | ⟨b,cap,rest,rfl,rfl,h3,h4,h5⟩
  ·exact .inl ⟨hv,h0⟩
  ·obtain ⟨h',hs',hp'⟩:=X1l (blk b (xs ++ rest) E) _ rfl
   exact .inr ⟨b,cap,rest,rfl,h3,h4,h5,h',hs',hg.perm (hp.trans hp'.symm)⟩
 rcases hcase with ⟨rfl,rfl⟩ | ⟨g,cap,rest,rfl,hnc,hcm,hcs,hSo⟩
 ·have hx:xs=[]:=Yc (by simpa using hxl)
  subst hx
  obtain ⟨v',w',hr,ho,hgr,_⟩:=Go.Lib.run_append_own_string (P:=P) w w.heap.size t u ty E i ht hu hi hz hsize hby (.slice none 0 0) 0 [] ⟨rfl,.inl ⟨rfl,rfl⟩⟩ ⟨s.toArray⟩ (by rw [hsz]; exact hml) (by rw [hsz]; exact hb) (Yd _)
  rw [X1t,hsz] at ho
  have hS2:=hS.grownRow (X67 hgr rfl) ho
  refine ⟨v',w',hr,?_⟩
  -- the new one stands at the old one's place
  obtain ⟨h,hs,hg⟩:=hS2
  obtain ⟨q1,q2,rfl,hq1,hq2⟩:=hs
  obtain ⟨h1',h2',hp,_,X1l,_⟩:=SepAll.at_ hk hq2
  obtain ⟨h',hs',hp'⟩:=X1l _ q1 hq1
  have g2:Good B w' I (q1 ++ h2'):=by
   have g:=hg.perm (hp.append_left q1)
   have:(q1 ++ (h1' ++ h2')).Perm ((q1 ++ h2') ++ h1'):=by
    rw [Y7]
    exact (Y11).append_left q1
   exact (g.perm this).left
  exact ⟨h',hs',g2.perm hp'.symm⟩
 ·have hko:(As.set k (blk g (xs ++ rest) E))[k]?=some (blk g (xs ++ rest) E):=by simp [hlk]
  have hblk:=hSo.block hko
  by_cases hroom:m+s.length≤cap
  ·have hfit:m+ByteArray.size ⟨s.toArray⟩≤(xs ++ rest).toArray.size:=by
    simp only [Y1w,Y2,hsz]; omega
   have hr:=Go.Lib.run_append_room_string (P:=P) w t u ty E i ht hu hi hsize g m cap (xs ++ rest).toArray hblk ⟨s.toArray⟩ hroom hfit
   rw [X1t,hsz] at hr
   have e2:((xs ++ rest).toArray.toList.take m ++ bcs s ++ (xs ++ rest).toArray.toList.drop (m+s.length)).toArray=((xs ++ bcs s) ++ rest.drop s.length).toArray:=by
    have hm:m=xs.length:=by omega
    subst hm
    simp only [List.toList_toArray,Y2w]
    rw [Y30,Y26 (by omega:xs.length≤xs.length+s.length)]
    simp
   rw [e2] at hr
   refine ⟨_,_,hr,?_⟩
   have hw:=hSo.write (w':=w.setRow g ((xs ++ bcs s) ++ rest.drop s.length).toArray) (o':=Xh ((xs ++ bcs s) ++ rest.drop s.length) E) hko rfl rfl rfl (setRow_heap w g _ _ E _ hblk) (fun x hx=>setRow_other w g x _ hx)
   have hsh:=hw.vecShut (k:=k) (g:=g) (E:=E) (n:=m+s.length) (size:=1) (cap:=cap) (xs:=xs ++ bcs s) (rest:=rest.drop s.length) (by simp [hlk,blk]) hroom hcm (by rw [Y2,Yo]; omega) (by
    rw [Y2,Y6,Yo]; omega)
   simpa using hsh
  ·have holds:∀ j u,xs[j]?=some u→w.cell? ((⟨g,0,none⟩:Addr).add j)=some u:=by
    intro j u hu'
    have hj:j<xs.length:=(Y0.1 hu').1
    rw [Addr.add_lit,Yq]
    have h9:w.heap[g]?=some (.cells (xs ++ rest).toArray E (0,0)):=hblk
    simp only [World.cell?,h9,Option.isSome_none,Y1m,if_false]
    simp [hj] at hu' ⊢
    simp [Y21,hj,hu']
   have hr:=Go.Lib.run_append_grow_string (P:=P) w t u ty E i (.int .u8 0) ht hu hi hz ⟨g,0,none⟩ m cap xs (by rw [hsize]; exact hxl) holds ⟨s.toArray⟩ (by rw [hsz]; omega) (by rw [hsz]; omega) (growslice_fits (by rw [hsz]; omega) (by rw [hby,hsz]; omega))
   rw [X1t,hsz] at hr
   refine ⟨_,_,hr,?_⟩
   have hge:=grownCap_ge w (m+s.length) cap E
   have hcm2:grownCap w (m+s.length) cap E≤maxLen:=grownCap_le_maxLen w (m+s.length) cap E hml
   have hS2:=hS.drew.alloc (.cells (xs.toArray ++ (bcs s).toArray ++ Builtin.zeroCells (Value.int .u8 0).cells (grownCap w (m+s.length) cap E - (m+s.length))) E)
   have e1:(own w.drew.heap.size (.cells (xs.toArray ++ (bcs s).toArray ++ Builtin.zeroCells (Value.int .u8 0).cells (grownCap w (m+s.length) cap E - (m+s.length))) E))=blk w.heap.size ((xs ++ bcs s) ++ (Builtin.zeroCells (Value.int .u8 0).cells (grownCap w (m+s.length) cap E - (m+s.length))).toList) E:=by
    unfold blk Xh
    congr 2
    apply Array.ext'
    simp
   rw [e1] at hS2
   have hS3:=hS2.vecShut (k:=0) (n:=m+s.length) (size:=1) (cap:=grownCap w (m+s.length) cap E) rfl hge hcm2 (by rw [Y2,Yo]; omega) (by
    have hzc:∀ q,(Builtin.zeroCells (Value.int .u8 0).cells q).toList.length=q:=fun q=>by rw [Y1g,size_zeroCells]; exact Y1x q
    rw [Y2,Yo,hzc]
    omega)
   obtain ⟨h,hs,hg⟩:=hS3
   obtain ⟨q1,q2,rfl,hq1,hq2⟩:=hs
   obtain ⟨h1',h2',hp,_,X1l,_⟩:=SepAll.at_ hk hq2
   obtain ⟨h',hs',hp'⟩:=X1l _ q1 hq1
   refine ⟨h',hs',Good.perm ?_ hp'.symm⟩
   have g:=hg.perm (hp.append_left q1)
   have:(q1 ++ (h1' ++ h2')).Perm ((q1 ++ h2') ++ h1'):=by
    rw [Y7]
    exact (Y11).append_left q1
   exact (g.perm this).left
theorem WL.appendStr {d:Nat} {t u E:TypeId} {i:TypeInfo} {v:Value} {m:Nat} {xs:List Value} {s:List UInt8} (hS:Sat B w I As) (hx:Ev n L x v) (hy:Ev n L y (S s)) (hk:As[k]?=some (Vec E 1 v m xs)) (ht:P.underlying t=some (.slice E)) (hu:P.underlying u=some .string) (hi:P.info? E=some i) (hz:i.zero=some (.int .u8 0)) (hsize:i.size=1) (hby:i.bytes=1)
  (hb:m+s.length≤140737488355328) (hd:Nat.blt d n=true) (h:∀ v' w',Sat B w' I (As.set k (Vec E 1 v' (m+s.length) (xs ++ bcs s)))→WL P n ops K rest ((d,v')::L) w') :
  WL P n ops K (⟨some d,.call ⟨.builtin .append,#[x,y],#[t,u]⟩,ty,pos,af,none⟩::rest) L w:=by
 obtain ⟨v',w',hr,hS'⟩:=X6c (P:=P) (ty:=ty) hS ht hu hi hz hsize hby hk s hb
 exact WL.val (w':=w') (fun a ha=>by simp [execOp,resolve,invoke,builtin,hx a ha,hy a ha,hr]) hd (h _ _ hS')
end
end Gk
namespace Gk
open Go
section
variable {P:Program} {n:Nat} {K:X1u} {L:Env} {w w':World} {ops:Array Oper} {rest:List Oper}
variable {B:World} {I:Im} {As:List Xe} {k:Nat} {ty:TypeId} {pos:String} {af:Array Edge} {g:Option (Nat×Bool)} {t t':TypeId} {x y:Operand}
theorem Sat.blockO {b:Nat} {o:Obj} (hS:Sat B w I As) (hk:As[k]?=some (own b o)):w.heap[b]?=some o:=by
 obtain ⟨h,hs,hg⟩:=hS
 obtain ⟨g1,g2,hp,ha,_,_⟩:=hs.at_ hk
 rw [own] at ha
 subst ha
 exact hg.own _ _ (hp.mem_iff.2 (by simp))
theorem WL.range {d:Nat} {s:List UInt8} (hS:Sat B w I As) (hx:Ev n L x (S s)) (hT:P.underlying t=some .string) (hd:Nat.blt d n=true)
  (h:∀ b w',Sat B w' I (own b (.stringIter ⟨s.toArray⟩ 0)::As)→WL P n ops K rest ((d,ptr b 0)::L) w') :
  WL P n ops K (⟨some d,.range t x,ty,pos,af,none⟩::rest) L w:=by
 refine WL.val (v:=ptr w.heap.size 0) (w':=w.iter ⟨s.toArray⟩ 0) (fun a ha=>?_) hd (h _ _ (hS.alloc _))
 have hr:=run_range_string (P:=P) w t ⟨s.toArray⟩ hT
 have hx':=hx a ha
 simp [execOp,hx',hr]
theorem WL.next {d:Nat} {s:List UInt8} {i b:Nat} (hS:Sat B w I As) (hk:As[k]?=some (own b (.stringIter ⟨s.toArray⟩ i))) (hx:Ev n L x (ptr b 0)) (hd:Nat.blt d n=true)
  (h0:¬ i<s.length→WL P n ops K rest ((d,.tuple #[.bool false])::L) w)
  (h1:i<s.length→∀ w',Sat B w' I (As.set k (own b (.stringIter ⟨s.toArray⟩ (i+(Utf8.decode ⟨s.toArray⟩ i).2))))→WL P n ops K rest ((d,.tuple #[.bool true,I64 (i:Nat),.int .i32 (Utf8.decode ⟨s.toArray⟩ i).1])::L) w') :
  WL P n ops K (⟨some d,.next x true,ty,pos,af,none⟩::rest) L w:=by
 have hb:=hS.blockO hk
 have hlt:b<w.heap.size:=(Yg.1 hb).1
 have hz:ByteArray.size ⟨s.toArray⟩=s.length:=rfl
 by_cases hi:i<s.length
 ·have hi':i<ByteArray.size ⟨s.toArray⟩:=hi
  refine WL.val (v:=.tuple #[.bool true,I64 (i:Nat),.int .i32 (Utf8.decode ⟨s.toArray⟩ i).1]) (w':={ w with heap:=w.heap.setIfInBounds b (.stringIter ⟨s.toArray⟩ (i+(Utf8.decode ⟨s.toArray⟩ i).2)) }) (fun a ha=>?_) hd (h1 hi _ (hS.write hk rfl rfl rfl ?_ fun c hc=>?_))
  ·simp only [execOp,hx a ha]
   simp [Instr.next,getObj,setObj,Sem.run,hb,hi',goInt,Result.andThen]
   try rfl
  ·simp [hlt]
  ·simp [Y1l,Ne.symm hc]
 ·have hi':¬ i<ByteArray.size ⟨s.toArray⟩:=hi
  refine WL.val (v:=.tuple #[.bool false]) (w':=w) (fun a ha=>?_) hd (h0 hi)
  simp only [execOp,hx a ha]
  simp [Instr.next,getObj,Sem.run,hb,hi']
section rets
variable {fn:Func} {R:Ending→World→Prop}
end rets
end
end Gk
namespace Gk
open Go
section
variable {P:Program} {n:Nat} {K:X1u} {L:Env} {w:World} {ops:Array Oper} {rest:List Oper}
theorem WL.later {x:Operand} {f:Fn} {cap:List Value} {ty:TypeId} {pos:String} {af:Array Edge} (hx:Ev n L x (.func f #[] cap.toArray)) (h0:dl L=[]) (h:WL P n ops K rest ((DK,.func f #[] cap.toArray)::L) w):WL P n ops K (⟨none,.defer ⟨.value x,#[],#[]⟩,ty,pos,af,none⟩::rest) L w:=by
 intro a ha
 refine wpList_plain rfl fun K' hK=>?_
 unfold Oper.wp
 have he:(execOp a.eval (⟨none,.defer ⟨.value x,#[],#[]⟩,ty,pos,af,none⟩:Oper)).run P w=.ok (.defer { target:=.fn f cap.toArray,args:=#[] }) w:=by
  simp [execOp,resolve,hx a ha,Deferred.ofValue]
 rw [he]
 refine hK _ _ (h _ ⟨ha.size,ha.small,?_,fun t v hv=>?_⟩)
 ·have:=ha.defers
  rw [h0] at this
  simp [Act.put,this,dl,look0]
 ·obtain ⟨h1,h2⟩:=X3c hv
  rw [look0,X7z (Ne.symm h1)] at h2
  exact ha.get t v (X7i h1 h2)
end
end Gk
namespace Gk
open Go
section
variable {P:Program} {n:Nat} {K:X1u} {L:Env} {w:World} {ops:Array Oper} {rest:List Oper}
theorem WL.opn {d:Option Nat} {op:Op} {ty:TypeId} {pos:String} {af:Array Edge} {j t:Nat} {want:Bool} (hj:(ops[j]?).bind (·.dst)=some t) (ht:Nat.blt t n=true) (hb:look L t=some (.bool want))
  (h:WL P n ops K (⟨d,op,ty,pos,af,none⟩::rest) L w):WL P n ops K (⟨d,op,ty,pos,af,some (j,want)⟩::rest) L w:=by
 intro a ha
 have h1:=h a ha
 have hlt:t<a.tmps.size:=by have:=Y1 ht; rw [ha.size]; omega
 have hv:=ha.get t _ hb
 have hy:yielded ops a.tmps j=some want:=by
  obtain ⟨o,ho,hdd⟩:=Y1v.1 hj
  rw [Y9,Yj hlt] at hv
  simp only [Y25] at hv
  have h2:a.tmps[t]?=some (.bool want):=by rw [Yj hlt,hv]
  simp only [yielded,ho,hdd,Y24,h2]
 unfold wpList at h1 ⊢
 rw [if_pos (by simp [Region.wanted])] at h1
 rw [if_pos (by simp [Region.wanted,hy])]
 exact h1
end
end Gk
namespace Gk
open Go Go.Lib
section
variable {P:Program} {n:Nat} {K:X1u} {L:Env} {w:World} {ops:Array Oper} {rest:List Oper}
end
theorem WL.clear {P:Program} {n:Nat} {ops:Array Oper} {K:X1u} {rest:List Oper} {L:Env} {w B:World} {I:Im} {As:List Xe} {k b o m cap s:Nat} {cs:List Value} {E e t ty:TypeId} {x:Operand} {z:Value} {pos:String} {af:Array Edge} (hS:Sat B w I As) (hk:As[k]?=some (blk b cs E)) (hx:Ev n L x (.slice (some (ad b o)) m cap)) (ht:P.underlying t=some (.slice e)) (hz:∀ w,(zeroValue e).run P w=.ok z w) (hs:z.cells.size=s) (h1:∀ v∈z.cells,v.oneCell'=true) (ho:o+m*s≤cs.length)
  (h:∀ w' cs',cs'.length=cs.length→cs'.take o=cs.take o→Sat B w' I (As.set k (blk b cs' E))→WL P n ops K rest L w'):WL P n ops K (⟨none,.call ⟨.builtin .clear,#[x],#[t]⟩,ty,pos,af,none⟩::rest) L w:=by
 subst hs
 have go:∀ w' v,(∀ a,Holds n L a→(execOp a.eval (⟨none,.call ⟨.builtin .clear,#[x],#[t]⟩,ty,pos,af,none⟩:Oper)).run P w=.ok (.value v) w')→WL P n ops K rest L w'→WL P n ops K (⟨none,.call ⟨.builtin .clear,#[x],#[t]⟩,ty,pos,af,none⟩::rest) L w:=by
  intro w' v hx h a ha
  refine wpList_plain rfl fun K' hK=>?_
  unfold Oper.wp
  rw [hx a ha]
  exact hK _ _ (h _ (ha.skip v))
 have hb:=hS.block hk
 have hzl:(Builtin.zeroCells z.cells m).toList.length=m*z.cells.size:=by rw [Y1g,size_zeroCells]
 have hst:=run_storeCells_at P b o E (Builtin.zeroCells z.cells m).toList 0 cs.toArray w hb (by simp only [Yt,hzl,Y1w]; exact ho) (fun v hv=>by
  rw [Array.mem_toList_iff] at hv
  unfold Builtin.zeroCells at hv
  obtain ⟨i,hi,rfl⟩:=Array.mem_map.1 hv
  have hi2:i<m*z.cells.size:=by simpa using hi
  have hp:0<z.cells.size:=Nat.pos_of_ne_zero fun e=>by rw [e] at hi2; omega
  have hlt:=Nat.mod_lt i hp
  rw [getElem!_pos z.cells (i % z.cells.size) hlt]
  exact h1 _ (Array.getElem_mem hlt))
 simp only [Yt] at hst
 cases m with
 | zero =>
  refine go w (.tuple #[]) (fun a ha=>?_) (h w cs rfl rfl ?_)
  ·simp [execOp,resolve,invoke,builtin,hx a ha,Builtin.clear_,run_underlying ht]
  ·have e:As.set k (blk b cs E)=As:=by
    apply Y17
    intro i
    rw [Y1f]
    split
    ·rename_i e; subst e
     split
     ·exact hk.symm
     ·rename_i hlt; rw [Y15 (by omega)]
    ·rfl
   rw [e]; exact hS
 | succ m =>
  refine go (w.setRow b _) (.tuple #[]) (fun a ha=>?_) (h _ _ ?_ ?_ (hS.write (o':=Xh (cs.take o ++ (Builtin.zeroCells z.cells (m+1)).toList ++ cs.drop (o+(Builtin.zeroCells z.cells (m+1)).toList.length)) E) hk rfl rfl rfl (setRow_heap w b _ _ E _ hb) fun c hc=>setRow_other w b c _ hc))
  ·simp [execOp,resolve,invoke,builtin,hx a ha,Builtin.clear_,run_underlying ht,hz,hst]
  ·simp only [Y2,Yi,Y6,hzl]; omega
  ·rw [Y7,Y23 (by rw [Yi]; omega),List.take_take,Nat.min_self]
end Gk
namespace Gk
open Go
section
variable {P:Program} {n:Nat} {K:X1u} {L:Env} {w B:World} {I:Im} {As:List Xe} {ops:Array Oper} {rest:List Oper} {ty t t' E:TypeId} {x y:Operand} {pos:String} {af:Array Edge} {g:Option (Nat×Bool)}
theorem Xc1 {b:Frame} {a:Act} {k:List Item} {cs:List Frame} {f0:Operand} {ps:Array Tmp} {assign body:Code} {l:Nat} {mark:List Deferred} {w₁ w₁' w₂:World} {d:Deferred} {f:FuncId} {args:Array Value}
  (he:(Instr.enterLoop b.fn a.tmps ps assign body none).run P w=.ok (l,mark) w₁)
  (hres:(resolve ({ tmps:=a.tmps,defers:=mark ++ a.defers }:Act).eval { callee:=.value f0,args:=#[.const (.func (.yield l) #[] #[])],argTypes:=#[] } 0).run P w₁=.ok d w₁') (hinv:(invoke d.target d.args).run P w₁'=.ok (.enter f args) w₂) :
  step P (lone (b.at a (.code (.rangeFunc f0 ps assign body)::k)) cs w)=.next (lone (Frame.enter P f args .normal) (b.at { a with defers:=mark ++ a.defers } (.inRangeFunc l::k)::cs) w₂) :=
 step_lone_go (by
  have hev:=funext (Frame.eval_at b { a with defers:=mark ++ a.defers } (.inRangeFunc l::k))
  simp only [Frame.at] at hev
  simp [stepG,stepG.exec,Frame.at,Sem.runT_eq,he,GStep.bare_after,stepG.apply,hev,Sem.run_bind,hres,hinv,Result.andThen])
theorem X7p {b:Frame} {a:Act} {k:List Item} {cs:List Frame} {l:Nat} {jump:Option Code} {w':World} (h:(Instr.endLoop l).run P w=.ok jump w') :
  step P (lone (b.at a (.endRangeFunc l::k)) cs w)=.next (lone (b.at a ((jump.map Item.code).toList ++ k)) cs w') :=
 step_lone_go (by simp [stepG,stepG.exec,Frame.at,Sem.runT_eq,h,GStep.bare_after])
theorem Xdu {l:Nat} {o o':Obj} (h:w.heap[l]?=some o):(w.heap.setIfInBounds l o')[l]?=some o':=by
 have hl:l<w.heap.size:=(Yg.1 h).1
 simp [Y1l,hl]
theorem WC.rangeNone {f0:Operand} {ps:Array Tmp} {assign body:Code} {f:FuncId} {fn:Func} {cap:List Value} (hS:Sat B w I As) (hg:Ev n L f0 (.func (.func f) #[] cap.toArray)) (hf:P.funcs[f]?=some fn) (hc:X13 fn=true) (h0:dl L=[])
  (hcall:∀ l D r w',Sat B w' I (own l (.loop r)::own D (.deferred (some []))::As)→Calls P f (.func (.yield l) #[] #[]::cap).toArray w' (Ret fun v w''=>Sat B w'' I (own l (.loop r)::own D (.deferred (some []))::As)))
  (h:∀ D w',Sat B w' I (own D (.deferred (some []))::As)→K .normal ((DK,.map (some D))::L) w'):WC P n (.rangeFunc f0 ps assign body) K L w:=by
 intro a ha b k cs
 unfold X13 at hc
 simp only [Y5] at hc
 obtain ⟨c1,c2⟩:=hc
 have c1' : ¬ fn.name = "runtime.NumGoroutine" := by simpa using c1
 have c2':¬ fn.body=none:=by intro e; rw [e] at c2; cases c2
 obtain ⟨r0,hr0⟩:∃ r:Loop,r={ state:=.ready,pending:=none,fn:=b.fn,tmps:=a.tmps,params:=ps,assign:=assign,body:=body,defers:=w.heap.size }:=⟨_,rfl⟩
 have hr1:r0.state=.ready:=by rw [hr0]
 have hr2:r0.pending=none:=by rw [hr0]
 have he:(Instr.enterLoop b.fn a.tmps ps assign body none).run P w=.ok (w.heap.size+1,[{ target:=.collected w.heap.size,args:=#[] }]) ((w.alloc (.deferred (some []))).alloc (.loop r0)):=by
  rw [hr0]
  unfold Instr.enterLoop
  simp only [Sem.run_bind,run_newObj_alloc,Result.andThen,Sem.run_pure,World.size_alloc]
 have hS2:=(hS.alloc (.deferred (some []))).alloc (.loop r0)
 rw [World.size_alloc] at hS2
 have hres:∀ (dd:List Deferred) u,(resolve ({ tmps:=a.tmps,defers:=dd }:Act).eval { callee:=.value f0,args:=#[.const (.func (.yield (w.heap.size+1)) #[] #[])],argTypes:=#[] } 0).run P u =
   .ok { target:=.fn (.func f) cap.toArray,args:=#[.func (.yield (w.heap.size+1)) #[] #[]] } u:=fun dd u=>by
  have hv:=hg a ha
  have hv2:({ tmps:=a.tmps,defers:=dd }:Act).eval f0=.func (.func f) #[] cap.toArray:=by
   rw [← hv]; cases f0 <;> rfl
  have hv3:∀ v,({ tmps:=a.tmps,defers:=dd }:Act).eval (.const v)=v:=fun v=>rfl
  simp [resolve,hv2,hv3,Deferred.ofValue]
 have hinv:∀ u,(invoke (.fn (.func f) cap.toArray) #[.func (.yield (w.heap.size+1)) #[] #[]]).run P u=.ok (.enter f (.func (.yield (w.heap.size+1)) #[] #[]::cap).toArray) u:=fun u=>by
  simp [invoke,callFunc,program,Sem.run,hf,c1',c2']
 have h1:=Xc1 (P:=P) (cs:=cs) (k:=k) (b:=b) (a:=a) he (hres _ _) (hinv _)
 obtain ⟨e,w3,fr,hR,hcomes,hfn,hleave⟩:=hcall _ _ _ _ hS2 (b.at { a with defers:=[{ target:=.collected w.heap.size,args:=#[] }] ++ a.defers } (.inRangeFunc (w.heap.size+1)::k)::cs)
 obtain ⟨v,rfl,hS3⟩:=hR
 have hb:=hS3.block (k:=0) rfl
 have hend:(Instr.endLoop (w.heap.size+1)).run P w3=.ok none { w3 with heap:=w3.heap.setIfInBounds (w.heap.size+1) (.loop { r0 with state:=.exhausted }) }:=by
  have e1:(getObj (w.heap.size+1)).run P w3=.ok (.loop r0) w3:=by simp [getObj,Sem.run,hb]
  have e2:∀ o,(setObj (w.heap.size+1) o).run P w3=.ok () { w3 with heap:=w3.heap.setIfInBounds (w.heap.size+1) o }:=fun o=>by simp [setObj,Sem.run,hb]
  have e3:(r0.state == LoopState.busy)=false:=by rw [hr1]; rfl
  simp [Instr.endLoop,Instr.getLoop,Sem.run_bind,e1,e2,e3,hr2,Result.andThen]
  intro hbusy
  rw [hr1] at hbusy; cases hbusy
 have hS4:=(hS3.write (k:=0) (b:=w.heap.size+1) rfl (o':=.loop { r0 with state:=.exhausted })
  (w':={ w3 with heap:=w3.heap.setIfInBounds (w.heap.size+1) (.loop { r0 with state:=.exhausted }) }) rfl rfl rfl (Xdu hb)
  (fun c hc=>by simp [Y2s (Ne.symm hc)])).drop (k:=0) rfl
 refine ⟨.normal,{ a with defers:=[{ target:=.collected w.heap.size,args:=#[] }] ++ a.defers },_,⟨_,⟨ha.size,ha.small,?_,fun t v hv=>?_⟩,h _ _ hS4⟩,?_⟩
 ·have:=ha.defers
  rw [h0] at this
  simp [this,dl,look0]
 ·obtain ⟨q1,q2⟩:=X3c hv
  rw [look0,X7z (Ne.symm q1)] at q2
  exact ha.get t v (X7i q1 q2)
 ·have hback:(b.at { a with defers:=[{ target:=.collected w.heap.size,args:=#[] }] ++ a.defers } (.inRangeFunc (w.heap.size+1)::k)).finish v=b.at { a with defers:=[{ target:=.collected w.heap.size,args:=#[] }] ++ a.defers } (.endRangeFunc (w.heap.size+1)::k):=by
   simp [Frame.finish,Frame.at]
  have h2:=step_leave_returned (cs:=cs) (c:=b.at { a with defers:=[{ target:=.collected w.heap.size,args:=#[] }] ++ a.defers } (.inRangeFunc (w.heap.size+1)::k)) hleave
  rw [hback] at h2
  have h3:=X7p (P:=P) (b:=b) (a:={ a with defers:=[{ target:=.collected w.heap.size,args:=#[] }] ++ a.defers }) (k:=k) (cs:=cs) hend
  exact Steps.trans (.one h1) (Steps.trans hcomes (Steps.trans (.one h2) (.one h3)))
theorem X8x {fr:Frame} {cs:List Frame} {w':World} {d:Deferred} {r:Nat} {ds calls:List Deferred}
  (hm:fr.mode=.returning) (hd:fr.defers=d::ds) (ht:d.target=.collected r) (hk:(Instr.takeDeferred r).run P w=.ok calls w') :
  step P (lone fr cs w)=.next (lone { fr with defers:=calls ++ ds } cs w'):=by
 obtain ⟨t,a⟩:=d
 simp only at ht
 subst ht
 exact step_lone_go (by simp [stepG,unwind,hm,hd,Sem.runT_eq,hk,GStep.bare_after])
def Xdf (P:Program) (n:Nat) (fn:Func) (R:Ending→World→Prop):X1u
 | .normal,L,w | .ret,L,w=>∃ D w',dl L=[{ target:=.collected D,args:=#[] }]∧(Instr.takeDeferred D).run P w=.ok [] w'∧∀ a,Holds n L a→∃ v,(results fn a.tmps).run P w'=.ok v w'∧R (.returned v) w'
 | _,_,_=>False
theorem callsM {f:FuncId} {fn:Func} {c:Code} {args:List Value} {R:Ending→World→Prop} (hf:P.funcs[f]?=some fn) (hb:fn.body=some c) (hn:fn.ntmps=n) (hle:(Nat.ble args.length n && Nat.ble n DK)=true)
  (h:WC P n c (Xdf P n fn R) (X69 0 args) w):Calls P f args.toArray w R:=by
 intro cs
 let b:Frame:={ (default:Frame) with fn:=f,kind:=.normal }
 have henter:Frame.enter P f args.toArray .normal=b.at { tmps:=args.toArray ++ Array.replicate (fn.ntmps - args.toArray.size) undef,defers:=[] } [.code c]:=by
  simp [Frame.enter,Frame.at,hf,hb,b]
 obtain ⟨e,a',w',⟨L',h1,h2⟩,harr⟩:=h _ (X5d hn hle) b [] cs
 rw [← henter] at harr
 cases e with
 | normal =>
  obtain ⟨D,w2,hd,ht,hr⟩:=h2
  obtain ⟨v,hv,hR⟩:=hr a' h1
  have s2:=X8x (P:=P) (fr:={ b.at a' [] with mode:=.returning }) (cs:=cs) (w:=w') rfl (h1.defers.trans hd) rfl ht
  exact ⟨.returned v,w2,_,hR,Steps.trans harr (Steps.trans (.one step_end) (.one s2)),rfl,rfl,rfl,rfl,fn,hf,hv⟩
 | ret =>
  obtain ⟨D,w2,hd,ht,hr⟩:=h2
  obtain ⟨v,hv,hR⟩:=hr a' h1
  obtain ⟨todo,hs⟩:=harr
  have s2:=X8x (P:=P) (fr:={ b.at a' todo with mode:=.returning }) (cs:=cs) (w:=w') rfl (h1.defers.trans hd) rfl ht
  exact ⟨.returned v,w2,_,hR,Steps.trans hs (.one s2),rfl,rfl,rfl,rfl,fn,hf,hv⟩
 | _=>exact h2.elim
theorem retM2 {fn:Func} {R:Ending→World→Prop} {a b D k:Nat} {v u:Value} (h:fn.results=#[.tmp a,.tmp b]) (hS:Sat B w I As) (hk:As[k]?=some (own D (.deferred (some [])))) (hv:look L a=some v) (hx:look L b=some u) (hd:dl L=[{ target:=.collected D,args:=#[] }])
  (hR:∀ w',Sat B w' I (As.eraseIdx k)→R (.returned (.tuple #[v,u])) w'):Xdf P n fn R .ret L w:=by
 have hb:=hS.block hk
 have hkl:k<As.length:=(Y0.1 hk).1
 have hS2:=(hS.write hk (o':=.deferred none) (w':={ w with heap:=w.heap.setIfInBounds D (.deferred none) }) rfl rfl rfl (Xdu hb) (fun c hc=>by simp [Y2s (Ne.symm hc)])).drop (k:=k) (A:=own D (.deferred none)) (by simp [hkl])
 rw [Y2g] at hS2
 refine ⟨D,{ w with heap:=w.heap.setIfInBounds D (.deferred none) },hd,by simp [Instr.takeDeferred,Sem.run_bind,getObj,setObj,Sem.run,hb,Result.andThen],fun e he=>⟨_,?_,hR _ hS2⟩⟩
 have h1:=he.get a _ hv
 have h2:=he.get b _ hx
 simp only [Y9] at h1 h2
 simp [results,h,h1,h2]
def WI (P:Program) (n:Nat) (c:Code) (K:X1u) (L:Env) (w:World):Prop:=∀ a,Holds n L a→∀ (b:Frame) (k:List Item) (cs:List Frame),∃ e a' w',lift n K e a' w'∧Arrives P (lone (b.at a (.code c::.inLoop c::k)) cs w) b k cs e a' w'
theorem WC.unroll {c:Code} (h:WI P n c K L w):WC P n (.loop c) K L w:=fun a ha b k cs=>by
 obtain ⟨e,a',w',hq,harr⟩:=h a ha b k cs
 exact ⟨e,a',w',hq,.of_steps (.one step_loop) harr⟩
theorem WI.round {c:Code} (h:WC P n c (Xa1 (fun L w=>WI P n c K L w) K) L w):WI P n c K L w:=fun a ha b k cs=>by
 obtain ⟨e,a1,w1,⟨L1,hL,hq⟩,harr⟩:=h a ha b (.inLoop c::k) cs
 cases e with
 | normal =>
  obtain ⟨e2,a2,w2,hq2,harr2⟩:=hq a1 hL b k cs
  exact ⟨e2,a2,w2,hq2,.of_steps (Steps.trans harr (.one step_inLoop)) harr2⟩
 | exit id=>exact ⟨_,a1,w1,⟨L1,hL,hq⟩,.pass (x:=.inLoop c) rfl (fun _ _=>.inl (by simp)) harr⟩
 | goto l=>exact ⟨_,a1,w1,⟨L1,hL,hq⟩,.pass (x:=.inLoop c) rfl (fun _ _=>.inl (by simp)) harr⟩
 | ret=>exact ⟨_,a1,w1,⟨L1,hL,hq⟩,.pass (x:=.inLoop c) rfl (fun _ _=>.inl (by simp)) harr⟩
 | panic ch=>exact ⟨_,a1,w1,⟨L1,hL,hq⟩,.pass (x:=.inLoop c) rfl (fun _ _=>.inl (by simp)) harr⟩
 | outgrown=>exact ⟨_,a1,w1,⟨L1,hL,hq⟩,.pass (x:=.inLoop c) rfl (fun _ _=>.inl (by simp)) harr⟩
theorem Ex.makeFuncB {f:Fn} {d:Option Nat} {bound captured:List Operand} {bs vs:List Value} (hb:∀ a,Holds n L a→bound.map a.eval=bs) (hx:∀ a,Holds n L a→captured.map a.eval=vs):Ex P n L w ⟨d,.makeFunc f bound.toArray captured.toArray,ty,pos,af,g⟩ (.func f bs.toArray vs.toArray) w:=fun e he=>by
 have h1:=hb e he
 have h2:=hx e he
 simp [execOp,Instr.makeFunc,← h1,← h2]
theorem Ex.appendNo {d:Option Nat} {u:TypeId} {a:Option Addr} {m c:Nat} {i:TypeInfo} (hx:Ev n L x (.slice a m c)) (hy:Ev n L y (S [])) (ht:P.underlying t=some (.slice E)) (hu:P.underlying u=some .string) (hi:P.info? E=some i) (hc:m≤c) :
  Ex P n L w ⟨d,.call ⟨.builtin .append,#[x,y],#[t,u]⟩,ty,pos,af,g⟩ (.slice a m c) w:=fun e he=>by
 have e1:Builtin.lenOf (S [])=pure 0:=rfl
 have e0:((⟨[].toArray⟩:ByteArray).extract 0 0).data=#[]:=by
  rw [ByteArray.data_extract]; rfl
 have e2:∀ z,Builtin.firstCells z 0 (S [])=pure #[]:=fun z=>by
  show (pure _:Sem (Array Value))=_
  rw [e0,Array.map_empty]
 have h:(Builtin.append_ #[t,u] ty #[.slice a m c,S []]).run P w=.ok (.slice a m c) w:=by
  cases a <;> simp [Builtin.append_,run_underlying ht,run_underlying hu,Go.sizeOf,typeInfo,hi,e1,e2,storeCells,hc]
 simp only [execOp,resolve,invoke,builtin,List.map_toArray,Yl,Y3a,hx e he,hy e he,Sem.run_bind,Sem.run_pure,Result.andThen,h]
theorem RS.of {J:Im} {p:Addr} {s m:Nat} {xs:List Value} (h:At J p xs) (hl:xs.length=m*s):RS J (some p) s m xs:=⟨hl,fun _=>⟨p,rfl,h⟩⟩
theorem Ex.slNe {e:TypeId} {d:Option Nat} {a:Option Addr} {m c:Nat} (hx:Ev n L x (.slice a m c)) (hy:Ev n L y (.slice none 0 0)) (hT:P.underlying t=some (.slice e)):Ex P n L w ⟨d,.binOp .neq t x y t',ty,pos,af,g⟩ (.bool a.isSome) w :=
 Xi hx hy (fun _ _=>by unfold eqGuard; split <;> simp) (by
  have h:=run_neq_slice_nil (P:=P) w t e a m c hT
  rw [h]; cases a <;> rfl)
theorem At.pre {J:Im} {p:Addr} {xs ys:List Value} (h:At J p xs) (hp:∀ (j:Nat) (v:Value),ys[j]?=some v→xs[j]?=some v):At J p ys:=by
 obtain ⟨h0,arr,E,fr,hi,hv⟩:=h
 exact ⟨h0,arr,E,fr,hi,fun j v hj=>hv j v (hp j v hj)⟩
theorem RS.part {J:Im} {b m c lo hi:Nat} {l:List UInt8} (h:RS J (some (ad b 0)) 1 m (bcs l)) (hm:0<m) (h1:lo≤hi) (h2:hi≤m):RS J (some (ad b (0+lo))) 1 (hi - lo) (bcs ((l.drop lo).take (hi - lo))):=by
 have hl:l.length=m:=by have:=h.1; simpa using this
 refine ⟨by simp; omega,fun h0=>⟨_,rfl,?_⟩⟩
 obtain ⟨p,hp,hA⟩:=h.2 hm
 injection hp with hp
 subst hp
 have h3:=hA.add lo
 rw [Xo] at h3
 refine At.pre h3 fun j v hj=>?_
 rw [bcs,Y40,Y3z] at hj
 rw [Y12] at hj
 split at hj
 ·exact hj
 ·cases hj
theorem Ex.slcArr {d:Option Nat} {e:TypeId} {p:Addr} {m s:Nat} (hx:Ev n L x (.pointer (some p))) (hm:0<m) (ht:P.underlying t=some (.array m e)) (hs:∀ w,(Go.sizeOf e).run P w=.ok s w) :
  Ex P n L w ⟨d,.slice t x none none none,ty,pos,af,g⟩ (.slice (some p) m m) w:=fun a ha=>by
 obtain ⟨e1,e2⟩:=X3m ht
 have h:=run_sliceAt_array_all (P:=P) (w:=w) (t:=t) (a:=p) (by rw [e1,e2]; exact ht)
 rw [e1,e2,hs] at h
 have hne:m≠0:=by omega
 have e0:p.add 0=p:=by cases p; simp [Addr.add]
 simp [execOp,hx a ha,h,slicedAt,hne,e0]
end
end Gk
namespace Gk
open Go
structure Xhg {β:Type} (D:TypeDesc) (K:β→Value):Prop where
 is:∀ b,MapKept.IsKey D (K b)
 inj:∀ a b,K a=K b→a=b
theorem keyS:Xhg .string S:=⟨fun _=>trivial,fun a b h=>by injection h with h; injection h with h; injection h⟩
theorem keyI:Xhg (.int .i64) I64:=⟨fun _=>rfl,fun a b h=>by injection h⟩
def Xes {β:Type} (K:β→Value) (kv:List (β×Value)) (es:Array MapEntry):Prop:=es.toList.map (fun e=>(e.key,e.val))=kv.map fun p=>(K p.1,p.2)
def Xet {β:Type} (K:β→Value) (b:Nat) (kv:List (β×Value)):Xe:=fun h=>∃ es clk,Xes K kv es∧h=[(b,.map es clk)]
def MapI {β:Type} (I:Im) (K:β→Value) (b:Nat) (kv:List (β×Value)):Prop:=∃ es clk,Xes K kv es∧I b=some (.map es clk)
theorem MapI.mono {β:Type} {I J:Im} {K:β→Value} {b:Nat} {kv:List (β×Value)} (h:MapI I K b kv) (hl:Le I J):MapI J K b kv:=by
 obtain ⟨es,clk,h1,h2⟩:=h
 exact ⟨es,clk,h1,hl _ _ h2⟩
section
variable {P:Program} {n:Nat} {K':X1u} {L:Env} {w B:World} {ops:Array Oper} {rest:List Oper} {I:Im} {As:List Xe} {β:Type} {K:β→Value} {D:TypeDesc} {kv:List (β×Value)} {k b:Nat} {t kt et ty:TypeId} {x y z:Operand} {pos:String} {af:Array Edge} {d:Nat} {g:Option (Nat×Bool)}
theorem X40 [BEq β] [LawfulBEq β] (hK:Xhg D K) (key:β):∀ (kv:List (β×Value)) (es:List MapEntry) (i:Nat),es.map (fun e=>(e.key,e.val))=kv.map (fun p=>(K p.1,p.2)) →
  (kv.lookup key=none∧Instr.findNow D (K key) es i=some none)∨∃ j v,kv.lookup key=some v∧Instr.findNow D (K key) es i=some (some (j,v))
 | [],[],_,_=>.inl ⟨rfl,rfl⟩
 | [],e::es,_,h=>by simp at h
 | p::kv,[],_,h=>by simp at h
 | p::kv,e::es,i,h=>by
  simp only [Yl,List.cons.injEq,Prod.mk.injEq] at h
  obtain ⟨⟨h1,h2⟩,h3⟩:=h
  have hk:MapKept.IsKey D e.key:=h1 ▸ hK.is _
  obtain ⟨r,hr,hi⟩:=MapKept.sameNow_of_keys (hK.is key) hk
  cases r with
  | true =>
   have e1:=hK.inj _ _ ((hi.1 rfl).trans h1)
   exact .inr ⟨i,p.2,by obtain ⟨p1,p2⟩:=p; simp only at e1; subst e1; simp [List.lookup,beq_self_eq_true],by simp [Instr.findNow,hr,h2]⟩
  | false =>
   have hne:key≠p.1:=fun q=>by have:=hi.2 (by rw [h1,q]); cases this
   have hl:(p::kv).lookup key=kv.lookup key:=by obtain ⟨p1,p2⟩:=p; simp only at hne; simp [List.lookup,beq_eq_false_iff_ne.2 hne]
   rcases X40 hK key kv es (i+1) h3 with ⟨e1,e2⟩ | ⟨j,v,e1,e2⟩
   ·exact .inl ⟨by rw [hl]; exact e1,by simp [Instr.findNow,hr,e2]⟩
   ·exact .inr ⟨j,v,by rw [hl]; exact e1,by simp [Instr.findNow,hr,e2]⟩
theorem X5y [BEq β] [LawfulBEq β] {ty:TypeId} {b:Nat} {es:Array MapEntry} {clk:Nat} {z:Value} (hK:Xhg D K) (hb:w.heap[b]?=some (.map es clk)) (he:Xes K kv es) (key:β) (ht:P.underlying t=some (.map kt et)) (hk:P.underlying kt=some D) (hz:∀ w,(zeroValue et).run P w=.ok z w) (ok:Bool) :
  (Instr.lookup t (.map (some b)) (K key) ok).run P w=.ok (if ok then .tuple #[(kv.lookup key).getD z,.bool (kv.lookup key).isSome] else (kv.lookup key).getD z) w:=by
 have hc:(Instr.checkKey es.isEmpty 10000 kt (K key)).run P w=.ok () w:=MapKept.run_checkKey hk (hK.is key) _ 9999
 rcases X40 hK key kv es.toList 0 he with ⟨h1,h2⟩ | ⟨j,v,h1,h2⟩
 ·simp [Instr.lookup,run_underlying ht,MapKept.run_getObj_map hb,hc,MapKept.run_findKey hk h2,h1,hz,Result.andThen]
 ·simp [Instr.lookup,run_underlying ht,MapKept.run_getObj_map hb,hc,MapKept.run_findKey hk h2,h1,Result.andThen]
theorem Sat.mapNow (hS:Sat B w I As) (hk:As[k]?=some (Xet K b kv)):∃ es clk,Xes K kv es∧w.heap[b]?=some (.map es clk):=by
 obtain ⟨g,hs,hg⟩:=hS
 obtain ⟨h1,h2,hp,⟨es,clk,he,rfl⟩,_⟩:=hs.at_ hk
 exact ⟨es,clk,he,(hg.perm hp).own b _ (by simp)⟩
theorem MapI.now (h:MapI I K b kv) (hS:Sat B w I As):∃ es clk,Xes K kv es∧w.heap[b]?=some (.map es clk):=by
 obtain ⟨es,clk,h1,h2⟩:=h
 obtain ⟨g,hs,hg⟩:=hS
 exact ⟨es,clk,h1,hg.imm _ _ h2⟩
theorem Ex.look2 [BEq β] [LawfulBEq β] {d:Option Nat} {z:Value} {key:β} (hK:Xhg D K) (hm:∃ es clk,Xes K kv es∧w.heap[b]?=some (.map es clk)) (hx:Ev n L x (.map (some b))) (hy:Ev n L y (K key)) (ht:P.underlying t=some (.map kt et)) (hk:P.underlying kt=some D) (hz:∀ w,(zeroValue et).run P w=.ok z w) :
  Ex P n L w ⟨d,.lookup t x y true,ty,pos,af,g⟩ (.tuple #[(kv.lookup key).getD z,.bool (kv.lookup key).isSome]) w:=fun a ha=>by
 obtain ⟨es,clk,he,hb⟩:=hm
 have h:=X5y (ty:=ty) hK hb he key ht hk hz true
 simp [execOp,hx a ha,hy a ha,h]
theorem Ex.look1 [BEq β] [LawfulBEq β] {d:Option Nat} {z:Value} {key:β} (hK:Xhg D K) (hm:∃ es clk,Xes K kv es∧w.heap[b]?=some (.map es clk)) (hx:Ev n L x (.map (some b))) (hy:Ev n L y (K key)) (ht:P.underlying t=some (.map kt et)) (hk:P.underlying kt=some D) (hz:∀ w,(zeroValue et).run P w=.ok z w) :
  Ex P n L w ⟨d,.lookup t x y false,ty,pos,af,g⟩ ((kv.lookup key).getD z) w:=fun a ha=>by
 obtain ⟨es,clk,he,hb⟩:=hm
 have h:=X5y (ty:=ty) hK hb he key ht hk hz false
 simp [execOp,hx a ha,hy a ha,h]
theorem Xb1 [BEq β] [LawfulBEq β] {val:Value} {key:β} (hK:Xhg D K) (hS:Sat B w I As) (hk:As[k]?=some (Xet K b kv)) (hno:kv.lookup key=none) (ht:P.underlying t=some (.map kt et)) (hkt:P.underlying kt=some D) :
  ∃ w',(Instr.mapUpdate t (.map (some b)) (K key) val).run P w=.ok () w'∧Sat B w' I (As.set k (Xet K b (kv ++ [(key,val)]))):=by
 obtain ⟨g,hs,hg⟩:=hS
 obtain ⟨h1,h2,hp,⟨es,clk,he,rfl⟩,X1l,_⟩:=hs.at_ hk
 have hb:=(hg.perm hp).own b (.map es clk) (by simp)
 have hlt:b<w.heap.size:=(Yg.1 hb).1
 have hc:(Instr.checkKey false 10000 kt (K key)).run P w=.ok () w:=MapKept.run_checkKey hkt (hK.is key) _ 9999
 have hf:Instr.findNow D (K key) es.toList 0=some none:=by
  rcases X40 hK key kv es.toList 0 he with ⟨_,h⟩ | ⟨j,v,h,_⟩
  ·exact h
  ·rw [hno] at h; cases h
 refine ⟨{ w with heap:=w.heap.setIfInBounds b (.map (es.push { key:=K key,val:=val,born:=clk }) (clk+1)) },?_,?_⟩
 ·simp [Instr.mapUpdate,run_underlying ht,MapKept.run_getObj_map hb,hc,MapKept.run_findKey hkt hf,MapKept.run_setObj_map _ hb,Result.andThen]
 ·-- the block is written
  have hS0:Sat B w I (As.set k (own b (.map es clk))):=by
   obtain ⟨g',hs',hp'⟩:=X1l (own b (.map es clk)) [(b,.map es clk)] rfl
   exact ⟨g',hs',hg.perm (hp.trans hp'.symm)⟩
  have hkl:k<As.length:=(Y0.1 hk).1
  have hw:=hS0.write (k:=k) (b:=b) (o:=.map es clk) (w':={ w with heap:=w.heap.setIfInBounds b (.map (es.push { key:=K key,val:=val,born:=clk }) (clk+1)) }) (o':=.map (es.push { key:=K key,val:=val,born:=clk }) (clk+1)) (by simp [hkl]) rfl rfl rfl (MapKept.heap_set hb).1 (fun c hc=>(MapKept.heap_set hb).2 c hc)
  have hf2:=hw.say (k:=k) (A:=own b (.map (es.push { key:=K key,val:=val,born:=clk }) (clk+1))) (A':=Xet K b (kv ++ [(key,val)])) (by simp [hkl]) fun g hg=>⟨_,_,by
   unfold Xes at he ⊢
   rw [Array.toList_push,Y18,Y18,he]
   rfl,hg⟩
  simpa using hf2
end
end Gk
namespace Sx
open Go Gk
inductive AV where
 | v (x:Value)
 | st (l:List Nat)
 | p (b o:Nat)
 | s (b o n z:Nat)
 | c (b o n k:Nat)
 | a (l:List AV)
 | t (l:List AV)
 | f (fn:Nat) (first cap:List AV)
 | m (b:Nat)
 | u
abbrev Ren:=Nat→Option (Nat×Nat×Nat)
def byt (l:List Nat):List UInt8:=l.map UInt8.ofNat
mutual
def Xb (ρ:Ren):AV→Option Value
 | .v x=>some x
 | .st l=>some (S (byt l))
 | .p b o=>match ρ b with
  | some (ad,ba,_)=>some (.pointer (some ⟨ad,ba+o,none⟩))
  | none=>none
 | .s b o n z=>match ρ b with
  | some (ad,ba,cap)=>some (.slice (some ⟨ad,ba+o*z,none⟩) n (cap - o))
  | none=>none
 | .c b o n k=>match ρ b with
  | some (ad,ba,_)=>some (.slice (some ⟨ad,ba+o,none⟩) n k)
  | none=>none
 | .a l=>match X5 ρ l with
  | some vs=>some (.agg vs.toArray)
  | none=>none
 | .t l=>match X5 ρ l with
  | some vs=>some (.tuple vs.toArray)
  | none=>none
 | .f g x y=>match X5 ρ x,X5 ρ y with
  | some us,some vs=>some (.func (.func g) us.toArray vs.toArray)
  | _,_=>none
 | .m b=>match ρ b with
  | some (ad,_,_)=>some (.map (some ad))
  | none=>none
 | .u=>none
def X5 (ρ:Ren):List AV→Option (List Value)
 | []=>some []
 | x::l=>match Xb ρ x,X5 ρ l with
  | some v,some vs=>some (v::vs)
  | _,_=>none
end
theorem concL_cons {ρ:Ren} {x:AV} {l:List AV} {vs:List Value}:X5 ρ (x::l)=some vs ↔ ∃ v us,Xb ρ x=some v∧X5 ρ l=some us∧vs=v::us:=by
 rw [X5]
 cases Xb ρ x <;> cases X5 ρ l <;> simp [eq_comm]
theorem X9 {ρ:Ren}:∀ {l:List AV} {vs:List Value},X5 ρ l=some vs→vs.length=l.length
 | [],vs,h=>by simp [X5] at h; subst h; rfl
 | x::l,vs,h=>by
  obtain ⟨v,us,_,h2,rfl⟩:=concL_cons.1 h
  simp [X9 h2]
theorem X4y {ρ:Ren}:∀ {l:List AV} {vs:List Value},X5 ρ l=some vs→∀ {j:Nat} {x:AV},l[j]?=some x→∃ v,Xb ρ x=some v∧vs[j]?=some v
 | [],vs,h,j,x,hj=>by simp at hj
 | y::l,vs,h,j,x,hj=>by
  obtain ⟨v,us,h1,h2,rfl⟩:=concL_cons.1 h
  cases j with
  | zero=>simp at hj; subst hj; exact ⟨v,h1,rfl⟩
  | succ j=>simpa using X4y h2 (j:=j) (by simpa using hj)
theorem Xd {ρ:Ren}:∀ {l m:List AV} {us vs:List Value},X5 ρ l=some us→X5 ρ m=some vs→X5 ρ (l ++ m)=some (us ++ vs)
 | [],m,us,vs,h,hm=>by simp [X5] at h; subst h; simpa using hm
 | x::l,m,us,vs,h,hm=>by
  obtain ⟨v,ws,h1,h2,rfl⟩:=concL_cons.1 h
  exact concL_cons.2 ⟨v,ws ++ vs,h1,Xd h2 hm,rfl⟩
theorem X1c {ρ:Ren}:∀ {l:List AV} {vs:List Value} (k:Nat),X5 ρ l=some vs→X5 ρ (l.take k)=some (vs.take k)
 | [],vs,k,h=>by simp [X5] at h; subst h; simp [X5]
 | x::l,vs,0,h=>by simp [X5]
 | x::l,vs,k+1,h=>by
  obtain ⟨v,ws,h1,h2,rfl⟩:=concL_cons.1 h
  exact concL_cons.2 ⟨v,_,h1,X1c k h2,rfl⟩
theorem X14 {ρ:Ren}:∀ {l:List AV} {vs:List Value} (k:Nat),X5 ρ l=some vs→X5 ρ (l.drop k)=some (vs.drop k)
 | [],vs,k,h=>by simp [X5] at h; subst h; simp [X5]
 | x::l,vs,0,h=>by simpa using h
 | x::l,vs,k+1,h=>by
  obtain ⟨v,ws,h1,h2,rfl⟩:=concL_cons.1 h
  simpa using X14 k h2
def LeR (ρ σ:Ren):Prop:=∀ b i,ρ b=some i→σ b=some i
theorem LeR.refl (ρ:Ren):LeR ρ ρ:=fun _ _ h=>h
theorem LeR.trans {ρ σ τ:Ren} (h:LeR ρ σ) (k:LeR σ τ):LeR ρ τ:=fun b i e=>k b i (h b i e)
mutual
theorem X1z {ρ σ:Ren} (h:LeR ρ σ):∀ {x:AV} {v:Value},Xb ρ x=some v→Xb σ x=some v
 | .v x,v,hv=>by simpa [Xb] using hv
 | .st l,v,hv=>by simpa [Xb] using hv
 | .p b o,v,hv=>by
  rw [Xb] at hv ⊢
  split at hv
  ·rename_i e; rw [h _ _ e]; exact hv
  ·cases hv
 | .s b o n z,v,hv=>by
  rw [Xb] at hv ⊢
  split at hv
  ·rename_i e; rw [h _ _ e]; exact hv
  ·cases hv
 | .c b o n k,v,hv=>by
  rw [Xb] at hv ⊢
  split at hv
  ·rename_i e; rw [h _ _ e]; exact hv
  ·cases hv
 | .a l,v,hv=>by
  rw [Xb] at hv ⊢
  split at hv
  ·rename_i e; rw [X1b h e]; exact hv
  ·cases hv
 | .t l,v,hv=>by
  rw [Xb] at hv ⊢
  split at hv
  ·rename_i e; rw [X1b h e]; exact hv
  ·cases hv
 | .f g x y,v,hv=>by
  rw [Xb] at hv ⊢
  split at hv
  ·rename_i e1 e2; rw [X1b h e1,X1b h e2]; exact hv
  ·cases hv
 | .m b,v,hv=>by
  rw [Xb] at hv ⊢
  split at hv
  ·rename_i e; rw [h _ _ e]; exact hv
  ·cases hv
 | .u,v,hv=>by rw [Xb] at hv; cases hv
theorem X1b {ρ σ:Ren} (h:LeR ρ σ):∀ {l:List AV} {vs:List Value},X5 ρ l=some vs→X5 σ l=some vs
 | [],vs,hv=>by simpa [X5] using hv
 | x::l,vs,hv=>by
  obtain ⟨v,us,h1,h2,rfl⟩:=concL_cons.1 hv
  exact concL_cons.2 ⟨v,us,X1z h h1,X1b h h2,rfl⟩
end
inductive Blk where
 | row (E z:Nat) (q:Bool) (cs:List AV)
 | mp (kv:List (List Nat×AV))
 | mi (kv:List (Int×AV))
 | it
abbrev X3:=List (Nat×Blk)
def X2r (ρ:Ren):List (List Nat×AV)→Option (List (List UInt8×Value))
 | []=>some []
 | (k,x)::l=>match Xb ρ x,X2r ρ l with
  | some v,some vs=>some ((byt k,v)::vs)
  | _,_=>none
theorem concK_cons {ρ:Ren} {k:List Nat} {x:AV} {l:List (List Nat×AV)} {vs}:X2r ρ ((k,x)::l)=some vs ↔ ∃ v us,Xb ρ x=some v∧X2r ρ l=some us∧vs=(byt k,v)::us:=by
 rw [X2r]
 cases Xb ρ x <;> cases X2r ρ l <;> simp [eq_comm]
theorem X6m {ρ σ:Ren} (h:LeR ρ σ):∀ {l:List (List Nat×AV)} {vs},X2r ρ l=some vs→X2r σ l=some vs
 | [],vs,hv=>by simpa [X2r] using hv
 | (k,x)::l,vs,hv=>by
  obtain ⟨v,us,h1,h2,rfl⟩:=concK_cons.1 hv
  exact concK_cons.2 ⟨v,us,X1z h h1,X6m h h2,rfl⟩
theorem X4b {ρ:Ren}:∀ {l m:List (List Nat×AV)} {us vs},X2r ρ l=some us→X2r ρ m=some vs→X2r ρ (l ++ m)=some (us ++ vs)
 | [],m,us,vs,h,hm=>by simp [X2r] at h; subst h; simpa using hm
 | (k,x)::l,m,us,vs,h,hm=>by
  obtain ⟨v,ws,h1,h2,rfl⟩:=concK_cons.1 h
  exact concK_cons.2 ⟨v,ws ++ vs,h1,X4b h2 hm,rfl⟩
def X2q (ρ:Ren):List (Int×AV)→Option (List (Int×Value))
 | []=>some []
 | (k,x)::l=>match Xb ρ x,X2q ρ l with
  | some v,some vs=>some ((k,v)::vs)
  | _,_=>none
theorem concJ_cons {ρ:Ren} {k:Int} {x:AV} {l:List (Int×AV)} {vs}:X2q ρ ((k,x)::l)=some vs ↔ ∃ v us,Xb ρ x=some v∧X2q ρ l=some us∧vs=(k,v)::us:=by
 rw [X2q]
 cases Xb ρ x <;> cases X2q ρ l <;> simp [eq_comm]
theorem X6l {ρ σ:Ren} (h:LeR ρ σ):∀ {l:List (Int×AV)} {vs},X2q ρ l=some vs→X2q σ l=some vs
 | [],vs,hv=>by simpa [X2q] using hv
 | (k,x)::l,vs,hv=>by
  obtain ⟨v,us,h1,h2,rfl⟩:=concJ_cons.1 hv
  exact concJ_cons.2 ⟨v,us,X1z h h1,X6l h h2,rfl⟩
theorem X4a {ρ:Ren}:∀ {l m:List (Int×AV)} {us vs},X2q ρ l=some us→X2q ρ m=some vs→X2q ρ (l ++ m)=some (us ++ vs)
 | [],m,us,vs,h,hm=>by simp [X2q] at h; subst h; simpa using hm
 | (k,x)::l,m,us,vs,h,hm=>by
  obtain ⟨v,ws,h1,h2,rfl⟩:=concJ_cons.1 h
  exact concJ_cons.2 ⟨v,ws ++ vs,h1,X4a h2 hm,rfl⟩
def Thaw (fr:Nat×Nat) (n:Nat):Prop:=∀ o,o<n→(decide (fr.1≤o) && decide (o<fr.2))=false
theorem Thaw.zero (n:Nat):Thaw (0,0) n:=fun o _=>by simp
def den (ρ:Ren):Nat×Blk→Xe
 | (id,.row E z q cs)=>fun h=>∃ ad ba cap vs pre rest fr,ρ id=some (ad,ba,cap)∧X5 ρ cs=some vs∧pre.length=ba∧vs.length+rest.length=cap*z∧cap≤maxLen ∧
  Thaw fr (pre.length+vs.length+rest.length)∧(q=true→pre=[]∧rest=[])∧h=[(ad,.cells (pre ++ vs ++ rest).toArray E fr)]
 | (id,.mp kv)=>fun h=>∃ ad x us,ρ id=some (ad,x)∧X2r ρ kv=some us∧Xet S ad us h
 | (id,.mi kv)=>fun h=>∃ ad x us,ρ id=some (ad,x)∧X2q ρ kv=some us∧Xet I64 ad us h
 | (id,.it)=>fun h=>∃ ad,ρ id=some (ad,0,0)∧h=[(ad,.mapIter none 0 #[] 0)]
theorem Xak {ρ σ:Ren} (hl:LeR ρ σ):∀ {x:Nat×Blk} {h:X3h},den ρ x h→den σ x h
 | (id,.row E z q cs),h,⟨ad,ba,cap,vs,pre,rest,fr,h1,h2,h3⟩=>⟨ad,ba,cap,vs,pre,rest,fr,hl _ _ h1,X1b hl h2,h3⟩
 | (id,.mp kv),h,⟨ad,x,us,h1,h2,h3⟩=>⟨ad,x,us,hl _ _ h1,X6m hl h2,h3⟩
 | (id,.mi kv),h,⟨ad,x,us,h1,h2,h3⟩=>⟨ad,x,us,hl _ _ h1,X6l hl h2,h3⟩
 | (id,.it),h,⟨ad,h1,h2⟩=>⟨ad,hl _ _ h1,h2⟩
theorem X7n {ρ σ:Ren} (hl:LeR ρ σ) {F:List Xe}:∀ {H:X3} {h:X3h},SepAll (H.map (den ρ) ++ F) h→SepAll (H.map (den σ) ++ F) h
 | [],h,hh=>hh
 | x::H,h,hh=>by
  obtain ⟨h1,h2,rfl,ha,hr⟩:=hh
  exact ⟨h1,h2,rfl,Xak hl ha,X7n hl hr⟩
def RH (B:World) (I:Im) (ρ:Ren) (H:X3) (F:List Xe) (w:World):Prop:=Sat B w I (H.map (den ρ) ++ F)
section
variable {B w w':World} {I:Im} {ρ σ:Ren} {H:X3} {F:List Xe}
theorem RH.mono (h:RH B I ρ H F w) (hl:LeR ρ σ):RH B I σ H F w:=let ⟨g,h1,h2⟩:=h; ⟨g,X7n hl h1,h2⟩
def Xp:X3→Nat→Option Blk
 | [],_=>none
 | (k,b)::H,i=>bif Nat.beq k i then some b else Xp H i
def X1l:X3→Nat→Blk→X3
 | [],_,_=>[]
 | (k,b)::H,i,b'=>bif Nat.beq k i then (k,b')::H else (k,b)::X1l H i b'
def Xc6:X3→Nat→X3
 | [],_=>[]
 | (k,b)::H,i=>bif Nat.beq k i then H else (k,b)::Xc6 H i
theorem X3p:∀ {H:X3} {i:Nat} {b:Blk},Xp H i=some b→∃ k,H[k]?=some (i,b)∧(∀ b',X1l H i b'=H.set k (i,b'))∧Xc6 H i=H.eraseIdx k
 | [],i,b,h=>by cases h
 | (k,c)::H,i,b,h=>by
  unfold Xp at h
  by_cases e:k=i
  ·subst e
   simp at h
   subst h
   exact ⟨0,rfl,fun b'=>by simp [X1l],by simp [Xc6]⟩
  ·have hb:=X7z e
   rw [hb] at h
   obtain ⟨j,h1,h2,h3⟩:=X3p h
   exact ⟨j+1,by simpa using h1,fun b'=>by simp [X1l,hb,h2],by simp [Xc6,hb,h3]⟩
theorem RH.row {id E z:Nat} {q:Bool} {cs:List AV} (h:RH B I ρ H F w) (hf:Xp H id=some (.row E z q cs)) :
  ∃ ad ba cap vs,ρ id=some (ad,ba,cap)∧X5 ρ cs=some vs∧vs.length≤cap*z∧cap≤maxLen∧(∀ j v,vs[j]?=some v→w.cell? ⟨ad,ba+j,none⟩=some v) ∧
   (∀ j,j<cap*z→(w.cell? ⟨ad,ba+j,none⟩).isSome=true∧w.frozen? ⟨ad,ba+j,none⟩=false)∧(q=true→ba=0∧w.shape? ad=some (E,vs.length))∧(∃ m,w.shape? ad=some (E,m)∧ba+cap*z≤m) ∧
   (∀ (o:Nat) (cs':List AV) (news:List Value),o≤vs.length→o+news.length≤cap*z→X5 ρ cs'=some (vs.take o ++ news ++ vs.drop (o+news.length)) →
    RH B I ρ (X1l H id (.row E z q cs')) F (w.setCells ad (ba+o) news)):=by
 obtain ⟨k,hk,hset',_⟩:=X3p hf
 have hkl:k<H.length:=(Y0.1 hk).1
 have hA:(H.map (den ρ) ++ F)[k]?=some (den ρ (id,.row E z q cs)):=by
  rw [Ya (by simpa using hkl),Yk,hk]; rfl
 obtain ⟨⟨⟨ad,ba,cap,vs,pre,rest,fr⟩,e1,e2,e3,e4,e5,e6,e7⟩,hS⟩:=Sat.opened (X:={ x:Nat×Nat×Nat×List Value×List Value×List Value×(Nat×Nat) //
   ρ id=some (x.1,x.2.1,x.2.2.1)∧X5 ρ cs=some x.2.2.2.1∧x.2.2.2.2.1.length=x.2.1∧x.2.2.2.1.length+x.2.2.2.2.2.1.length=x.2.2.1*z∧x.2.2.1≤maxLen ∧
   Thaw x.2.2.2.2.2.2 (x.2.2.2.2.1.length+x.2.2.2.1.length+x.2.2.2.2.2.1.length)∧(q=true→x.2.2.2.2.1=[]∧x.2.2.2.2.2.1=[]) }) (T:=fun x=>own x.1.1 (.cells (x.1.2.2.2.2.1 ++ x.1.2.2.2.1 ++ x.1.2.2.2.2.2.1).toArray E x.1.2.2.2.2.2.2)) h hA (by
  rintro g ⟨ad,ba,cap,vs,pre,rest,fr,e1,e2,e3,e4,e5,e6,e7,rfl⟩
  exact ⟨⟨(ad,ba,cap,vs,pre,rest,fr),e1,e2,e3,e4,e5,e6,e7⟩,rfl⟩)
 simp only at e1 e2 e3 e4 e5 e6 e7 hS
 have hAl:k<(H.map (den ρ) ++ F).length:=(Y0.1 hA).1
 have hko:((H.map (den ρ) ++ F).set k (own ad (.cells (pre ++ vs ++ rest).toArray E fr)))[k]?=some (own ad (.cells (pre ++ vs ++ rest).toArray E fr)):=Yu hAl
 have hb:=hS.blockO hko
 have hcell:∀ j v,(vs ++ rest)[j]?=some v→w.cell? ⟨ad,ba+j,none⟩=some v:=fun j v hv=>by
  have:(pre ++ vs ++ rest)[ba+j]?=some v:=by
   rw [Y7,Yn (by omega),e3,Y1q]; exact hv
  simpa [World.cell?,hb] using this
 refine ⟨ad,ba,cap,vs,e1,e2,by omega,e5,fun j v hv=>hcell j v ?_,fun j hj=>⟨?_,?_⟩,fun hq=>?_,⟨(pre ++ vs ++ rest).toArray.size,by rw [World.shape?,hb],by simp; omega⟩,fun o cs' news ho hn hc=>?_⟩
 ·rw [Ya (Y0.1 hv).1]; exact hv
 ·have hj':j<(vs ++ rest).length:=by rw [Y2]; omega
  rw [hcell j _ (Yb hj')]; rfl
 ·have:=e6 (ba+j) (by omega)
  simpa [World.frozen?,hb] using this
 ·obtain ⟨rfl,rfl⟩:=e7 hq
  exact ⟨e3.symm,by simp [World.shape?,hb]⟩
 ·-- the cells are written
  have hwr:∀ (ns:List Value) (q:Nat) (arr:List Value) (u:World),u.heap[ad]?=some (.cells arr.toArray E fr)→q+ns.length≤arr.length →
    (u.setCells ad q ns).heap[ad]?=some (.cells (arr.take q ++ ns ++ arr.drop (q+ns.length)).toArray E fr)∧(∀ c,c≠ad→(u.setCells ad q ns).heap[c]?=u.heap[c]?) ∧
    (u.setCells ad q ns).os=u.os∧(u.setCells ad q ns).tape=u.tape∧(u.setCells ad q ns).output=u.output:=by
   intro ns
   induction ns with
   | nil=>intro q arr u hu hq; refine ⟨by simpa [World.setCells] using hu,fun c _=>rfl,rfl,rfl,rfl⟩
   | cons x ns ih =>
    intro q arr u hu hq
    simp only [Y3] at hq
    have hlt:ad<u.heap.size:=(Yg.1 hu).1
    have h1:(u.setCell ⟨ad,q,none⟩ x).heap[ad]?=some (.cells (arr.set q x).toArray E fr):=by
     have hu2:=(Yg.1 hu).2
     simp only [World.setCell,Y1s,if_pos rfl]
     simp [hlt,hu2]
    have h2:∀ c,c≠ad→(u.setCell ⟨ad,q,none⟩ x).heap[c]?=u.heap[c]?:=fun c hc=>by
     simp [World.setCell,Y1s,Ne.symm hc]
    obtain ⟨g1,g2,g3,g4,g5⟩:=ih (q+1) (arr.set q x) (u.setCell ⟨ad,q,none⟩ x) h1 (by rw [Y35]; omega)
    refine ⟨?_,fun c hc=>(g2 c hc).trans (h2 c hc),g3,g4,g5⟩
    rw [World.setCells,g1]
    congr 3
    have h9:=list_seg_step arr q x ns (by omega)
    simpa [Y10,Y3c 1] using h9
  obtain ⟨g1,g2,g3,g4,g5⟩:=hwr news (ba+o) (pre ++ vs ++ rest) w hb (by simp only [Y2]; omega)
  have hS2:=hS.write (w':=w.setCells ad (ba+o) news) hko g3 g4 g5 g1 g2
  rw [Y2o] at hS2
  have hfin:=hS2.say (k:=k) (A':=den ρ (id,.row E z q cs')) (Yu hAl) (fun g hg=>by
   refine ⟨ad,ba,cap,_,pre,rest.drop (o+news.length - vs.length),fr,e1,hc,e3,?_,e5,?_,fun hq=>?_,hg.trans ?_⟩
   ·simp only [Y2,Yi,Y6]; omega
   ·have:pre.length+(vs.take o ++ news ++ vs.drop (o+news.length)).length+(rest.drop (o+news.length - vs.length)).length=pre.length+vs.length+rest.length:=by
     simp only [Y2,Yi,Y6]; omega
    rw [this]; exact e6
   ·obtain ⟨rfl,rfl⟩:=e7 hq
    exact ⟨rfl,by simp⟩
   ·congr 4
    subst e3
    rw [Y7 pre vs rest,Y3o,Y30,Y3o,Y30]
    simp only [Y7]
    have q1:pre.length+o - pre.length=o:=by omega
    have q2:pre.length+o+news.length - pre.length=o+news.length:=by omega
    rw [q1,q2,Y1k (by omega:pre.length≤pre.length+o),Y26 (by omega:pre.length≤pre.length+o+news.length)]
    have q3:o - vs.length=0:=by omega
    simp [q3])
  rw [Y2o] at hfin
  unfold RH
  rw [hset',List.map_set,← Y34 _ _ (by simpa using hkl)]
  exact hfin
end
inductive Und where
 | str | bool | unsafe_ | other | func
 | int (k:IntKind)
 | ptr (e:Nat)
 | slice (e:Nat)
 | arr (n e:Nat)
 | struct (fs:List (Nat×Nat×Bool))
 | map (k e:Nat)
structure TI where
 size:Nat
 bytes:Nat
 agg:Bool
 zero:List AV
 und:Und
def Xcf (P:Program) (t:Nat):Und→Prop
 | .str=>P.underlying t=some .string
 | .bool=>P.underlying t=some .bool
 | .unsafe_=>P.underlying t=some .unsafePointer
 | .other=>True
 | .func=>∃ a b c,P.underlying t=some (.func a b c)
 | .int k=>P.underlying t=some (.int k)
 | .ptr e=>P.underlying t=some (.pointer e)
 | .slice e=>P.underlying t=some (.slice e)
 | .arr n e=>P.underlying t=some (.array n e)
 | .map k e=>P.underlying t=some (.map k e)
 | .struct l=>(∃ fs,P.underlying t=some (.struct fs)∧∀ (f off s:Nat) (g:Bool),l[f]?=some (off,s,g)→∃ fd,fs[f]?=some fd∧fd.offset=off∧(∀ w,(Go.sizeOf fd.type).run P w=.ok s w)∧(∀ w,(isAgg fd.type).run P w=.ok g w)) ∧
   ∃ z,(∀ w,(zeroValue t).run P w=.ok z w)∧Bld P t (l.map fun x=>(x.1,x.2.1)) z.cells.toList
def TyOK (P:Program) (t:Nat) (ti:TI):Prop :=
 ∃ i z,P.info? t=some i∧i.size=ti.size∧i.bytes=ti.bytes∧i.zero=some z∧(∀ ρ,X5 ρ ti.zero=some z.cells.toList)∧z.cells.size=ti.size ∧
  (∀ w,(isAgg t).run P w=.ok ti.agg w)∧(if ti.agg then ∃ cs,z=.agg cs else z.oneCell'=true)∧Xcf P t ti.und
section
variable {P:Program} {t:Nat} {ti:TI}
theorem TyOK.size (h:TyOK P t ti) (w:World):(Go.sizeOf t).run P w=.ok ti.size w:=by
 obtain ⟨i,z,h1,h2,_⟩:=h
 simp [Go.sizeOf,typeInfo,h1,h2]
theorem TyOK.agg (h:TyOK P t ti) (w:World):(isAgg t).run P w=.ok ti.agg w:=by
 obtain ⟨i,z,_,_,_,_,_,_,h1,_⟩:=h; exact h1 w
theorem TyOK.zero (h:TyOK P t ti):∃ z,(∀ w,(zeroValue t).run P w=.ok z w)∧(∀ ρ,X5 ρ ti.zero=some z.cells.toList)∧z.cells.size=ti.size∧(if ti.agg then ∃ cs,z=.agg cs else z.oneCell'=true):=by
 obtain ⟨i,z,h1,h2,h3,h4,h5,h6,h7,h8,h9⟩:=h
 exact ⟨z,fun w=>by simp [zeroValue,typeInfo,h1,h4],h5,h6,h8⟩
theorem TyOK.und (h:TyOK P t ti):Xcf P t ti.und:=by
 obtain ⟨i,z,h1,h2,h3,h4,h5,h6,h7,h8,h9⟩:=h; exact h9
theorem TyOK.info (h:TyOK P t ti):∃ i z,P.info? t=some i∧i.size=ti.size∧i.bytes=ti.bytes∧i.zero=some z∧z.cells.size=ti.size:=by
 obtain ⟨i,z,h1,h2,h3,h4,h5,h6,h7,h8,h9⟩:=h; exact ⟨i,z,h1,h2,h3,h4,h6⟩
end
inductive Tr (α:Type) where
 | l
 | n (k:Nat) (v:α) (a b:Tr α)
def Tr.get {α:Type}:Tr α→Nat→Option α
 | .l,_=>none
 | .n k v a b,i=>bif Nat.beq k i then some v else bif Nat.blt i k then a.get i else b.get i
def Tr.All {α:Type} (p:Nat→α→Prop):Tr α→Prop
 | .l=>True
 | .n k v a b=>p k v∧a.All p∧b.All p
theorem Tr.all_get {α:Type} {p:Nat→α→Prop}:∀ {T:Tr α},T.All p→∀ {i v},T.get i=some v→p i v
 | .l,_,i,v,h=>by cases h
 | .n k x a b,hp,i,v,h=>by
  unfold Tr.get at h
  by_cases e:k=i
  ·subst e
   simp at h
   subst h
   exact hp.1
  ·have hb:=X7z e
   rw [hb,cond_false] at h
   cases h2:Nat.blt i k with
   | true=>rw [h2] at h; exact Tr.all_get hp.2.1 h
   | false=>rw [h2] at h; exact Tr.all_get hp.2.2 h
def nth {α:Type}:List α→Nat→Option α
 | [],_=>none
 | a::_,0=>some a
 | _::l,n+1=>nth l n
theorem X12 {α:Type}:∀ (l:List α) (n:Nat),nth l n=l[n]?
 | [],n=>rfl
 | a::l,0=>rfl
 | a::l,n+1=>by simpa [nth] using X12 l n
def upd {α:Type}:List α→Nat→α→List α
 | [],_,_=>[]
 | _::l,0,x=>x::l
 | a::l,n+1,x=>a::upd l n x
theorem X2l {α:Type}:∀ (l:List α) (n:Nat) (x:α),upd l n x=l.set n x
 | [],n,x=>rfl
 | a::l,0,x=>rfl
 | a::l,n+1,x=>by simp [upd,X2l l n x]
def len {α:Type}:List α→Nat
 | []=>0
 | _::l=>Nat.succ (len l)
theorem Xg {α:Type}:∀ l:List α,len l=l.length
 | []=>rfl
 | a::l=>by simp [len,Xg l]
def Xc5:List (Nat×List AV)→Nat→Option (List AV)
 | [],_=>none
 | (k,b)::H,i=>bif Nat.beq k i then some b else Xc5 H i
def ZOK (I:Im) (ρ:Ren) (Z:List (Nat×List AV)) (G:Nat):Prop :=
 (∀ id cs,Xc5 Z id=some cs→∃ ad ba cap vs,ρ id=some (ad,ba,cap)∧X5 ρ cs=some vs∧At I ⟨ad,ba,none⟩ vs)∧∀ g,g<G→∃ cap,ρ g=some (g,0,cap)
theorem ZOK.mono {I:Im} {ρ σ:Ren} {Z:List (Nat×List AV)} {G:Nat} (h:ZOK I ρ Z G) (hl:LeR ρ σ):ZOK I σ Z G :=
 ⟨fun id cs hz=>let ⟨ad,ba,cap,vs,h1,h2,h3⟩:=h.1 id cs hz; ⟨ad,ba,cap,vs,hl _ _ h1,X1b hl h2,h3⟩,fun g hg=>let ⟨c,h1⟩:=h.2 g hg; ⟨c,hl _ _ h1⟩⟩
structure Cx where
 P:Program
 ty:Tr TI
 Z:List (Nat×List AV)
 G:Nat
 ls:List (Nat×Nat×Nat)
 c1:List Nat
 ex:Tr (List AV→Option AV)
structure WR (X:Cx) (B:World) (I:Im) (ρ:Ren) (H:X3) (F:List Xe) (w:World):Prop where
 z:ZOK I ρ X.Z X.G
 h:RH B I ρ H F w
def Fresh (ρ:Ren) (a b:Nat):Prop:=∀ i,a≤i→i<b→ρ i=none
def Ext (ρ σ:Ren) (a b:Nat):Prop:=LeR ρ σ∧∀ i,¬ (a≤i∧i<b)→σ i=ρ i
theorem Ext.refl (ρ:Ren) (a b:Nat):Ext ρ ρ a b:=⟨LeR.refl ρ,fun _ _=>rfl⟩
theorem Ext.trans {ρ σ τ:Ren} {a b c:Nat} (h:Ext ρ σ a b) (k:Ext σ τ b c) (h1:a≤b) (h2:b≤c):Ext ρ τ a c :=
 ⟨h.1.trans k.1,fun i hi=>(k.2 i (by omega)).trans (h.2 i (by omega))⟩
theorem Fresh.sub {ρ:Ren} {a b c d:Nat} (h:Fresh ρ a b) (h1:a≤c) (h2:d≤b):Fresh ρ c d:=fun i h3 h4=>h i (by omega) (by omega)
theorem Fresh.ext {ρ σ:Ren} {a b c:Nat} (h:Fresh ρ b c) (k:Ext ρ σ a b):Fresh σ b c:=fun i h1 h2=>(k.2 i (by omega)).trans (h i h1 h2)
def X7s (ρ:Ren) (id:Nat) (i:Nat×Nat×Nat):Ren:=fun b=>if b=id then some i else ρ b
theorem X17 (ρ:Ren) (id:Nat) (i:Nat×Nat×Nat):X7s ρ id i id=some i:=by simp [X7s]
theorem X19 {ρ:Ren} {id:Nat} (i:Nat×Nat×Nat) (h:ρ id=none):Ext ρ (X7s ρ id i) id (id+1) :=
 ⟨fun b x hx=>by unfold X7s; split; (rename_i e; subst e; rw [h] at hx; cases hx); exact hx,fun b hb=>by unfold X7s; split; (rename_i e; subst e; omega); rfl⟩
section
variable {X:Cx} {B w w':World} {I:Im} {ρ σ:Ren} {H:X3} {F:List Xe}
theorem WR.mono (h:WR X B I ρ H F w) (hl:LeR ρ σ):WR X B I σ H F w:=⟨h.z.mono hl,h.h.mono hl⟩
def X1d (X:Cx) (H:X3) (b:Nat):Option (List AV) :=
 match Xp H b with
 | some (.row _ _ _ cs)=>some cs
 | some _=>none
 | none=>Xc5 X.Z b
theorem WR.cells {b:Nat} {cs:List AV} (h:WR X B I ρ H F w) (hc:X1d X H b=some cs) :
  ∃ ad ba cap vs,ρ b=some (ad,ba,cap)∧X5 ρ cs=some vs∧∀ j v,vs[j]?=some v→w.cell? ⟨ad,ba+j,none⟩=some v:=by
 unfold X1d at hc
 split at hc
 ·rename_i E z q cs' hf
  cases hc
  obtain ⟨ad,ba,cap,vs,h1,h2,_,_,h3,_⟩:=h.h.row hf
  exact ⟨ad,ba,cap,vs,h1,h2,h3⟩
 ·cases hc
 ·obtain ⟨ad,ba,cap,vs,h1,h2,h3⟩:=h.z.1 _ _ hc
  refine ⟨ad,ba,cap,vs,h1,h2,fun j v hj=>?_⟩
  have:=X98 h.h h3 hj
  rw [Xo] at this
  exact this
def sub (cs:List AV) (o n:Nat):Option (List AV):=bif Nat.ble (o+n) (len cs) then some ((cs.drop o).take n) else none
theorem WR.part {b o n:Nat} {cs xs:List AV} (h:WR X B I ρ H F w) (hc:X1d X H b=some cs) (hs:sub cs o n=some xs) :
  ∃ ad ba cap vs,ρ b=some (ad,ba,cap)∧X5 ρ xs=some vs∧vs.length=n∧∀ j v,vs[j]?=some v→w.cell? ⟨ad,ba+o+j,none⟩=some v:=by
 obtain ⟨ad,ba,cap,vs,h1,h2,h3⟩:=h.cells hc
 unfold sub at hs
 cases hb:Nat.ble (o+n) (len cs) with
 | false=>rw [hb] at hs; cases hs
 | true =>
  rw [hb] at hs
  cases hs
  have hle:=Y1 hb
  rw [Xg,← X9 h2] at hle
  refine ⟨ad,ba,cap,_,h1,X1c n (X14 o h2),by rw [Yi,Y6]; omega,fun j v hj=>?_⟩
  rw [Y12] at hj
  split at hj
  ·rw [Yp] at hj
   have:=h3 _ _ hj
   rw [Y10]; exact this
  ·cases hj
theorem WR.new {id E z cap:Nat} {q:Bool} {cs:List AV} {vs rest:List Value} {fr:Nat×Nat} (h:WR X B I ρ H F w) (hid:ρ id=none) (hc:X5 ρ cs=some vs) (hl:vs.length+rest.length=cap*z) (hm:cap≤maxLen)
  (ht:Thaw fr (vs.length+rest.length)) (hq:q=true→rest=[]):WR X B I (X7s ρ id (w.heap.size,0,cap)) ((id,.row E z q cs)::H) F (w.alloc (.cells (vs ++ rest).toArray E fr)):=by
 have he:=(X19 (w.heap.size,0,cap) hid).1
 refine ⟨h.z.mono he,?_⟩
 have h1:=(h.h.mono he).alloc (.cells (vs ++ rest).toArray E fr)
 exact h1.say (k:=0) rfl (A':=den _ (id,.row E z q cs)) fun g hg=>⟨w.heap.size,0,cap,vs,[],rest,fr,X17 _ _ _,X1b he hc,rfl,hl,hm,by simpa using ht,fun h=>⟨rfl,hq h⟩,by simpa [own] using hg⟩
theorem WR.drew (h:WR X B I ρ H F w):WR X B I ρ H F w.drew:=⟨h.z,h.h.world rfl rfl rfl rfl⟩
theorem X2e {α β:Type} (f:α→β):∀ (l:List α) (k:Nat),(l.eraseIdx k).map f=(l.map f).eraseIdx k
 | [],k=>rfl
 | a::l,0=>rfl
 | a::l,k+1=>by simp [X2e f l k]
theorem WR.del {id:Nat} {b:Blk} (h:WR X B I ρ H F w) (hf:Xp H id=some b):WR X B I ρ (Xc6 H id) F w:=by
 obtain ⟨k,hk,_,hd⟩:=X3p hf
 have hkl:k<H.length:=(Y0.1 hk).1
 refine ⟨h.z,?_⟩
 have hS:Sat B w I (H.map (den ρ) ++ F):=h.h
 have h1:=hS.drop (k:=k) (A:=den ρ (id,b)) (by rw [Ya (by simpa using hkl),Yk,hk]; rfl)
 unfold RH
 rw [hd,X2e]
 rw [Y2p (by simpa using hkl)] at h1
 exact h1
def Xas:X3→Nat→Nat→Blk→X3
 | [],_,_,_=>[]
 | (k,b)::H,i,j,b'=>bif Nat.beq k i then (j,b')::H else (k,b)::Xas H i j b'
theorem Xdl:∀ {H:X3} {i j:Nat} {b b':Blk},Xp H i=some b→∃ k,H[k]?=some (i,b)∧Xas H i j b'=H.set k (j,b')
 | [],i,j,b,b',h=>by cases h
 | (k,c)::H,i,j,b,b',h=>by
  unfold Xp at h
  by_cases e:k=i
  ·subst e
   simp at h
   subst h
   exact ⟨0,rfl,by simp [Xas]⟩
  ·have hb:=X7z e
   rw [hb] at h
   obtain ⟨m,h1,h2⟩:=Xdl (j:=j) (b':=b') h
   exact ⟨m+1,by simpa using h1,by simp [Xas,hb,h2]⟩
theorem WR.ren {id id' E z o ad ba cap:Nat} {q:Bool} {cs:List AV} (h:WR X B I ρ H F w) (hf:Xp H id=some (.row E z q cs)) (hid:ρ id'=none) (hi:ρ id=some (ad,ba,cap)) (ho:o*z≤cs.length) :
  WR X B I (X7s ρ id' (ad,ba+o*z,cap - o)) (Xas H id id' (.row E z false (cs.drop (o*z)))) F w:=by
 have he:=(X19 (ad,ba+o*z,cap - o) hid).1
 obtain ⟨k,hk,hr⟩:=Xdl (j:=id') (b':=.row E z false (cs.drop (o*z))) hf
 have hkl:k<H.length:=(Y0.1 hk).1
 refine ⟨h.z.mono he,?_⟩
 have hS:Sat B w I (H.map (den (X7s ρ id' (ad,ba+o*z,cap - o))) ++ F):=h.h.mono he
 have h1:=hS.say (k:=k) (A:=den _ (id,.row E z q cs)) (A':=den (X7s ρ id' (ad,ba+o*z,cap - o)) (id',.row E z false (cs.drop (o*z)))) (by rw [Ya (by simpa using hkl),Yk,hk]; rfl) (by
  rintro g ⟨ad',ba',cap',vs,pre,rest,fr,e1,e2,e3,e4,e5,e6,_,rfl⟩
  rw [he _ _ hi] at e1
  cases e1
  have hvl:=X9 e2
  refine ⟨ad,ba+o*z,cap - o,vs.drop (o*z),pre ++ vs.take (o*z),rest,fr,X17 _ _ _,X14 _ e2,?_,?_,by omega,?_,(fun h=>by cases h),?_⟩
  ·rw [Y2,Yi,e3]; omega
  ·rw [Y6,Nat.sub_mul]; omega
  ·have:(pre ++ vs.take (o*z)).length+(vs.drop (o*z)).length+rest.length=pre.length+vs.length+rest.length:=by
    simp only [Y2,Yi,Y6]; omega
   rw [this]; exact e6
  ·simp [Y7])
 unfold RH
 rw [hr,List.map_set]
 rw [Y34 _ _ (by simpa using hkl)] at h1
 exact h1
end
theorem X6q:∀ {H:X3} {i:Nat} {b:Blk},Xp H i=some b→∀ b',Xp (X1l H i b') i=some b'
 | [],i,b,h,b'=>by cases h
 | (k,c)::H,i,b,h,b'=>by
  unfold Xp at h
  cases e:Nat.beq k i with
  | true=>simp [X1l,e,Xp]
  | false=>rw [e] at h; simp only [X1l,e,cond_false,Xp]; exact X6q h b'
theorem X8e:∀ {H:X3} {i j:Nat} {b b1 b2:Blk},Xp H i=some b→Xas (X1l H i b1) i j b2=Xas H i j b2
 | [],i,j,b,b1,b2,h=>by cases h
 | (k,c)::H,i,j,b,b1,b2,h=>by
  unfold Xp at h
  cases e:Nat.beq k i with
  | true=>simp [X1l,Xas,e]
  | false=>rw [e] at h; simp only [X1l,Xas,e,cond_false]; rw [X8e h]
theorem WR.swap {X:Cx} {B w:World} {I:Im} {ρ:Ren} {F:List Xe}:∀ {H:X3} {i j:Nat} {b b':Blk},WR X B I ρ ((j,b')::Xc6 H i) F w→Xp H i=some b→WR X B I ρ (Xas H i j b') F w:=by
 intro H i j b b' h hf
 refine ⟨h.z,?_⟩
 obtain ⟨g,hs,hg⟩:=h.h
 have key:∀ {H:X3} {g:X3h},Xp H i=some b→SepAll (((j,b')::Xc6 H i).map (den ρ) ++ F) g→∃ g',SepAll ((Xas H i j b').map (den ρ) ++ F) g'∧g.Perm g':=by
  intro H
  induction H with
  | nil=>intro g hf; cases hf
  | cons p H ih =>
   obtain ⟨k,c⟩:=p
   intro g hf hs
   unfold Xp at hf
   cases e:Nat.beq k i with
   | true=>simp only [Xc6,Xas,e,cond_true] at hs ⊢; exact ⟨g,hs,.refl _⟩
   | false =>
    rw [e] at hf
    simp only [Xc6,Xas,e,cond_false,Yl,Yr] at hs ⊢
    obtain ⟨h1,h2,rfl,ha,h3,h4,rfl,hb,hr⟩:=hs
    obtain ⟨g',hg1,hg2⟩:=ih hf (g:=h1 ++ h4) ⟨h1,h4,rfl,ha,hr⟩
    refine ⟨h3 ++ g',⟨h3,g',rfl,hb,hg1⟩,?_⟩
    refine List.Perm.trans ?_ (hg2.append_left h3)
    rw [← Y7,← Y7]
    exact Y11.append_right _
 obtain ⟨g',h1,h2⟩:=key hf hs
 exact ⟨g',h1,hg.perm h2⟩
structure Hd (ρ:Ren) (n:Nat) (E:List AV) (a:Act):Prop where
 size:a.tmps.size=n
 len:E.length=n
 small:n≤DK
 defers:a.defers=[]
 get:∀ t x,E[t]?=some x→x=.u∨Xb ρ x=some (a.tmps.getD t undef)
theorem Hd.mono {ρ σ:Ren} {n:Nat} {E:List AV} {a:Act} (h:Hd ρ n E a) (hl:LeR ρ σ):Hd σ n E a:=⟨h.size,h.len,h.small,h.defers,fun t x hx=>(h.get t x hx).imp id (X1z hl)⟩
theorem Hd.put {ρ:Ren} {n d:Nat} {E:List AV} {a:Act} {x:AV} {v:Value} (h:Hd ρ n E a) (hx:x=.u∨Xb ρ x=some v):Hd ρ n (E.set d x) (a.put (some d) v):=by
 refine ⟨by simp [Act.put,h.size],by simp [h.len],h.small,h.defers,fun t y hy=>?_⟩
 rw [Y1f] at hy
 by_cases e:d=t
 ·subst e
  rw [if_pos rfl] at hy
  split at hy
  ·rename_i hlt
   cases hy
   have hd:d<a.tmps.size:=by rw [h.size,← h.len]; exact hlt
   have:(a.put (some d) v).tmps.getD d undef=v:=by simp [Act.put,Y9,hd]
   rw [this]; exact hx
  ·cases hy
 ·rw [if_neg e] at hy
  have:=h.get t y hy
  simpa [Act.put,Y9,Y1l,e] using this
abbrev Lf (a:Act):Env:=X69 0 a.tmps.toList
theorem X6r:∀ (l:List Value) (i t:Nat),i≤t→t<i+l.length→look0 (X69 i l) t=l[t - i]?
 | [],i,t,h1,h2=>by simp at h2; omega
 | v::l,i,t,h1,h2=>by
  unfold X69 look0
  by_cases e:i=t
  ·subst e; simp
  ·rw [X7z e,cond_false,X6r l (i+1) t (by omega) (by simp at h2; omega),show t - i=(t - (i+1))+1 by omega]
   simp
theorem Hd.full {ρ:Ren} {n:Nat} {E:List AV} {a:Act} (h:Hd ρ n E a):Holds n (Lf a) a:=by
 refine ⟨h.size,h.small,?_,fun t v hv=>?_⟩
 ·rw [h.defers]
  unfold dl
  cases e:look0 (Lf a) DK with
  | none=>rfl
  | some v =>
   obtain ⟨_,h2⟩:=X23 a.tmps.toList 0 DK v e
   have h3:=(Y0.1 h2).1
   have:=h.size
   have:=h.small
   simp only [Y1g] at h3
   omega
 ·obtain ⟨_,h2⟩:=X23 _ 0 t v (X3c hv).2
  rw [Y3s,Y2x] at h2
  rw [Y9,h2]; rfl
theorem Hd.look {ρ:Ren} {n t:Nat} {E:List AV} {a:Act} {x:AV} (h:Hd ρ n E a) (hx:E[t]?=some x) (hu:x≠.u):∃ v,Xb ρ x=some v∧look (Lf a) t=some v:=by
 have hlt:t<n:=by rw [← h.len]; exact (Y0.1 hx).1
 have hsz:t<a.tmps.size:=by rw [h.size]; exact hlt
 refine ⟨_,(h.get t x hx).resolve_left hu,X7i (by have:=h.small; omega) ?_⟩
 rw [X6r _ 0 t (by omega) (by simpa using hsz)]
 simp [Y9,hsz]
def X5t:Value→AV
 | .string ⟨⟨l⟩⟩=>.st (l.map UInt8.toNat)
 | v=>.v v
theorem Xcr (l:List UInt8):byt (l.map UInt8.toNat)=l:=by
 induction l with
 | nil=>rfl
 | cons c l ih=>rw [byt] at ih ⊢; rw [Yl,Yl,ih,UInt8.ofNat_toNat]
theorem X83 (ρ:Ren) (v:Value):Xb ρ (X5t v)=some v:=by
 cases v with
 | string s=>obtain ⟨⟨l⟩⟩:=s; simp [X5t,Xb,Xcr]
 | _=>simp [X5t,Xb]
def av (X:Cx) (E:List AV):Operand→Option AV
 | .tmp t=>match nth E t with
  | some .u=>none
  | r=>r
 | .const v=>some (X5t v)
 | .global g=>bif Nat.blt g X.G then some (.p g 0) else none
 | .func f=>some (.f f [] [])
theorem X4 {X:Cx} {I:Im} {ρ:Ren} {n:Nat} {E:List AV} {a:Act} {x:Operand} {α:AV} (h:Hd ρ n E a) (hz:ZOK I ρ X.Z X.G) (hx:av X E x=some α):∃ v,Xb ρ α=some v∧Ev n (Lf a) x v:=by
 cases x with
 | tmp t =>
  simp only [av,X12] at hx
  split at hx
  ·cases hx
  ·rename_i hne
   obtain ⟨v,h1,h2⟩:=h.look hx (fun e=>hne (by rw [hx,e]))
   exact ⟨v,h1,.of h2⟩
 | const v=>cases hx; exact ⟨v,X83 ρ v,.of rfl⟩
 | global g =>
  simp only [av] at hx
  cases hb:Nat.blt g X.G with
  | false=>rw [hb] at hx; cases hx
  | true =>
   rw [hb] at hx; cases hx
   obtain ⟨cap,hg⟩:=hz.2 g (Y1 hb)
   exact ⟨.pointer (some ⟨g,0,none⟩),by simp [Xb,hg],.of rfl⟩
 | func f=>cases hx; exact ⟨.func (.func f) #[] #[],by simp [Xb,X5],.of rfl⟩
def avs (X:Cx) (E:List AV):List Operand→Option (List AV)
 | []=>some []
 | x::l=>match av X E x,avs X E l with
  | some v,some vs=>some (v::vs)
  | _,_=>none
theorem X7y {X:Cx} {I:Im} {ρ:Ren} {n:Nat} {E:List AV} {a:Act} (h:Hd ρ n E a) (hz:ZOK I ρ X.Z X.G):∀ {xs:List Operand} {αs:List AV},avs X E xs=some αs→∃ vs,X5 ρ αs=some vs∧∀ b,Holds n (Lf a) b→xs.map b.eval=vs
 | [],αs,hx=>by cases hx; exact ⟨[],rfl,fun _ _=>rfl⟩
 | x::xs,αs,hx=>by
  unfold avs at hx
  split at hx
  ·rename_i v vs h1 h2
   cases hx
   obtain ⟨u,hu1,hu2⟩:=X4 h hz h1
   obtain ⟨us,hs1,hs2⟩:=X7y h hz h2
   exact ⟨u::us,concL_cons.2 ⟨u,us,hu1,hs1,rfl⟩,X1 hu2 hs2⟩
  ·cases hx
def Xgf:Sem Value→Option AV
 | .pure v=>some (.v v)
 | _=>none
def Xf5:List Nat→List Nat→Bool
 | [],[]=>true
 | a::l,b::m=>bif Nat.beq (a % 256) (b % 256) then Xf5 l m else false
 | _,_=>false
theorem X32 (a b:Nat):(UInt8.ofNat a=UInt8.ofNat b) ↔ a % 256=b % 256:=by
 rw [← Y2r,Y1u,Y1u]
theorem X77:∀ l m:List Nat,Xf5 l m=(byt l == byt m)
 | [],[]=>rfl
 | [],b::m=>rfl
 | a::l,[]=>rfl
 | a::l,b::m=>by
  have ih:=X77 l m
  unfold byt at ih ⊢
  rw [Xf5,Yl,Yl,List.cons_beq_cons,ih]
  by_cases e:a % 256=b % 256
  ·have h1:(UInt8.ofNat a == UInt8.ofNat b)=true:=by rw [beq_iff_eq,X32]; exact e
   rw [h1,e]
   have:Nat.beq (b % 256) (b % 256)=true:=Y2d _
   rw [this]; rfl
  ·have h1:(UInt8.ofNat a == UInt8.ofNat b)=false:=by rw [beq_eq_false_iff_ne]; intro h; exact e ((X32 a b).1 h)
   rw [h1,X7z e]; rfl
def Xer (X:Cx) (op:BinOp) (t:Nat):AV→AV→Option AV
 | .v (.int k a),.v (.int k' b)=>Xgf (binOp op t (.int k a) (.int k' b))
 | .v (.bool p),.v (.bool q)=>match op,(X.ty.get t).map TI.und with
  | .eql,some .bool=>some (.v (.bool (p == q)))
  | .neq,some .bool=>some (.v (.bool (p != q)))
  | _,_=>none
 | .st l,.st m=>match op with
  | .eql=>some (.v (.bool (Xf5 l m)))
  | .neq=>some (.v (.bool (!(Xf5 l m))))
  | .add=>bif Nat.ble (len l+len m) 9223372036854775807 then some (.st (l ++ m)) else none
  | _=>none
 | .p b o,.v (.pointer none)=>match op,(X.ty.get t).map TI.und with
  | .eql,some (.ptr _)=>some (.v (.bool false))
  | .neq,some (.ptr _)=>some (.v (.bool true))
  | _,_=>none
 | .v (.pointer none),.v (.pointer none)=>match op,(X.ty.get t).map TI.und with
  | .eql,some (.ptr _)=>some (.v (.bool true))
  | .neq,some (.ptr _)=>some (.v (.bool false))
  | _,_=>none
 | .p b o,.p b' o'=>match op,(X.ty.get t).map TI.und with
  | .neq,some (.ptr e)=>match X.ty.get e with
   | some _=>bif Nat.beq b b' && Nat.beq o o' then some (.v (.bool false)) else none
   | none=>none
  | _,_=>none
 | .v (.slice none 0 0),.v (.slice none 0 0)=>match op,(X.ty.get t).map TI.und with
  | .eql,some (.slice _)=>some (.v (.bool true))
  | .neq,some (.slice _)=>some (.v (.bool false))
  | _,_=>none
 | .s b o n z,.v (.slice none 0 0)=>match op,(X.ty.get t).map TI.und with
  | .eql,some (.slice _)=>some (.v (.bool false))
  | .neq,some (.slice _)=>some (.v (.bool true))
  | _,_=>none
 | .c b o n k,.v (.slice none 0 0)=>match op,(X.ty.get t).map TI.und with
  | .eql,some (.slice _)=>some (.v (.bool false))
  | .neq,some (.slice _)=>some (.v (.bool true))
  | _,_=>none
 | .f g x y,.v .nilFunc=>match op,(X.ty.get t).map TI.und with
  | .eql,some .func=>some (.v (.bool false))
  | .neq,some .func=>some (.v (.bool true))
  | _,_=>none
 | _,_=>none
def Xf1 (X:Cx):Prop:=X.ty.All (TyOK X.P)
theorem X2 {X:Cx} (hT:Xf1 X) {t:Nat} {u:Und} (h:(X.ty.get t).map TI.und=some u):Xcf X.P t u:=by
 obtain ⟨ti,h1,h2⟩:=Y13.1 h
 rw [← h2]; exact (Tr.all_get hT h1).und
section
variable {X:Cx} {B w:World} {I:Im} {ρ:Ren} {n:Nat} {E:List AV} {L:Env} {d:Option Nat} {t t' ty:TypeId} {pos:String} {af:Array Edge} {g:Option (Nat×Bool)} {x y:Operand}
theorem Xx {b o:Nat} {v:Value} (h:Xb ρ (.p b o)=some v):∃ ad ba cap,ρ b=some (ad,ba,cap)∧v=ptr ad (ba+o):=by
 rw [Xb] at h
 split at h
 ·rename_i e; cases h; exact ⟨_,_,_,e,rfl⟩
 ·cases h
theorem X2v {b o m z:Nat} {v:Value} (h:Xb ρ (.s b o m z)=some v):∃ ad ba cap,ρ b=some (ad,ba,cap)∧v=.slice (some ⟨ad,ba+o*z,none⟩) m (cap - o):=by
 rw [Xb] at h
 split at h
 ·rename_i e; cases h; exact ⟨_,_,_,e,rfl⟩
 ·cases h
theorem X36 {b o m k:Nat} {v:Value} (h:Xb ρ (.c b o m k)=some v):∃ ad ba cap,ρ b=some (ad,ba,cap)∧v=.slice (some ⟨ad,ba+o,none⟩) m k:=by
 rw [Xb] at h
 split at h
 ·rename_i e; cases h; exact ⟨_,_,_,e,rfl⟩
 ·cases h
theorem Xcg {l:List AV} {v:Value} (h:Xb ρ (.a l)=some v):∃ vs,X5 ρ l=some vs∧v=.agg vs.toArray:=by
 rw [Xb] at h
 split at h
 ·rename_i e; cases h; exact ⟨_,e,rfl⟩
 ·cases h
theorem t_conc {l:List AV} {v:Value} (h:Xb ρ (.t l)=some v):∃ vs,X5 ρ l=some vs∧v=.tuple vs.toArray:=by
 rw [Xb] at h
 split at h
 ·rename_i e; cases h; exact ⟨_,e,rfl⟩
 ·cases h
theorem X86 {f:Nat} {k l:List AV} {v:Value} (h:Xb ρ (.f f k l)=some v):∃ us vs,X5 ρ k=some us∧X5 ρ l=some vs∧v=.func (.func f) us.toArray vs.toArray:=by
 rw [Xb] at h
 split at h
 ·rename_i e1 e2; cases h; exact ⟨_,_,e1,e2,rfl⟩
 ·cases h
theorem X6o {op:BinOp} {f:Fn} {a b:Array Value} {v:Value} (p q:Operand):(eqGuard op t p q (.func f a b) v).run X.P w=.ok () w:=by
 unfold eqGuard
 split <;> simp
theorem X6u {f:Fn} {a b:Array Value} {ps rs:Array TypeId} {vr:Bool} (ht:X.P.underlying t=some (.func ps rs vr)):(Op.equal t (.func f a b) .nilFunc).run X.P w=.ok false w:=by
 have h:∀ d:Nat,(Op.equalIn (d+1) t (.func f a b) .nilFunc).run X.P w=.ok false w:=fun d=>by
  simp [Op.equalIn,run_underlying ht]
 exact h 9999
theorem X85 (op:BinOp) (k j:IntKind) (a b:Int) (p q:Operand):(eqGuard op t p q (.int k a) (.int j b)).run X.P w=.ok () w:=by
 unfold eqGuard; split <;> simp
theorem Xcq (hT:Xf1 X) {op:BinOp} {α β γ:AV} {u v:Value} (hu:Xb ρ α=some u) (hv:Xb ρ β=some v) (hx:Ev n L x u) (hy:Ev n L y v) (h:Xer X op t α β=some γ) :
  ∃ r,Xb ρ γ=some r∧Ex X.P n L w ⟨d,.binOp op t x y t',ty,pos,af,g⟩ r w:=by
 unfold Xer at h
 split at h
 ·rename_i k a k' b
  cases hu; cases hv
  unfold Xgf at h
  split at h
  ·rename_i r hr
   cases h
   exact ⟨r,rfl,Xi hx hy (fun p q=>X85 op k k' a b p q) (by rw [hr]; rfl)⟩
  ·cases h
 ·cases hu; cases hv
  split at h
  ·rename_i h1; cases h; exact ⟨_,rfl,.eqb hx hy (X2 hT h1)⟩
  ·rename_i h1; cases h; exact ⟨_,rfl,.neb hx hy (X2 hT h1)⟩
  ·cases h
 ·rw [Xb] at hu hv; cases hu; cases hv
  split at h
  ·cases h; rw [X77]; exact ⟨_,rfl,.eqs hx hy⟩
  ·cases h; rw [X77]; exact ⟨_,rfl,.nes hx hy⟩
  ·rename_i l m _
   cases hb:Nat.ble (len l+len m) 9223372036854775807 with
   | false=>rw [hb] at h; cases h
   | true =>
    rw [hb] at h; cases h
    have hle:=Y1 hb
    rw [Xg,Xg] at hle
    refine ⟨S (byt l ++ byt m),by rw [Xb,byt,byt,byt,Y18],.cat hx hy (by simp only [byt,Yo]; omega)⟩
  ·cases h
 ·obtain ⟨ad,ba,cap,_,rfl⟩:=Xx hu; cases hv
  split at h
  ·rename_i h1; cases h; exact ⟨_,rfl,.eqp hx hy (X2 hT h1)⟩
  ·rename_i h1; cases h; exact ⟨_,rfl,.nep hx hy (X2 hT h1)⟩
  ·cases h
 ·cases hu; cases hv
  split at h
  ·rename_i h1; cases h; exact ⟨_,rfl,.eqp hx hy (X2 hT h1)⟩
  ·rename_i h1; cases h; exact ⟨_,rfl,.nep hx hy (X2 hT h1)⟩
  ·cases h
 ·rename_i b o b' o'
  split at h
  ·rename_i h1
   split at h
   ·rename_i te ti h2
    obtain ⟨i,z,h3,_⟩:=(Tr.all_get hT h2).info
    cases hb:(Nat.beq b b' && Nat.beq o o') with
    | false=>rw [hb] at h; cases h
    | true =>
     rw [hb] at h; cases h
     rw [Y5] at hb
     have e1:=Y4 hb.1
     have e2:=Y4 hb.2
     subst e1; subst e2
     rw [hu] at hv; cases hv
     obtain ⟨ad,ba,cap,_,rfl⟩:=Xx hu
     exact ⟨_,rfl,Xi hx hy (fun _ _=>by rw [eqGuard_at_pointer]; rfl) (Go.Lib.run_neq_ptr_same w _ (X2 hT h1) h3)⟩
   ·cases h
  ·cases h
 ·cases hu; cases hv
  split at h
  ·rename_i h1; cases h; exact ⟨_,rfl,Xi hx hy (fun _ _=>by unfold eqGuard; split <;> simp) (run_eql_slice_nil w t _ none 0 0 (X2 hT h1))⟩
  ·rename_i h1; cases h; exact ⟨_,rfl,.slNe hx hy (X2 hT h1)⟩
  ·cases h
 ·obtain ⟨ad,ba,cap,_,rfl⟩:=X2v hu; cases hv
  split at h
  ·rename_i h1; cases h; exact ⟨_,rfl,Xi hx hy (fun _ _=>by unfold eqGuard; split <;> simp) (run_eql_slice_nil w t _ (some _) _ _ (X2 hT h1))⟩
  ·rename_i h1; cases h; exact ⟨_,rfl,.slNe hx hy (X2 hT h1)⟩
  ·cases h
 ·obtain ⟨ad,ba,cap,_,rfl⟩:=X36 hu; cases hv
  split at h
  ·rename_i h1; cases h; exact ⟨_,rfl,Xi hx hy (fun _ _=>by unfold eqGuard; split <;> simp) (run_eql_slice_nil w t _ (some _) _ _ (X2 hT h1))⟩
  ·rename_i h1; cases h; exact ⟨_,rfl,.slNe hx hy (X2 hT h1)⟩
  ·cases h
 ·obtain ⟨us,vs,_,_,rfl⟩:=X86 hu; cases hv
  split at h
  ·rename_i h1; cases h; obtain ⟨ps,rs,vr,h2⟩:=X2 hT h1; exact ⟨_,rfl,Xi hx hy (fun p q=>X6o p q) (by simp [binOp,X6u h2])⟩
  ·rename_i h1; cases h; obtain ⟨ps,rs,vr,h2⟩:=X2 hT h1; exact ⟨_,rfl,Xi hx hy (fun p q=>X6o p q) (by simp [binOp,X6u h2])⟩
  ·cases h
 ·cases h
end
def X4w:AV→Option (List AV)
 | .a l=>some l
 | .t _=>none
 | .u=>none
 | .v x=>bif x.oneCell' then some [.v x] else none
 | x=>some [x]
def X1q (g:Bool) (l:List AV):Option AV :=
 bif g then some (.a l) else match l with
  | [x]=>some x
  | _=>none
def Xh3:AV→Bool
 | .a _=>false
 | .t _=>false
 | .u=>false
 | .v x=>x.oneCell'
 | _=>true
def Xdd (pl:Nat→Option (Nat×Nat)):List AV→List (Nat×AV)→Option (List AV)
 | cs,[]=>some cs
 | cs,(i,x)::r=>match pl i with
  | none=>none
  | some (off,size)=>match X4w x with
   | none=>none
   | some xs=>bif Nat.beq (len xs) size && Nat.ble (off+size) (len cs) then Xdd pl (cs.take off ++ xs ++ cs.drop (off+len xs)) r else none
section
variable {X:Cx} {B w:World} {I:Im} {ρ:Ren} {n:Nat} {E:List AV} {L:Env} {d:Option Nat} {t t' ty:TypeId} {pos:String} {af:Array Edge} {g:Option (Nat×Bool)} {x y:Operand}
theorem X39 {α:AV} {xs:List AV} {v:Value} (h:X4w α=some xs) (hv:Xb ρ α=some v):X5 ρ xs=some v.cells.toList:=by
 have one:∀ {v:Value},v.oneCell'=true→v.cells.toList=[v]:=fun {v} h1=>by cases v <;> first | rfl | cases h1
 unfold X4w at h
 split at h
 ·cases h; obtain ⟨vs,h1,rfl⟩:=Xcg hv; simpa [Value.cells] using h1
 ·cases h
 ·cases h
 ·rename_i u
  cases hb:u.oneCell' with
  | false=>rw [hb] at h; cases h
  | true=>rw [hb] at h; cases h; cases hv; rw [one hb]; simp [X5,Xb]
 ·cases h
  have h1:v.oneCell'=true:=by
   cases α with
   | v x=>rename_i h0 h1 h2 h3; exact absurd rfl (h3 x)
   | st l=>cases hv; rfl
   | p b o=>obtain ⟨_,_,_,_,rfl⟩:=Xx hv; rfl
   | s b o m z=>obtain ⟨_,_,_,_,rfl⟩:=X2v hv; rfl
   | c b o m k=>obtain ⟨_,_,_,_,rfl⟩:=X36 hv; rfl
   | a l=>rename_i h0 h1 h2 h3; exact absurd rfl (h0 l)
   | t l=>rename_i h0 h1 h2 h3; exact absurd rfl (h1 l)
   | f g x y=>obtain ⟨_,_,_,_,rfl⟩:=X86 hv; rfl
   | m b=>rw [Xb] at hv; split at hv <;> cases hv; rfl
   | u=>rw [Xb] at hv; cases hv
  rw [one h1]
  exact concL_cons.2 ⟨v,[],hv,rfl,rfl⟩
theorem X1j {q:Bool} {l:List AV} {α:AV} {vs:List Value} (h:X1q q l=some α) (hl:X5 ρ l=some vs):Xb ρ α=some (if q then .agg vs.toArray else vs.headD undef)∧(q=false→vs.length=1):=by
 unfold X1q at h
 cases q with
 | true=>cases h; exact ⟨by rw [Xb,hl]; rfl,fun e=>by cases e⟩
 | false =>
  simp only [cond_false] at h
  split at h
  ·cases h
   obtain ⟨v,us,h1,h2,rfl⟩:=concL_cons.1 hl
   rw [X5] at h2; cases h2
   exact ⟨by simpa using h1,fun _=>rfl⟩
  ·cases h
theorem Xdw {α:AV} {v:Value} (h:Xh3 α=true) (hv:Xb ρ α=some v):v.oneCell'=true:=by
 cases α with
 | v x=>cases hv; exact h
 | st l=>cases hv; rfl
 | p b o=>obtain ⟨_,_,_,_,rfl⟩:=Xx hv; rfl
 | s b o m z=>obtain ⟨_,_,_,_,rfl⟩:=X2v hv; rfl
 | c b o m k=>obtain ⟨_,_,_,_,rfl⟩:=X36 hv; rfl
 | a l=>cases h
 | t l=>cases h
 | f g x y=>obtain ⟨_,_,_,_,rfl⟩:=X86 hv; rfl
 | m b=>rw [Xb] at hv; split at hv <;> cases hv; rfl
 | u=>rw [Xb] at hv; cases hv
theorem Xac:∀ {l:List AV} {vs:List Value},l.all Xh3=true→X5 ρ l=some vs→∀ v∈vs,v.oneCell'=true
 | [],vs,_,h,v,hv=>by rw [X5] at h; cases h; cases hv
 | x::l,vs,h1,h,v,hv=>by
  obtain ⟨u,us,h2,h3,rfl⟩:=concL_cons.1 h
  rw [Y3x,Y5] at h1
  rcases Y19.1 hv with rfl | hv
  ·exact Xdw h1.1 h2
  ·exact Xac h1.2 h3 v hv
theorem X3z {pl:Nat→Option (Nat×Nat)}:∀ {ps:List (Nat×AV)} {cs ds:List AV} {us:List (Nat×Value)} {vs:List Value},Xdd pl cs ps=some ds→X5 ρ cs=some vs→us.map (·.1)=ps.map (·.1)→X5 ρ (ps.map (·.2))=some (us.map (·.2)) →
  ∃ ws,X87 pl vs us=some ws∧X5 ρ ds=some ws
 | [],cs,ds,us,vs,h,hc,h1,h2=>by
  cases us with
  | nil=>cases h; exact ⟨vs,rfl,hc⟩
  | cons u us=>simp at h1
 | (i,x)::ps,cs,ds,us,vs,h,hc,h1,h2=>by
  cases us with
  | nil=>simp at h1
  | cons u us =>
   obtain ⟨j,v⟩:=u
   simp only [Yl,List.cons.injEq] at h1
   obtain ⟨rfl,h1⟩:=h1
   obtain ⟨v',us',hv,hs,e⟩:=concL_cons.1 h2
   simp only [Yl,List.cons.injEq] at e
   obtain ⟨rfl,e⟩:=e
   unfold Xdd at h
   split at h
   ·cases h
   ·rename_i off size hp
    split at h
    ·cases h
    ·rename_i xs hx
     cases hb:(Nat.beq (len xs) size && Nat.ble (off+size) (len cs)) with
     | false=>rw [hb] at h; cases h
     | true =>
      rw [hb,cond_true] at h
      have hxc:=X39 hx hv
      have hxl:=X9 hxc
      have hcl:=X9 hc
      obtain ⟨ws,e1,e2⟩:=X3z (vs:=X9x vs off v.cells.toList) h (by
       unfold X9x
       rw [Xg,← hxl]
       exact Xd (Xd (X1c _ hc) hxc) (X14 _ hc)) h1 (by rw [hs]; exact congrArg some e.symm)
      refine ⟨ws,?_,e2⟩
      rw [Xg,Xg,← hxl,← hcl] at hb
      simp only [X87,hp,hb,cond_true,e1]
theorem X7j {a:Act} (h:Hd ρ n E a) (hz:ZOK I ρ X.Z X.G):∀ {ps:List (Nat×Operand)} {αs:List AV},avs X E (ps.map (·.2))=some αs →
  ∃ us:List (Nat×Value),X5 ρ αs=some (us.map (·.2))∧us.map (·.1)=ps.map (·.1)∧∀ b,Holds n (Lf a) b→ps.map (fun p=>(p.1,b.eval p.2))=us
 | [],αs,hx=>by cases hx; exact ⟨[],rfl,rfl,fun _ _=>rfl⟩
 | (i,x)::ps,αs,hx=>by
  rw [Yl] at hx
  unfold avs at hx
  split at hx
  ·rename_i v vs h1 h2
   cases hx
   obtain ⟨u,hu1,hu2⟩:=X4 h hz h1
   obtain ⟨us,hs1,hs2,hs3⟩:=X7j h hz h2
   exact ⟨(i,u)::us,concL_cons.2 ⟨u,_,hu1,hs1,rfl⟩,by rw [Yl,Yl,hs2],fun b hb=>by rw [Yl,hu2 b hb,hs3 b hb]⟩
  ·cases hx
def opP (X:Cx) (E:List AV):Op→Option AV
 | .move x=>av X E x
 | .assign x=>av X E x
 | .pick c x y=>match av X E c with
  | some (.v (.bool b))=>bif b then av X E x else av X E y
  | _=>none
 | .extract x i=>match av X E x with
  | some (.t l)=>nth l i
  | _=>none
 | .nilCheck x=>match av X E x with
  | some (.p b o)=>some (.p b o)
  | some (.f g u v)=>some (.f g u v)
  | _=>none
 | .unOp op _ x=>match av X E x with
  | some (.v u)=>Xgf (Op.unary op u)
  | _=>none
 | .binOp op t x y _=>match av X E x,av X E y with
  | some α,some β=>Xer X op t α β
  | _,_=>none
 | .field t x f=>match av X E x,(X.ty.get t).map TI.und with
  | some (.a l),some (.struct fs)=>match nth fs f with
   | some (off,s,g)=>match sub l off s with
    | some xs=>X1q g xs
    | none=>none
   | none=>none
  | _,_=>none
 | .index t x y=>match av X E x,av X E y,(X.ty.get t).map TI.und with
  | some (.st l),some (.v (.int _ i)),some .str=>match i with
   | .ofNat j=>match nth l j with
    | some c=>some (.v (.int .u8 ((c % 256:Nat):Int)))
    | none=>none
   | _=>none
  | some (.a l),some (.v (.int _ i)),some (.arr n e)=>match X.ty.get e with
   | some te=>match i with
    | .ofNat j=>bif Nat.blt j n then match sub l (j*te.size) te.size with
      | some xs=>X1q te.agg xs
      | none=>none
     else none
    | _=>none
   | none=>none
  | _,_,_=>none
 | .slice t x lo hi none=>match av X E x,(X.ty.get t).map TI.und with
  | some (.st l),some .str=>match lo,hi with
   | none,some z=>match av X E z with
    | some (.v (.int .i64 (.ofNat j)))=>bif Nat.ble j (len l) then some (.st (l.take j)) else none
    | _=>none
   | some y,none=>match av X E y with
    | some (.v (.int .i64 (.ofNat i)))=>bif Nat.ble i (len l) then some (.st (l.drop i)) else none
    | _=>none
   | some y,some z=>match av X E y,av X E z with
    | some (.v (.int .i64 (.ofNat i))),some (.v (.int .i64 (.ofNat j)))=>bif Nat.ble i j && Nat.ble j (len l) then some (.st ((l.drop i).take (j - i))) else none
    | _,_=>none
   | _,_=>none
  | _,_=>none
 | .build t ps=>match X.ty.get t with
  | some ti=>match ti.und with
   | .struct fs=>match avs X E (ps.toList.map (·.2)) with
    | some αs=>match Xdd (fun i=>match nth fs i with | some (off,s,_)=>some (off,s) | none=>none) ti.zero ((ps.toList.map (·.1)).zip αs) with
     | some cs=>some (.a cs)
     | none=>none
    | none=>none
   | _=>none
  | none=>none
 | .makeFunc (.func f) first cap=>match avs X E first.toList,avs X E cap.toList with
  | some u,some v=>some (.f f u v)
  | _,_=>none
 | .fieldAddr t x f=>match av X E x,(X.ty.get t).map TI.und with
  | some (.p b o),some (.struct fs)=>match nth fs f with
   | some (off,s,_)=>bif Nat.beq s 0 then none else some (.p b (o+off))
   | none=>none
  | _,_=>none
 | .indexAddr t x y=>match av X E x,av X E y,(X.ty.get t).map TI.und with
  | some (.s b o m z),some (.v (.int .i64 (.ofNat i))),some (.slice e)=>match X.ty.get e with
   | some te=>bif Nat.beq z te.size && Nat.blt i m then some (.p b ((o+i)*z)) else none
   | none=>none
  | some (.c b o m k),some (.v (.int .i64 (.ofNat i))),some (.slice e)=>match X.ty.get e with
   | some te=>bif Nat.blt i m then some (.p b (o+i*te.size)) else none
   | none=>none
  | some (.p b o),some (.v (.int _ (.ofNat i))),some (.arr n e)=>match X.ty.get e with
   | some te=>bif Nat.blt i n then some (.p b (o+i*te.size)) else none
   | none=>none
  | _,_,_=>none
 | .convert src dst x=>match av X E x,(X.ty.get src).map TI.und,(X.ty.get dst).map TI.und with
  | some (.v (.int k i)),some (.int k'),some (.int r)=>bif k == k' then some (.v (.int r (r.wrap i))) else none
  | _,_,_=>none
 | .call ⟨.builtin .len,⟨[x]⟩,⟨[t]⟩⟩=>match av X E x,(X.ty.get t).map TI.und with
  | some (.st l),some .str=>some (.v (.int .i64 (len l:Nat)))
  | some (.s _ _ m _),some (.slice _)=>some (.v (.int .i64 (m:Nat)))
  | some (.c _ _ m _),some (.slice _)=>some (.v (.int .i64 (m:Nat)))
  | some (.v (.slice none m _)),some (.slice _)=>some (.v (.int .i64 (m:Nat)))
  | _,_=>none
 | .call ⟨.builtin .min,⟨[x,y]⟩,_⟩=>match av X E x,av X E y with
  | some (.v (.int .i64 i)),some (.v (.int .i64 j))=>some (.v (.int .i64 (min i j)))
  | _,_=>none
 | .call ⟨.builtin .max,⟨[x,y]⟩,_⟩=>match av X E x,av X E y with
  | some (.v (.int .i64 i)),some (.v (.int .i64 j))=>some (.v (.int .i64 (max i j)))
  | _,_=>none
 | _=>none
end
end Sx
namespace Sx
open Go Gk
section
variable {X:Cx} {B w:World} {I:Im} {ρ:Ren} {n:Nat} {E:List AV} {d:Option Nat} {t t' ty:TypeId} {pos:String} {af:Array Edge} {g:Option (Nat×Bool)} {x y:Operand}
def Pu (X:Cx) (ρ:Ren) (n:Nat) (a:Act) (op:Op) (α:AV):Prop:=∃ v,Xb ρ α=some v∧∀ w d ty pos af g,Ex X.P n (Lf a) w ⟨d,op,ty,pos,af,g⟩ v w
theorem X7q {cs xs:List AV} {o m:Nat} {vs:List Value} (h:sub cs o m=some xs) (hc:X5 ρ cs=some vs):X5 ρ xs=some ((vs.drop o).take m)∧o+m≤vs.length:=by
 unfold sub at h
 cases hb:Nat.ble (o+m) (len cs) with
 | false=>rw [hb] at h; cases h
 | true =>
  rw [hb] at h; cases h
  have hle:=Y1 hb
  rw [Xg,← X9 hc] at hle
  exact ⟨X1c m (X14 o hc),hle⟩
theorem Xba {P:Program} {w:World} {ft:TypeId} {q:Bool} {s off:Nat} {vs:List Value} (ha:∀ w,(isAgg ft).run P w=.ok q w) (hs:∀ w,(Go.sizeOf ft).run P w=.ok s w) (hl:off+s≤vs.length) (h1:q=false→s=1) :
  (part ft vs.toArray off).run P w=.ok (if q then .agg ((vs.drop off).take s).toArray else ((vs.drop off).take s).headD undef) w:=by
 cases q with
 | true =>
  simp only [part,Sem.run_bind,ha,Result.andThen,if_true]
  simp [hs,List.take_drop,Y3c]
 | false =>
  have h2:=h1 rfl
  subst h2
  have h3:vs.toArray[off]?=some (vs[off]'(by omega)):=by simp
  have h4:((vs.drop off).take 1).headD undef=vs[off]'(by omega):=by
   rw [Yz (by omega:off<vs.length)]; rfl
  rw [h4]
  simp only [part,Sem.run_bind,ha,Result.andThen,h3]
  rfl
theorem Xh6 (hT:Xf1 X) {a:Act} {op:Op} {α:AV} (h:Hd ρ n E a) (hz:ZOK I ρ X.Z X.G) (ho:opP X E op=some α):Pu X ρ n a op α:=by
 unfold opP at ho
 split at ho
 ·obtain ⟨v,h1,h2⟩:=X4 h hz ho
  exact ⟨v,h1,fun _ _ _ _ _ _=>.move h2⟩
 ·obtain ⟨v,h1,h2⟩:=X4 h hz ho
  exact ⟨v,h1,fun _ _ _ _ _ _=>.assign h2⟩
 ·rename_i c x y
  split at ho
  ·rename_i b hb
   obtain ⟨u,hu1,hu2⟩:=X4 h hz hb
   cases hu1
   cases b with
   | true =>
    obtain ⟨v,h1,h2⟩:=X4 h hz ho
    exact ⟨v,h1,fun _ _ _ _ _ _ e he=>by simp [execOp,h2 e he,hu2 e he,asBool]⟩
   | false =>
    obtain ⟨v,h1,h2⟩:=X4 h hz ho
    exact ⟨v,h1,fun _ _ _ _ _ _ e he=>by simp [execOp,h2 e he,hu2 e he,asBool]⟩
  ·cases ho
 ·rename_i x i
  split at ho
  ·rename_i l hl
   obtain ⟨u,hu1,hu2⟩:=X4 h hz hl
   obtain ⟨vs,h1,rfl⟩:=t_conc hu1
   rw [X12] at ho
   obtain ⟨v,h2,h3⟩:=X4y h1 ho
   exact ⟨v,h2,fun _ _ _ _ _ _=>.extract hu2 (by simpa using h3)⟩
  ·cases ho
 ·rename_i x
  split at ho
  ·rename_i b o hl
   cases ho
   obtain ⟨u,hu1,hu2⟩:=X4 h hz hl
   obtain ⟨ad,ba,cap,_,rfl⟩:=Xx hu1
   exact ⟨_,hu1,fun _ _ _ _ _ _=>.nilCheck hu2⟩
  ·rename_i f k l hl
   cases ho
   obtain ⟨u,hu1,hu2⟩:=X4 h hz hl
   obtain ⟨us,vs,_,_,rfl⟩:=X86 hu1
   exact ⟨_,hu1,fun _ _ _ _ _ _ e he=>by simp [execOp,hu2 e he]⟩
  ·cases ho
 ·rename_i op t x
  split at ho
  ·rename_i u hu
   obtain ⟨u',hu1,hu2⟩:=X4 h hz hu
   cases hu1
   unfold Xgf at ho
   split at ho
   ·rename_i r hr
    cases ho
    exact ⟨r,rfl,fun _ _ _ _ _ _ e he=>by simp [execOp,hu2 e he,hr,Sem.run]⟩
   ·cases ho
  ·cases ho
 ·rename_i op t x y t'
  split at ho
  ·rename_i β γ hb hc
   obtain ⟨u,hu1,hu2⟩:=X4 h hz hb
   obtain ⟨v,hv1,hv2⟩:=X4 h hz hc
   obtain ⟨r, hr, _⟩ := Xcq (L := Lf a) (w := default) (d := none) (t' := t') (ty := 0) (pos := "") (af := #[]) (g := none) hT hu1 hv1 hu2 hv2 ho
   refine ⟨r,hr,fun w d ty pos af g=>?_⟩
   obtain ⟨r',hr',hx⟩:=Xcq (L:=Lf a) (w:=w) (d:=d) (t':=t') (ty:=ty) (pos:=pos) (af:=af) (g:=g) hT hu1 hv1 hu2 hv2 ho
   rw [hr] at hr'; cases hr'
   exact hx
  ·cases ho
 ·rename_i t x f
  split at ho
  ·rename_i l fs hl hu
   obtain ⟨u,hu1,hu2⟩:=X4 h hz hl
   obtain ⟨vs,hv,rfl⟩:=Xcg hu1
   obtain ⟨⟨fs',hf1,hf2⟩,_⟩:=X2 hT hu
   split at ho
   ·rename_i off s q hn
    rw [X12] at hn
    obtain ⟨fd,h1,h2,h3,h4⟩:=hf2 _ _ _ _ hn
    split at ho
    ·rename_i xs hx
     obtain ⟨h5,h6⟩:=X7q hx hv
     obtain ⟨h7,h8⟩:=X1j ho h5
     have hr:=fun w=>Xba (w:=w) h4 h3 h6 (fun e=>by have:=h8 e; rw [Yi,Y6] at this; omega)
     refine ⟨_,h7,fun _ _ _ _ _ _ e he=>?_⟩
     subst h2
     simp [execOp,hu2 e he,Instr.field,run_underlying hf1,h1,asAgg,hr]
    ·cases ho
   ·cases ho
  ·cases ho
 ·rename_i t x y
  split at ho
  ·rename_i l k i hl hi hu
   obtain ⟨u,hu1,hu2⟩:=X4 h hz hl
   obtain ⟨v,hv1,hv2⟩:=X4 h hz hi
   cases hu1; cases hv1
   split at ho
   ·rename_i j
    split at ho
    ·rename_i c hc
     cases ho
     rw [X12] at hc
     have hb:(byt l)[j]?=some (UInt8.ofNat c):=by rw [byt,Yk,hc]; rfl
     have hjl:j<(byt l).length:=(Y0.1 hb).1
     refine ⟨U8 ((UInt8.ofNat c).toNat:Int),by rw [Y1u]; rfl,fun w d ty pos af g=>?_⟩
     have:=Ex.index8 (P:=X.P) (w:=w) (d:=d) (ty:=ty) (pos:=pos) (af:=af) (g:=g) (n:=n) (L:=Lf a) (l:=byt l) (i:=Int.ofNat j) hu2 hv2 (Ys j) (by show (j:Int)<_; omega) (X2 hT hu)
     have e:at_ (byt l) (Int.ofNat j)=UInt8.ofNat c:=by
      show (byt l).getD j 0=_
      rw [Y8,hb]; rfl
     rw [e] at this
     exact this
    ·cases ho
   ·cases ho
  ·rename_i l k i m e hl hi hu
   obtain ⟨u,hu1,hu2⟩:=X4 h hz hl
   obtain ⟨v,hv1,hv2⟩:=X4 h hz hi
   obtain ⟨vs,hv,rfl⟩:=Xcg hu1
   cases hv1
   split at ho
   ·rename_i te hte
    split at ho
    ·rename_i j
     cases hb:Nat.blt j m with
     | false=>rw [hb] at ho; cases ho
     | true =>
      rw [hb,cond_true] at ho
      split at ho
      ·rename_i xs hx
       have hjm:=Y1 hb
       have ht:=Tr.all_get hT hte
       obtain ⟨h5,h6⟩:=X7q hx hv
       obtain ⟨h7,h8⟩:=X1j ho h5
       have hr:=fun w=>Xba (P:=X.P) (w:=w) ht.agg ht.size h6 (fun e=>by have:=h8 e; rw [Yi,Y6] at this; omega)
       refine ⟨_,h7,fun _ _ _ _ _ _ e he=>?_⟩
       have hun:X.P.underlying t=some (.array m _):=X2 hT hu
       have hjm':j<m:=hjm
       simp [execOp,hu2 e he,hv2 e he,Instr.index,asIntOf,run_underlying hun,ht.size,hjm',hr,Result.andThen]
      ·cases ho
    ·cases ho
   ·cases ho
  ·cases ho
 ·rename_i t x lo hi
  split at ho
  ·rename_i l hl hu
   obtain ⟨u,hu1,hu2⟩:=X4 h hz hl
   cases hu1
   have hun:=X2 hT hu
   have hbl:(byt l).length=len l:=by rw [Xg,byt,Yo]
   split at ho
   ·rename_i z
    split at ho
    ·rename_i j hj
     cases hb:Nat.ble j (len l) with
     | false=>rw [hb] at ho; cases ho
     | true =>
      rw [hb] at ho; cases ho
      obtain ⟨v,hv1,hv2⟩:=X4 h hz hj
      cases hv1
      have hle:=Y1 hb
      exact ⟨S ((byt l).take j),by rw [Xb,byt,byt,Y40],fun _ _ _ _ _ _=>.subTo hu2 hv2 (Ys j) (by show (j:Int)≤_; omega) hun⟩
    ·cases ho
   ·rename_i y
    split at ho
    ·rename_i j hj
     cases hb:Nat.ble j (len l) with
     | false=>rw [hb] at ho; cases ho
     | true =>
      rw [hb] at ho; cases ho
      obtain ⟨v,hv1,hv2⟩:=X4 h hz hj
      cases hv1
      have hle:=Y1 hb
      exact ⟨S ((byt l).drop j),by rw [Xb,byt,byt,Y3z],fun _ _ _ _ _ _=>.subFrom hu2 hv2 (Ys j) (by show (j:Int)≤_; omega) hun⟩
    ·cases ho
   ·rename_i y z
    split at ho
    ·rename_i i j hi hj
     cases hb:(Nat.ble i j && Nat.ble j (len l)) with
     | false=>rw [hb] at ho; cases ho
     | true =>
      rw [hb] at ho; cases ho
      rw [Y5] at hb
      have h1:=Y1 hb.1
      have h2:=Y1 hb.2
      obtain ⟨v,hv1,hv2⟩:=X4 h hz hi
      obtain ⟨u,hw1,hw2⟩:=X4 h hz hj
      cases hv1; cases hw1
      exact ⟨S (((byt l).drop i).take (j - i)),by rw [Xb,byt,byt,Y40,Y3z],fun _ _ _ _ _ _=>.sub3 hu2 hv2 hw2 (Ys i) (by show (i:Int)≤(j:Int); omega) (by show (j:Int)≤_; omega) hun⟩
    ·cases ho
   ·cases ho
  ·cases ho
 ·rename_i t ps
  split at ho
  ·rename_i ti hti
   split at ho
   ·rename_i fs hfs
    split at ho
    ·rename_i αs hα
     split at ho
     ·rename_i cs hcs
      cases ho
      have ht:=Tr.all_get hT hti
      have hu:=ht.und
      rw [hfs] at hu
      obtain ⟨_,z,hz1,hz2⟩:=hu
      obtain ⟨z',hz3,hz4,_⟩:=ht.zero
      have ez:z'=z:=by have h1:=hz1 default; rw [hz3 default] at h1; injection h1
      subst ez
      obtain ⟨us,hu1,hu2,hu3⟩:=X7j h hz hα
      have hlen:αs.length=(ps.toList.map (·.1)).length:=by rw [← X9 hu1,Yo,← hu2,Yo]
      have e1:((ps.toList.map (·.1)).zip αs).map (·.1)=ps.toList.map (·.1):=List.map_fst_zip (by omega)
      have e2:((ps.toList.map (·.1)).zip αs).map (·.2)=αs:=List.map_snd_zip (by omega)
      obtain ⟨ws,h1,h2⟩:=X3z (ρ:=ρ) (us:=us) hcs (hz4 ρ) (by rw [e1,hu2]) (by rw [e2]; exact hu1)
      refine ⟨.agg ws.toArray,by rw [Xb,h2],fun w d ty pos af g=>.build (vs:=us) hu3 hz2 ?_⟩
      rw [← h1]
      congr 1
      funext i
      rw [X12,Yk]
      cases fs[i]? with
      | none=>rfl
      | some q=>rfl
     ·cases ho
    ·cases ho
   ·cases ho
  ·cases ho
 ·rename_i f fst cap
  split at ho
  ·rename_i u v hu hv
   cases ho
   obtain ⟨us,h1,h2⟩:=X7y h hz hu
   obtain ⟨vs,h3,h4⟩:=X7y h hz hv
   refine ⟨.func (.func f) us.toArray vs.toArray,by rw [Xb,h1,h3],fun _ _ _ _ _ _=>?_⟩
   exact Ex.makeFuncB (bound:=fst.toList) (captured:=cap.toList) h2 h4
  ·cases ho
 ·rename_i t x f
  split at ho
  ·rename_i b o fs hl hu
   obtain ⟨u,hu1,hu2⟩:=X4 h hz hl
   obtain ⟨ad,ba,cap,e0,rfl⟩:=Xx hu1
   obtain ⟨⟨fs',hf1,hf2⟩,_⟩:=X2 hT hu
   split at ho
   ·rename_i off s q hn
    rw [X12] at hn
    obtain ⟨fd,h1,h2,h3,h4⟩:=hf2 _ _ _ _ hn
    cases hb:Nat.beq s 0 with
    | true=>rw [hb] at ho; cases ho
    | false =>
     rw [hb] at ho; cases ho
     exact ⟨ptr ad (ba+o+off),by rw [Xb,e0,Y10],fun _ _ _ _ _ _=>.fieldAddr off hu2 hf1 h1 h2 h3 hb⟩
   ·cases ho
  ·cases ho
 ·rename_i t x y
  split at ho
  ·rename_i b o m z i e hl hi hu
   obtain ⟨u,hu1,hu2⟩:=X4 h hz hl
   obtain ⟨v,hv1,hv2⟩:=X4 h hz hi
   obtain ⟨ad,ba,cap,e0,rfl⟩:=X2v hu1
   cases hv1
   split at ho
   ·rename_i te hte
    cases hb:(Nat.beq z te.size && Nat.blt i m) with
    | false=>rw [hb] at ho; cases ho
    | true =>
     rw [hb] at ho; cases ho
     rw [Y5] at hb
     have h1:=Y4 hb.1
     have h2:i<m:=Y1 hb.2
     have ht:=Tr.all_get hT hte
     refine ⟨ptr ad (ba+o*z+i*te.size),by rw [Xb,e0,h1,Y1p,Y10],fun _ _ _ _ _ _=>?_⟩
     exact Ex.indexAddr (i:=Int.ofNat i) hu2 hv2 (Ys i) (by show (i:Int)<(m:Int); omega) (X2 hT hu) ht.size
   ·cases ho
  ·rename_i b o m k i e hl hi hu
   obtain ⟨u,hu1,hu2⟩:=X4 h hz hl
   obtain ⟨v,hv1,hv2⟩:=X4 h hz hi
   obtain ⟨ad,ba,cap,e0,rfl⟩:=X36 hu1
   cases hv1
   split at ho
   ·rename_i te hte
    cases hb:Nat.blt i m with
    | false=>rw [hb] at ho; cases ho
    | true =>
     rw [hb] at ho; cases ho
     have h2:i<m:=Y1 hb
     have ht:=Tr.all_get hT hte
     refine ⟨ptr ad (ba+o+i*te.size),by rw [Xb,e0,Y10],fun _ _ _ _ _ _=>?_⟩
     exact Ex.indexAddr (i:=Int.ofNat i) hu2 hv2 (Ys i) (by show (i:Int)<(m:Int); omega) (X2 hT hu) ht.size
   ·cases ho
  ·rename_i b o k i m e hl hi hu
   obtain ⟨u,hu1,hu2⟩:=X4 h hz hl
   obtain ⟨v,hv1,hv2⟩:=X4 h hz hi
   obtain ⟨ad,ba,cap,e0,rfl⟩:=Xx hu1
   cases hv1
   split at ho
   ·rename_i te hte
    cases hb:Nat.blt i m with
    | false=>rw [hb] at ho; cases ho
    | true =>
     rw [hb] at ho; cases ho
     have h2:i<m:=Y1 hb
     have ht:=Tr.all_get hT hte
     refine ⟨ptr ad (ba+o+i*te.size),by rw [Xb,e0,Y10],fun w d ty pos af g=>?_⟩
     have:=Ex.arrAddrI (P:=X.P) (w:=w) (d:=d) (ty:=ty) (pos:=pos) (af:=af) (g:=g) (i:=Int.ofNat i) (m:=m) hu2 hv2 (Ys i) (by show (i:Int)<(m:Int); omega) (X2 hT hu) ht.size
     rw [Xo] at this
     exact this
   ·cases ho
  ·cases ho
 ·rename_i src dst x
  split at ho
  ·rename_i k i k' r hl hs hd
   obtain ⟨u,hu1,hu2⟩:=X4 h hz hl
   cases hu1
   cases hb:(k == k') with
   | false=>rw [hb] at ho; cases ho
   | true =>
    rw [hb] at ho; cases ho
    have e:=eq_of_beq hb
    subst e
    exact ⟨_,rfl,fun _ _ _ _ _ _=>.cvw hu2 (X2 hT hs) (X2 hT hd)⟩
  ·cases ho
 ·rename_i x t
  split at ho
  ·rename_i l hl hu
   cases ho
   obtain ⟨u,hu1,hu2⟩:=X4 h hz hl
   cases hu1
   refine ⟨I64 ((byt l).length:Nat),by rw [Xg,byt,Yo]; rfl,fun _ _ _ _ _ _=>.len hu2 (X2 hT hu)⟩
  ·rename_i b o m z e hl hu
   cases ho
   obtain ⟨u,hu1,hu2⟩:=X4 h hz hl
   obtain ⟨ad,ba,cap,e0,rfl⟩:=X2v hu1
   exact ⟨_,rfl,fun _ _ _ _ _ _=>.lenSlice hu2 (X2 hT hu)⟩
  ·rename_i b o m z e hl hu
   cases ho
   obtain ⟨u,hu1,hu2⟩:=X4 h hz hl
   obtain ⟨ad,ba,cap,e0,rfl⟩:=X36 hu1
   exact ⟨_,rfl,fun _ _ _ _ _ _=>.lenSlice hu2 (X2 hT hu)⟩
  ·rename_i m z e hl hu
   cases ho
   obtain ⟨u,hu1,hu2⟩:=X4 h hz hl
   cases hu1
   exact ⟨_,rfl,fun _ _ _ _ _ _=>.lenSlice hu2 (X2 hT hu)⟩
  ·cases ho
 ·rename_i x y ts
  split at ho
  ·rename_i i j hl hi
   cases ho
   obtain ⟨u,hu1,hu2⟩:=X4 h hz hl
   obtain ⟨v,hv1,hv2⟩:=X4 h hz hi
   cases hu1; cases hv1
   exact ⟨_,rfl,fun _ _ _ _ _ _=>.min2 hu2 hv2⟩
  ·cases ho
 ·rename_i x y ts
  split at ho
  ·rename_i i j hl hi
   cases ho
   obtain ⟨u,hu1,hu2⟩:=X4 h hz hl
   obtain ⟨v,hv1,hv2⟩:=X4 h hz hi
   cases hu1; cases hv1
   exact ⟨_,rfl,fun _ _ _ _ _ _=>.max2 hu2 hv2⟩
  ·cases ho
 ·cases ho
end
end Sx
