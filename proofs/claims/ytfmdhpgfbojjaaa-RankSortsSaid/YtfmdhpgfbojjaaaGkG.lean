/- Statements whose order is open, and that write or call: what is quiet is taken first, the rest goes in whatever order. -/
import Derived.Test.YtfmdhpgfbojjaaaGkF
import Derived.OrdersHeld
namespace Gk
set_option linter.unusedVariables false
set_option linter.unusedSimpArgs false
open Go

section
variable {P : Program} {ops : Array Oper} {Q : Exit → Act → World → Prop} {md : Region.Mode} {S : World → Prop} {nd : Nat → Bool}

/-- Whatever order is picked; behind each operation that may stand ahead of a load, S holds. -/
def wpAnyS (P : Program) (md : Region.Mode) (ops : Array Oper) (Q : Exit → Act → World → Prop) (S : World → Prop) (nd : Nat → Bool) : Nat → Array Bool → Act → World → Prop
  | 0, listed, a, w => Region.ready md ops listed = [] ∧ Q .normal a w
  | fuel + 1, listed, a, w =>
    (Region.ready md ops listed = [] → Q .normal a w) ∧
    ∀ i ∈ Region.ready md ops listed, wpOp P ops Q i (fun a' w' => (nd i = true → S w → S w') ∧ wpAnyS P md ops Q S nd fuel (listed.setIfInBounds i true) a' w') a w

theorem wpAny_of_S : ∀ (fuel : Nat) (listed : Array Bool) (a : Act) (w : World), wpAnyS P md ops Q S nd fuel listed a w → wpAny P md ops Q fuel listed a w
  | 0, _, _, _, h => h
  | fuel + 1, _, _, _, h => ⟨h.1, fun i hi => wpOp_mono (fun a' w' h' => wpAny_of_S fuel _ a' w' h'.2) (h.2 i hi)⟩

/-- Each operation that S need not outlive waits for this one. -/
def waitAll (md : Region.Mode) (ops : Array Oper) (nd : Nat → Bool) (i : Nat) : Bool :=
  (List.range ops.size).all fun j => nd j || j == i || match ops[j]? with
    | some oj => oj.after.any (fun e => Region.binds md e && e.on == i)
    | none => true

theorem wpAnyS_pure {i : Nat} {oi : Oper} {v : Value} (hi : ops[i]? = some oi) (hsel : ∀ (j : Nat) (o : Oper) cs b, ops[j]? = some o → o.op ≠ .select cs b)
    (hQ : ∀ c a w, Q (.panic c) (a.put oi.dst v) w → Q (.panic c) a w) :
    ∀ (fuel : Nat) (listed : Array Bool) (a : Act) (w : World),
      (∀ j oj, ops[j]? = some oj → j ≠ i → listed.getD j true = false → (∀ e ∈ oj.after, Region.binds md e = true → e.on ≠ i) → oi.apart ops oj = true) →
      i ∈ Region.ready md ops listed → YieldsIf P ops (fun _ => True) oi v a →
      wpAnyS P md ops Q S nd fuel (listed.setIfInBounds i true) (a.put oi.dst v) w → wpAnyS P md ops Q S nd (fuel + 1) listed a w := by
  intro fuel
  induction fuel with
  | zero =>
    intro listed a w _ hr hy H
    refine ⟨fun h => (by rw [h] at hr; cases hr), fun j hj => ?_⟩
    by_cases hji : j = i
    · subst hji; exact hy.wpOp hi trivial ⟨fun _ h => h, H⟩
    · have := ready_mono hj hji
      rw [H.1] at this
      cases this
  | succ fuel ih =>
    intro listed a w hfree hr hy H
    refine ⟨fun h => (by rw [h] at hr; cases hr), fun j hj => ?_⟩
    by_cases hji : j = i
    · subst hji; exact hy.wpOp hi trivial ⟨fun _ h => h, H⟩
    · have h1 := H.2 j (ready_mono hj hji)
      obtain ⟨hjun, oj, hoj, hall⟩ := mem_ready.1 hj
      have hnot : ∀ e ∈ oj.after, Region.binds md e = true → e.on ≠ i := fun e he hb heq => by
        have h1 := hall e he hb
        have h0 := (mem_ready.1 hr).1
        rw [heq] at h1
        rcases Nat.lt_or_ge i listed.size with h' | h'
        · simp [h'] at h0 h1; rw [h0] at h1; cases h1
        · simp [Array.getElem?_eq_none h'] at h1
      have h2 := wpOp_putIf hoj (hfree j oj hoj hji hjun hnot) (fun cs b => hsel i oi cs b hi) (fun cs b => hsel j oj cs b hoj) hQ hy h1
      have hfree' : ∀ k ok, ops[k]? = some ok → k ≠ i → (listed.setIfInBounds j true).getD k true = false →
          (∀ e ∈ ok.after, Region.binds md e = true → e.on ≠ i) → oi.apart ops ok = true := fun k ok hk hki hun hno => by
        refine hfree k ok hk hki ?_ hno
        by_cases hjk : j = k
        · subst hjk; exact hjun
        · rw [getD_set_ne true hjk] at hun; exact hun
      refine wpOp_mono (fun a' w' h3 => ⟨h3.2.1, ih (listed.setIfInBounds j true) a' w' hfree' (ready_mono hr (Ne.symm hji)) h3.1 ?_⟩) h2
      rw [Array.setIfInBounds_comm _ _ hji]
      exact h3.2.2


theorem wpAnyS_first {i : Nat} {oi : Oper} {v : Value} (hi : ops[i]? = some oi) (hsel : ∀ (j : Nat) (o : Oper) cs b, ops[j]? = some o → o.op ≠ .select cs b)
    (hQ : ∀ c a w, Q (.panic c) (a.put oi.dst v) w → Q (.panic c) a w) (hnd : waitAll md ops nd i = true) :
    ∀ (fuel : Nat) (listed : Array Bool) (a : Act) (w : World),
      (∀ j oj, ops[j]? = some oj → j ≠ i → listed.getD j true = false → (∀ e ∈ oj.after, Region.binds md e = true → e.on ≠ i) → oi.apart ops oj = true) →
      i ∈ Region.ready md ops listed → YieldsIf P ops S oi v a → S w →
      wpAnyS P md ops Q S nd fuel (listed.setIfInBounds i true) (a.put oi.dst v) w → wpAnyS P md ops Q S nd (fuel + 1) listed a w := by
  intro fuel
  induction fuel with
  | zero =>
    intro listed a w _ hr hy hS H
    refine ⟨fun h => (by rw [h] at hr; cases hr), fun j hj => ?_⟩
    by_cases hji : j = i
    · subst hji; exact hy.wpOp hi hS ⟨fun _ h => h, H⟩
    · have := ready_mono hj hji
      rw [H.1] at this
      cases this
  | succ fuel ih =>
    intro listed a w hfree hr hy hS H
    refine ⟨fun h => (by rw [h] at hr; cases hr), fun j hj => ?_⟩
    by_cases hji : j = i
    · subst hji; exact hy.wpOp hi hS ⟨fun _ h => h, H⟩
    · have h1 := H.2 j (ready_mono hj hji)
      obtain ⟨hjun, oj, hoj, hall⟩ := mem_ready.1 hj
      have hnot : ∀ e ∈ oj.after, Region.binds md e = true → e.on ≠ i := fun e he hb heq => by
        have h1 := hall e he hb
        have h0 := (mem_ready.1 hr).1
        rw [heq] at h1
        rcases Nat.lt_or_ge i listed.size with h' | h'
        · simp [h'] at h0 h1; rw [h0] at h1; cases h1
        · simp [Array.getElem?_eq_none h'] at h1
      have hndj : nd j = true := by
        have hlt : j < ops.size := (Array.getElem?_eq_some_iff.1 hoj).1
        have h9 := (List.all_eq_true.1 hnd) j (List.mem_range.2 hlt)
        simp only [hoj, Bool.or_eq_true, beq_iff_eq, hji, or_false] at h9
        rcases h9 with h9 | h9
        · exact h9
        · obtain ⟨e, he, hb⟩ := Array.any_eq_true'.1 h9
          simp only [Bool.and_eq_true, beq_iff_eq] at hb
          exact absurd hb.2 (hnot e he hb.1)
      have h2 := wpOp_putIf hoj (hfree j oj hoj hji hjun hnot) (fun cs b => hsel i oi cs b hi) (fun cs b => hsel j oj cs b hoj) hQ hy h1
      have hfree' : ∀ k ok, ops[k]? = some ok → k ≠ i → (listed.setIfInBounds j true).getD k true = false →
          (∀ e ∈ ok.after, Region.binds md e = true → e.on ≠ i) → oi.apart ops ok = true := fun k ok hk hki hun hno => by
        refine hfree k ok hk hki ?_ hno
        by_cases hjk : j = k
        · subst hjk; exact hjun
        · rw [getD_set_ne true hjk] at hun; exact hun
      refine wpOp_mono (fun a' w' h3 => ⟨fun _ _ => h3.2.1 hndj hS, ih (listed.setIfInBounds j true) a' w' hfree' (ready_mono hr (Ne.symm hji)) h3.1 (h3.2.1 hndj hS) ?_⟩) h2
      rw [Array.setIfInBounds_comm _ _ hji]
      exact h3.2.2
end

/-- No way out by a panic. -/
def noP (K : Kont) : Kont
  | .panic _, _, _ => False
  | e, L, w => K e L w

def WD (P : Program) (n : Nat) (ops : Array Oper) (S : World → Prop) (nd : Nat → Bool) (K : Kont) (fuel : Nat) (listed : Array Bool) (L : Env) (w : World) : Prop :=
  ∀ a, Holds n L a → wpAnyS P .any ops (lift n (noP K)) S nd fuel listed a w

section
variable {P : Program} {n : Nat} {K : Kont} {L : Env} {w : World} {ops : Array Oper} {S : World → Prop} {nd : Nat → Bool} {fuel : Nat} {listed : Array Bool}

theorem WC.drawn (S : World → Prop) (nd : Nat → Bool) {id : Nat} {l : List Oper} (hm : P.follows .mixedOrders = true) (h : WD P n l.toArray S nd K l.toArray.size (Array.replicate l.toArray.size false) L w.drew) : WC P n (.region id l.toArray true) K L w := by
  refine WC.mono (K := noP K) (fun a ha => wp_region_any hm (wpAny_of_S _ _ _ _ (h a ha))) ?_
  intro e L w hh
  cases e <;> first | exact hh | exact hh.elim

theorem WD.done (hr : Region.ready .any ops listed = []) (h : K .normal L w) : WD P n ops S nd K fuel listed L w := fun a ha => by
  cases fuel with
  | zero => exact ⟨hr, L, ha, h⟩
  | succ f => exact ⟨fun _ => ⟨L, ha, h⟩, by rw [hr]; simp⟩

/-- One that only computes, and one that reads what is held. -/
theorem WD.take {i d : Nat} {op : Op} {ty : TypeId} {pos : String} {af : Array Edge} {v : Value} (hi : ops[i]? = some ⟨some d, op, ty, pos, af, none⟩) (hs : Region.noSelect ops = true) (hf : Region.free .any ops listed i = true) (hr : (Region.ready .any ops listed).contains i = true)
    (hnd : waitAll .any ops nd i = true) (hS : S w) (hx : ∀ w, S w → Ex P n L w ⟨some d, op, ty, pos, af, none⟩ v w) (hd : Nat.blt d n = true)
    (h : WD P n ops S nd K fuel (listed.setIfInBounds i true) ((d, v) :: L) w) : WD P n ops S nd K (fuel + 1) listed L w := fun a ha =>
  wpAnyS_first hi (Region.noSelect_spec hs) (fun _ _ _ ⟨_, _, hk⟩ => hk.elim) hnd fuel listed a w (Region.free_spec hi hf) (by simpa using hr)
    (.inl ⟨wanted_none rfl _, fun w hw => hx w hw a ha⟩) hS (h _ (ha.put hd v))
theorem WD.takeP {i d : Nat} {op : Op} {ty : TypeId} {pos : String} {af : Array Edge} {v : Value} (hi : ops[i]? = some ⟨some d, op, ty, pos, af, none⟩) (hs : Region.noSelect ops = true) (hf : Region.free .any ops listed i = true) (hr : (Region.ready .any ops listed).contains i = true)
    (hx : ∀ w, Ex P n L w ⟨some d, op, ty, pos, af, none⟩ v w) (hd : Nat.blt d n = true)
    (h : WD P n ops S nd K fuel (listed.setIfInBounds i true) ((d, v) :: L) w) : WD P n ops S nd K (fuel + 1) listed L w := fun a ha =>
  wpAnyS_pure hi (Region.noSelect_spec hs) (fun _ _ _ ⟨_, _, hk⟩ => hk.elim) fuel listed a w (Region.free_spec hi hf) (by simpa using hr)
    (.inl ⟨wanted_none rfl _, fun w _ => hx w a ha⟩) (h _ (ha.put hd v))
/-- A guarded one. -/
theorem WD.takeG {i d j t : Nat} {b want : Bool} {op : Op} {ty : TypeId} {pos : String} {af : Array Edge} {v : Value} (hi : ops[i]? = some ⟨some d, op, ty, pos, af, some (j, want)⟩) (hs : Region.noSelect ops = true) (hf : Region.free .any ops listed i = true) (hr : (Region.ready .any ops listed).contains i = true)
    (hnd : waitAll .any ops nd i = true) (hS : S w) (hj : (ops[j]?).bind (·.dst) = some t) (hb : look L t = some (.bool b)) (hx : b = want → ∀ w, S w → Ex P n L w ⟨some d, op, ty, pos, af, some (j, want)⟩ v w) (hd : Nat.blt d n = true)
    (h : WD P n ops S nd K fuel (listed.setIfInBounds i true) ((d, gd b want v) :: L) w) : WD P n ops S nd K (fuel + 1) listed L w := fun a ha => by
  have hy := yielded_of ha hj hb
  have hput := h _ (ha.put hd (gd b want v))
  refine wpAnyS_first hi (Region.noSelect_spec hs) (fun _ _ _ ⟨_, _, hk⟩ => hk.elim) hnd fuel listed a w (Region.free_spec hi hf) (by simpa using hr) (v := gd b want v) ?_ hS hput
  by_cases e : b = want
  · left
    refine ⟨by simp [Region.wanted, hy, e], fun w hw => ?_⟩
    have := hx e w hw a ha
    subst e
    simpa [gd] using this
  · right
    have e' : (b == want) = false := by simpa using e
    refine ⟨by simp [Region.wanted, hy, e], ?_⟩
    simp only [gd, e', cond_false]

/-- What may come up. -/
def WO (P : Program) (n : Nat) (ops : Array Oper) (S : World → Prop) (nd : Nat → Bool) (K : Kont) (fuel : Nat) (listed : Array Bool) (L : Env) (w : World) (rs : List Nat) : Prop :=
  ∀ i ∈ rs, ∀ o, ops[i]? = some o → WL P n ops (thenK (fun L' w' => (nd i = true → S w → S w') ∧ WD P n ops S nd K fuel (listed.setIfInBounds i true) L' w') (noP K)) [o] L w
theorem WO.nil : WO P n ops S nd K fuel listed L w [] := fun _ h => by cases h
theorem WO.cons {i : Nat} {o : Oper} {rs : List Nat} (ho : ops[i]? = some o)
    (h : WL P n ops (thenK (fun L' w' => (nd i = true → S w → S w') ∧ WD P n ops S nd K fuel (listed.setIfInBounds i true) L' w') (noP K)) [o] L w) (hr : WO P n ops S nd K fuel listed L w rs) : WO P n ops S nd K fuel listed L w (i :: rs) := by
  intro j hj o' ho'
  rcases List.mem_cons.1 hj with rfl | hj
  · rw [ho] at ho'; cases ho'; exact h
  · exact hr j hj o' ho'
theorem WD.branch (rs : List Nat) (hr : Region.ready .any ops listed = rs) (hne : rs.isEmpty = false) (h : WO P n ops S nd K fuel listed L w rs) : WD P n ops S nd K (fuel + 1) listed L w := by
  intro a ha
  refine ⟨fun h0 => ?_, fun i hi => ?_⟩
  · rw [hr] at h0; rw [h0] at hne; cases hne
  · rw [hr] at hi
    obtain ⟨_, o, ho, _⟩ := mem_ready.1 (hr ▸ hi)
    have h1 := h i hi o ho a ha
    unfold wpOp
    simp only [ho]
    unfold wpList at h1
    have conv : ∀ (a' : Act) (w' : World), wpList P ops (lift n (thenK (fun L' w' => (nd i = true → S w → S w') ∧ WD P n ops S nd K fuel (listed.setIfInBounds i true) L' w') (noP K))) [] a' w' →
        (nd i = true → S w → S w') ∧ wpAnyS P .any ops (lift n (noP K)) S nd fuel (listed.setIfInBounds i true) a' w' := fun a' w' ⟨L', hL, hS, hd⟩ => ⟨hS, hd a' hL⟩
    have convQ : ∀ (e : Exit) (a' : Act) (w' : World), e ≠ .normal → lift n (thenK (fun L' w' => (nd i = true → S w → S w') ∧ WD P n ops S nd K fuel (listed.setIfInBounds i true) L' w') (noP K)) e a' w' → lift n (noP K) e a' w' := fun e a' w' he ⟨L', hL, hk⟩ => ⟨L', hL, by cases e <;> first | exact hk | exact absurd rfl he⟩
    split at h1
    · rename_i hw
      rw [if_pos hw]
      rcases h1 with h1 | ⟨hasks, a1, w1, ho1⟩
      · left
        have h2 := Oper.wp_mono conv h1
        unfold Oper.wp at h2 ⊢
        generalize (execOp a.eval o).run P w = r at *
        cases r with
        | ok nx w' =>
          cases nx <;> simp only [Oper.upon] at h2 ⊢
          case value => exact h2
          case skip => exact h2
          case defer => exact h2
          case enter f args =>
            refine Calls.mono h2 fun e w'' he => ?_
            cases e with
            | returned u => exact he
            | panicked c => exact convQ _ _ _ (by simp) he
            | outgrown =>
              obtain ⟨a1, w1, h9⟩ := he
              exact ⟨a1, w1, convQ _ _ _ (by simp) h9⟩
          case row => exact h2
        | halt x w' =>
          cases x <;> simp only [Oper.upon] at h2 ⊢
          case panic => exact convQ _ _ _ (by simp) h2
      · right
        exact ⟨hasks, a1, w1, convQ _ _ _ (by simp) ho1⟩
    · rename_i hw
      rw [if_neg hw]
      exact conv _ _ h1
/-- Behind an operation. -/
theorem WD.go {i : Nat} {w0 : World} (hS : nd i = true → S w0 → S w) (h : WD P n ops S nd K fuel (listed.setIfInBounds i true) L w) :
    thenK (fun L' w' => (nd i = true → S w0 → S w') ∧ WD P n ops S nd K fuel (listed.setIfInBounds i true) L' w') (noP K) .normal L w := ⟨hS, h⟩
theorem Sat.pick {B : World} {I : Im} {As : List Assn} {A : Assn} (hS : Sat B w I As) (k : Nat) (hk : As[k]? = some A) : Sat B w I (A :: As.eraseIdx k) := by
  obtain ⟨h, hs, hg⟩ := hS
  obtain ⟨h1, h2, hp, ha, _, h3, he, hpe⟩ := hs.at_ hk
  exact ⟨h1 ++ h3, ⟨h1, h3, rfl, ha, he⟩, hg.perm (hp.trans (hpe.symm.append_left h1))⟩
/-- Owned things, one behind the other. -/
theorem SepAll.snoc : ∀ {As : List Assn} {A : Assn} {h1 h2 : GHeap}, SepAll As h1 → A h2 → SepAll (As ++ [A]) (h1 ++ h2)
  | [], A, h1, h2, h, ha => by
    simp only [SepAll] at h
    subst h
    exact ⟨h2, [], by simp, ha, rfl⟩
  | A0 :: As, A, h1, h2, h, ha => by
    obtain ⟨g1, g2, rfl, h0, hr⟩ := h
    exact ⟨g1, g2 ++ h2, by rw [List.append_assoc], h0, hr.snoc ha⟩
theorem SepAll.unsnoc : ∀ {As : List Assn} {A : Assn} {h : GHeap}, SepAll (As ++ [A]) h → ∃ h1 h2, h = h1 ++ h2 ∧ SepAll As h1 ∧ A h2
  | [], A, h, hh => by
    obtain ⟨h1, h2, rfl, ha, hn⟩ := hh
    simp only [SepAll] at hn
    subst hn
    exact ⟨[], h1, by simp, rfl, ha⟩
  | A0 :: As, A, h, hh => by
    obtain ⟨g1, g2, rfl, h0, hr⟩ := hh
    obtain ⟨h1, h2, rfl, h3, h4⟩ := SepAll.unsnoc hr
    exact ⟨g1 ++ h1, h2, by rw [List.append_assoc], ⟨g1, h1, rfl, h0, h3⟩, h4⟩
theorem Sat.push {B : World} {I : Im} {As Bs : List Assn} {A : Assn} {k : Nat} (hS : Sat B w I (A :: As)) (hk : As[k]? = some (SepAll Bs)) : Sat B w I (As.set k (SepAll (Bs ++ [A]))) := by
  obtain ⟨h, ⟨g1, g2, rfl, ha, hs⟩, hg⟩ := hS
  obtain ⟨h1, h2, hp, hb, hset, _⟩ := hs.at_ hk
  obtain ⟨h', hs', hp'⟩ := hset (SepAll (Bs ++ [A])) (h1 ++ g1) (hb.snoc ha)
  refine ⟨h', hs', hg.perm ((hp.append_left g1).trans (List.Perm.trans ?_ hp'.symm))⟩
  rw [← List.append_assoc]
  exact List.perm_append_comm.append_right _
theorem Sat.pop {B : World} {I : Im} {As Bs : List Assn} {A : Assn} {k : Nat} (hS : Sat B w I As) (hk : As[k]? = some (SepAll (Bs ++ [A]))) : Sat B w I (A :: As.set k (SepAll Bs)) := by
  obtain ⟨h, hs, hg⟩ := hS
  obtain ⟨h1, h2, hp, hb, hset, _⟩ := hs.at_ hk
  obtain ⟨g1, g2, rfl, hb1, ha⟩ := SepAll.unsnoc hb
  obtain ⟨h', hs', hp'⟩ := hset (SepAll Bs) g1 hb1
  refine ⟨g2 ++ h', ⟨g2, h', rfl, ha, hs'⟩, hg.perm (hp.trans ?_)⟩
  refine List.Perm.trans ?_ (hp'.symm.append_left g2)
  rw [← List.append_assoc]
  exact List.perm_append_comm.append_right _
/-- A slice of the call's own is never written any more. -/
theorem Sat.freezeVec {B : World} {I : Im} {As : List Assn} {k E size nn c : Nat} {a : Option Addr} {xs : List Value} (hS : Sat B w I As) (hk : As[k]? = some (Vec E size (.slice a nn c) nn xs)) : ∃ J, Le I J ∧ RS J a size nn xs ∧ Sat B w J (As.eraseIdx k) := by
  have hl : xs.length = nn * size := hS.pure_ hk fun _ hh => hh.1
  rcases Nat.eq_zero_or_pos nn with h0 | h0
  · exact ⟨I, Le.refl I, ⟨hl, fun h => absurd h (by omega)⟩, hS.drop hk⟩
  · obtain ⟨b, cap, r, hv, h1, h2, _, _, hSo⟩ := hS.vecOpen hk h0
    injection hv with hv _ hv3
    subst hv; subst hv3
    have hlk : k < As.length := (List.getElem?_eq_some_iff.1 hk).1
    obtain ⟨J, hJ, hb, hS'⟩ := hSo.freeze (k := k) (b := b) (o := cellsO (xs ++ r) E) (by simp [hlk, blk])
    refine ⟨J, hJ, ⟨hl, fun _ => ⟨_, rfl, rfl, _, _, _, hb, ?_⟩⟩, by simpa [List.eraseIdx_set_eq] using hS'⟩
    intro j u hj
    have hjl : j < xs.length := (List.getElem?_eq_some_iff.1 hj).1
    simp only [Nat.zero_add, List.getElem?_toArray]
    rw [List.getElem?_append_left hjl]
    exact hj
end
end Gk
