/- The walking rules: a frame is a list of slots and values, a world is a separated heap. Nothing of a program stands here. -/
import Derived.WalkKit
namespace Gk
set_option linter.unusedVariables false
set_option linter.unusedSimpArgs false
open Go

/-- A frame: what is known of its slots, the newest first. -/
abbrev Env := List (Nat × Value)
/-- A string's value, by its bytes. -/
abbrev S (l : List UInt8) : Value := .string ⟨l.toArray⟩
abbrev I64 (n : Int) : Value := .int .i64 n
abbrev U8 (n : Int) : Value := .int .u8 n

theorem beqF {a b : Nat} (h : ¬ a = b) : Nat.beq a b = false := by
  cases hb : Nat.beq a b
  · rfl
  · exact absurd (Nat.eq_of_beq_eq_true hb) h

def look : Env → Nat → Option Value
  | [], _ => none
  | (k, v) :: L, t => bif Nat.beq k t then some v else look L t

structure Holds (n : Nat) (L : Env) (a : Act) : Prop where
  size : a.tmps.size = n
  defers : a.defers = []
  get : ∀ t v, look L t = some v → a.tmps.getD t undef = v

def ev (L : Env) : Operand → Option Value
  | .tmp t => look L t
  | .const v => some v
  | .global g => some (.pointer (some ⟨g, 0, none⟩))
  | .func f => some (.func (.func f) #[] #[])

theorem ev_eval {n : Nat} {L : Env} {a : Act} (h : Holds n L a) {x : Operand} {v : Value} (hx : ev L x = some v) : a.eval x = v := by
  cases x with
  | tmp t => exact h.get t v hx
  | const u => simpa [ev, Act.eval] using hx
  | global g => simpa [ev, Act.eval] using hx
  | func f => simpa [ev, Act.eval] using hx

theorem Holds.put {n : Nat} {L : Env} {a : Act} (h : Holds n L a) {d : Nat} (hd : Nat.blt d n = true) (v : Value) : Holds n ((d, v) :: L) (a.put (some d) v) := by
  have hd' : d < n := by have := Nat.le_of_ble_eq_true hd; omega
  refine ⟨by simp [Act.put, h.size], by simp [Act.put, h.defers], fun t u hu => ?_⟩
  unfold look at hu
  by_cases e : d = t
  · subst e
    simp at hu
    subst hu
    simp [Act.put, h.size, hd', Array.getD_eq_getD_getElem?]
  · have hb := beqF e
    rw [hb] at hu
    have := h.get t u hu
    simpa [Act.put, Array.getD_eq_getD_getElem?, Array.getElem?_setIfInBounds, e] using this

theorem Holds.skip {n : Nat} {L : Env} {a : Act} (h : Holds n L a) (v : Value) : Holds n L (a.put none v) := h

/-- Each slot of one frame stands so in another one. -/
def Sub : Env → Env → Prop
  | [], _ => True
  | (t, v) :: L, M => look M t = some v ∧ Sub L M

theorem Sub.look : ∀ {L M : Env}, Sub L M → ∀ {t v}, look L t = some v → look M t = some v
  | [], _, _, _, _, h => by cases h
  | (k, u) :: L, M, hs, t, v, h => by
    unfold Gk.look at h
    by_cases e : k = t
    · subst e
      simp at h
      subst h
      exact hs.1
    · have hb := beqF e
      rw [hb] at h
      exact hs.2.look h

theorem Holds.sub {n : Nat} {L M : Env} {a : Act} (h : Holds n M a) (hs : Sub L M) : Holds n L a := ⟨h.size, h.defers, fun t v hv => h.get t v (hs.look hv)⟩

/-- What follows, by how one comes there. -/
abbrev Kont := Exit → Env → World → Prop
def lift (n : Nat) (K : Kont) : Exit → Act → World → Prop := fun e a w => ∃ L, Holds n L a ∧ K e L w

def WL (P : Program) (n : Nat) (ops : Array Oper) (K : Kont) (l : List Oper) (L : Env) (w : World) : Prop := ∀ a, Holds n L a → wpList P ops (lift n K) l a w
def WC (P : Program) (n : Nat) (c : Code) (K : Kont) (L : Env) (w : World) : Prop := ∀ a, Holds n L a → c.wp P (lift n K) a w

def thenK (next : Env → World → Prop) (K : Kont) : Kont
  | .normal, L, w => next L w
  | e, L, w => K e L w
def inBlk (id : Nat) (K : Kont) : Kont
  | .exit i, L, w => bif Nat.beq i id then K .normal L w else K (.exit i) L w
  | e, L, w => K e L w

section
variable {P : Program} {n : Nat} {K : Kont} {L : Env} {w : World}

theorem WC.mono {c : Code} {K' : Kont} (h : WC P n c K L w) (hk : ∀ e L w, K e L w → K' e L w) : WC P n c K' L w := fun a ha => wp_mono (h a ha) fun _ _ _ ⟨L', h1, h2⟩ => ⟨L', h1, hk _ _ _ h2⟩
theorem WC.sub {c : Code} {M : Env} (h : WC P n c K M w) (hs : Sub M L) : WC P n c K L w := fun a ha => h a (ha.sub hs)
theorem WL.sub {ops : Array Oper} {l : List Oper} {M : Env} (h : WL P n ops K l M w) (hs : Sub M L) : WL P n ops K l L w := fun a ha => h a (ha.sub hs)

theorem WC.seq {x y : Code} (h : WC P n x (thenK (fun L w => WC P n y K L w) K) L w) : WC P n (.seq x y) K L w := by
  intro a ha
  refine wp_seq (wp_mono (h a ha) ?_)
  rintro e a' w' ⟨L', h1, h2⟩
  cases e with
  | normal => exact h2 a' h1
  | _ => exact ⟨L', h1, h2⟩

/-- The ways through a statement meet behind it. -/
theorem WC.cut {x y : Code} (J : Env → World → Prop) (h : WC P n x (thenK J K) L w) (h2 : ∀ L w, J L w → WC P n y K L w) : WC P n (.seq x y) K L w :=
  WC.seq (h.mono fun e L w he => by cases e <;> first | exact h2 _ _ he | exact he)

theorem WC.skip (h : K .normal L w) : WC P n .skip K L w := fun _ ha => wp_skip ⟨L, ha, h⟩
theorem WC.label {l : Nat} (h : K .normal L w) : WC P n (.label l) K L w := fun _ ha => wp_label ⟨L, ha, h⟩
theorem WC.exit {id : Nat} (h : K (.exit id) L w) : WC P n (.exit id) K L w := fun _ ha => wp_exit ⟨L, ha, h⟩
theorem WC.ret (h : K .ret L w) : WC P n .ret K L w := fun _ ha => wp_ret ⟨L, ha, h⟩
theorem WC.block {id : Nat} {c : Code} (h : WC P n c (inBlk id K) L w) : WC P n (.block id c) K L w := by
  intro a ha
  refine wp_block (wp_mono (h a ha) ?_)
  rintro e a' w' ⟨L', h1, h2⟩
  cases e with
  | exit i =>
    unfold Exit.inBlock
    unfold inBlk at h2
    by_cases e : i = id
    · subst e
      simp only [if_true]
      simp at h2
      exact ⟨L', h1, h2⟩
    · simp only [e, if_false]
      have hb := beqF e
      exact ⟨L', h1, by simpa [hb] using h2⟩
  | _ => exact ⟨L', h1, h2⟩

theorem WC.cond {c : Operand} {x y : Code} {b : Bool} (hc : ev L c = some (.bool b)) (ht : b = true → WC P n x K L w) (hf : b = false → WC P n y K L w) : WC P n (.cond c x y) K L w := by
  intro a ha
  have he := ev_eval ha hc
  cases b with
  | true => exact wp_cond_true he (ht rfl a ha)
  | false => exact wp_cond_false he (hf rfl a ha)
theorem WC.condT {c : Operand} {x y : Code} (hc : ev L c = some (.bool true)) (h : WC P n x K L w) : WC P n (.cond c x y) K L w := WC.cond hc (fun _ => h) (fun e => by cases e)
theorem WC.condF {c : Operand} {x y : Code} (hc : ev L c = some (.bool false)) (h : WC P n y K L w) : WC P n (.cond c x y) K L w := WC.cond hc (fun e => by cases e) (fun _ => h)

/-- A loop, by a ghost state, what the slots hold by it, what holds of the world, and a measure. -/
theorem WC.loop {c : Code} {σ : Type} (E : σ → Env) (inv : σ → World → Prop) (μ : σ → Nat) (s0 : σ) (hs : Sub (E s0) L) (h0 : inv s0 w)
    (round : ∀ s w, inv s w → WC P n c (thenK (fun L' w' => ∃ s', Sub (E s') L' ∧ inv s' w' ∧ μ s' < μ s) K) (E s) w) : WC P n (.loop c) K L w := by
  intro a ha b k cs
  have key : ∀ m s a w, μ s = m → Holds n (E s) a → inv s w →
      ∃ e a' w', lift n K e a' w' ∧ Arrives P (lone (b.at a (.code c :: .inLoop c :: k)) cs w) b k cs e a' w' := by
    intro m
    induction m using Nat.strongRecOn with
    | _ m ih =>
      intro s a w hm ha hi
      obtain ⟨e, a1, w1, ⟨L1, hL, hq⟩, harr⟩ := round s w hi a ha b (.inLoop c :: k) cs
      cases e with
      | normal =>
        obtain ⟨s', hsub, hi', hlt⟩ := hq
        obtain ⟨e2, a2, w2, hq2, harr2⟩ := ih (μ s') (hm ▸ hlt) s' a1 w1 rfl (hL.sub hsub) hi'
        exact ⟨e2, a2, w2, hq2, .of_steps (Steps.trans harr (.one step_inLoop)) harr2⟩
      | exit id => exact ⟨_, a1, w1, ⟨L1, hL, hq⟩, .pass (x := .inLoop c) rfl (fun _ _ => .inl (by simp)) harr⟩
      | goto l => exact ⟨_, a1, w1, ⟨L1, hL, hq⟩, .pass (x := .inLoop c) rfl (fun _ _ => .inl (by simp)) harr⟩
      | ret => exact ⟨_, a1, w1, ⟨L1, hL, hq⟩, .pass (x := .inLoop c) rfl (fun _ _ => .inl (by simp)) harr⟩
      | panic ch => exact ⟨_, a1, w1, ⟨L1, hL, hq⟩, .pass (x := .inLoop c) rfl (fun _ _ => .inl (by simp)) harr⟩
      | outgrown => exact ⟨_, a1, w1, ⟨L1, hL, hq⟩, .pass (x := .inLoop c) rfl (fun _ _ => .inl (by simp)) harr⟩
  obtain ⟨e, a', w', hq, harr⟩ := key _ s0 a w rfl (ha.sub hs) h0
  exact ⟨e, a', w', hq, .of_steps (.one step_loop) harr⟩

theorem WC.region {id : Nat} {l : List Oper} (h : WL P n l.toArray K l L w) : WC P n (.region id l.toArray false) K L w := fun a ha => wp_region_lit (h a ha)

/-- What a call leaves. -/
def fnPost (P : Program) (n : Nat) (fn : Func) (R : Ending → World → Prop) : Kont
  | .normal, L, w | .ret, L, w => ∀ a, Holds n L a → ∃ v, (results fn a.tmps).run P w = .ok v w ∧ R (.returned v) w
  | _, _, _ => False

def envOf : Nat → List Value → Env
  | _, [] => []
  | i, v :: l => (i, v) :: envOf (i + 1) l

theorem look_envOf : ∀ (l : List Value) (i t : Nat) (v : Value), look (envOf i l) t = some v → i ≤ t ∧ l[t - i]? = some v
  | [], _, _, _, h => by cases h
  | u :: l, i, t, v, h => by
    unfold envOf look at h
    by_cases e : i = t
    · subst e
      simp at h
      exact ⟨Nat.le_refl _, by simp [h]⟩
    · have hb := beqF e
      rw [hb] at h
      obtain ⟨h1, h2⟩ := look_envOf l (i + 1) t v h
      exact ⟨by omega, by rw [show t - i = (t - (i + 1)) + 1 by omega]; simpa using h2⟩

theorem calls {f : FuncId} {fn : Func} {c : Code} {args : List Value} {R : Ending → World → Prop} (hf : P.funcs[f]? = some fn) (hb : fn.body = some c) (hn : fn.ntmps = n) (hle : Nat.ble args.length n = true)
    (h : WC P n c (fnPost P n fn R) (envOf 0 args) w) : Calls P f args.toArray w R := by
  refine calls_of_wp hf hb (wp_mono (h _ ?_) ?_)
  · have hle' : args.length ≤ n := by simpa using hle
    refine ⟨by simp [hn]; omega, rfl, fun t v hv => ?_⟩
    obtain ⟨_, h2⟩ := look_envOf args 0 t v hv
    simp only [Nat.sub_zero] at h2
    have ht : t < args.length := (List.getElem?_eq_some_iff.1 h2).1
    rw [List.getElem?_eq_getElem ht] at h2
    simpa [Array.getD_eq_getD_getElem?, Array.getElem?_append, ht] using h2
  · rintro e a' w' ⟨L', h1, h2⟩
    cases e with
    | normal => exact ⟨h1.defers, h2 a' h1⟩
    | ret => exact ⟨h1.defers, h2 a' h1⟩
    | _ => exact h2.elim

section rets
variable {fn : Func} {R : Ending → World → Prop}
theorem ret0 (h : fn.results = #[]) (hR : R (.returned (.tuple #[])) w) : fnPost P n fn R .ret L w := fun a _ => ⟨_, by simp [results, h], hR⟩
theorem end0 (h : fn.results = #[]) (hR : R (.returned (.tuple #[])) w) : fnPost P n fn R .normal L w := fun a _ => ⟨_, by simp [results, h], hR⟩
theorem ret1 {t : Nat} {v : Value} (h : fn.results = #[.tmp t]) (hv : look L t = some v) (hR : R (.returned v) w) : fnPost P n fn R .ret L w :=
  fun a ha => ⟨v, by have := ha.get t v hv; simp [results, h]; simpa [Array.getD_eq_getD_getElem?] using this, hR⟩
theorem ret2 {t u : Nat} {v x : Value} (h : fn.results = #[.tmp t, .tmp u]) (hv : look L t = some v) (hx : look L u = some x) (hR : R (.returned (.tuple #[v, x])) w) : fnPost P n fn R .ret L w :=
  fun a ha => ⟨_, by have h1 := ha.get t v hv; have h2 := ha.get u x hx; simp only [Array.getD_eq_getD_getElem?] at h1 h2; simp [results, h, h1, h2], hR⟩
theorem ret3 {t u r : Nat} {v x y : Value} (h : fn.results = #[.tmp t, .tmp u, .tmp r]) (hv : look L t = some v) (hx : look L u = some x) (hy : look L r = some y) (hR : R (.returned (.tuple #[v, x, y])) w) : fnPost P n fn R .ret L w :=
  fun a ha => ⟨_, by have h1 := ha.get t v hv; have h2 := ha.get u x hx; have h3 := ha.get r y hy; simp only [Array.getD_eq_getD_getElem?] at h1 h2 h3; simp [results, h, h1, h2, h3], hR⟩
end rets
end
end Gk
