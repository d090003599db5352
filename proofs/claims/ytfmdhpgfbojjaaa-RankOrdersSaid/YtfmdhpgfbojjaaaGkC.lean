/- Memory: what is never written any more, and what is owned, apart from it and from each other. -/
import Derived.Test.YtfmdhpgfbojjaaaGkB
namespace Gk
set_option linter.unusedVariables false
set_option linter.unusedSimpArgs false
open Go

abbrev GHeap := List (Nat × Obj)
abbrev Assn := GHeap → Prop
abbrev Im := Nat → Option Obj

/-- One block, whole. -/
def own (b : Nat) (o : Obj) : Assn := fun h => h = [(b, o)]
def cellsO (cs : List Value) (E : TypeId) : Obj := .cells cs.toArray E (0, 0)
def blk (b : Nat) (cs : List Value) (E : TypeId) : Assn := own b (cellsO cs E)
abbrev ptr (b o : Nat) : Value := .pointer (some ⟨b, o, none⟩)

def SepAll : List Assn → Assn
  | [], h => h = []
  | A :: As, h => ∃ h1 h2, h = h1 ++ h2 ∧ A h1 ∧ SepAll As h2

structure Good (B w : World) (I : Im) (h : GHeap) : Prop where
  os : w.os = B.os
  tape : w.tape = B.tape
  output : w.output = B.output
  imm : ∀ b o, I b = some o → w.heap[b]? = some o
  own : ∀ b o, (b, o) ∈ h → w.heap[b]? = some o
  nodup : (h.map (·.1)).Nodup
  apart : ∀ b o, (b, o) ∈ h → I b = none

def Sat (B w : World) (I : Im) (As : List Assn) : Prop := ∃ h, SepAll As h ∧ Good B w I h

/-- What is never written any more only grows. -/
def Le (I J : Im) : Prop := ∀ b o, I b = some o → J b = some o
theorem Le.refl (I : Im) : Le I I := fun _ _ h => h
theorem Le.trans {I J M : Im} (h : Le I J) (k : Le J M) : Le I M := fun b o e => k b o (h b o e)

theorem Good.perm {B w : World} {I : Im} {h h' : GHeap} (g : Good B w I h) (p : h.Perm h') : Good B w I h' :=
  ⟨g.os, g.tape, g.output, g.imm, fun b o hm => g.own b o (p.mem_iff.2 hm), (p.map _).nodup_iff.1 g.nodup, fun b o hm => g.apart b o (p.mem_iff.2 hm)⟩
theorem Good.left {B w : World} {I : Im} {h h' : GHeap} (g : Good B w I (h ++ h')) : Good B w I h :=
  ⟨g.os, g.tape, g.output, g.imm, fun b o hm => g.own b o (List.mem_append_left _ hm), by have := g.nodup; rw [List.map_append] at this; exact (List.nodup_append.1 this).1, fun b o hm => g.apart b o (List.mem_append_left _ hm)⟩
theorem Good.right {B w : World} {I : Im} {h h' : GHeap} (g : Good B w I (h ++ h')) : Good B w I h' :=
  (g.perm List.perm_append_comm).left

/-- One of them is taken out, and another one is laid in its place. -/
theorem SepAll.at_ : ∀ {As : List Assn} {k : Nat} {A : Assn} {h : GHeap}, As[k]? = some A → SepAll As h →
    ∃ h1 h2, h.Perm (h1 ++ h2) ∧ A h1 ∧ (∀ (A' : Assn) (h1' : GHeap), A' h1' → ∃ h', SepAll (As.set k A') h' ∧ h'.Perm (h1' ++ h2)) ∧ (∃ h', SepAll (As.eraseIdx k) h' ∧ h'.Perm h2)
  | [], _, _, _, hk, _ => by simp at hk
  | A0 :: As, 0, A, h, hk, hs => by
    obtain ⟨h1, h2, rfl, ha, hr⟩ := hs
    simp at hk
    subst hk
    exact ⟨h1, h2, .refl _, ha, fun A' h1' ha' => ⟨h1' ++ h2, ⟨h1', h2, rfl, ha', hr⟩, .refl _⟩, ⟨h2, hr, .refl _⟩⟩
  | A0 :: As, k + 1, A, h, hk, hs => by
    obtain ⟨g1, g2, rfl, ha0, hr⟩ := hs
    obtain ⟨h1, h2, hp, ha, hset, h3, he, hpe⟩ := SepAll.at_ (As := As) (k := k) (by simpa using hk) hr
    refine ⟨h1, g1 ++ h2, ?_, ha, fun A' h1' ha' => ?_, ⟨g1 ++ h3, ⟨g1, h3, rfl, ha0, he⟩, hpe.append_left g1⟩⟩
    · refine (hp.append_left g1).trans ?_
      rw [← List.append_assoc, ← List.append_assoc]
      exact List.perm_append_comm.append_right _
    · obtain ⟨h', hs', hp'⟩ := hset A' h1' ha'
      refine ⟨g1 ++ h', ⟨g1, h', rfl, ha0, hs'⟩, (hp'.append_left g1).trans ?_⟩
      rw [← List.append_assoc, ← List.append_assoc]
      exact List.perm_append_comm.append_right _

section
variable {B w w' : World} {I : Im} {As : List Assn} {k : Nat} {A A' : Assn} {b : Nat} {o o' : Obj}

theorem Sat.block (hS : Sat B w I As) (hk : As[k]? = some (own b o)) : w.heap[b]? = some o := by
  obtain ⟨h, hs, hg⟩ := hS
  obtain ⟨h1, h2, hp, ha, _⟩ := hs.at_ hk
  rw [own] at ha
  subst ha
  exact (hg.perm hp).own b o (by simp)

/-- One of them is another thing, said otherwise. -/
theorem Sat.say (hS : Sat B w I As) (hk : As[k]? = some A) (h : ∀ h, A h → A' h) : Sat B w I (As.set k A') := by
  obtain ⟨g, hs, hg⟩ := hS
  obtain ⟨h1, h2, hp, ha, hset, _⟩ := hs.at_ hk
  obtain ⟨h', hs', hp'⟩ := hset A' h1 (h h1 ha)
  exact ⟨h', hs', hg.perm (hp.trans hp'.symm)⟩
theorem Sat.opened (hS : Sat B w I As) (hk : As[k]? = some A) {X : Type} {T : X → Assn} (h : ∀ h, A h → ∃ x, T x h) : ∃ x, Sat B w I (As.set k (T x)) := by
  obtain ⟨g, hs, hg⟩ := hS
  obtain ⟨h1, h2, hp, ha, hset, _⟩ := hs.at_ hk
  obtain ⟨x, hx⟩ := h h1 ha
  obtain ⟨h', hs', hp'⟩ := hset (T x) h1 hx
  exact ⟨x, h', hs', hg.perm (hp.trans hp'.symm)⟩
theorem Sat.pure_ (hS : Sat B w I As) (hk : As[k]? = some A) {p : Prop} (h : ∀ h, A h → p) : p := by
  obtain ⟨g, hs, hg⟩ := hS
  obtain ⟨h1, h2, hp, ha, _⟩ := hs.at_ hk
  exact h h1 ha
/-- One of them is forgotten. -/
theorem Sat.drop (hS : Sat B w I As) (hk : As[k]? = some A) : Sat B w I (As.eraseIdx k) := by
  obtain ⟨h, hs, hg⟩ := hS
  obtain ⟨h1, h2, hp, _, _, h3, he, hpe⟩ := hs.at_ hk
  exact ⟨h3, he, (hg.perm hp).right.perm hpe.symm⟩
/-- One of them is never written any more. -/
theorem Sat.freeze (hS : Sat B w I As) (hk : As[k]? = some (own b o)) : ∃ J, Le I J ∧ J b = some o ∧ Sat B w J (As.eraseIdx k) := by
  obtain ⟨h, hs, hg⟩ := hS
  obtain ⟨h1, h2, hp, ha, _, h3, he, hpe⟩ := hs.at_ hk
  rw [own] at ha
  subst ha
  have g := hg.perm hp
  have hb : I b = none := g.apart b o (by simp)
  refine ⟨fun x => if x = b then some o else I x, fun x y hx => ?_, by simp, h3, he, Good.perm ?_ hpe.symm⟩
  · by_cases e : x = b
    · subst e; rw [hb] at hx; cases hx
    · simpa [e] using hx
  · have hn : b ∉ h2.map (·.1) := by
      have := g.nodup
      simp only [List.cons_append, List.nil_append, List.map_cons, List.nodup_cons] at this
      exact this.1
    refine ⟨g.os, g.tape, g.output, fun x y hx => ?_, g.right.own, g.right.nodup, fun x y hm => ?_⟩
    · by_cases e : x = b
      · subst e
        simp at hx
        subst hx
        exact g.own _ _ (by simp)
      · simp [e] at hx
        exact g.imm x y hx
    · have e : x ≠ b := fun e => hn (e ▸ List.mem_map_of_mem hm)
      simpa [e] using g.right.apart x y hm

theorem Sat.world (hS : Sat B w I As) (h1 : w'.os = w.os) (h2 : w'.tape = w.tape) (h3 : w'.output = w.output) (h4 : w'.heap = w.heap) : Sat B w' I As := by
  obtain ⟨h, hs, hg⟩ := hS
  exact ⟨h, hs, h1.trans hg.os, h2.trans hg.tape, h3.trans hg.output, fun b o e => by rw [h4]; exact hg.imm b o e, fun b o e => by rw [h4]; exact hg.own b o e, hg.nodup, hg.apart⟩
theorem Sat.drew (hS : Sat B w I As) : Sat B w.drew I As := hS.world rfl rfl rfl rfl

/-- A new block. -/
theorem Sat.alloc (hS : Sat B w I As) (o : Obj) : Sat B (w.alloc o) I (own w.heap.size o :: As) := by
  obtain ⟨h, hs, hg⟩ := hS
  have old : ∀ b x, w.heap[b]? = some x → b < w.heap.size := fun b x e => (Array.getElem?_eq_some_iff.1 e).1
  have keep : ∀ b x, w.heap[b]? = some x → (w.alloc o).heap[b]? = some x := fun b x e => by
    rw [heap_alloc_old w o (old b x e)]; exact e
  refine ⟨(w.heap.size, o) :: h, ⟨[(w.heap.size, o)], h, rfl, rfl, hs⟩, hg.os, hg.tape, hg.output, fun b x e => keep b x (hg.imm b x e), fun b x hm => ?_, ?_, fun b x hm => ?_⟩
  · rcases List.mem_cons.1 hm with e | hm
    · cases e
      exact heap_alloc_new w o
    · exact keep b x (hg.own b x hm)
  · simp only [List.map_cons, List.nodup_cons]
    refine ⟨fun hm => ?_, hg.nodup⟩
    obtain ⟨⟨b, x⟩, hm, e⟩ := List.mem_map.1 hm
    have := old b x (hg.own b x hm)
    simp at e
    omega
  · rcases List.mem_cons.1 hm with e | hm
    · cases e
      cases hi : I w.heap.size with
      | none => rfl
      | some y => have := old _ _ (hg.imm _ _ hi); omega
    · exact hg.apart b x hm

/-- One block is written. -/
theorem Sat.write (hS : Sat B w I As) (hk : As[k]? = some (own b o)) (h1 : w'.os = w.os) (h2 : w'.tape = w.tape) (h3 : w'.output = w.output) (hb : w'.heap[b]? = some o') (hne : ∀ c, c ≠ b → w'.heap[c]? = w.heap[c]?) :
    Sat B w' I (As.set k (own b o')) := by
  obtain ⟨h, hs, hg⟩ := hS
  obtain ⟨g1, g2, hp, ha, hset, _⟩ := hs.at_ hk
  rw [own] at ha
  subst ha
  obtain ⟨h', hs', hp'⟩ := hset (own b o') [(b, o')] rfl
  have g := hg.perm hp
  have hn : b ∉ g2.map (·.1) := by
    have := g.nodup
    simp only [List.cons_append, List.nil_append, List.map_cons, List.nodup_cons] at this
    exact this.1
  refine ⟨h', hs', Good.perm ?_ hp'.symm⟩
  refine ⟨h1.trans g.os, h2.trans g.tape, h3.trans g.output, fun x y e => ?_, fun x y hm => ?_, by simpa using g.nodup, fun x y hm => ?_⟩
  · have e' : x ≠ b := fun e' => by have := g.apart b o (by simp); rw [← e', e] at this; cases this
    rw [hne x e']
    exact g.imm x y e
  · rcases List.mem_cons.1 hm with e | hm
    · cases e; exact hb
    · have e' : x ≠ b := fun e' => hn (e' ▸ List.mem_map_of_mem hm)
      rw [hne x e']
      exact g.own x y (List.mem_cons_of_mem _ hm)
  · rcases List.mem_cons.1 hm with e | hm
    · cases e; exact g.apart b o (by simp)
    · exact g.apart x y (List.mem_cons_of_mem _ hm)
end

/-- A slice of the call's own: nil, or at the head of its own block. -/
def Vec (E size : Nat) (v : Value) (n : Nat) (xs : List Value) : Assn := fun h =>
  xs.length = n * size ∧ ((v = .slice none 0 0 ∧ n = 0 ∧ h = []) ∨
    ∃ g cap rest, v = .slice (some ⟨g, 0, none⟩) n cap ∧ h = [(g, cellsO (xs ++ rest) E)] ∧ n ≤ cap ∧ cap ≤ maxLen ∧ xs.length + rest.length = cap * size)

section
variable {B w w' : World} {I : Im} {As : List Assn} {k : Nat} {A A' : Assn} {b : Nat} {o o' : Obj} {E size n : Nat} {v : Value} {xs : List Value}

theorem Sat.vecNil (hS : Sat B w I As) (E size : Nat) : Sat B w I (Vec E size (.slice none 0 0) 0 [] :: As) := by
  obtain ⟨h, hs, hg⟩ := hS
  exact ⟨h, ⟨[], h, rfl, ⟨by simp, .inl ⟨rfl, rfl, rfl⟩⟩, hs⟩, hg⟩
theorem Sat.vecOf (hS : Sat B w I As) {g : Nat} {cs : List Value} (hk : As[k]? = some (blk g cs E)) (hn : cs.length = n * size) (hm : n ≤ maxLen) : Sat B w I (As.set k (Vec E size (.slice (some ⟨g, 0, none⟩) n n) n cs)) :=
  hS.say hk fun _ hh => ⟨hn, .inr ⟨g, n, [], rfl, by rw [List.append_nil]; exact hh, Nat.le_refl _, hm, by simpa using hn⟩⟩
/-- A slice that has an element lies in a block. -/
theorem Sat.vecOpen (hS : Sat B w I As) (hk : As[k]? = some (Vec E size v n xs)) (hn : 0 < n) :
    ∃ (b cap : Nat) (r : List Value), v = .slice (some ⟨b, 0, none⟩) n cap ∧ n ≤ cap ∧ cap ≤ maxLen ∧ xs.length = n * size ∧ xs.length + r.length = cap * size ∧ Sat B w I (As.set k (blk b (xs ++ r) E)) := by
  obtain ⟨g, hs, hg⟩ := hS
  obtain ⟨h1, h2, hp, ⟨hl, ha⟩, hset, _⟩ := hs.at_ hk
  rcases ha with ⟨_, h0, _⟩ | ⟨b, cap, rest, rfl, rfl, h3, h4, h5⟩
  · omega
  · obtain ⟨h', hs', hp'⟩ := hset (blk b (xs ++ rest) E) _ rfl
    exact ⟨b, cap, rest, rfl, h3, h4, hl, h5, h', hs', hg.perm (hp.trans hp'.symm)⟩
theorem Sat.vecShut (hS : Sat B w I As) {g cap : Nat} {rest : List Value} (hk : As[k]? = some (blk g (xs ++ rest) E)) (h3 : n ≤ cap) (h4 : cap ≤ maxLen) (hl : xs.length = n * size) (h5 : xs.length + rest.length = cap * size) :
    Sat B w I (As.set k (Vec E size (.slice (some ⟨g, 0, none⟩) n cap) n xs)) :=
  hS.say hk fun _ hh => ⟨hl, .inr ⟨g, cap, rest, rfl, hh, h3, h4, h5⟩⟩
theorem Sat.vecSlice (hS : Sat B w I As) (hk : As[k]? = some (Vec E size v n xs)) : ∃ a c, v = .slice a n c ∧ n ≤ c ∧ xs.length = n * size :=
  hS.pure_ hk fun _ ⟨hl, hh⟩ => by
    rcases hh with ⟨rfl, rfl, _⟩ | ⟨g, cap, rest, rfl, _, h3, _⟩
    · exact ⟨none, 0, rfl, Nat.le_refl _, hl⟩
    · exact ⟨_, _, rfl, h3, hl⟩

theorem heap_setRow (w : World) (g : Nat) (arr : Array Value) : (w.setRow g arr).os = w.os ∧ (w.setRow g arr).tape = w.tape ∧ (w.setRow g arr).output = w.output := ⟨rfl, rfl, rfl⟩

/-- 'append': what is behind it is owned by whatever slice comes out. -/
theorem run_append_vec {P : Program} (hS : Sat B w I As) {t ty : TypeId} {i : TypeInfo} {z : Value} {bytes : Nat} (ht : P.underlying t = some (.slice E)) (hi : P.info? E = some i) (hz : i.zero = some z)
    (hsize : i.size = size) (hby : i.bytes = bytes) (hzs : z.cells.size = size) (hk : As[k]? = some (Vec E size v n xs)) {p : Addr} {m c : Nat} {news : List Value} (hl : news.length = m * size) (hm : 0 < m)
    (hnews : ∀ j u, news[j]? = some u → w.cell? (p.add j) = some u) (h1 : ∀ u ∈ news, u.oneCell' = true) (h63 : n + m ≤ maxLen) (hbytes : (n + m) * bytes ≤ 140737488355328) :
    ∃ v' w', (Builtin.append_ #[t, t] ty #[v, .slice (some p) m c]).run P w = .ok v' w' ∧ Sat B w' I (As.set k (Vec E size v' (n + m) (xs ++ news))) := by
  subst hsize
  subst hby
  have hsmall : n + m ≤ 9223372036854775807 := by simp only [maxLen] at h63; omega
  have hxl : xs.length = n * i.size := hS.pure_ hk fun h ⟨hl, _⟩ => hl
  have hlen : (xs ++ news).length = (n + m) * i.size := by rw [List.length_append, hxl, hl, Nat.add_mul]
  have grown : ∀ (old : Nat), Sat B (w.drew.alloc (.cells (xs.toArray ++ news.toArray ++ Builtin.zeroCells z.cells (grownCap w (n + m) old E - (n + m))) E)) I
      (As.set k (Vec E i.size (.slice (some ⟨w.heap.size, 0, none⟩) (n + m) (grownCap w (n + m) old E)) (n + m) (xs ++ news))) := by
    intro old
    have hge := grownCap_ge w (n + m) old E
    have hcm : grownCap w (n + m) old E ≤ maxLen := grownCap_le_maxLen w (n + m) old E h63
    have hS2 := hS.drew.alloc (.cells (xs.toArray ++ news.toArray ++ Builtin.zeroCells z.cells (grownCap w (n + m) old E - (n + m))) E)
    have e1 : (own w.drew.heap.size (.cells (xs.toArray ++ news.toArray ++ Builtin.zeroCells z.cells (grownCap w (n + m) old E - (n + m))) E)) = blk w.heap.size ((xs ++ news) ++ (Builtin.zeroCells z.cells (grownCap w (n + m) old E - (n + m))).toList) E := by
      unfold blk cellsO
      congr 2
      apply Array.ext'
      simp
    rw [e1] at hS2
    have hS3 := hS2.vecShut (k := 0) (n := n + m) (size := i.size) (cap := grownCap w (n + m) old E) rfl hge hcm hlen (by
      rw [hlen, Array.length_toList, size_zeroCells, hzs, ← Nat.add_mul]
      congr 1
      omega)
    -- the new one stands at the old one's place
    obtain ⟨h, hs, hg⟩ := hS3
    obtain ⟨q1, q2, rfl, hq1, hq2⟩ := hs
    obtain ⟨h1', h2', hp, _, hset, _⟩ := SepAll.at_ hk hq2
    obtain ⟨h', hs', hp'⟩ := hset _ q1 hq1
    have g2 : Good B (w.drew.alloc (.cells (xs.toArray ++ news.toArray ++ Builtin.zeroCells z.cells (grownCap w (n + m) old E - (n + m))) E)) I (q1 ++ h2') := by
      have g := hg.perm (hp.append_left q1)
      have : (q1 ++ (h1' ++ h2')).Perm ((q1 ++ h2') ++ h1') := by
        rw [List.append_assoc]
        exact (List.perm_append_comm).append_left q1
      exact (g.perm this).left
    exact ⟨h', hs', g2.perm hp'.symm⟩
  have hcase : (v = .slice none 0 0 ∧ n = 0) ∨ ∃ g cap rest, v = .slice (some ⟨g, 0, none⟩) n cap ∧ n ≤ cap ∧ cap ≤ maxLen ∧ xs.length + rest.length = cap * i.size ∧ Sat B w I (As.set k (blk g (xs ++ rest) E)) := by
    by_cases hn : 0 < n
    · obtain ⟨g, cap, rest, h1, h2, h3, _, h5, h6⟩ := hS.vecOpen hk hn
      exact .inr ⟨g, cap, rest, h1, h2, h3, h5, h6⟩
    · obtain ⟨g, hs, hg⟩ := hS
      obtain ⟨h1, h2, hp, ⟨hl, ha⟩, hset, _⟩ := hs.at_ hk
      rcases ha with ⟨hv, h0, _⟩ | ⟨b, cap, rest, rfl, rfl, h3, h4, h5⟩
      · exact .inl ⟨hv, h0⟩
      · obtain ⟨h', hs', hp'⟩ := hset (blk b (xs ++ rest) E) _ rfl
        exact .inr ⟨b, cap, rest, rfl, h3, h4, h5, h', hs', hg.perm (hp.trans hp'.symm)⟩
  rcases hcase with ⟨rfl, rfl⟩ | ⟨g, cap, rest, rfl, hnc, hcm, hcs, hSo⟩
  · have hx : xs = [] := List.eq_nil_of_length_eq_zero (by simpa using hxl)
    subst hx
    have hr := run_append_nil (P := P) w t ty E i z ht hi hz p m c news hl hnews hm (by omega) (by have hb := hbytes; simp only [Nat.zero_add] at hb; omega)
    have hgr := grown 0
    simp only [Nat.zero_add, List.nil_append, Array.empty_append] at hgr ⊢
    exact ⟨_, _, hr, hgr⟩
  · have hlk : k < As.length := (List.getElem?_eq_some_iff.1 hk).1
    have hko : (As.set k (blk g (xs ++ rest) E))[k]? = some (blk g (xs ++ rest) E) := by simp [hlk]
    have hblk := hSo.block hko
    by_cases hroom : n + m ≤ cap
    · have hfit : n * i.size + news.length ≤ (xs ++ rest).toArray.size := by
        simp only [List.size_toArray, List.length_append]
        rw [hcs, hl, ← Nat.add_mul]
        exact Nat.mul_le_mul_right _ hroom
      have hr := run_append_room (P := P) w t ty E i ht hi g n cap (xs ++ rest).toArray hblk p m c news hl hnews h1 hroom hfit
      have e2 : ((xs ++ rest).take (n * i.size) ++ news ++ (xs ++ rest).drop (n * i.size + news.length)).toArray = ((xs ++ news) ++ rest.drop news.length).toArray := by
        rw [← hxl, List.take_left, List.drop_append, List.drop_of_length_le (by omega : xs.length ≤ xs.length + news.length)]
        simp
      rw [e2] at hr
      refine ⟨_, _, hr, ?_⟩
      have hw := hSo.write (w' := w.setRow g ((xs ++ news) ++ rest.drop news.length).toArray) (o' := cellsO ((xs ++ news) ++ rest.drop news.length) E) hko rfl rfl rfl (setRow_heap w g _ _ E _ hblk) (fun x hx => setRow_other w g x _ hx)
      have hsh := hw.vecShut (k := k) (g := g) (E := E) (n := n + m) (size := i.size) (cap := cap) (xs := xs ++ news) (rest := rest.drop news.length) (by simp [hlk, blk]) hroom hcm hlen (by
        have h7 : news.length ≤ rest.length := by
          have h8 : n * i.size + news.length ≤ (xs ++ rest).length := hfit
          rw [List.length_append] at h8; omega
        rw [List.length_append, List.length_drop, ← hcs]; omega)
      simpa using hsh
    · have holds : ∀ j u, xs[j]? = some u → w.cell? ((⟨g, 0, none⟩ : Addr).add j) = some u := by
        intro j u hu
        have hj : j < xs.length := (List.getElem?_eq_some_iff.1 hu).1
        rw [Addr.add_lit, Nat.zero_add]
        have h9 : w.heap[g]? = some (.cells (xs ++ rest).toArray E (0, 0)) := hblk
        simp only [World.cell?, h9, Option.isSome_none, Bool.false_eq_true, if_false]
        simp [hj] at hu ⊢
        simp [List.getElem?_append, hj, hu]
      have hr := run_append_grow (P := P) w t ty E i z ht hi hz ⟨g, 0, none⟩ n cap xs hxl holds p m c news hl hnews (by omega) (by omega) (growslice_fits (by omega) hbytes)
      exact ⟨_, _, hr, grown cap⟩
end
end Gk
