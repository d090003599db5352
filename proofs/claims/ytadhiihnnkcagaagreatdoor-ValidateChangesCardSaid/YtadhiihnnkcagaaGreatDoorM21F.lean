/- Part 6 of what the proof stands on: W18w, W21f, Tmo, W21g, W21o, W21p, W21q, W21r, W21s, W21t, W18x, W21u. -/
import Derived.Test.YtadhiihnnkcagaaGreatDoorM21E
import Derived.KernelRfl
namespace Go.Proofs.YtadhiihnnkcagaaGreatDoor
open Gk Pat
set_option linter.unusedVariables false
set_option linter.unusedSimpArgs false
theorem bld101_40 : Bld Tryz.prog 101 [(0, 1), (1, 1), (2, 1), (3, 1), (4, 1), (5, 1), (6, 1), (7, 1)] [.int .i64 0, .float .f64 0, S [], .bool false, .bool false, .bool false, S [], .slice none 0 0] := bld_of Tryz.underlying101 Tryz.zeroValue101 (fun w => by simp [go_sem])
theorem firstI_case (pr : Sv → Bool) : ∀ (l : List Sv) (i : Nat), (firstI pr l i = -1 ∧ l.find? pr = none) ∨ (∃ j s, firstI pr l i = ((i + j : Nat) : Int) ∧ l[j]? = some s ∧ pr s = true ∧ l.find? pr = some s)
 | [], _ => .inl ⟨rfl, rfl⟩
 | a :: l, i => by
  rw [firstI, List.find?_cons]
  cases ha : pr a with
  | true => exact .inr ⟨0, a, rfl, rfl, ha, rfl⟩
  | false =>
   rw [if_neg (by decide)]
   rcases firstI_case pr l (i + 1) with ⟨h1, h2⟩ | ⟨j, s, h1, h2, h3, h4⟩
   ·exact .inl ⟨h1, h2⟩
   ·exact .inr ⟨j + 1, s, by rw [h1]; congr 1; omega, h2, h3, h4⟩
theorem firstI_zero (pr : Sv → Bool) (l : List Sv) : (firstI pr l 0 = -1 ∧ l.find? pr = none) ∨ (∃ (j : Nat) (s : Sv), firstI pr l 0 = (j : Int) ∧ l[j]? = some s ∧ pr s = true ∧ l.find? pr = some s) := by
 rcases firstI_case pr l 0 with h | ⟨j, s, h1, h2⟩
 ·exact .inl h
 ·exact .inr ⟨j, s, by rw [h1, Nat.zero_add], h2⟩
theorem mtch_mat {l : List UInt8} {Q : List Pl} (h : cmp l = .ok Q) (s : List UInt8) : (mtch l s).1 = mat Q s := by unfold mtch; rw [h]
def findR (lo : List Sv) (s : List UInt8) : Sv × List UInt8 × Nat :=
 if (Ul.nU s).2 ≠ 0 then (z0, [], (Ul.nU s).2) else if 100 < (Ul.nU s).1.length then (z0, [], 2)
 else match lo.find? (fun t => (mtch t.urls (Ul.nU s).1).1) with
  | none => (z0, [], 31)
  | some t => (t, (Ul.nU s).1, 0)
theorem RegFind_any (pr : Addr) (lo : List Sv) (hlo : lo.length ≤ 100000) (hrl : ∀ s ∈ lo, s.rel.length ≤ 1000000) (s : List UInt8) (hs : s.length ≤ 1000000) (a : Option Addr) (cc : Nat) (E : List (List Value)) (B w : World) (I : Im) (hK : Known I) (hreg : At I pr [.slice a lo.length cc]) (hE : EntsIn I a E lo) (As : List Assn) (hS : Sat B w I As) :
  Calls Tryz.prog 40 [.pointer (some pr), S s].toArray w (Ret fun v w' => ∃ J u c n e, Le I J ∧ v = .tuple #[.agg (List.toArray c), S n, I64 ((e : Nat) : Int)] ∧ SvAt J u c ∧ findR lo s = (u, n, e) ∧ Sat B w' J As) := by
 refine calls Tryz.func40 rfl Tryz.ntmps40 rfl (.seq (.region (.allocA (cs := [_, _, _, _, _, _, _, _]) hS Tryz.zeroValue101 rfl ?_)))
 clear hS; intro b4 w hS
 refine .run 2 rfl trivial (.nil (.seq (.region (.run 1 rfl trivial (.call Tryz.func63 rfl (evs_cons (.of rfl) evs_nil) rfl (uNormal_any s hs B _ I hK _ hS) ?_)))))
 clear hS
 rintro _ w ⟨rfl, hS⟩
 refine .run 3 rfl trivial (.alloc1 hS Tryz.zeroValue9 rfl rfl ?_)
 clear hS; intro b7 w hS
 refine .st1 hS (k := 0) rfl (.of rfl) (.of rfl) rfl Tryz.sizeOf9 (by simp) ?_
 clear hS; intro w hS; try dsimp only [List.set] at hS
 refine .run 1 rfl trivial (.nil (.seq (.seq (.region (.run 3 rfl trivial (.gval rfl rfl (fun hg1 => (.ld (.of rfl) hS (k := 0) rfl Tryz.isAgg9 rfl)) rfl (.gval rfl rfl (fun hg1 => (.len (.gd hg1 rfl) Tryz.underlying9)) rfl (.gval rfl rfl (fun hg1 => (.gtr (.gd hg1 rfl) (.of rfl))) rfl (.val (.pand (.of rfl) (.of rfl) (.of rfl)) rfl (.nil ?_))))))))))
 refine WC.cond rfl (fun hb21 => ?_) (fun hb21 => ?_)
 ·
  have hc21 := hb21; try simp only [Gk.cs0] at hc21
  refine .region (.run 1 rfl trivial (.nil (.seq (.seq (.region (.run 2 rfl trivial (.nil ?_)))))))
  refine WC.cond rfl (fun hb23 => ?_) (fun hb23 => by exfalso; simp only [Gk.cs0] at hb23; omega)
  have hc23 := hb23; try simp only [Gk.cs0] at hc23
  refine .seq (.region (.val (.build (cs := [_, _, _, _, _, _, _, _]) parts_nil bld101_40 rfl) rfl (.run 1 rfl trivial (.stA hS (k := 1) rfl (.of rfl) (.of rfl) rfl Tryz.sizeOf101 rfl (by simp) ?_))))
  clear hS; intro w hS; try dsimp only [List.set] at hS
  try simp only [List.take_zero, List.nil_append, List.append_nil, List.drop_succ_cons, List.drop_zero, List.drop_nil, Nat.zero_add] at hS
  refine .run 2 rfl trivial (.nil (.ret (ret3c (b := _) (cs := [_, _, _, _, _, _, _, _]) Tryz.results40 hS (k := 1) rfl Tryz.isAgg101 Tryz.sizeOf101 rfl rfl rfl rfl ?_)))
  exact ⟨_, rfl, I, z0, _, [], 2, Le.refl _, rfl, ⟨none, 0, rfl, Nat.le_refl _, RS.nil _ _⟩, (by unfold findR; rw [if_neg (by simp at hb21; omega), if_pos (by simp at hb21; omega)]), ((hS.drop (k := 0) rfl).drop (k := 0) rfl)⟩
 have hc21 := hb21; try simp only [Gk.cs0] at hc21
 refine .skip (.seq (.seq (.region (.run 2 rfl trivial (.nil ?_)))))
 refine WC.cond rfl (fun hb23 => ?_) (fun hb23 => ?_)
 ·
  have hc23 := hb23; try simp only [Gk.cs0] at hc23
  refine .seq (.region (.val (.build (cs := [_, _, _, _, _, _, _, _]) parts_nil bld101_40 rfl) rfl (.run 1 rfl trivial (.stA hS (k := 1) rfl (.of rfl) (.of rfl) rfl Tryz.sizeOf101 rfl (by simp) ?_))))
  clear hS; intro w hS; try dsimp only [List.set] at hS
  try simp only [List.take_zero, List.nil_append, List.append_nil, List.drop_succ_cons, List.drop_zero, List.drop_nil, Nat.zero_add] at hS
  refine .run 2 rfl trivial (.nil (.ret (ret3c (b := _) (cs := [_, _, _, _, _, _, _, _]) Tryz.results40 hS (k := 1) rfl Tryz.isAgg101 Tryz.sizeOf101 rfl rfl rfl rfl ?_)))
  exact ⟨_, rfl, I, z0, _, [], _, Le.refl _, rfl, ⟨none, 0, rfl, Nat.le_refl _, RS.nil _ _⟩, (by unfold findR; rw [if_pos (by omega)]), ((hS.drop (k := 0) rfl).drop (k := 0) rfl)⟩
 have hc23 := hb23; try simp only [Gk.cs0] at hc23
 refine .skip (.seq ?_)
 have hz : (Ul.nU s).2 = 0 := by omega
 have hn100 : (Ul.nU s).1.length ≤ 100 := by
  rw [hz] at hb21
  simp at hb21
  omega
 refine .region (.run 2 rfl trivial (.val (.fieldAddrI 0 (.of rfl) Tryz.underlying157 rfl rfl Tryz.sizeOf152 rfl) rfl (.val (.ldI (.of rfl) hS (At.add hreg _) Tryz.isAgg152 rfl) rfl (.val (.makeFunc (evs_cons (.of rfl) evs_nil)) rfl ?_))))
 refine WL.call Tryz.func85 rfl (evs_cons (.of rfl) (evs_cons (.of rfl) evs_nil)) rfl (IndexFunc_any a cc lo hlo (fun t => (mtch t.urls (Ul.nU s).1).1) 86 _ Tryz.func86 rfl [ptr b7 0] B _ I (blk b7 [S (Ul.nU s).1] 9 :: blk b4 [I64 0, F64 0, S [], .bool false, .bool false, .bool false, S [], .slice none 0 0] 101 :: As) (fun w h => hE.now h) (fun t c ht w h => by
  obtain ⟨ta, tc, tp, tq, Q, _, rfl, _, _, hQ, hpat, _⟩ := ht
  refine (findC_any hQ ta tc tp tq (Ul.nU s).1 (by omega) b7 B w I hpat _ h).mono fun e w' ⟨v, e1, e2, e3⟩ => ⟨v, e1, ?_, e3⟩
  rw [e2, mtch_mat hQ]) hS) ?_
 clear hS
 rintro _ w ⟨rfl, hS⟩
 refine .run 1 rfl trivial (.nil (.seq (.seq (.region (.run 2 rfl trivial (.nil ?_))))))
 refine WC.cond rfl (fun hb33 => ?_) (fun hb33 => ?_)
 ·
  have hc33 := hb33; try simp only [Gk.cs0] at hc33
  refine .seq (.region (.val (.build (cs := [_, _, _, _, _, _, _, _]) parts_nil bld101_40 rfl) rfl (.stA hS (k := 1) rfl (.of rfl) (.of rfl) rfl Tryz.sizeOf101 rfl (by simp) ?_)))
  clear hS; intro w hS; try dsimp only [List.set] at hS
  try simp only [List.take_zero, List.nil_append, List.append_nil, List.drop_succ_cons, List.drop_zero, List.drop_nil, Nat.zero_add] at hS
  refine .run 2 rfl trivial (.nil (.ret (ret3c (b := _) (cs := [_, _, _, _, _, _, _, _]) Tryz.results40 hS (k := 1) rfl Tryz.isAgg101 Tryz.sizeOf101 rfl rfl rfl rfl ?_)))
  exact ⟨_, rfl, I, z0, _, [], 31, Le.refl _, rfl, ⟨none, 0, rfl, Nat.le_refl _, RS.nil _ _⟩, (by
   have hno : lo.find? (fun t => (mtch t.urls (Ul.nU s).1).1) = none := by
    rcases firstI_zero (fun t => (mtch t.urls (Ul.nU s).1).1) lo with ⟨_, h⟩ | ⟨j, u, hj, _⟩
    ·exact h
    ·exfalso; rw [hj] at hc33; omega
   unfold findR
   rw [if_neg (by omega), if_neg (by omega), hno]), ((hS.drop (k := 0) rfl).drop (k := 0) rfl)⟩
 have hc33 := hb33; try simp only [Gk.cs0] at hc33
 refine .skip (.seq ?_)
 rcases firstI_zero (fun t => (mtch t.urls (Ul.nU s).1).1) lo with ⟨hneg, _⟩ | ⟨j, u, hj, hu, hpu, hfind⟩
 ·exfalso; rw [hneg] at hc33; omega
 rw [hj]
 obtain ⟨p, c, rfl, hc, hx0, ra, rc, pp, qq, Q, T, rfl, hrc, hrr, hQ, hpQ, hT, hpT⟩ := hE.2 j u hu
 have hjl := (List.getElem?_eq_some_iff.1 hu).1
 have hsm := hrl u (List.mem_of_getElem? hu)
 have hx := at_take hx0 8
 simp only [entCells, List.take_succ_cons, List.take_zero] at hx
 refine .drawn (fun w => ∃ J9 R, Le I J9 ∧ Sat B w J9 (blk b7 [S (Ul.nU s).1] 9 :: R)) (fun j => !([].contains j)) (by kernel_rfl) ?_
 replace hS := hS.drew; generalize w.drew = w at hS ⊢
 have hH : ∃ J9 R, Le I J9 ∧ Sat B w J9 (blk b7 [S (Ul.nU s).1] 9 :: R) := ⟨_, _, Le.refl _, (hS.pick 0 rfl)⟩
 refine .takeP (i := 0) rfl (by kernel_rfl) (by kernel_rfl) (by kernel_rfl) (fun w => (.move (.of rfl))) rfl (.takeP (i := 1) rfl (by kernel_rfl) (by kernel_rfl) (by kernel_rfl) (fun w => (.nilCheck (.of rfl))) rfl (.takeP (i := 2) rfl (by kernel_rfl) (by kernel_rfl) (by kernel_rfl) (fun w => (.fieldAddrI 0 (.of rfl) Tryz.underlying157 rfl rfl Tryz.sizeOf152 rfl)) rfl (.take (i := 3) rfl (by kernel_rfl) (by kernel_rfl) (by kernel_rfl) (by kernel_rfl) hH (fun w ⟨J9, R, hL9, hS⟩ => (.ldI (.of rfl) hS (At.add (hreg.mono hL9) _) Tryz.isAgg152 rfl)) rfl (.takeP (i := 4) rfl (by kernel_rfl) (by kernel_rfl) (by kernel_rfl) (fun w => (.move (.of rfl))) rfl (.takeP (i := 5) rfl (by kernel_rfl) (by kernel_rfl) (by kernel_rfl) (fun w => (.indexAddrI (.of rfl) (.of rfl) (by omega) (by omega) Tryz.underlying152 Tryz.sizeOf155)) rfl (.takeP (i := 6) rfl (by kernel_rfl) (by kernel_rfl) (by kernel_rfl) (fun w => (.fieldAddrI 0 (.of rfl) Tryz.underlying155 rfl rfl Tryz.sizeOf101 rfl)) rfl (.take (i := 7) rfl (by kernel_rfl) (by kernel_rfl) (by kernel_rfl) (by kernel_rfl) hH (fun w ⟨J9, R, hL9, hS⟩ => (.ldsI (.of rfl) hS (hx.mono hL9) Tryz.isAgg101 Tryz.sizeOf101 rfl (fun _ _ h => h))) rfl (.take (i := 9) rfl (by kernel_rfl) (by kernel_rfl) (by kernel_rfl) (by kernel_rfl) hH (fun w ⟨J9, R, hL9, hS⟩ => (.ld (.of rfl) hS (k := 0) rfl Tryz.isAgg9 rfl)) rfl ?_))))))))
 refine WD.branch [8] (by kernel_rfl) rfl (WO.cons rfl ?_ (WO.nil))
 refine .call Tryz.func88 rfl (evs_cons (.of rfl) evs_nil) rfl (own_svc u ra rc hsm B _ I hrr _ hS) ?_
 clear hS
 rintro _ w ⟨J2, cs, hJ2, rfl, hsv, hS⟩
 obtain ⟨sa, sc, rfl, hq1, hq2⟩ := hsv
 have hsv : SvAt J2 u (svCells u sa sc) := ⟨sa, sc, rfl, hq1, hq2⟩
 refine .nil ?_
 clear hH
 have hH : ∃ J9 R, Le I J9 ∧ Sat B w J9 (blk b7 [S (Ul.nU s).1] 9 :: R) := ⟨_, _, hJ2, (hS.pick 0 rfl)⟩
 refine And.intro (by intro _ _; exact hH) ?_
 refine WD.branch [10] (by kernel_rfl) rfl (WO.cons rfl ?_ (WO.nil))
 refine .stA hS (k := 1) rfl (.of rfl) (.of rfl) rfl Tryz.sizeOf101 rfl (by simp) ?_
 clear hS; intro w hS; try dsimp only [List.set] at hS
 try simp only [List.take_zero, List.nil_append, List.append_nil, List.drop_succ_cons, List.drop_zero, List.drop_nil, Nat.zero_add] at hS
 refine .nil ?_
 clear hH
 have hH : ∃ J9 R, Le I J9 ∧ Sat B w J9 (blk b7 [S (Ul.nU s).1] 9 :: R) := ⟨_, _, hJ2, (hS.pick 0 rfl)⟩
 refine And.intro (by intro _ _; exact hH) ?_
 refine .takeP (i := 11) rfl (by kernel_rfl) (by kernel_rfl) (by kernel_rfl) (fun w => (.assign (.of rfl))) rfl (.takeP (i := 12) rfl (by kernel_rfl) (by kernel_rfl) (by kernel_rfl) (fun w => (.assign (.of rfl))) rfl (.done (by kernel_rfl) (.ret (ret3c (b := _) (cs := [_, _, _, _, _, _, _, _]) Tryz.results40 hS (k := 1) rfl Tryz.isAgg101 Tryz.sizeOf101 rfl rfl rfl rfl ?_))))
 exact ⟨_, rfl, J2, u, _, (Ul.nU s).1, 0, hJ2, rfl, hsv, (by unfold findR; rw [if_neg (by omega), if_neg (by omega), hfind]), ((hS.drop (k := 0) rfl).drop (k := 0) rfl)⟩
end Go.Proofs.YtadhiihnnkcagaaGreatDoor
namespace Go.Proofs.YtadhiihnnkcagaaGreatDoor
open Gk Ul Pc Tk Tr
set_option linter.unusedVariables false
set_option linter.unusedSimpArgs false
theorem Ex.bytesStr {P : Program} {n : Nat} {L : Env} {B w : World} {I : Im} {As : List Assn} {k : Nat} {ty : TypeId} {pos : String} {af : Array Edge} {g : Option (Nat × Bool)} {x : Operand} {d : Option Nat} {src dst E : TypeId} {b o cap m : Nat} {l : List UInt8} {cs : List Value} (hx : Ev n L x (.slice (some (ad b o)) m cap)) (hm : l.length = m) (hS : Sat B w I As) (hk : As[k]? = some (blk b cs E)) (hs : P.underlying src = some (.slice E)) (he : P.underlying E = some (.int .u8)) (hd : P.underlying dst = some .string)
  (hc : ∀ j (hj : j < l.length), cs[o + j]? = some (U8 (l[j].toNat : Int))) : Ex P n L w ⟨d, .convert src dst x, ty, pos, af, g⟩ (S l) w := fun a ha => by
 subst hm
 have hb := hS.block hk
 have h := run_convert_bytes_back (P := P) w src dst E (ad b o) cap l hs he hd (fun j hj => by rw [add_ad]; exact cell_own hb (hc j hj))
 simp [execOp, hx a ha, h]
theorem preI_le (k : Int) : (preI k).length ≤ 6 := by
 unfold preI
 split
 ·simp
 ·rename_i h
  have : k = 1 ∨ k = 2 ∨ k = 3 ∨ k = 4 ∨ k = 5 ∨ k = 6 := by omega
  rcases this with e | e | e | e | e | e <;> (subst e; decide)
def dg (n : Nat) : UInt8 := if n < 10 then UInt8.ofNat (48 + n) else UInt8.ofNat (87 + n)
theorem digs_cons : ∀ (k n : Nat), digs (k + 1) n = dg (n / 16 ^ k % 16) :: digs k n
 | 0, n => by simp [digs, dg]
 | k + 1, n => by
  rw [digs, digs_cons k (n / 16), Nat.div_div_eq_div_mul, ← Nat.pow_succ', List.cons_append, digs]
end Go.Proofs.YtadhiihnnkcagaaGreatDoor
namespace Gk
set_option linter.unusedVariables false
set_option linter.unusedSimpArgs false
open Go
def VecO (E : TypeId) (v : Value) (xs : List Value) : Assn := fun h =>
 (v = .slice none 0 0 ∧ xs = [] ∧ h = []) ∨
  (∃ g cs p, v = .slice (some p) 0 0 ∧ xs = [] ∧ h = [(g, cellsO cs E)]) ∨ ∃ g cap ys rest, v = .slice (some ⟨g, List.length ys, none⟩) xs.length cap ∧ h = [(g, cellsO (ys ++ xs ++ rest) E)] ∧ xs.length ≤ cap ∧ cap ≤ maxLen ∧ xs.length + rest.length = cap
section
variable {P : Program} {B w w' : World} {I : Im} {As : List Assn} {k : Nat} {E : TypeId} {v : Value} {xs : List Value}
theorem Sat.vecoNil (hS : Sat B w I As) (E : Nat) : Sat B w I (VecO E (.slice none 0 0) [] :: As) := by
 obtain ⟨h, hs, hg⟩ := hS
 exact ⟨h, ⟨[], h, rfl, .inl ⟨rfl, rfl, rfl⟩, hs⟩, hg⟩
end
end Gk
namespace Go.Proofs.YtadhiihnnkcagaaGreatDoor
open Gk Ul Pc Tk Tr
set_option linter.unusedVariables false
set_option linter.unusedSimpArgs false
theorem bld168_55 : Bld Tryz.prog 168 [(0, 1)] [.slice none 0 0] := bld_of Tryz.underlying168 Tryz.zeroValue168 (fun w => by simp [go_sem])
theorem CloneU_nil (B w : World) (I : Im) (As : List Assn) (hS : Sat B w I As) :
  Calls Tryz.prog 136 [.slice none 0 0].toArray w (Ret fun v w' => v = .slice none 0 0 ∧ Sat B w' I As) := by
 refine calls Tryz.func136 rfl Tryz.ntmps136 rfl (.seq (.region (.run 1 rfl trivial (.nil (.seq (.seq (.region (.run 1 rfl trivial (.val (Ex.slNil (.of rfl) (.of rfl) Tryz.underlying81) rfl (.nil (.condT (rfl) (.seq (.region (.run 1 rfl trivial (.nil (.ret (ret1 Tryz.results136 rfl ?_)))))))))))))))))
 exact ⟨_, rfl, rfl, hS⟩
theorem mintNew_any (B w : World) (I : Im) (As : List Assn) (hS : Sat B w I As) :
  Calls Tryz.prog 93 [.slice none 0 0].toArray w (Ret fun v w' => ∃ mb, v = ptr mb 0 ∧ Sat B w' I (blk mb [.slice none (([] : List Nat)).length 0] 168 :: VecO 118 (.slice none (([] : List Nat)).length 0) ((([] : List Nat)).map fun d => U64 (d : Nat)) :: As)) := by
 refine calls Tryz.func93 rfl Tryz.ntmps93 rfl (.seq (.region (.run 1 rfl trivial (.nil (.seq (.region (.run 1 rfl trivial (.call Tryz.func136 rfl (evs_cons (.of rfl) evs_nil) rfl (CloneU_nil B _ I _ hS) ?_))))))))
 clear hS
 rintro _ w ⟨rfl, hS⟩
 refine .val (.build (cs := [_]) (parts_cons (.of rfl) parts_nil) bld168_55 rfl) rfl (.boxA (cs := [_]) hS (.of rfl) rfl ?_)
 clear hS; intro b6 w hS
 refine .run 1 rfl trivial (.nil (.ret (ret1 Tryz.results93 rfl ?_)))
 exact ⟨_, rfl, _, rfl, (hS.vecoNil 118).pick 1 rfl⟩
end Go.Proofs.YtadhiihnnkcagaaGreatDoor
namespace Go.Proofs.YtadhiihnnkcagaaGreatDoor
open Gk Ul Pc Tk Tr
set_option linter.unusedVariables false
set_option linter.unusedSimpArgs false
theorem bld45_178 : Bld Tryz.prog 45 [(0, 1), (1, 1), (2, 1), (3, 1), (4, 1), (5, 1), (6, 1), (7, 1), (8, 1), (9, 1)] [.int .i64 0, S [], S [], S [], S [], S [], .int .i64 0, .int .i64 0, .int .i64 0, .bool false] := bld_of Tryz.underlying45 Tryz.zeroValue45 (fun w => by simp [go_sem])
def psL (p : Nat → Int) : List Int := [p 0, p 1, p 2, p 3, p 4, p 5, p 6, p 7, p 8, p 9, p 10, p 11, p 12, p 13, p 14, p 15, p 16, p 17, p 18, p 19, p 20]
structure Wp where
 wb : Nat
 tb : Nat
 mb : Nat
 ub : Nat
 pr : Addr
 lo : List Sv
 us : List Us
 ps : Nat → Int
structure Wd where
 room : Int
 l : List Rec
 D : List Nat
 now : Int
def wdC (p : Wp) (ω : Wd) : List Value := ptr p.tb 0 :: ptr p.mb 0 :: .pointer (some p.pr) :: ptr p.ub 0 :: ((psL p.ps).map I64 ++ [I64 ω.now])
def wdT (p : Wp) (ω : Wd) : Option Addr × Nat × Option Addr × Nat → List Assn := fun ⟨a, c, ma, mc⟩ => [blk p.wb (wdC p ω) 52, blk p.tb [I64 ω.room, .slice a ω.l.length c] 127, Vec 45 10 (.slice a ω.l.length c) ω.l.length (rowsR ω.l), blk p.mb [.slice ma ω.D.length mc] 168, VecO 118 (.slice ma ω.D.length mc) (ω.D.map fun d => U64 (d : Nat))]
def wdA (p : Wp) (ω : Wd) : Assn := Box (wdT p ω)
structure WpOk (I : Im) (p : Wp) : Prop where
 reg : RegAt I p.pr p.lo
 tab : TabAt I p.ub p.us
 lo : p.lo.length ≤ 100000
 rel : ∀ s ∈ p.lo, s.rel.length ≤ 1000000
 fit : ∀ u ∈ p.us, u.fits
 att : ∀ u ∈ p.us, u.attrs.length ≤ 8
 known : Known I
 pre : PreAt I
theorem RegAt.mono {I J : Im} {pr : Addr} {lo : List Sv} (h : RegAt I pr lo) (hl : Le I J) : RegAt J pr lo := by
 obtain ⟨a, c, E, h1, h2, h3⟩ := h
 exact ⟨a, c, E, h1.mono hl, h2, h3.mono hl⟩
theorem WpOk.mono {I J : Im} {p : Wp} (h : WpOk I p) (hl : Le I J) : WpOk J p := ⟨h.reg.mono hl, h.tab.mono hl, h.lo, h.rel, h.fit, h.att, h.known.mono hl, h.pre.mono hl⟩
structure WdOk (ω : Wd) : Prop where
 len : ω.l.length ≤ 64
 wf : Wf ω.l
 D : ∀ d ∈ ω.D, d < 18446744073709551616
 now : 0 ≤ ω.now ∧ ω.now ≤ 1099511627776
 room : ω.room ≤ 64
def badN (n : Int) : Bool := decide (n < 0) || decide (1099511627776 < n)
def iC (n : Int) : List Value := [I64 n]
def rightP (p : Nat → Int) : Bool := (!((psL p).take 7).any badN && !(((psL p).drop 7).take 7).any badN) && !((psL p).drop 14).any badN
theorem rows_blk {B w : World} {I : Im} {As : List Assn} {k b E : Nat} {cs : List Value} {o : Nat} {l : List Int} (hS : Sat B w I As) (hk : As[k]? = some (blk b cs E)) (h : ∀ (i : Nat) n, l[i]? = some n → cs[o + i]? = some (I64 n)) : RowsW w iC 1 (some (ad b o)) l := fun i n hn => by
 refine ⟨_, rfl, fun j v hj => ?_⟩
 have hb := hS.block (b := b) (o := cellsO cs E) hk
 match j, hj with
 | 0, hj =>
  cases hj
  rw [add_ad, add_ad]
  refine cell_own hb ?_
  rw [Nat.mul_one]
  exact h i n hn
 | j + 1, hj => simp [iC] at hj
theorem IndexFuncI_any (a : Option Addr) (cap : Nat) (l : List (Int)) (hln : l.length ≤ 9223372036854775807) (pr : Int → Bool) (fid : FuncId) (fn : Func) (hfn : Tryz.prog.funcs[fid]? = some fn) (hcal : callable fn = true) (capv : List Value) (B w : World) (I : Im) (As : List Assn) (hE : ∀ w, Sat B w I As → RowsW w iC 1 a l) (hf : ∀ (r : Int) (hr : r ∈ l) w, Sat B w I As → Calls Tryz.prog fid ([I64 r] ++ capv).toArray w (Ret fun v w' => v = .bool (pr r) ∧ Sat B w' I As)) (hS : Sat B w I As) :
  Calls Tryz.prog 178 [.slice a l.length cap, .func (.func fid) #[] capv.toArray].toArray w (Ret fun v w' => v = I64 (firstR pr l 0) ∧ Sat B w' I As) := by
 refine calls Tryz.func178 rfl Tryz.ntmps178 rfl (.seq (.region (.run 1 rfl trivial (.nil (.seq (.seq (.region (.run 3 rfl ⟨⟨_, Tryz.underlying195⟩, trivial⟩ (.nil (.block (.loop (σ := Nat) (fun i => [(0, .slice a l.length cap), (1, .func (.func fid) #[] capv.toArray), (7, I64 (l.length : Nat)), (8, I64 (i : Nat))]) (fun i w => i ≤ l.length ∧ (∀ (j : Nat) t, j < i → l[j]? = some t → pr t = false) ∧ Sat B w I As) (fun i => l.length - i) 0 ⟨rfl, rfl, rfl, rfl, trivial⟩ ⟨Nat.zero_le _, fun _ _ h => absurd h (by omega), hS⟩ ?_)))))))))))
 rintro i w ⟨hi, hno, hS⟩
 change WC _ _ _ _ [(0, .slice a l.length cap), (1, .func (.func fid) #[] capv.toArray), (7, I64 (l.length : Nat)), (8, I64 (i : Nat))] w
 refine .seq (.region (.run 1 rfl trivial (.nil (.seq ?_))))
 refine WC.cond rfl (fun hb9 => ?_) (fun hb9 => ?_)
 ·
  have hc9 := hb9; try simp only [Gk.cs0] at hc9
  refine .skip (.seq (.block (.seq ?_)))
  obtain ⟨r, hr⟩ : ∃ r, l[i]? = some r := ⟨_, List.getElem?_eq_getElem (by omega)⟩
  obtain ⟨p, rfl, hx⟩ := hE w hS i r hr
  refine .region (.run 2 rfl trivial (.nil (.seq (.region (.run 3 rfl trivial ?_)))))
  first | refine WL.val (.indexAddr (.of rfl) (.of rfl) (by omega) (by omega) Tryz.underlying195 Tryz.sizeOf3) rfl ?_ | refine WL.val (.indexAddrI (.of rfl) (.of rfl) (by omega) (by omega) Tryz.underlying195 Tryz.sizeOf3) rfl ?_
  refine WL.val (.ld1 (.of rfl) (by have h9 := hx 0 _ rfl; simpa [Addr.add_add] using h9) Tryz.isAgg3) rfl ?_
  refine .vcall (cap := capv) hfn hcal (.of rfl) (evs_cons (.of rfl) evs_nil) rfl (hf r (List.mem_of_getElem? hr) w hS) ?_
  clear hS
  rintro _ w ⟨rfl, hS⟩
  refine .nil ?_
  refine WC.cond rfl (fun hb16 => ?_) (fun hb16 => ?_)
  ·
   have hc16 := hb16; try simp only [Gk.cs0] at hc16
   refine .seq (.region (.run 2 rfl trivial (.nil (.ret (ret1 Tryz.results178 rfl ?_)))))
   exact ⟨_, rfl, by rw [firstR_hit hno hr hb16], hS⟩
  have hc16 := hb16; try simp only [Gk.cs0] at hc16
  refine .skip (.region (.run 2 rfl ⟨⟨by omega, by omega⟩, trivial⟩ (.nil ?_)))
  refine ⟨i + 1, ⟨rfl, rfl, rfl, rfl, trivial⟩, ⟨by (try dsimp only); omega, fun j t hj ht => ?_, hS⟩, by (try dsimp only); omega⟩
  rcases Nat.lt_or_ge j i with h1 | h1
  ·exact hno j t h1 ht
  ·have e : j = i := by omega
   subst e
   rw [hr] at ht; cases ht
   exact hb16
 have hc9 := hb9; try simp only [Gk.cs0] at hc9
 refine .exit (.seq (.region (.run 1 rfl trivial (.nil (.ret (ret1 Tryz.results178 rfl ?_))))))
 exact ⟨_, rfl, by rw [firstR_none (fun j t ht => hno j t (by have := (List.getElem?_eq_some_iff.1 ht).1; omega) ht)], hS⟩
theorem ContainsFuncI_any (a : Option Addr) (cap : Nat) (l : List (Int)) (hln : l.length ≤ 9223372036854775807) (pr : Int → Bool) (fid : FuncId) (fn : Func) (hfn : Tryz.prog.funcs[fid]? = some fn) (hcal : callable fn = true) (capv : List Value) (B w : World) (I : Im) (As : List Assn) (hE : ∀ w, Sat B w I As → RowsW w iC 1 a l) (hf : ∀ (r : Int) (hr : r ∈ l) w, Sat B w I As → Calls Tryz.prog fid ([I64 r] ++ capv).toArray w (Ret fun v w' => v = .bool (pr r) ∧ Sat B w' I As)) (hS : Sat B w I As) :
  Calls Tryz.prog 135 [.slice a l.length cap, .func (.func fid) #[] capv.toArray].toArray w (Ret fun v w' => v = .bool (l.any pr) ∧ Sat B w' I As) := by
 refine calls Tryz.func135 rfl Tryz.ntmps135 rfl (.seq (.region (.run 1 rfl trivial (.nil (.seq (.region (.run 2 rfl trivial (.call Tryz.func178 rfl (evs_cons (.of rfl) (evs_cons (.of rfl) evs_nil)) rfl (IndexFuncI_any a cap l hln pr fid fn hfn hcal capv B _ I As hE hf hS) ?_))))))))
 clear hS
 rintro _ w ⟨rfl, hS⟩
 refine .run 2 rfl trivial (.nil (.ret (ret1 Tryz.results135 rfl ?_)))
 exact ⟨_, rfl, by rw [← firstR_any pr l 0], hS⟩
theorem badN_any (n : Int) (B w : World) (I : Im) (As : List Assn) (hS : Sat B w I As) :
  Calls Tryz.prog 134 [I64 n].toArray w (Ret fun v w' => v = .bool (badN n) ∧ Sat B w' I As) := by
 refine calls Tryz.func134 rfl Tryz.ntmps134 rfl (.seq (.region (.run 1 rfl trivial (.nil (.seq (.region (.run 3 rfl trivial (.gval rfl rfl (fun hg1 => (.move (.of rfl))) rfl (.gval rfl rfl (fun hg1 => (.gtr (.gd hg1 rfl) (.of rfl))) rfl (.val (.por (.of rfl) (.of rfl) (.of rfl)) rfl (.run 1 rfl trivial (.nil (.ret (ret1 Tryz.results134 rfl ?_))))))))))))))
 exact ⟨_, rfl, rfl, hS⟩
theorem rightP_any (p : Nat → Int) (B w : World) (I : Im) (As : List Assn) (hS : Sat B w I As) :
  Calls Tryz.prog 91 [.agg ((psL p).map I64).toArray].toArray w (Ret fun v w' => v = .bool (rightP p) ∧ Sat B w' I As) := by
 refine calls Tryz.func91 rfl Tryz.ntmps91 rfl (.seq (.region (.boxA (cs := (psL p).map I64) hS (.of rfl) rfl ?_)))
 clear hS; intro b1 w hS
 refine .run 1 rfl trivial (.nil (.seq (.region (.run 1 rfl trivial (.nil (.seq (.region ?_)))))))
 first | refine WL.val (.fieldAddr 0 (.of rfl) Tryz.underlying31 rfl rfl Tryz.sizeOf29 rfl) rfl ?_ | refine WL.val (.fieldAddrI 0 (.of rfl) Tryz.underlying31 rfl rfl Tryz.sizeOf29 rfl) rfl ?_
 refine .val (Ex.slcArr (.of rfl) Tryz.underlying29 Tryz.sizeOf3) rfl (.run 1 rfl trivial (.call Tryz.func135 rfl (evs_cons (.of rfl) (evs_cons (.of rfl) evs_nil)) rfl (ContainsFuncI_any (some (ad b1 0)) 7 ((psL p).take 7) (show (7 : Nat) ≤ 9223372036854775807 by decide) badN 134 _ Tryz.func134 rfl [] B _ I _ (fun w h => rows_blk h (k := 0) rfl (fun i n hn => by match i, hn with | 0, hn => exact congrArg (Option.map I64) hn | 1, hn => exact congrArg (Option.map I64) hn | 2, hn => exact congrArg (Option.map I64) hn | 3, hn => exact congrArg (Option.map I64) hn | 4, hn => exact congrArg (Option.map I64) hn | 5, hn => exact congrArg (Option.map I64) hn | 6, hn => exact congrArg (Option.map I64) hn | i + 7, hn => cases hn)) (fun n hn w h => badN_any n B w I _ h) hS) ?_))
 clear hS
 rintro _ w ⟨rfl, hS⟩
 refine .run 2 rfl trivial ?_
 refine WL.gval rfl rfl (fun hg1 => (by first | exact .fieldAddr 7 (.of rfl) Tryz.underlying31 rfl rfl Tryz.sizeOf29 rfl | exact .fieldAddrI 7 (.of rfl) Tryz.underlying31 rfl rfl Tryz.sizeOf29 rfl)) rfl ?_
 refine .gval rfl rfl (fun hg1 => (Ex.slcArr (.gd hg1 rfl) Tryz.underlying29 Tryz.sizeOf3)) rfl (.gval rfl rfl (fun hg1 => (.move (.of rfl))) rfl (.gcall (T := fun w => Sat B w I (blk b1 ((psL p).map I64) 31 :: As)) rfl rfl rfl Tryz.func135 rfl (fun hg1 => (evs_cons (.gd hg1 rfl) (evs_cons (.gd hg1 rfl) evs_nil))) rfl (fun hg1 => ContainsFuncI_any (some (ad b1 7)) 7 (((psL p).drop 7).take 7) (show (7 : Nat) ≤ 9223372036854775807 by decide) badN 134 _ Tryz.func134 rfl [] B _ I _ (fun w h => rows_blk h (k := 0) rfl (fun i n hn => by match i, hn with | 0, hn => exact congrArg (Option.map I64) hn | 1, hn => exact congrArg (Option.map I64) hn | 2, hn => exact congrArg (Option.map I64) hn | 3, hn => exact congrArg (Option.map I64) hn | 4, hn => exact congrArg (Option.map I64) hn | 5, hn => exact congrArg (Option.map I64) hn | 6, hn => exact congrArg (Option.map I64) hn | i + 7, hn => cases hn)) (fun n hn w h => badN_any n B w I _ h) hS) hS ?_))
 clear hS; rintro w hS
 refine .gval rfl rfl (fun hg1 => (.not (.gd hg1 rfl))) rfl (.val (.pand (.of rfl) (.of rfl) (.of rfl)) rfl (.run 1 rfl trivial ?_))
 refine WL.gval rfl rfl (fun hg1 => (by first | exact .fieldAddr 14 (.of rfl) Tryz.underlying31 rfl rfl Tryz.sizeOf29 rfl | exact .fieldAddrI 14 (.of rfl) Tryz.underlying31 rfl rfl Tryz.sizeOf29 rfl)) rfl ?_
 refine .gval rfl rfl (fun hg1 => (Ex.slcArr (.gd hg1 rfl) Tryz.underlying29 Tryz.sizeOf3)) rfl (.gval rfl rfl (fun hg1 => (.move (.of rfl))) rfl (.gcall (T := fun w => Sat B w I (blk b1 ((psL p).map I64) 31 :: As)) rfl rfl rfl Tryz.func135 rfl (fun hg1 => (evs_cons (.gd hg1 rfl) (evs_cons (.gd hg1 rfl) evs_nil))) rfl (fun hg1 => ContainsFuncI_any (some (ad b1 14)) 7 ((psL p).drop 14) (show (7 : Nat) ≤ 9223372036854775807 by decide) badN 134 _ Tryz.func134 rfl [] B _ I _ (fun w h => rows_blk h (k := 0) rfl (fun i n hn => by match i, hn with | 0, hn => exact congrArg (Option.map I64) hn | 1, hn => exact congrArg (Option.map I64) hn | 2, hn => exact congrArg (Option.map I64) hn | 3, hn => exact congrArg (Option.map I64) hn | 4, hn => exact congrArg (Option.map I64) hn | 5, hn => exact congrArg (Option.map I64) hn | 6, hn => exact congrArg (Option.map I64) hn | i + 7, hn => cases hn)) (fun n hn w h => badN_any n B w I _ h) hS) hS ?_))
 clear hS; rintro w hS
 refine .gval rfl rfl (fun hg1 => (.not (.gd hg1 rfl))) rfl (.val (.pand (.of rfl) (.of rfl) (.of rfl)) rfl (.run 1 rfl trivial (.nil (.ret (ret1 Tryz.results91 rfl ?_)))))
 exact ⟨_, rfl, rfl, hS.drop (k := 0) rfl⟩
def tick (ω : Wd) (n : Int) : Wd := { ω with now := min (ω.now + max 0 (min n 1099511627776)) 1099511627776 }
theorem tick_ok {ω : Wd} (h : WdOk ω) (n : Int) : WdOk (tick ω n) := ⟨h.len, h.wf, h.D, by have := h.now; unfold tick; (try dsimp only); omega, h.room⟩
theorem Tick_any (p : Wp) (ω : Wd) (n : Int) (hω : WdOk ω) (B w : World) (I : Im) (As : List Assn) (hS : Sat B w I (wdA p ω :: As)) :
  Calls Tryz.prog 20 [ptr p.wb 0, I64 n].toArray w (Ret fun v w' => v = .tuple #[] ∧ Sat B w' I (wdA p (tick ω n) :: As)) := by
 refine calls Tryz.func20 rfl Tryz.ntmps20 rfl ?_
 obtain ⟨⟨a, c, ma, mc⟩, hS⟩ := Sat.unbox hS
 replace hS : Sat B _ _ (blk p.wb (wdC p ω) 52 :: blk p.tb [I64 ω.room, .slice a ω.l.length c] 127 :: Vec 45 10 (.slice a ω.l.length c) ω.l.length (rowsR ω.l) :: blk p.mb [.slice ma ω.D.length mc] 168 :: VecO 118 (.slice ma ω.D.length mc) (ω.D.map fun d => U64 (d : Nat)) :: As) := hS
 have hnow := hω.now
 refine .region (.run 3 rfl trivial ?_)
 first | refine WL.val (.fieldAddr 25 (.of rfl) Tryz.underlying52 rfl rfl Tryz.sizeOf3 rfl) rfl ?_ | refine WL.val (.fieldAddrI 25 (.of rfl) Tryz.underlying52 rfl rfl Tryz.sizeOf3 rfl) rfl ?_
 first | refine WL.val (.ld (.of rfl) hS (k := 0) rfl Tryz.isAgg3 rfl) rfl ?_ | refine WL.val (.ld (.of rfl) hS (k := 1) rfl Tryz.isAgg3 rfl) rfl ?_ | refine WL.val (.ld (.of rfl) hS (k := 2) rfl Tryz.isAgg3 rfl) rfl ?_ | refine WL.val (.ld (.of rfl) hS (k := 3) rfl Tryz.isAgg3 rfl) rfl ?_ | refine WL.val (.ld (.of rfl) hS (k := 4) rfl Tryz.isAgg3 rfl) rfl ?_
 refine .run 1 rfl trivial (.val (.min2 (.of rfl) (.of rfl)) rfl (.val (.max2 (.of rfl) (.of rfl)) rfl (.run 1 rfl ⟨⟨by omega, by omega⟩, trivial⟩ (.val (.min2 (.of rfl) (.of rfl)) rfl (.run 1 rfl trivial ?_)))))
 first | refine WL.val (.fieldAddr 25 (.of rfl) Tryz.underlying52 rfl rfl Tryz.sizeOf3 rfl) rfl ?_ | refine WL.val (.fieldAddrI 25 (.of rfl) Tryz.underlying52 rfl rfl Tryz.sizeOf3 rfl) rfl ?_
 refine .st1 hS (k := 0) rfl (.of rfl) (.of rfl) rfl Tryz.sizeOf3 (show 25 < 26 by decide) ?_
 clear hS; intro w hS; try dsimp only [List.set] at hS
 refine .nil (end0 Tryz.results20 ?_)
 exact ⟨_, rfl, rfl, Sat.box (T := wdT p _) (a, c, ma, mc) hS⟩
theorem eAliveQ_any (tb : Nat) (room : Int) (a : Option Addr) (c : Nat) (l : List Rec) (hl : l.length ≤ 100000) (hwf : Wf l) (ps : List Int) (hps : ps.length = 21) (name : List UInt8) (now : Int) (hn : 0 ≤ now ∧ now ≤ 1099511627776) (B w : World) (I : Im) (As : List Assn) (hS : Sat B w I (blk tb [I64 room, .slice a l.length c] 127 :: Vec 45 10 (.slice a l.length c) l.length (rowsR l) :: As)) :
  Calls Tryz.prog 65 [ptr tb 0, .agg (ps.map I64).toArray, S name, I64 now].toArray w (Ret fun v w' => v = .bool (aliveT ps l name now) ∧ Sat B w' I (blk tb [I64 room, .slice a l.length c] 127 :: Vec 45 10 (.slice a l.length c) l.length (rowsR l) :: As)) :=
 (eAlive_any tb room a c l hl hwf ps hps name now hn B w I As hS).mono fun e w' ⟨v, he, J, hJ, hv, hS⟩ => ⟨v, he, hv, hS.weaken hJ⟩
theorem wd_pol {p : Wp} {ω : Wd} {j : Nat} {v : Value} (h : ((psL p.ps).map I64)[j]? = some v) : (wdC p ω)[0 + 4 + j]? = some v := by
 have h1 := (List.getElem?_eq_some_iff.1 h).1
 have e : wdC p ω = [ptr p.tb 0, ptr p.mb 0, .pointer (some p.pr), ptr p.ub 0] ++ ((psL p.ps).map I64 ++ [I64 ω.now]) := rfl
 rw [e, List.getElem?_append_right (by simp), List.length_cons, List.length_cons, List.length_cons, List.length_cons, List.length_nil, show 0 + 4 + j - (0 + 1 + 1 + 1 + 1) = j by omega, List.getElem?_append_left h1]
 exact h
def aliveW (ps : Nat → Int) (ω : Wd) (name : List UInt8) (kind : Int) : Rec × Bool := if ((((getD ω.l name).kind) != kind) || !aliveT (psL ps) ω.l name ω.now) = true then (r0, false) else (getD ω.l name, true)
theorem Alive_any (name : List UInt8) (kind : Int) (p : Wp) (ω : Wd) (hω : WdOk ω) (B w : World) (I : Im) (As : List Assn) (hS : Sat B w I (wdA p ω :: As)) :
  Calls Tryz.prog 21 [ptr p.wb 0, S name, I64 kind].toArray w (Ret fun v w' => v = .tuple #[.agg (recCells (aliveW p.ps ω name kind).1).toArray, .bool (aliveW p.ps ω name kind).2] ∧ Sat B w' I (wdA p ω :: As)) := by
 refine calls Tryz.func21 rfl Tryz.ntmps21 rfl (.seq ?_)
 obtain ⟨⟨a, c, ma, mc⟩, hS⟩ := Sat.unbox hS
 replace hS : Sat B _ _ (blk p.wb (wdC p ω) 52 :: blk p.tb [I64 ω.room, .slice a ω.l.length c] 127 :: Vec 45 10 (.slice a ω.l.length c) ω.l.length (rowsR ω.l) :: blk p.mb [.slice ma ω.D.length mc] 168 :: VecO 118 (.slice ma ω.D.length mc) (ω.D.map fun d => U64 (d : Nat)) :: As) := hS
 have hlen := hω.len
 refine .region (.allocA (cs := [_, _, _, _, _, _, _, _, _, _]) hS Tryz.zeroValue45 rfl ?_)
 clear hS; intro b6 w hS
 refine .run 1 rfl trivial (.nil (.seq (.region (.run 2 rfl trivial ?_))))
 first | refine WL.val (.fieldAddr 0 (.of rfl) Tryz.underlying52 rfl rfl Tryz.sizeOf47 rfl) rfl ?_ | refine WL.val (.fieldAddrI 0 (.of rfl) Tryz.underlying52 rfl rfl Tryz.sizeOf47 rfl) rfl ?_
 first | refine WL.val (.ld (.of rfl) hS (k := 0) rfl Tryz.isAgg47 rfl) rfl ?_ | refine WL.val (.ld (.of rfl) hS (k := 1) rfl Tryz.isAgg47 rfl) rfl ?_ | refine WL.val (.ld (.of rfl) hS (k := 2) rfl Tryz.isAgg47 rfl) rfl ?_ | refine WL.val (.ld (.of rfl) hS (k := 3) rfl Tryz.isAgg47 rfl) rfl ?_ | refine WL.val (.ld (.of rfl) hS (k := 4) rfl Tryz.isAgg47 rfl) rfl ?_ | refine WL.val (.ld (.of rfl) hS (k := 5) rfl Tryz.isAgg47 rfl) rfl ?_
 refine .run 1 rfl trivial (.call Tryz.func17 rfl (evs_cons (.of rfl) (evs_cons (.of rfl) evs_nil)) rfl (Get_any p.tb ω.room a c ω.l (by omega) name B _ I _ ((hS.pick 3 rfl).pick 3 rfl)) ?_)
 clear hS
 rintro _ w ⟨rfl, hS⟩
 try dsimp only [List.eraseIdx] at hS
 refine .run 3 rfl trivial (.allocA (cs := [_, _, _, _, _, _, _, _, _, _]) hS Tryz.zeroValue45 rfl ?_)
 clear hS; intro b8 w hS
 first | refine WL.stA hS (k := 0) rfl (.of rfl) (.of rfl) rfl Tryz.sizeOf45 rfl (by simp) ?_ | refine WL.stA hS (k := 1) rfl (.of rfl) (.of rfl) rfl Tryz.sizeOf45 rfl (by simp) ?_ | refine WL.stA hS (k := 2) rfl (.of rfl) (.of rfl) rfl Tryz.sizeOf45 rfl (by simp) ?_ | refine WL.stA hS (k := 3) rfl (.of rfl) (.of rfl) rfl Tryz.sizeOf45 rfl (by simp) ?_ | refine WL.stA hS (k := 4) rfl (.of rfl) (.of rfl) rfl Tryz.sizeOf45 rfl (by simp) ?_ | refine WL.stA hS (k := 5) rfl (.of rfl) (.of rfl) rfl Tryz.sizeOf45 rfl (by simp) ?_ | refine WL.stA hS (k := 6) rfl (.of rfl) (.of rfl) rfl Tryz.sizeOf45 rfl (by simp) ?_
 clear hS; intro w hS; try dsimp only [List.set] at hS
 try simp only [List.take_zero, List.nil_append, List.append_nil, List.drop_succ_cons, List.drop_zero, List.drop_nil, Nat.zero_add] at hS
 refine .run 1 rfl trivial (.nil (.seq (.seq ?_)))
 replace hS := (hS.pick 2 rfl).pick 2 rfl
 try dsimp only [List.eraseIdx] at hS
 refine .quiet (by kernel_rfl) (by kernel_rfl) hS ?_
 refine WQ.val (fun w hS => (by first | exact .fieldAddr 0 (.of rfl) Tryz.underlying45 rfl rfl Tryz.sizeOf3 rfl | exact .fieldAddrI 0 (.of rfl) Tryz.underlying45 rfl rfl Tryz.sizeOf3 rfl)) rfl ?_
 refine WQ.val (fun w hS => (by first | exact (.ld (.of rfl) hS (k := 0) rfl Tryz.isAgg3 rfl) | exact (.ld (.of rfl) hS (k := 1) rfl Tryz.isAgg3 rfl) | exact (.ld (.of rfl) hS (k := 2) rfl Tryz.isAgg3 rfl) | exact (.ld (.of rfl) hS (k := 3) rfl Tryz.isAgg3 rfl) | exact (.ld (.of rfl) hS (k := 4) rfl Tryz.isAgg3 rfl) | exact (.ld (.of rfl) hS (k := 5) rfl Tryz.isAgg3 rfl) | exact (.ld (.of rfl) hS (k := 6) rfl Tryz.isAgg3 rfl))) rfl ?_
 refine .val (fun w hS => (.move (.of rfl))) rfl (.val (fun w hS => (.neq (.of rfl) (.of rfl))) rfl (.val (fun w hS => (.move (.of rfl))) rfl (.gval rfl rfl rfl (fun hg1 w hS => (.move (.of rfl))) rfl (.gval rfl rfl rfl (fun hg1 w hS => (.nilCheck (.gd hg1 rfl))) rfl ?_))))
 refine WQ.gval rfl rfl rfl (fun hg1 w hS => (by first | exact .fieldAddr 0 (.gd hg1 rfl) Tryz.underlying52 rfl rfl Tryz.sizeOf47 rfl | exact .fieldAddrI 0 (.gd hg1 rfl) Tryz.underlying52 rfl rfl Tryz.sizeOf47 rfl)) rfl ?_
 refine WQ.gval rfl rfl rfl (fun hg1 w hS => (by first | exact (.ld (.gd hg1 rfl) hS (k := 0) rfl Tryz.isAgg47 rfl) | exact (.ld (.gd hg1 rfl) hS (k := 1) rfl Tryz.isAgg47 rfl) | exact (.ld (.gd hg1 rfl) hS (k := 2) rfl Tryz.isAgg47 rfl) | exact (.ld (.gd hg1 rfl) hS (k := 3) rfl Tryz.isAgg47 rfl) | exact (.ld (.gd hg1 rfl) hS (k := 4) rfl Tryz.isAgg47 rfl) | exact (.ld (.gd hg1 rfl) hS (k := 5) rfl Tryz.isAgg47 rfl) | exact (.ld (.gd hg1 rfl) hS (k := 6) rfl Tryz.isAgg47 rfl))) rfl ?_
 refine .gval rfl rfl rfl (fun hg1 w hS => (.move (.of rfl))) rfl (.gval rfl rfl rfl (fun hg1 w hS => (.nilCheck (.gd hg1 rfl))) rfl ?_)
 refine WQ.gval rfl rfl rfl (fun hg1 w hS => (by first | exact .fieldAddr 4 (.gd hg1 rfl) Tryz.underlying52 rfl rfl Tryz.sizeOf31 rfl | exact .fieldAddrI 4 (.gd hg1 rfl) Tryz.underlying52 rfl rfl Tryz.sizeOf31 rfl)) rfl ?_
 refine .gval rfl rfl rfl (fun hg1 w hS => (.lds (vs := (psL p.ps).map I64) (.gd hg1 rfl) hS (k := 4) rfl Tryz.isAgg31 Tryz.sizeOf31 rfl (fun j v hj => wd_pol hj))) rfl (.gval rfl rfl rfl (fun hg1 w hS => (.move (.of rfl))) rfl (.gval rfl rfl rfl (fun hg1 w hS => (.move (.of rfl))) rfl (.gval rfl rfl rfl (fun hg1 w hS => (.nilCheck (.gd hg1 rfl))) rfl ?_)))
 refine WQ.gval rfl rfl rfl (fun hg1 w hS => (by first | exact .fieldAddr 25 (.gd hg1 rfl) Tryz.underlying52 rfl rfl Tryz.sizeOf3 rfl | exact .fieldAddrI 25 (.gd hg1 rfl) Tryz.underlying52 rfl rfl Tryz.sizeOf3 rfl)) rfl ?_
 refine WQ.gval rfl rfl rfl (fun hg1 w hS => (by first | exact (.ld (.gd hg1 rfl) hS (k := 0) rfl Tryz.isAgg3 rfl) | exact (.ld (.gd hg1 rfl) hS (k := 1) rfl Tryz.isAgg3 rfl) | exact (.ld (.gd hg1 rfl) hS (k := 2) rfl Tryz.isAgg3 rfl) | exact (.ld (.gd hg1 rfl) hS (k := 3) rfl Tryz.isAgg3 rfl) | exact (.ld (.gd hg1 rfl) hS (k := 4) rfl Tryz.isAgg3 rfl) | exact (.ld (.gd hg1 rfl) hS (k := 5) rfl Tryz.isAgg3 rfl) | exact (.ld (.gd hg1 rfl) hS (k := 6) rfl Tryz.isAgg3 rfl))) rfl ?_
 refine .gcall rfl rfl rfl Tryz.func65 rfl (fun hg1 => (evs_cons (.gd hg1 rfl) (evs_cons (.gd hg1 rfl) (evs_cons (.gd hg1 rfl) (evs_cons (.gd hg1 rfl) evs_nil))))) rfl (fun hg1 w hS => eAliveQ_any p.tb ω.room a c ω.l (by omega) hω.wf (psL p.ps) rfl name ω.now hω.now B _ I _ hS) (.gval rfl rfl rfl (fun hg1 w hS => (.not (.gd hg1 rfl))) rfl (.val (fun w hS => (.por (.of rfl) (.of rfl) (.of rfl))) rfl (.nil ?_)))
 clear hS; intro w hS
 refine WC.cond rfl (fun hb39 => ?_) (fun hb39 => ?_)
 ·
  have hc39 := hb39; try simp only [Gk.cs0] at hc39
  refine .seq (.region (.val (.build (cs := [_, _, _, _, _, _, _, _, _, _]) parts_nil bld45_178 rfl) rfl ?_))
  first | refine WL.stA hS (k := 0) rfl (.of rfl) (.of rfl) rfl Tryz.sizeOf45 rfl (by simp) ?_ | refine WL.stA hS (k := 1) rfl (.of rfl) (.of rfl) rfl Tryz.sizeOf45 rfl (by simp) ?_ | refine WL.stA hS (k := 2) rfl (.of rfl) (.of rfl) rfl Tryz.sizeOf45 rfl (by simp) ?_ | refine WL.stA hS (k := 3) rfl (.of rfl) (.of rfl) rfl Tryz.sizeOf45 rfl (by simp) ?_ | refine WL.stA hS (k := 4) rfl (.of rfl) (.of rfl) rfl Tryz.sizeOf45 rfl (by simp) ?_ | refine WL.stA hS (k := 5) rfl (.of rfl) (.of rfl) rfl Tryz.sizeOf45 rfl (by simp) ?_ | refine WL.stA hS (k := 6) rfl (.of rfl) (.of rfl) rfl Tryz.sizeOf45 rfl (by simp) ?_
  clear hS; intro w hS; try dsimp only [List.set] at hS
  try simp only [List.take_zero, List.nil_append, List.append_nil, List.drop_succ_cons, List.drop_zero, List.drop_nil, Nat.zero_add] at hS
  refine .run 1 rfl trivial (.nil (.ret ?_))
  first | refine ret2c (b := _) (cs := [_, _, _, _, _, _, _, _, _, _]) Tryz.results21 hS (k := 0) rfl Tryz.isAgg45 Tryz.sizeOf45 rfl rfl rfl ?_ | refine ret2c (b := _) (cs := [_, _, _, _, _, _, _, _, _, _]) Tryz.results21 hS (k := 1) rfl Tryz.isAgg45 Tryz.sizeOf45 rfl rfl rfl ?_ | refine ret2c (b := _) (cs := [_, _, _, _, _, _, _, _, _, _]) Tryz.results21 hS (k := 2) rfl Tryz.isAgg45 Tryz.sizeOf45 rfl rfl rfl ?_ | refine ret2c (b := _) (cs := [_, _, _, _, _, _, _, _, _, _]) Tryz.results21 hS (k := 3) rfl Tryz.isAgg45 Tryz.sizeOf45 rfl rfl rfl ?_ | refine ret2c (b := _) (cs := [_, _, _, _, _, _, _, _, _, _]) Tryz.results21 hS (k := 4) rfl Tryz.isAgg45 Tryz.sizeOf45 rfl rfl rfl ?_ | refine ret2c (b := _) (cs := [_, _, _, _, _, _, _, _, _, _]) Tryz.results21 hS (k := 5) rfl Tryz.isAgg45 Tryz.sizeOf45 rfl rfl rfl ?_ | refine ret2c (b := _) (cs := [_, _, _, _, _, _, _, _, _, _]) Tryz.results21 hS (k := 6) rfl Tryz.isAgg45 Tryz.sizeOf45 rfl rfl rfl ?_
  refine ⟨_, rfl, ?_, Sat.box (T := wdT p _) (a, c, ma, mc) ?_⟩
  ·rw [aliveW, if_pos hb39]; rfl
  replace hS := ((hS.drop (k := 2) rfl).drop (k := 2) rfl).pick 2 rfl
  try dsimp only [List.eraseIdx] at hS
  exact hS
 have hc39 := hb39; try simp only [Gk.cs0] at hc39
 refine .skip (.seq (.region ?_))
 first | refine WL.val (.ldsW (cs := [_, _, _, _, _, _, _, _, _, _]) (.of rfl) hS (k := 0) rfl Tryz.isAgg45 Tryz.sizeOf45 rfl) rfl ?_ | refine WL.val (.lds (vs := [_, _, _, _, _, _, _, _, _, _]) (.of rfl) hS (k := 0) rfl Tryz.isAgg45 Tryz.sizeOf45 rfl (fun _ _ h => h)) rfl ?_ | refine WL.val (.ldsW (cs := [_, _, _, _, _, _, _, _, _, _]) (.of rfl) hS (k := 1) rfl Tryz.isAgg45 Tryz.sizeOf45 rfl) rfl ?_ | refine WL.val (.lds (vs := [_, _, _, _, _, _, _, _, _, _]) (.of rfl) hS (k := 1) rfl Tryz.isAgg45 Tryz.sizeOf45 rfl (fun _ _ h => h)) rfl ?_ | refine WL.val (.ldsW (cs := [_, _, _, _, _, _, _, _, _, _]) (.of rfl) hS (k := 2) rfl Tryz.isAgg45 Tryz.sizeOf45 rfl) rfl ?_ | refine WL.val (.lds (vs := [_, _, _, _, _, _, _, _, _, _]) (.of rfl) hS (k := 2) rfl Tryz.isAgg45 Tryz.sizeOf45 rfl (fun _ _ h => h)) rfl ?_ | refine WL.val (.ldsW (cs := [_, _, _, _, _, _, _, _, _, _]) (.of rfl) hS (k := 3) rfl Tryz.isAgg45 Tryz.sizeOf45 rfl) rfl ?_ | refine WL.val (.lds (vs := [_, _, _, _, _, _, _, _, _, _]) (.of rfl) hS (k := 3) rfl Tryz.isAgg45 Tryz.sizeOf45 rfl (fun _ _ h => h)) rfl ?_ | refine WL.val (.ldsW (cs := [_, _, _, _, _, _, _, _, _, _]) (.of rfl) hS (k := 4) rfl Tryz.isAgg45 Tryz.sizeOf45 rfl) rfl ?_ | refine WL.val (.lds (vs := [_, _, _, _, _, _, _, _, _, _]) (.of rfl) hS (k := 4) rfl Tryz.isAgg45 Tryz.sizeOf45 rfl (fun _ _ h => h)) rfl ?_ | refine WL.val (.ldsW (cs := [_, _, _, _, _, _, _, _, _, _]) (.of rfl) hS (k := 5) rfl Tryz.isAgg45 Tryz.sizeOf45 rfl) rfl ?_ | refine WL.val (.lds (vs := [_, _, _, _, _, _, _, _, _, _]) (.of rfl) hS (k := 5) rfl Tryz.isAgg45 Tryz.sizeOf45 rfl (fun _ _ h => h)) rfl ?_ | refine WL.val (.ldsW (cs := [_, _, _, _, _, _, _, _, _, _]) (.of rfl) hS (k := 6) rfl Tryz.isAgg45 Tryz.sizeOf45 rfl) rfl ?_ | refine WL.val (.lds (vs := [_, _, _, _, _, _, _, _, _, _]) (.of rfl) hS (k := 6) rfl Tryz.isAgg45 Tryz.sizeOf45 rfl (fun _ _ h => h)) rfl ?_
 first | refine WL.stA hS (k := 0) rfl (.of rfl) (.of rfl) rfl Tryz.sizeOf45 rfl (by simp) ?_ | refine WL.stA hS (k := 1) rfl (.of rfl) (.of rfl) rfl Tryz.sizeOf45 rfl (by simp) ?_ | refine WL.stA hS (k := 2) rfl (.of rfl) (.of rfl) rfl Tryz.sizeOf45 rfl (by simp) ?_ | refine WL.stA hS (k := 3) rfl (.of rfl) (.of rfl) rfl Tryz.sizeOf45 rfl (by simp) ?_ | refine WL.stA hS (k := 4) rfl (.of rfl) (.of rfl) rfl Tryz.sizeOf45 rfl (by simp) ?_ | refine WL.stA hS (k := 5) rfl (.of rfl) (.of rfl) rfl Tryz.sizeOf45 rfl (by simp) ?_ | refine WL.stA hS (k := 6) rfl (.of rfl) (.of rfl) rfl Tryz.sizeOf45 rfl (by simp) ?_
 clear hS; intro w hS; try dsimp only [List.set] at hS
 try simp only [List.take_zero, List.nil_append, List.append_nil, List.drop_succ_cons, List.drop_zero, List.drop_nil, Nat.zero_add] at hS
 refine .run 1 rfl trivial (.nil (.ret ?_))
 first | refine ret2c (b := _) (cs := [_, _, _, _, _, _, _, _, _, _]) Tryz.results21 hS (k := 0) rfl Tryz.isAgg45 Tryz.sizeOf45 rfl rfl rfl ?_ | refine ret2c (b := _) (cs := [_, _, _, _, _, _, _, _, _, _]) Tryz.results21 hS (k := 1) rfl Tryz.isAgg45 Tryz.sizeOf45 rfl rfl rfl ?_ | refine ret2c (b := _) (cs := [_, _, _, _, _, _, _, _, _, _]) Tryz.results21 hS (k := 2) rfl Tryz.isAgg45 Tryz.sizeOf45 rfl rfl rfl ?_ | refine ret2c (b := _) (cs := [_, _, _, _, _, _, _, _, _, _]) Tryz.results21 hS (k := 3) rfl Tryz.isAgg45 Tryz.sizeOf45 rfl rfl rfl ?_ | refine ret2c (b := _) (cs := [_, _, _, _, _, _, _, _, _, _]) Tryz.results21 hS (k := 4) rfl Tryz.isAgg45 Tryz.sizeOf45 rfl rfl rfl ?_ | refine ret2c (b := _) (cs := [_, _, _, _, _, _, _, _, _, _]) Tryz.results21 hS (k := 5) rfl Tryz.isAgg45 Tryz.sizeOf45 rfl rfl rfl ?_ | refine ret2c (b := _) (cs := [_, _, _, _, _, _, _, _, _, _]) Tryz.results21 hS (k := 6) rfl Tryz.isAgg45 Tryz.sizeOf45 rfl rfl rfl ?_
 refine ⟨_, rfl, ?_, Sat.box (T := wdT p _) (a, c, ma, mc) ?_⟩
 ·rw [aliveW, if_neg (by rw [hb39]; decide)]; rfl
 replace hS := ((hS.drop (k := 2) rfl).drop (k := 2) rfl).pick 2 rfl
 try dsimp only [List.eraseIdx] at hS
 exact hS
end Go.Proofs.YtadhiihnnkcagaaGreatDoor
namespace Go.Proofs.YtadhiihnnkcagaaGreatDoor
open Gk Ul Pc Tk Tr
set_option linter.unusedVariables false
set_option linter.unusedSimpArgs false
theorem rec_short {r : Rec} (h : rightR r = true) : r.name.length ≤ 23 ∧ r.parent.length ≤ 23 := by
 unfold rightR at h
 simp only [Bool.and_eq_true] at h
 obtain ⟨⟨_, h1⟩, h2⟩ := h
 constructor
 ·unfold isT at h1
  cases hp : parseT r.name with
  | none => rw [hp] at h1; cases h1
  | some x => exact (parse_some (k := x.1) (d := x.2) hp).2.2.2.1
 ·unfold parentOk at h2
  split at h2
  ·rename_i e; rw [e]; simp
  ·cases hp : parseT r.parent with
   | none => rw [hp] at h2; cases h2
   | some x => exact (parse_some (k := x.1) (d := x.2) hp).2.2.2.1
theorem getD_case {l : List Rec} (hw : Wf l) (name : List UInt8) : (get l name = none ∧ getD l name = r0) ∨ (get l name = some (getD l name) ∧ rightR (getD l name) = true ∧ (getD l name).name = name) := by
 rcases Tr.get_at l name with ⟨_, h⟩ | ⟨j, r, _, h2, h3, h4⟩
 ·exact .inl ⟨h, by rw [getD, h]; rfl⟩
 ·have e : getD l name = r := by rw [getD, h4]; rfl
  exact .inr ⟨by rw [e]; exact h4, by rw [e]; exact hw.right r (List.mem_of_getElem? h2), by rw [e]; exact h3⟩
theorem getD_short {l : List Rec} (hw : Wf l) (name : List UInt8) : (getD l name).name.length ≤ 23 ∧ (getD l name).parent.length ≤ 23 ∧ 0 ≤ (getD l name).uses ∧ (getD l name).uses ≤ 255 := by
 rcases getD_case hw name with ⟨_, e⟩ | ⟨_, h, _⟩
 ·rw [e]; decide
 ·have h1 := rec_short h
  have h2 := right_times h
  exact ⟨h1.1, h1.2, h2.2.2⟩
theorem FindJ_any (s : List UInt8) (hs : s.length ≤ 1000000) (p : Wp) (B w : World) (I : Im) (hI : WpOk I p) (As : List Assn) (hS : Sat B w I As) :
  Calls Tryz.prog 40 [.pointer (some p.pr), S s].toArray w (Ret fun v w' => ∃ J ra rc, Le I J ∧ v = .tuple #[.agg (svCells (findR p.lo s).1 ra rc).toArray, S (findR p.lo s).2.1, I64 (((findR p.lo s).2.2 : Nat) : Int)] ∧ (findR p.lo s).1.rel.length ≤ rc ∧ RS J ra 1 (findR p.lo s).1.rel.length ((findR p.lo s).1.rel.map S) ∧ Sat B w' J As) := by
 obtain ⟨a, c, E, h1, h2, h3⟩ := hI.reg
 refine (RegFind_any p.pr p.lo hI.lo hI.rel s hs a c E B w I hI.known h1 h3 As hS).mono fun e w' ⟨v, he, J, u, cs, n, e2, hJ, hv, ⟨ra, rc, hcs, h4, h5⟩, hf, hS⟩ => ⟨v, he, J, ra, rc, hJ, ?_⟩
 rw [hf]; subst hcs
 exact ⟨hv, h4, h5, hS⟩
def putW (ω : Wd) (r : Rec) : Wd := { ω with l := put ω.l r }
theorem putW_ok {ω : Wd} (h : WdOk ω) (r : Rec) : WdOk (putW ω r) := ⟨by show (put ω.l r).length ≤ 64; rw [put_length]; exact h.len, h.wf.put, h.D, h.now, h.room⟩
theorem aliveW_short {ps : Nat → Int} {ω : Wd} (h : WdOk ω) (name : List UInt8) (kind : Int) : (aliveW ps ω name kind).1.name.length ≤ 23 ∧ (aliveW ps ω name kind).1.parent.length ≤ 23 ∧ 0 ≤ (aliveW ps ω name kind).1.uses ∧ (aliveW ps ω name kind).1.uses ≤ 255 := by
 unfold aliveW
 split
 ·decide
 ·exact getD_short h.wf name
end Go.Proofs.YtadhiihnnkcagaaGreatDoor
namespace Go.Proofs.YtadhiihnnkcagaaGreatDoor
open Gk Ul Pc Tk Tr
set_option linter.unusedVariables false
set_option linter.unusedSimpArgs false
theorem bld52_41 : Bld Tryz.prog 52 [(0, 1), (1, 1), (2, 1), (3, 1), (4, 21), (25, 1)] [.pointer none, .pointer none, .pointer none, .pointer none, .int .i64 0, .int .i64 0, .int .i64 0, .int .i64 0, .int .i64 0, .int .i64 0, .int .i64 0, .int .i64 0, .int .i64 0, .int .i64 0, .int .i64 0, .int .i64 0, .int .i64 0, .int .i64 0, .int .i64 0, .int .i64 0, .int .i64 0, .int .i64 0, .int .i64 0, .int .i64 0, .int .i64 0, .int .i64 0] := bld_of Tryz.underlying52 Tryz.zeroValue52 (fun w => by simp [go_sem])
structure Cf where
 svs : List Sv
 us : List Us
 ps : Nat → Int
 room : Int
 base : Nat
 factor : Nat
 most : Nat
 tries : Int
def cfCells (c : Cf) (a : Option Addr) (cap : Nat) (ua : Option Addr) (ucap : Nat) : List Value := .slice a c.svs.length cap :: .slice ua c.us.length ucap :: ((psL c.ps).map I64 ++ [I64 c.room, F64 c.base, F64 c.factor, F64 c.most, I64 c.tries])
structure Cf.fits (c : Cf) : Prop where
 svs : c.svs.length ≤ 100000
 ords : ∀ v ∈ ords c.svs, v < 18446744073709551616
 sfit : ∀ s ∈ c.svs, s.urls.length ≤ 9223372036854775807 ∧ s.calls.length ≤ 9223372036854775807 ∧ s.rel.length ≤ 1000000
 us : c.us.length ≤ 9223372036854775807
 ufit : ∀ u ∈ c.us, u.fits
def newE (c : Cf) : Nat := if (wrong c.svs).1 ≠ 0 then (wrong c.svs).1 else if (newU c.us 0 []).1 ≠ 0 then (newU c.us 0 []).1 else if rightP c.ps = false then 1 else 0
theorem newU_ok : ∀ (l : List Us) (i : Nat) (acc : List Us), (newU l i acc).1 = 0 → ∀ u ∈ l, userR u = true
 | [], _, _, _, u, h => by simp at h
 | t :: l, i, acc, h, u, hu => by
  rw [newU] at h
  split at h
  ·cases h
  ·split at h
   ·cases h
   ·rename_i h1
    split at h
    ·cases h
    ·rcases List.mem_cons.1 hu with e | hu
     ·subst e; simpa using h1
     ·exact newU_ok l (i + 1) _ h u hu
theorem mem_pickS {l : List Sv} {D : List Int} (hO : Srt.Ord (kx (ords l)) l.length D) : ∀ s ∈ pickS l D, s ∈ l := by
 intro s hs
 unfold pickS at hs
 obtain ⟨d, hd, rfl⟩ := List.mem_map.1 hs
 obtain ⟨h1, h2⟩ := Srt.upto_mem.1 (hO.2.mem_iff.1 hd)
 rw [List.getD_eq_getElem?_getD, List.getElem?_eq_getElem (by omega)]
 exact List.getElem_mem _
theorem mid_get {A vs C : List Value} {j : Nat} {v : Value} (h : vs[j]? = some v) : (A ++ (vs ++ C))[A.length + j]? = some v := by
 rw [List.getElem?_append_right (by omega), Nat.add_sub_cancel_left, List.getElem?_append_left (List.getElem?_eq_some_iff.1 h).1]
 exact h
def w0 (c : Cf) : Wd := ⟨roomI c.room, [], [], 0⟩
theorem w0_ok (c : Cf) : WdOk (w0 c) := ⟨by simp [w0], Wf.nil, fun d h => by simp [w0] at h, by simp [w0], by unfold w0 roomI; (try dsimp only); omega⟩
set_option maxRecDepth 20000 in
theorem grantNew_any (c : Cf) (hc : c.fits) (a : Option Addr) (cap : Nat) (ua : Option Addr) (ucap : Nat) (B w : World) (I : Im) (hK : Known I) (hP : PreAt I) (hl : SvsAt I a c.svs) (hU : UsrsAt I ua c.us) (As : List Assn) (hS : Sat B w I As) :
  Calls Tryz.prog 41 [.agg (cfCells c a cap ua ucap).toArray].toArray w (Ret fun v w' => ∃ J, Le I J ∧ ((newE c ≠ 0 ∧ v = .tuple #[.pointer none, I64 (newE c : Nat)] ∧ Sat B w' J As) ∨ (newE c = 0 ∧ ∃ p D, Srt.Ord (kx (ords c.svs)) c.svs.length D ∧ p.lo = pickS c.svs D ∧ p.us = c.us ∧ p.ps = c.ps ∧ v = .tuple #[ptr p.wb 0, I64 0] ∧ WpOk J p ∧ Sat B w' J (wdA p (w0 c) :: As)))) := by
 refine calls Tryz.func41 rfl Tryz.ntmps41 rfl (.seq (.region (.boxA (cs := [_, _, _, _, _, _, _, _, _, _, _, _, _, _, _, _, _, _, _, _, _, _, _, _, _, _, _, _]) hS (.of rfl) rfl ?_)))
 clear hS; intro b1 w hS
 refine .run 2 rfl trivial (.nil (.seq (.region ?_)))
 first | refine WL.val (.fieldAddr 0 (.of rfl) Tryz.underlying34 rfl rfl Tryz.sizeOf27 rfl) rfl ?_ | refine WL.val (.fieldAddrI 0 (.of rfl) Tryz.underlying34 rfl rfl Tryz.sizeOf27 rfl) rfl ?_
 refine .val (.ld (.of rfl) hS (k := 0) rfl Tryz.isAgg27 rfl) rfl (.call Tryz.func89 rfl (evs_cons (.of rfl) evs_nil) rfl (New_any a cap c.svs hc.svs hc.ords hc.sfit B _ I hl _ hS) ?_)
 clear hS
 rintro v w ⟨J, hJ, hS, hor⟩
 obtain ⟨pv, e9, i9, rfl, he9, hz9⟩ : ∃ (pv : Value) (e9 i9 : Nat), v = .tuple #[pv, I64 (e9 : Nat), I64 (i9 : Nat)] ∧ e9 = (wrong c.svs).1 ∧ (e9 = 0 → ∃ pr D, pv = .pointer (some pr) ∧ Srt.Ord (kx (ords c.svs)) c.svs.length D ∧ RegAt J pr (pickS c.svs D)) := by
  rcases hor with ⟨h1, h2⟩ | ⟨h1, pr, D, h2, h3, h4⟩
  ·exact ⟨_, _, _, h2, rfl, fun h => absurd h h1⟩
  ·exact ⟨_, 0, 0, h2, h1.symm, fun _ => ⟨pr, D, rfl, h3, h4⟩⟩
 refine .run 7 rfl trivial (.nil (.seq (.seq (.region (.run 2 rfl trivial (.nil ?_))))))
 refine WC.cond rfl (fun hb17 => ?_) (fun hb17 => ?_)
 ·
  have hc17 := hb17; try simp only [Gk.cs0] at hc17
  refine .seq (.region (.run 3 rfl trivial (.nil (.ret (ret2 Tryz.results41 rfl rfl ?_)))))
  have hne : (wrong c.svs).1 ≠ 0 := by rw [← he9]; simpa using hb17
  have hE : newE c = e9 := by rw [newE, if_pos hne, he9]
  exact ⟨_, rfl, J, hJ, .inl ⟨by rw [hE, he9]; exact hne, by rw [hE]; rfl, hS.drop (k := 0) rfl⟩⟩
 have hc17 := hb17; try simp only [Gk.cs0] at hc17
 refine .skip (.seq (.region ?_))
 first | refine WL.val (.fieldAddr 1 (.of rfl) Tryz.underlying34 rfl rfl Tryz.sizeOf28 rfl) rfl ?_ | refine WL.val (.fieldAddrI 1 (.of rfl) Tryz.underlying34 rfl rfl Tryz.sizeOf28 rfl) rfl ?_
 refine .val (.ld (.of rfl) hS (k := 0) rfl Tryz.isAgg28 rfl) rfl (.call Tryz.func90 rfl (evs_cons (.of rfl) evs_nil) rfl (usersNew_any ua ucap c.us hc.us hc.ufit B _ J (hU.mono hJ) _ hS) ?_)
 clear hS
 rintro v w ⟨J2, hJ2, hor2, hS⟩
 have hw0 : (wrong c.svs).1 = 0 := by rw [← he9]; simpa using hb17
 obtain ⟨pr, D, rfl, hOrd, hreg⟩ := hz9 (by omega)
 obtain ⟨uv, f9, j9, rfl, hf9, hy9⟩ : ∃ (uv : Value) (f9 j9 : Nat), v = .tuple #[uv, I64 (f9 : Nat), I64 (j9 : Nat)] ∧ f9 = (newU c.us 0 []).1 ∧ (f9 = 0 → ∃ ub, uv = ptr ub 0 ∧ TabAt J2 ub c.us) := by
  rcases hor2 with ⟨h1, ub, h2, h3⟩ | ⟨h1, h2⟩
  ·exact ⟨_, 0, 0, h2, h1.symm, fun _ => ⟨ub, rfl, h3⟩⟩
  ·exact ⟨_, _, _, h2, rfl, fun h => absurd h h1⟩
 refine .run 7 rfl trivial (.nil (.seq (.seq (.region (.run 2 rfl trivial (.nil ?_))))))
 refine WC.cond rfl (fun hb27 => ?_) (fun hb27 => ?_)
 ·
  have hc27 := hb27; try simp only [Gk.cs0] at hc27
  refine .seq (.region (.run 3 rfl trivial (.nil (.ret (ret2 Tryz.results41 rfl rfl ?_)))))
  have hne : (newU c.us 0 []).1 ≠ 0 := by rw [← hf9]; simpa using hb27
  have hE : newE c = f9 := by rw [newE, if_neg (by rw [hw0]; decide), if_pos hne, hf9]
  exact ⟨_, rfl, J2, hJ.trans hJ2, .inl ⟨by rw [hE, hf9]; exact hne, by rw [hE]; rfl, hS.drop (k := 0) rfl⟩⟩
 have hc27 := hb27; try simp only [Gk.cs0] at hc27
 refine .skip (.seq (.seq (.region ?_)))
 first | refine WL.val (.fieldAddr 2 (.of rfl) Tryz.underlying34 rfl rfl Tryz.sizeOf31 rfl) rfl ?_ | refine WL.val (.fieldAddrI 2 (.of rfl) Tryz.underlying34 rfl rfl Tryz.sizeOf31 rfl) rfl ?_
 refine .val (.lds (vs := [I64 (c.ps 0), I64 (c.ps 1), I64 (c.ps 2), I64 (c.ps 3), I64 (c.ps 4), I64 (c.ps 5), I64 (c.ps 6), I64 (c.ps 7), I64 (c.ps 8), I64 (c.ps 9), I64 (c.ps 10), I64 (c.ps 11), I64 (c.ps 12), I64 (c.ps 13), I64 (c.ps 14), I64 (c.ps 15), I64 (c.ps 16), I64 (c.ps 17), I64 (c.ps 18), I64 (c.ps 19), I64 (c.ps 20)]) (.of rfl) hS (k := 0) rfl Tryz.isAgg31 Tryz.sizeOf31 rfl (fun j v hj => mid_get (A := [.slice a c.svs.length cap, .slice ua c.us.length ucap]) (C := [I64 c.room, F64 c.base, F64 c.factor, F64 c.most, I64 c.tries]) hj)) rfl (.call Tryz.func91 rfl (evs_cons (.of rfl) evs_nil) rfl (rightP_any c.ps B _ J2 _ hS) ?_)
 clear hS
 rintro _ w ⟨rfl, hS⟩
 have hu0 : (newU c.us 0 []).1 = 0 := by rw [← hf9]; simpa using hb27
 obtain ⟨ub, rfl, hTab⟩ := hy9 (by omega)
 refine .run 1 rfl trivial (.nil ?_)
 refine WC.cond rfl (fun hb32 => ?_) (fun hb32 => ?_)
 ·
  have hc32 := hb32; try simp only [Gk.cs0] at hc32
  refine .seq (.region (.run 2 rfl trivial (.nil (.ret (ret2 Tryz.results41 rfl rfl ?_)))))
  have hE : newE c = 1 := by rw [newE, if_neg (by rw [hw0]; decide), if_neg (by rw [hu0]; decide), if_pos (by simpa using hb32)]
  exact ⟨_, rfl, J2, hJ.trans hJ2, .inl ⟨by rw [hE]; decide, by rw [hE]; rfl, hS.drop (k := 0) rfl⟩⟩
 have hc32 := hb32; try simp only [Gk.cs0] at hc32
 refine .skip (.seq (.drawn (fun w => ∃ R, Sat B w J2 (blk b1 [.slice a c.svs.length cap, .slice ua c.us.length ucap, I64 (c.ps 0), I64 (c.ps 1), I64 (c.ps 2), I64 (c.ps 3), I64 (c.ps 4), I64 (c.ps 5), I64 (c.ps 6), I64 (c.ps 7), I64 (c.ps 8), I64 (c.ps 9), I64 (c.ps 10), I64 (c.ps 11), I64 (c.ps 12), I64 (c.ps 13), I64 (c.ps 14), I64 (c.ps 15), I64 (c.ps 16), I64 (c.ps 17), I64 (c.ps 18), I64 (c.ps 19), I64 (c.ps 20), I64 c.room, F64 c.base, F64 c.factor, F64 c.most, I64 c.tries] 34 :: R)) (fun j => !([].contains j)) (by kernel_rfl) ?_))
 replace hS := hS.drew; generalize w.drew = w at hS ⊢
 have hH : ∃ R, Sat B w J2 (blk b1 [.slice a c.svs.length cap, .slice ua c.us.length ucap, I64 (c.ps 0), I64 (c.ps 1), I64 (c.ps 2), I64 (c.ps 3), I64 (c.ps 4), I64 (c.ps 5), I64 (c.ps 6), I64 (c.ps 7), I64 (c.ps 8), I64 (c.ps 9), I64 (c.ps 10), I64 (c.ps 11), I64 (c.ps 12), I64 (c.ps 13), I64 (c.ps 14), I64 (c.ps 15), I64 (c.ps 16), I64 (c.ps 17), I64 (c.ps 18), I64 (c.ps 19), I64 (c.ps 20), I64 c.room, F64 c.base, F64 c.factor, F64 c.most, I64 c.tries] 34 :: R) := ⟨_, (hS.pick 0 rfl)⟩
 refine WD.takeP (i := 0) rfl (by kernel_rfl) (by kernel_rfl) (by kernel_rfl) (fun w => (by first | exact .fieldAddr 23 (.of rfl) Tryz.underlying34 rfl rfl Tryz.sizeOf3 rfl | exact .fieldAddrI 23 (.of rfl) Tryz.underlying34 rfl rfl Tryz.sizeOf3 rfl)) rfl ?_
 refine .take (i := 1) rfl (by kernel_rfl) (by kernel_rfl) (by kernel_rfl) (by kernel_rfl) hH (fun w ⟨R, hS⟩ => (.ld (.of rfl) hS (k := 0) rfl Tryz.isAgg3 rfl)) rfl (.takeP (i := 4) rfl (by kernel_rfl) (by kernel_rfl) (by kernel_rfl) (fun w => (.move (.of rfl))) rfl (.takeP (i := 5) rfl (by kernel_rfl) (by kernel_rfl) (by kernel_rfl) (fun w => (.move (.of rfl))) rfl ?_))
 refine WD.takeP (i := 6) rfl (by kernel_rfl) (by kernel_rfl) (by kernel_rfl) (fun w => (by first | exact .fieldAddr 2 (.of rfl) Tryz.underlying34 rfl rfl Tryz.sizeOf31 rfl | exact .fieldAddrI 2 (.of rfl) Tryz.underlying34 rfl rfl Tryz.sizeOf31 rfl)) rfl ?_
 refine .take (i := 7) rfl (by kernel_rfl) (by kernel_rfl) (by kernel_rfl) (by kernel_rfl) hH (fun w ⟨R, hS⟩ => .lds (vs := [I64 (c.ps 0), I64 (c.ps 1), I64 (c.ps 2), I64 (c.ps 3), I64 (c.ps 4), I64 (c.ps 5), I64 (c.ps 6), I64 (c.ps 7), I64 (c.ps 8), I64 (c.ps 9), I64 (c.ps 10), I64 (c.ps 11), I64 (c.ps 12), I64 (c.ps 13), I64 (c.ps 14), I64 (c.ps 15), I64 (c.ps 16), I64 (c.ps 17), I64 (c.ps 18), I64 (c.ps 19), I64 (c.ps 20)]) (.of rfl) hS (k := 0) rfl Tryz.isAgg31 Tryz.sizeOf31 rfl (fun j v hj => mid_get (A := [.slice a c.svs.length cap, .slice ua c.us.length ucap]) (C := [I64 c.room, F64 c.base, F64 c.factor, F64 c.most, I64 c.tries]) hj)) rfl ?_
 refine WD.branch [2] (by kernel_rfl) rfl (WO.cons rfl ?_ (WO.nil))
 refine .call Tryz.func92 rfl (evs_cons (.of rfl) evs_nil) rfl (treeNew_any c.room B _ J2 _ hS) ?_
 clear hS
 rintro _ w ⟨tb, rfl, hS⟩
 refine .nil ?_
 clear hH
 have hH : ∃ R, Sat B w J2 (blk b1 [.slice a c.svs.length cap, .slice ua c.us.length ucap, I64 (c.ps 0), I64 (c.ps 1), I64 (c.ps 2), I64 (c.ps 3), I64 (c.ps 4), I64 (c.ps 5), I64 (c.ps 6), I64 (c.ps 7), I64 (c.ps 8), I64 (c.ps 9), I64 (c.ps 10), I64 (c.ps 11), I64 (c.ps 12), I64 (c.ps 13), I64 (c.ps 14), I64 (c.ps 15), I64 (c.ps 16), I64 (c.ps 17), I64 (c.ps 18), I64 (c.ps 19), I64 (c.ps 20), I64 c.room, F64 c.base, F64 c.factor, F64 c.most, I64 c.tries] 34 :: R) := ⟨_, (hS.pick 2 rfl)⟩
 refine And.intro (by intro _ _; exact hH) ?_
 refine WD.branch [3] (by kernel_rfl) rfl (WO.cons rfl ?_ (WO.nil))
 refine .call Tryz.func93 rfl (evs_cons (.of rfl) evs_nil) rfl (mintNew_any B _ J2 _ hS) ?_
 clear hS
 rintro _ w ⟨mb, rfl, hS⟩
 refine .nil ?_
 clear hH
 have hH : ∃ R, Sat B w J2 (blk b1 [.slice a c.svs.length cap, .slice ua c.us.length ucap, I64 (c.ps 0), I64 (c.ps 1), I64 (c.ps 2), I64 (c.ps 3), I64 (c.ps 4), I64 (c.ps 5), I64 (c.ps 6), I64 (c.ps 7), I64 (c.ps 8), I64 (c.ps 9), I64 (c.ps 10), I64 (c.ps 11), I64 (c.ps 12), I64 (c.ps 13), I64 (c.ps 14), I64 (c.ps 15), I64 (c.ps 16), I64 (c.ps 17), I64 (c.ps 18), I64 (c.ps 19), I64 (c.ps 20), I64 c.room, F64 c.base, F64 c.factor, F64 c.most, I64 c.tries] 34 :: R) := ⟨_, (hS.pick 4 rfl)⟩
 refine And.intro (by intro _ _; exact hH) ?_
 refine .takeP (i := 8) rfl (by kernel_rfl) (by kernel_rfl) (by kernel_rfl) (fun w => (.build (cs := [_, _, _, _, _, _, _, _, _, _, _, _, _, _, _, _, _, _, _, _, _, _, _, _, _, _]) (parts_cons (.of rfl) (parts_cons (.of rfl) (parts_cons (.of rfl) (parts_cons (.of rfl) (parts_cons (.of rfl) parts_nil))))) bld52_41 rfl)) rfl ?_
 refine WD.branch [9] (by kernel_rfl) rfl (WO.cons rfl ?_ (WO.nil))
 refine .boxA (cs := [_, _, _, _, _, _, _, _, _, _, _, _, _, _, _, _, _, _, _, _, _, _, _, _, _, _]) hS (.of rfl) rfl ?_
 clear hS; intro b42 w hS
 refine .nil ?_
 clear hH
 have hH : ∃ R, Sat B w J2 (blk b1 [.slice a c.svs.length cap, .slice ua c.us.length ucap, I64 (c.ps 0), I64 (c.ps 1), I64 (c.ps 2), I64 (c.ps 3), I64 (c.ps 4), I64 (c.ps 5), I64 (c.ps 6), I64 (c.ps 7), I64 (c.ps 8), I64 (c.ps 9), I64 (c.ps 10), I64 (c.ps 11), I64 (c.ps 12), I64 (c.ps 13), I64 (c.ps 14), I64 (c.ps 15), I64 (c.ps 16), I64 (c.ps 17), I64 (c.ps 18), I64 (c.ps 19), I64 (c.ps 20), I64 c.room, F64 c.base, F64 c.factor, F64 c.most, I64 c.tries] 34 :: R) := ⟨_, (hS.pick 5 rfl)⟩
 refine And.intro (by intro _ _; exact hH) ?_
 refine .takeP (i := 10) rfl (by kernel_rfl) (by kernel_rfl) (by kernel_rfl) (fun w => (.assign (.of rfl))) rfl (.takeP (i := 11) rfl (by kernel_rfl) (by kernel_rfl) (by kernel_rfl) (fun w => (.assign (.of rfl))) rfl (.done (by kernel_rfl) (.ret (ret2 Tryz.results41 rfl rfl ?_))))
 have hE : newE c = 0 := by rw [newE, if_neg (by rw [hw0]; decide), if_neg (by rw [hu0]; decide), if_neg (by simpa using hb32)]
 have hp := mem_pickS hOrd
 refine ⟨_, rfl, J2, hJ.trans hJ2, .inr ⟨hE, ⟨b42, tb, mb, ub, pr, pickS c.svs D, c.us, c.ps⟩, D, hOrd, rfl, rfl, rfl, rfl, ⟨hreg.mono hJ2, hTab, ?_, fun s hs => (hc.sfit s (hp s hs)).2.2, hc.ufit, fun u hu => userR_attrs (newU_ok c.us 0 [] hu0 u hu), (hK.mono hJ).mono hJ2, (hP.mono hJ).mono hJ2⟩, ?_⟩⟩
 ·show (pickS c.svs D).length ≤ 100000
  rw [pickS, List.length_map, hOrd.len]; exact hc.svs
 ·exact Sat.box (T := wdT ⟨b42, tb, mb, ub, pr, pickS c.svs D, c.us, c.ps⟩ (w0 c)) (none, 0, none, 0) ((((((hS.pick 2 rfl).pick 2 rfl).pick 4 rfl).pick 4 rfl).pick 4 rfl).drop (k := 5) rfl)
end Go.Proofs.YtadhiihnnkcagaaGreatDoor
namespace Go.Proofs.YtadhiihnnkcagaaGreatDoor
open Gk Ul Pc Tk Tr
set_option linter.unusedVariables false
set_option linter.unusedSimpArgs false
theorem info9_31 : Tryz.prog.info? 9 = some Tryz.t9 := by kernel_rfl
theorem bld45_31 : Bld Tryz.prog 45 [(0, 1), (1, 1), (2, 1), (3, 1), (4, 1), (5, 1), (6, 1), (7, 1), (8, 1), (9, 1)] [.int .i64 0, S [], S [], S [], S [], S [], .int .i64 0, .int .i64 0, .int .i64 0, .bool false] := bld_of Tryz.underlying45 Tryz.zeroValue45 (fun w => by simp [go_sem])
def proxiesT (l : List Rec) (name : List UInt8) : List (List UInt8) := ((path l name).filter fun r => (r.kind : Int) == 4).map Rec.url
theorem Proxies_any (p : Wp) (ω : Wd) (a : Option Addr) (c : Nat) (hlen : ω.l.length ≤ 64) (hwf : Wf ω.l) (name : List UInt8) (B w : World) (I : Im) (As : List Assn) (hS : Sat B w I (blk p.wb (wdC p ω) 52 :: blk p.tb [I64 ω.room, .slice a ω.l.length c] 127 :: Vec 45 10 (.slice a ω.l.length c) ω.l.length (rowsR ω.l) :: As)) :
  Calls Tryz.prog 31 [ptr p.wb 0, S name].toArray w (Ret fun v w' => ∃ J ka kc, v = .slice ka (proxiesT ω.l name).length kc ∧ Le I J ∧ (proxiesT ω.l name).length ≤ kc ∧ RS J ka 1 (proxiesT ω.l name).length ((proxiesT ω.l name).map S) ∧ Sat B w' J (blk p.wb (wdC p ω) 52 :: blk p.tb [I64 ω.room, .slice a ω.l.length c] 127 :: Vec 45 10 (.slice a ω.l.length c) ω.l.length (rowsR ω.l) :: As)) := by
 refine calls Tryz.func31 rfl Tryz.ntmps31 rfl (.seq (.region (.run 1 rfl trivial (.nil (.seq (.region (.run 1 rfl trivial (.nil (.seq (.seq ?_))))))))))
 replace hS := hS.vecNil 9 1
 refine .region (.run 2 rfl trivial ?_)
 first | refine WL.val (.fieldAddr 0 (.of rfl) Tryz.underlying52 rfl rfl Tryz.sizeOf47 rfl) rfl ?_ | refine WL.val (.fieldAddrI 0 (.of rfl) Tryz.underlying52 rfl rfl Tryz.sizeOf47 rfl) rfl ?_
 first | refine WL.val (.ld (.of rfl) hS (k := 0) rfl Tryz.isAgg47 rfl) rfl ?_ | refine WL.val (.ld (.of rfl) hS (k := 1) rfl Tryz.isAgg47 rfl) rfl ?_ | refine WL.val (.ld (.of rfl) hS (k := 2) rfl Tryz.isAgg47 rfl) rfl ?_ | refine WL.val (.ld (.of rfl) hS (k := 3) rfl Tryz.isAgg47 rfl) rfl ?_
 refine .run 1 rfl trivial (.call Tryz.func80 rfl (evs_cons (.of rfl) (evs_cons (.of rfl) evs_nil)) rfl (Path_any p.tb ω.room a c ω.l (by omega) hwf name B _ I _ ((hS.pick 3 rfl).pick 3 rfl)) ?_)
 clear hS
 rintro _ w ⟨J, pa, pc, rfl, hJ, hpc, hRS, hS⟩
 have hpl := path_le hwf name
 replace hS := (hS.pick 3 rfl).pick 3 rfl
 try dsimp only [List.eraseIdx] at hS
 refine .run 2 rfl ⟨⟨_, Tryz.underlying41⟩, trivial⟩ (.nil (.block (.loop (σ := Nat × Value) (fun ⟨i, kv⟩ => [(0, ptr p.wb 0), (5, kv), (15, .slice pa (path ω.l name).length pc), (16, I64 ((path ω.l name).length : Nat)), (17, I64 (i : Nat))]) (fun ⟨i, kv⟩ w => i ≤ (path ω.l name).length ∧ Sat B w J (Vec 9 1 kv ((((path ω.l name).take i).filter fun r => (r.kind : Int) == 4).map Rec.url).length (((((path ω.l name).take i).filter fun r => (r.kind : Int) == 4).map Rec.url).map S) :: blk p.wb (wdC p ω) 52 :: blk p.tb [I64 ω.room, .slice a ω.l.length c] 127 :: Vec 45 10 (.slice a ω.l.length c) ω.l.length (rowsR ω.l) :: As)) (fun ⟨i, kv⟩ => (path ω.l name).length - i) (0, .slice none 0 0) ⟨rfl, rfl, rfl, rfl, rfl, trivial⟩ ⟨Nat.zero_le _, hS⟩ ?_)))
 rintro ⟨i, kv⟩ w ⟨hi, hS⟩
 change WC _ _ _ _ [(0, ptr p.wb 0), (5, kv), (15, .slice pa (path ω.l name).length pc), (16, I64 ((path ω.l name).length : Nat)), (17, I64 (i : Nat))] w
 refine .seq (.region (.run 1 rfl trivial (.nil (.seq ?_))))
 refine WC.cond rfl (fun hb18 => ?_) (fun hb18 => ?_)
 ·
  have hc18 := hb18; try simp only [Gk.cs0] at hc18
  refine .skip (.seq (.block (.seq ?_)))
  obtain ⟨r, hr⟩ : ∃ r, (path ω.l name)[i]? = some r := ⟨_, List.getElem?_eq_getElem (by omega)⟩
  obtain ⟨q, hq⟩ := path_mem (List.mem_of_getElem? hr)
  have hgd : getD ω.l r.name = r := by rw [getD, hwf.get_ hq]; rfl
  obtain ⟨pp, rfl, hA⟩ := hRS.2 (by omega)
  have hnm : ((path ω.l name).map fun r => S r.name)[i]? = some (S r.name) := by rw [List.getElem?_map, hr]; rfl
  have hfl := List.length_filter_le (fun r : Rec => (r.kind : Int) == 4) ((path ω.l name).take i)
  rw [List.length_take] at hfl
  have hol : ((((path ω.l name).take i).filter fun r => (r.kind : Int) == 4).map Rec.url).length = (((path ω.l name).take i).filter fun r => (r.kind : Int) == 4).length := List.length_map _
  have hsn : ((((path ω.l name).take (i + 1)).filter fun r => (r.kind : Int) == 4).map Rec.url) = ((((path ω.l name).take i).filter fun r => (r.kind : Int) == 4).map Rec.url) ++ ([r].filter fun r => (r.kind : Int) == 4).map Rec.url := by rw [List.take_add_one, hr, Option.toList_some, List.filter_append, List.map_append]
  refine .region ?_
  first | refine WL.val (.indexAddr (.of rfl) (.of rfl) (by omega) (by omega) Tryz.underlying41 Tryz.sizeOf9) rfl ?_ | refine WL.val (.indexAddrI (.of rfl) (.of rfl) (by omega) (by omega) Tryz.underlying41 Tryz.sizeOf9) rfl ?_
  refine WL.val (.ld1 (.of rfl) (by have h9 := cell_at hS hA hnm; simpa using h9) Tryz.isAgg9) rfl ?_
  refine .run 1 rfl trivial (.nil (.seq (.region (.run 2 rfl trivial ?_))))
  first | refine WL.val (.fieldAddr 0 (.of rfl) Tryz.underlying52 rfl rfl Tryz.sizeOf47 rfl) rfl ?_ | refine WL.val (.fieldAddrI 0 (.of rfl) Tryz.underlying52 rfl rfl Tryz.sizeOf47 rfl) rfl ?_
  first | refine WL.val (.ld (.of rfl) hS (k := 0) rfl Tryz.isAgg47 rfl) rfl ?_ | refine WL.val (.ld (.of rfl) hS (k := 1) rfl Tryz.isAgg47 rfl) rfl ?_ | refine WL.val (.ld (.of rfl) hS (k := 2) rfl Tryz.isAgg47 rfl) rfl ?_ | refine WL.val (.ld (.of rfl) hS (k := 3) rfl Tryz.isAgg47 rfl) rfl ?_
  refine .run 1 rfl trivial (.call Tryz.func17 rfl (evs_cons (.of rfl) (evs_cons (.of rfl) evs_nil)) rfl (Get_any p.tb ω.room a c ω.l (by omega) r.name B _ J _ ((hS.pick 3 rfl).pick 3 rfl)) ?_)
  clear hS
  rintro _ w ⟨rfl, hS⟩
  try dsimp only [List.eraseIdx] at hS
  rw [hgd]
  refine .run 3 rfl trivial (.allocA (cs := [_, _, _, _, _, _, _, _, _, _]) hS Tryz.zeroValue45 rfl ?_)
  clear hS; intro b8 w hS
  first | refine WL.stA hS (k := 0) rfl (.of rfl) (.of rfl) rfl Tryz.sizeOf45 rfl (by simp) ?_ | refine WL.stA hS (k := 1) rfl (.of rfl) (.of rfl) rfl Tryz.sizeOf45 rfl (by simp) ?_ | refine WL.stA hS (k := 2) rfl (.of rfl) (.of rfl) rfl Tryz.sizeOf45 rfl (by simp) ?_ | refine WL.stA hS (k := 3) rfl (.of rfl) (.of rfl) rfl Tryz.sizeOf45 rfl (by simp) ?_ | refine WL.stA hS (k := 4) rfl (.of rfl) (.of rfl) rfl Tryz.sizeOf45 rfl (by simp) ?_
  clear hS; intro w hS; try dsimp only [List.set] at hS
  try simp only [List.take_zero, List.nil_append, List.append_nil, List.drop_succ_cons, List.drop_zero, List.drop_nil, Nat.zero_add] at hS
  refine .run 1 rfl trivial (.nil (.seq (.region ?_)))
  first | refine WL.val (.fieldAddr 0 (.of rfl) Tryz.underlying45 rfl rfl Tryz.sizeOf3 rfl) rfl ?_ | refine WL.val (.fieldAddrI 0 (.of rfl) Tryz.underlying45 rfl rfl Tryz.sizeOf3 rfl) rfl ?_
  first | refine WL.val (.ld (.of rfl) hS (k := 0) rfl Tryz.isAgg3 rfl) rfl ?_ | refine WL.val (.ld (.of rfl) hS (k := 1) rfl Tryz.isAgg3 rfl) rfl ?_ | refine WL.val (.ld (.of rfl) hS (k := 2) rfl Tryz.isAgg3 rfl) rfl ?_ | refine WL.val (.ld (.of rfl) hS (k := 3) rfl Tryz.isAgg3 rfl) rfl ?_ | refine WL.val (.ld (.of rfl) hS (k := 4) rfl Tryz.isAgg3 rfl) rfl ?_
  refine .run 1 rfl trivial (.nil ?_)
  refine WC.cond rfl (fun hb32 => ?_) (fun hb32 => ?_)
  ·
   have hc32 := hb32; try simp only [Gk.cs0] at hc32
   refine .region (.run 1 rfl trivial ?_)
   first | refine WL.val (.fieldAddr 5 (.of rfl) Tryz.underlying45 rfl rfl Tryz.sizeOf9 rfl) rfl ?_ | refine WL.val (.fieldAddrI 5 (.of rfl) Tryz.underlying45 rfl rfl Tryz.sizeOf9 rfl) rfl ?_
   first | refine WL.val (.ld (.of rfl) hS (k := 0) rfl Tryz.isAgg9 rfl) rfl ?_ | refine WL.val (.ld (.of rfl) hS (k := 1) rfl Tryz.isAgg9 rfl) rfl ?_ | refine WL.val (.ld (.of rfl) hS (k := 2) rfl Tryz.isAgg9 rfl) rfl ?_ | refine WL.val (.ld (.of rfl) hS (k := 3) rfl Tryz.isAgg9 rfl) rfl ?_ | refine WL.val (.ld (.of rfl) hS (k := 4) rfl Tryz.isAgg9 rfl) rfl ?_
   refine .buildSlice (cs := [_]) hS (parts_cons (.of rfl) parts_nil) Tryz.underlying41 Tryz.sizeOf9 Tryz.zeroValue9 rfl rfl rfl rfl ?_
   clear hS; intro b36 w hS
   first | refine WL.append (size := 1) (bytes := 16) hS (.of rfl) (.of rfl) (k := 0) rfl Tryz.underlying41 info9_31 rfl rfl rfl rfl rfl rfl rfl ⟨by omega, by unfold maxLen; omega⟩ rfl ?_ | refine WL.append (size := 1) (bytes := 16) hS (.of rfl) (.of rfl) (k := 1) rfl Tryz.underlying41 info9_31 rfl rfl rfl rfl rfl rfl rfl ⟨by omega, by unfold maxLen; omega⟩ rfl ?_ | refine WL.append (size := 1) (bytes := 16) hS (.of rfl) (.of rfl) (k := 2) rfl Tryz.underlying41 info9_31 rfl rfl rfl rfl rfl rfl rfl ⟨by omega, by unfold maxLen; omega⟩ rfl ?_ | refine WL.append (size := 1) (bytes := 16) hS (.of rfl) (.of rfl) (k := 3) rfl Tryz.underlying41 info9_31 rfl rfl rfl rfl rfl rfl rfl ⟨by omega, by unfold maxLen; omega⟩ rfl ?_ | refine WL.append (size := 1) (bytes := 16) hS (.of rfl) (.of rfl) (k := 4) rfl Tryz.underlying41 info9_31 rfl rfl rfl rfl rfl rfl rfl ⟨by omega, by unfold maxLen; omega⟩ rfl ?_
   clear hS; intro v37 w hS; try dsimp only [List.set] at hS
   first | obtain ⟨a37, c37, rfl, hcap37, _⟩ := hS.vecSlice (k := 0) (v := v37) rfl | obtain ⟨a37, c37, rfl, hcap37, _⟩ := hS.vecSlice (k := 1) (v := v37) rfl | obtain ⟨a37, c37, rfl, hcap37, _⟩ := hS.vecSlice (k := 2) (v := v37) rfl | obtain ⟨a37, c37, rfl, hcap37, _⟩ := hS.vecSlice (k := 3) (v := v37) rfl | obtain ⟨a37, c37, rfl, hcap37, _⟩ := hS.vecSlice (k := 4) (v := v37) rfl
   refine .run 1 rfl trivial (.nil (.region (.run 2 rfl ⟨⟨by omega, by omega⟩, trivial⟩ (.nil ?_))))
   refine ⟨(i + 1, .slice a37 (((((path ω.l name).take i).filter fun r => (r.kind : Int) == 4).map Rec.url).length + 1) c37), ⟨rfl, rfl, rfl, rfl, rfl, trivial⟩, ⟨by (try dsimp only); omega, ?_⟩, by (try dsimp only); omega⟩
   try dsimp only
   rw [hsn, List.filter_cons, if_pos (by simpa using hb32), List.filter_nil, List.map_cons, List.map_nil, List.map_append, show (((((path ω.l name).take i).filter fun r => (r.kind : Int) == 4).map Rec.url) ++ [r.url]).length = ((((path ω.l name).take i).filter fun r => (r.kind : Int) == 4).map Rec.url).length + 1 from List.length_append]
   exact (((((hS.drop (k := 0) rfl).pick 1 rfl).pick 1 rfl).pick 3 rfl).pick 3 rfl)
  have hc32 := hb32; try simp only [Gk.cs0] at hc32
  refine .skip (.region (.run 2 rfl ⟨⟨by omega, by omega⟩, trivial⟩ (.nil ?_)))
  refine ⟨(i + 1, kv), ⟨rfl, rfl, rfl, rfl, rfl, trivial⟩, ⟨by (try dsimp only); omega, ?_⟩, by (try dsimp only); omega⟩
  try dsimp only
  rw [hsn, List.filter_cons, if_neg (by simpa using hb32), List.filter_nil, List.map_nil, List.append_nil]
  exact (((((hS.drop (k := 0) rfl).pick 1 rfl).pick 1 rfl).pick 3 rfl).pick 3 rfl)
 have hc18 := hb18; try simp only [Gk.cs0] at hc18
 refine .exit (.seq (.region (.run 2 rfl trivial (.nil (.ret (ret1 Tryz.results31 rfl ?_))))))
 have hin : i = (path ω.l name).length := by omega
 subst hin
 rw [List.take_length] at hS
 obtain ⟨ka, kc, rfl, hkc, _⟩ := hS.vecSlice (k := 0) rfl
 obtain ⟨J2, hJ2, hR2, hS⟩ := hS.freezeVec (k := 0) rfl
 exact ⟨_, rfl, J2, ka, kc, rfl, hJ.trans hJ2, hkc, hR2, hS⟩
structure Qr where
 ticket : List UInt8
 service : List UInt8
 renew : Bool
 proxies : Bool
def qrCells (q : Qr) : List Value := [S q.ticket, S q.service, .bool q.renew, .bool q.proxies]
def kindT (s : List UInt8) : Int := match parseT s with
 | some (k, _) => (k : Nat)
 | none => 0
def useW (ps : Nat → Int) (ω : Wd) (q : Qr) : (Rec × Nat) × Wd :=
 if (q.ticket == [] || q.service == []) = true then ((r0, 33), ω)
 else if (kindT q.ticket != 2 && kindT q.ticket != 3) = true then ((r0, 30), ω)
 else if (kindT q.ticket == 3 && !q.proxies) = true then ((r0, 32), ω)
 else if (!(aliveW ps ω q.ticket (kindT q.ticket)).2 || decide (0 < (aliveW ps ω q.ticket (kindT q.ticket)).1.uses)) = true then ((r0, 30), ω)
 else (((aliveW ps ω q.ticket (kindT q.ticket)).1, 0), putW ω (touchR (aliveW ps ω q.ticket (kindT q.ticket)).1 ω.now))
theorem useW_ok {ps : Nat → Int} {ω : Wd} (h : WdOk ω) (q : Qr) : WdOk (useW ps ω q).2 := by
 unfold useW
 repeat' split
 all_goals first | exact h | exact putW_ok h _
theorem useW_short {ps : Nat → Int} {ω : Wd} (h : WdOk ω) (q : Qr) : (useW ps ω q).1.1.service.length ≤ 100 := by
 have key : (aliveW ps ω q.ticket (kindT q.ticket)).1.service.length ≤ 100 := by
  unfold aliveW
  split
  ·decide
  ·rcases getD_case h.wf q.ticket with ⟨_, e⟩ | ⟨_, h2, _⟩
   ·rw [e]; decide
   ·unfold rightR at h2
    simp only [Bool.and_eq_true, decide_eq_true_eq] at h2
    show (getD ω.l q.ticket).service.length ≤ 100
    omega
 unfold useW
 repeat' split
 all_goals first | exact key | exact Nat.zero_le _
theorem parse_kind (s : List UInt8) : ∃ (d : Nat) (b : Bool), (match parseT s with | some (k, d) => Value.tuple #[I64 (k : Nat), U64 (d : Nat), .bool true] | none => .tuple #[I64 0, U64 0, .bool false]) = .tuple #[I64 (kindT s), U64 (d : Nat), .bool b] := by
 unfold kindT
 cases parseT s with
 | none => exact ⟨0, false, rfl⟩
 | some x => exact ⟨x.2, true, rfl⟩
theorem use_any (q : Qr) (hqt : q.ticket.length ≤ 1000000) (p : Wp) (ω : Wd) (hω : WdOk ω) (B w : World) (I : Im) (hI : WpOk I p) (As : List Assn) (hS : Sat B w I (wdA p ω :: As)) :
  Calls Tryz.prog 62 [ptr p.wb 0, .agg (qrCells q).toArray].toArray w (Ret fun v w' => v = .tuple #[.agg (recCells (useW p.ps ω q).1.1).toArray, I64 ((useW p.ps ω q).1.2 : Nat)] ∧ Sat B w' I (wdA p (useW p.ps ω q).2 :: As)) := by
 refine calls Tryz.func62 rfl Tryz.ntmps62 rfl (.seq (.region (.boxA (cs := [_, _, _, _]) hS (.of rfl) rfl ?_)))
 clear hS; intro b3 w hS
 refine .allocA (cs := [_, _, _, _, _, _, _, _, _, _]) hS Tryz.zeroValue45 rfl ?_
 clear hS; intro b4 w hS
 refine .run 1 rfl trivial (.nil (.seq (.seq (.region ?_))))
 first | refine WL.val (.fieldAddr 0 (.of rfl) Tryz.underlying43 rfl rfl Tryz.sizeOf9 rfl) rfl ?_ | refine WL.val (.fieldAddrI 0 (.of rfl) Tryz.underlying43 rfl rfl Tryz.sizeOf9 rfl) rfl ?_
 first | refine WL.val (.ld (.of rfl) hS (k := 0) rfl Tryz.isAgg9 rfl) rfl ?_ | refine WL.val (.ld (.of rfl) hS (k := 1) rfl Tryz.isAgg9 rfl) rfl ?_ | refine WL.val (.ld (.of rfl) hS (k := 2) rfl Tryz.isAgg9 rfl) rfl ?_
 refine .run 2 rfl trivial ?_
 refine WL.gval rfl rfl (fun hg1 => (by first | exact .fieldAddr 1 (.of rfl) Tryz.underlying43 rfl rfl Tryz.sizeOf9 rfl | exact .fieldAddrI 1 (.of rfl) Tryz.underlying43 rfl rfl Tryz.sizeOf9 rfl)) rfl ?_
 refine WL.gval rfl rfl (fun hg1 => (by first | exact (.ld (.gd hg1 rfl) hS (k := 0) rfl Tryz.isAgg9 rfl) | exact (.ld (.gd hg1 rfl) hS (k := 1) rfl Tryz.isAgg9 rfl) | exact (.ld (.gd hg1 rfl) hS (k := 2) rfl Tryz.isAgg9 rfl))) rfl ?_
 refine .gval rfl rfl (fun hg1 => (.eqs (.gd hg1 rfl) (.of rfl))) rfl (.val (.por (.of rfl) (.of rfl) (.of rfl)) rfl (.nil ?_))
 refine WC.cond rfl (fun hb18 => ?_) (fun hb18 => ?_)
 ·
  have hc18 := hb18; try simp only [Gk.cs0] at hc18
  refine .seq (.region (.val (.build (cs := [_, _, _, _, _, _, _, _, _, _]) parts_nil bld45_31 rfl) rfl ?_))
  first | refine WL.stA hS (k := 0) rfl (.of rfl) (.of rfl) rfl Tryz.sizeOf45 rfl (by simp) ?_ | refine WL.stA hS (k := 1) rfl (.of rfl) (.of rfl) rfl Tryz.sizeOf45 rfl (by simp) ?_ | refine WL.stA hS (k := 2) rfl (.of rfl) (.of rfl) rfl Tryz.sizeOf45 rfl (by simp) ?_
  clear hS; intro w hS; try dsimp only [List.set] at hS
  try simp only [List.take_zero, List.nil_append, List.append_nil, List.drop_succ_cons, List.drop_zero, List.drop_nil, Nat.zero_add] at hS
  refine .run 1 rfl trivial (.nil (.ret ?_))
  first | refine ret2c (b := _) (cs := [_, _, _, _, _, _, _, _, _, _]) Tryz.results62 hS (k := 0) rfl Tryz.isAgg45 Tryz.sizeOf45 rfl rfl rfl ?_ | refine ret2c (b := _) (cs := [_, _, _, _, _, _, _, _, _, _]) Tryz.results62 hS (k := 1) rfl Tryz.isAgg45 Tryz.sizeOf45 rfl rfl rfl ?_ | refine ret2c (b := _) (cs := [_, _, _, _, _, _, _, _, _, _]) Tryz.results62 hS (k := 2) rfl Tryz.isAgg45 Tryz.sizeOf45 rfl rfl rfl ?_
  have hE : useW p.ps ω q = ((r0, 33), ω) := by rw [useW, if_pos hb18]
  rw [hE]
  exact ⟨_, rfl, rfl, ((hS.drop (k := 0) rfl).drop (k := 0) rfl)⟩
 have hc18 := hb18; try simp only [Gk.cs0] at hc18
 refine .skip (.seq (.region ?_))
 first | refine WL.val (.fieldAddr 0 (.of rfl) Tryz.underlying43 rfl rfl Tryz.sizeOf9 rfl) rfl ?_ | refine WL.val (.fieldAddrI 0 (.of rfl) Tryz.underlying43 rfl rfl Tryz.sizeOf9 rfl) rfl ?_
 first | refine WL.val (.ld (.of rfl) hS (k := 0) rfl Tryz.isAgg9 rfl) rfl ?_ | refine WL.val (.ld (.of rfl) hS (k := 1) rfl Tryz.isAgg9 rfl) rfl ?_ | refine WL.val (.ld (.of rfl) hS (k := 2) rfl Tryz.isAgg9 rfl) rfl ?_
 refine .call Tryz.func111 rfl (evs_cons (.of rfl) evs_nil) rfl (Parse_any q.ticket hqt B _ I hI.known hI.pre _ hS) ?_
 clear hS
 rintro v w ⟨hv9, hS⟩
 obtain ⟨d9, b99, e9⟩ := parse_kind q.ticket
 have hv8 := hv9.trans e9
 subst hv8
 refine .run 7 rfl trivial (.nil (.seq (.block (.seq (.region (.run 3 rfl trivial (.gval rfl rfl (fun hg1 => (.move (.of rfl))) rfl (.gval rfl rfl (fun hg1 => (.neq (.gd hg1 rfl) (.of rfl))) rfl (.val (.pand (.of rfl) (.of rfl) (.of rfl)) rfl (.run 1 rfl trivial (.nil ?_)))))))))))
 refine WC.cond rfl (fun hb27 => ?_) (fun hb27 => ?_)
 ·
  have hc27 := hb27; try simp only [Gk.cs0] at hc27
  refine .seq (.region (.val (.build (cs := [_, _, _, _, _, _, _, _, _, _]) parts_nil bld45_31 rfl) rfl ?_))
  first | refine WL.stA hS (k := 0) rfl (.of rfl) (.of rfl) rfl Tryz.sizeOf45 rfl (by simp) ?_ | refine WL.stA hS (k := 1) rfl (.of rfl) (.of rfl) rfl Tryz.sizeOf45 rfl (by simp) ?_ | refine WL.stA hS (k := 2) rfl (.of rfl) (.of rfl) rfl Tryz.sizeOf45 rfl (by simp) ?_
  clear hS; intro w hS; try dsimp only [List.set] at hS
  try simp only [List.take_zero, List.nil_append, List.append_nil, List.drop_succ_cons, List.drop_zero, List.drop_nil, Nat.zero_add] at hS
  refine .run 1 rfl trivial (.nil (.ret ?_))
  first | refine ret2c (b := _) (cs := [_, _, _, _, _, _, _, _, _, _]) Tryz.results62 hS (k := 0) rfl Tryz.isAgg45 Tryz.sizeOf45 rfl rfl rfl ?_ | refine ret2c (b := _) (cs := [_, _, _, _, _, _, _, _, _, _]) Tryz.results62 hS (k := 1) rfl Tryz.isAgg45 Tryz.sizeOf45 rfl rfl rfl ?_ | refine ret2c (b := _) (cs := [_, _, _, _, _, _, _, _, _, _]) Tryz.results62 hS (k := 2) rfl Tryz.isAgg45 Tryz.sizeOf45 rfl rfl rfl ?_
  have hE : useW p.ps ω q = ((r0, 30), ω) := by rw [useW, if_neg (by rw [hb18]; decide), if_pos hb27]
  rw [hE]
  exact ⟨_, rfl, rfl, ((hS.drop (k := 0) rfl).drop (k := 0) rfl)⟩
 have hc27 := hb27; try simp only [Gk.cs0] at hc27
 refine .seq (.region (.run 3 rfl trivial ?_))
 refine WL.gval rfl rfl (fun hg1 => (by first | exact .fieldAddr 3 (.of rfl) Tryz.underlying43 rfl rfl Tryz.sizeOf4 rfl | exact .fieldAddrI 3 (.of rfl) Tryz.underlying43 rfl rfl Tryz.sizeOf4 rfl)) rfl ?_
 refine WL.gval rfl rfl (fun hg1 => (by first | exact (.ld (.gd hg1 rfl) hS (k := 0) rfl Tryz.isAgg4 rfl) | exact (.ld (.gd hg1 rfl) hS (k := 1) rfl Tryz.isAgg4 rfl) | exact (.ld (.gd hg1 rfl) hS (k := 2) rfl Tryz.isAgg4 rfl))) rfl ?_
 refine .gval rfl rfl (fun hg1 => (.not (.gd hg1 rfl))) rfl (.val (.pand (.of rfl) (.of rfl) (.of rfl)) rfl (.run 1 rfl trivial (.nil ?_)))
 refine WC.cond rfl (fun hb35 => ?_) (fun hb35 => ?_)
 ·
  have hc35 := hb35; try simp only [Gk.cs0] at hc35
  refine .seq (.region (.val (.build (cs := [_, _, _, _, _, _, _, _, _, _]) parts_nil bld45_31 rfl) rfl ?_))
  first | refine WL.stA hS (k := 0) rfl (.of rfl) (.of rfl) rfl Tryz.sizeOf45 rfl (by simp) ?_ | refine WL.stA hS (k := 1) rfl (.of rfl) (.of rfl) rfl Tryz.sizeOf45 rfl (by simp) ?_ | refine WL.stA hS (k := 2) rfl (.of rfl) (.of rfl) rfl Tryz.sizeOf45 rfl (by simp) ?_
  clear hS; intro w hS; try dsimp only [List.set] at hS
  try simp only [List.take_zero, List.nil_append, List.append_nil, List.drop_succ_cons, List.drop_zero, List.drop_nil, Nat.zero_add] at hS
  refine .run 1 rfl trivial (.nil (.ret ?_))
  first | refine ret2c (b := _) (cs := [_, _, _, _, _, _, _, _, _, _]) Tryz.results62 hS (k := 0) rfl Tryz.isAgg45 Tryz.sizeOf45 rfl rfl rfl ?_ | refine ret2c (b := _) (cs := [_, _, _, _, _, _, _, _, _, _]) Tryz.results62 hS (k := 1) rfl Tryz.isAgg45 Tryz.sizeOf45 rfl rfl rfl ?_ | refine ret2c (b := _) (cs := [_, _, _, _, _, _, _, _, _, _]) Tryz.results62 hS (k := 2) rfl Tryz.isAgg45 Tryz.sizeOf45 rfl rfl rfl ?_
  have hE : useW p.ps ω q = ((r0, 32), ω) := by rw [useW, if_neg (by rw [hb18]; decide), if_neg (by rw [hb27]; decide), if_pos hb35]
  rw [hE]
  exact ⟨_, rfl, rfl, ((hS.drop (k := 0) rfl).drop (k := 0) rfl)⟩
 have hc35 := hb35; try simp only [Gk.cs0] at hc35
 refine .skip (.seq (.region (.run 1 rfl trivial ?_)))
 first | refine WL.val (.fieldAddr 0 (.of rfl) Tryz.underlying43 rfl rfl Tryz.sizeOf9 rfl) rfl ?_ | refine WL.val (.fieldAddrI 0 (.of rfl) Tryz.underlying43 rfl rfl Tryz.sizeOf9 rfl) rfl ?_
 first | refine WL.val (.ld (.of rfl) hS (k := 0) rfl Tryz.isAgg9 rfl) rfl ?_ | refine WL.val (.ld (.of rfl) hS (k := 1) rfl Tryz.isAgg9 rfl) rfl ?_ | refine WL.val (.ld (.of rfl) hS (k := 2) rfl Tryz.isAgg9 rfl) rfl ?_
 refine .run 1 rfl trivial (.call Tryz.func21 rfl (evs_cons (.of rfl) (evs_cons (.of rfl) (evs_cons (.of rfl) evs_nil))) rfl (Alive_any q.ticket (kindT q.ticket) p ω hω B _ I _ (hS.pick 2 rfl)) ?_)
 clear hS
 rintro _ w ⟨rfl, hS⟩
 try dsimp only [List.eraseIdx] at hS
 refine .run 3 rfl trivial (.allocA (cs := [_, _, _, _, _, _, _, _, _, _]) hS Tryz.zeroValue45 rfl ?_)
 clear hS; intro b9 w hS
 first | refine WL.stA hS (k := 0) rfl (.of rfl) (.of rfl) rfl Tryz.sizeOf45 rfl (by simp) ?_ | refine WL.stA hS (k := 1) rfl (.of rfl) (.of rfl) rfl Tryz.sizeOf45 rfl (by simp) ?_ | refine WL.stA hS (k := 2) rfl (.of rfl) (.of rfl) rfl Tryz.sizeOf45 rfl (by simp) ?_ | refine WL.stA hS (k := 3) rfl (.of rfl) (.of rfl) rfl Tryz.sizeOf45 rfl (by simp) ?_
 clear hS; intro w hS; try dsimp only [List.set] at hS
 try simp only [List.take_zero, List.nil_append, List.append_nil, List.drop_succ_cons, List.drop_zero, List.drop_nil, Nat.zero_add] at hS
 refine .run 1 rfl trivial (.nil (.seq (.seq (.region (.run 3 rfl trivial ?_)))))
 refine WL.gval rfl rfl (fun hg1 => (by first | exact .fieldAddr 8 (.of rfl) Tryz.underlying45 rfl rfl Tryz.sizeOf3 rfl | exact .fieldAddrI 8 (.of rfl) Tryz.underlying45 rfl rfl Tryz.sizeOf3 rfl)) rfl ?_
 refine WL.gval rfl rfl (fun hg1 => (by first | exact (.ld (.gd hg1 rfl) hS (k := 0) rfl Tryz.isAgg3 rfl) | exact (.ld (.gd hg1 rfl) hS (k := 1) rfl Tryz.isAgg3 rfl) | exact (.ld (.gd hg1 rfl) hS (k := 2) rfl Tryz.isAgg3 rfl) | exact (.ld (.gd hg1 rfl) hS (k := 3) rfl Tryz.isAgg3 rfl))) rfl ?_
 refine .gval rfl rfl (fun hg1 => (.gtr (.gd hg1 rfl) (.of rfl))) rfl (.val (.por (.of rfl) (.of rfl) (.of rfl)) rfl (.nil ?_))
 refine WC.cond rfl (fun hb58 => ?_) (fun hb58 => ?_)
 ·
  have hc58 := hb58; try simp only [Gk.cs0] at hc58
  refine .seq (.region (.val (.build (cs := [_, _, _, _, _, _, _, _, _, _]) parts_nil bld45_31 rfl) rfl ?_))
  first | refine WL.stA hS (k := 0) rfl (.of rfl) (.of rfl) rfl Tryz.sizeOf45 rfl (by simp) ?_ | refine WL.stA hS (k := 1) rfl (.of rfl) (.of rfl) rfl Tryz.sizeOf45 rfl (by simp) ?_ | refine WL.stA hS (k := 2) rfl (.of rfl) (.of rfl) rfl Tryz.sizeOf45 rfl (by simp) ?_ | refine WL.stA hS (k := 3) rfl (.of rfl) (.of rfl) rfl Tryz.sizeOf45 rfl (by simp) ?_
  clear hS; intro w hS; try dsimp only [List.set] at hS
  try simp only [List.take_zero, List.nil_append, List.append_nil, List.drop_succ_cons, List.drop_zero, List.drop_nil, Nat.zero_add] at hS
  refine .run 1 rfl trivial (.nil (.ret ?_))
  first | refine ret2c (b := _) (cs := [_, _, _, _, _, _, _, _, _, _]) Tryz.results62 hS (k := 0) rfl Tryz.isAgg45 Tryz.sizeOf45 rfl rfl rfl ?_ | refine ret2c (b := _) (cs := [_, _, _, _, _, _, _, _, _, _]) Tryz.results62 hS (k := 1) rfl Tryz.isAgg45 Tryz.sizeOf45 rfl rfl rfl ?_ | refine ret2c (b := _) (cs := [_, _, _, _, _, _, _, _, _, _]) Tryz.results62 hS (k := 2) rfl Tryz.isAgg45 Tryz.sizeOf45 rfl rfl rfl ?_ | refine ret2c (b := _) (cs := [_, _, _, _, _, _, _, _, _, _]) Tryz.results62 hS (k := 3) rfl Tryz.isAgg45 Tryz.sizeOf45 rfl rfl rfl ?_
  have hE : useW p.ps ω q = ((r0, 30), ω) := by rw [useW, if_neg (by rw [hb18]; decide), if_neg (by rw [hb27]; decide), if_neg (by rw [hb35]; decide), if_pos hb58]
  rw [hE]
  exact ⟨_, rfl, rfl, (((hS.drop (k := 0) rfl).drop (k := 1) rfl).drop (k := 1) rfl)⟩
 have hc58 := hb58; try simp only [Gk.cs0] at hc58
 refine .skip (.seq ?_)
 replace hS := (hS.pick 1 rfl)
 try dsimp only [List.eraseIdx] at hS
 obtain ⟨⟨a, c, ma, mc⟩, hS⟩ := Sat.unbox hS
 replace hS : Sat B _ _ (blk p.wb (wdC p ω) 52 :: blk p.tb [I64 ω.room, .slice a ω.l.length c] 127 :: Vec 45 10 (.slice a ω.l.length c) ω.l.length (rowsR ω.l) :: blk p.mb [.slice ma ω.D.length mc] 168 :: VecO 118 (.slice ma ω.D.length mc) (ω.D.map fun d => U64 (d : Nat)) :: _) := hS
 have hlen := hω.len
 have hsh := aliveW_short (ps := p.ps) hω q.ticket (kindT q.ticket)
 refine .drawn (fun w => ∃ R, Sat B w I (blk b9 (recCells (aliveW p.ps ω q.ticket (kindT q.ticket)).1) 45 :: blk p.wb (wdC p ω) 52 :: R)) (fun j => !([].contains j)) (by kernel_rfl) ?_
 replace hS := hS.drew; generalize w.drew = w at hS ⊢
 have hH : ∃ R, Sat B w I (blk b9 (recCells (aliveW p.ps ω q.ticket (kindT q.ticket)).1) 45 :: blk p.wb (wdC p ω) 52 :: R) := ⟨_, ((hS.pick 0 rfl).pick 5 rfl)⟩
 refine .takeP (i := 0) rfl (by kernel_rfl) (by kernel_rfl) (by kernel_rfl) (fun w => (.move (.of rfl))) rfl (.takeP (i := 1) rfl (by kernel_rfl) (by kernel_rfl) (by kernel_rfl) (fun w => (.nilCheck (.of rfl))) rfl ?_)
 refine WD.takeP (i := 2) rfl (by kernel_rfl) (by kernel_rfl) (by kernel_rfl) (fun w => (by first | exact .fieldAddr 0 (.of rfl) Tryz.underlying52 rfl rfl Tryz.sizeOf47 rfl | exact .fieldAddrI 0 (.of rfl) Tryz.underlying52 rfl rfl Tryz.sizeOf47 rfl)) rfl ?_
 refine WD.take (i := 3) rfl (by kernel_rfl) (by kernel_rfl) (by kernel_rfl) (by kernel_rfl) hH (fun w ⟨R, hS⟩ => (by first | exact (.ld (.of rfl) hS (k := 0) rfl Tryz.isAgg47 rfl) | exact (.ld (.of rfl) hS (k := 1) rfl Tryz.isAgg47 rfl))) rfl ?_
 refine WD.take (i := 4) rfl (by kernel_rfl) (by kernel_rfl) (by kernel_rfl) (by kernel_rfl) hH (fun w ⟨R, hS⟩ => (by first | exact (.ldsW (cs := [_, _, _, _, _, _, _, _, _, _]) (.of rfl) hS (k := 0) rfl Tryz.isAgg45 Tryz.sizeOf45 rfl) | exact (.lds (vs := [_, _, _, _, _, _, _, _, _, _]) (.of rfl) hS (k := 0) rfl Tryz.isAgg45 Tryz.sizeOf45 rfl (fun _ _ h => h)) | exact (.ldsW (cs := [_, _, _, _, _, _, _, _, _, _]) (.of rfl) hS (k := 1) rfl Tryz.isAgg45 Tryz.sizeOf45 rfl) | exact (.lds (vs := [_, _, _, _, _, _, _, _, _, _]) (.of rfl) hS (k := 1) rfl Tryz.isAgg45 Tryz.sizeOf45 rfl (fun _ _ h => h)))) rfl ?_
 refine .takeP (i := 5) rfl (by kernel_rfl) (by kernel_rfl) (by kernel_rfl) (fun w => (.move (.of rfl))) rfl (.takeP (i := 6) rfl (by kernel_rfl) (by kernel_rfl) (by kernel_rfl) (fun w => (.nilCheck (.of rfl))) rfl ?_)
 refine WD.takeP (i := 7) rfl (by kernel_rfl) (by kernel_rfl) (by kernel_rfl) (fun w => (by first | exact .fieldAddr 25 (.of rfl) Tryz.underlying52 rfl rfl Tryz.sizeOf3 rfl | exact .fieldAddrI 25 (.of rfl) Tryz.underlying52 rfl rfl Tryz.sizeOf3 rfl)) rfl ?_
 refine WD.take (i := 8) rfl (by kernel_rfl) (by kernel_rfl) (by kernel_rfl) (by kernel_rfl) hH (fun w ⟨R, hS⟩ => (by first | exact (.ld (.of rfl) hS (k := 0) rfl Tryz.isAgg3 rfl) | exact (.ld (.of rfl) hS (k := 1) rfl Tryz.isAgg3 rfl))) rfl ?_
 refine WD.branch [9] (by kernel_rfl) rfl (WO.cons rfl ?_ (WO.nil))
 refine .call Tryz.func96 rfl (evs_cons (.of rfl) (evs_cons (.of rfl) evs_nil)) rfl (Touch_any (aliveW p.ps ω q.ticket (kindT q.ticket)).1 ω.now hsh.2.2.1 hsh.2.2.2 B _ I _ hS) ?_
 clear hS
 rintro _ w ⟨rfl, hS⟩
 refine .nil ?_
 clear hH
 have hH : ∃ R, Sat B w I (blk b9 (recCells (aliveW p.ps ω q.ticket (kindT q.ticket)).1) 45 :: blk p.wb (wdC p ω) 52 :: R) := ⟨_, ((hS.pick 0 rfl).pick 5 rfl)⟩
 refine And.intro (by intro _ _; exact hH) ?_
 refine WD.branch [10] (by kernel_rfl) rfl (WO.cons rfl ?_ (WO.nil))
 refine .call Tryz.func95 rfl (evs_cons (.of rfl) (evs_cons (.of rfl) evs_nil)) rfl (Put_any p.tb ω.room a c ω.l (by omega) (touchR (aliveW p.ps ω q.ticket (kindT q.ticket)).1 ω.now) (Nat.le_trans hsh.1 (by decide)) (Nat.le_trans hsh.2.1 (by decide)) B _ I hI.known hI.pre _ ((hS.pick 2 rfl).pick 2 rfl)) ?_
 clear hS
 rintro _ w ⟨rfl, hS⟩
 try dsimp only [List.eraseIdx] at hS
 refine .nil ?_
 clear hH
 have hH : ∃ R, Sat B w I (blk b9 (recCells (aliveW p.ps ω q.ticket (kindT q.ticket)).1) 45 :: blk p.wb (wdC p ω) 52 :: R) := ⟨_, ((hS.pick 2 rfl).pick 5 rfl)⟩
 refine And.intro (by intro _ _; exact hH) ?_
 refine .done (by kernel_rfl) (.seq (.region ?_))
 first | refine WL.val (.ldsW (cs := [_, _, _, _, _, _, _, _, _, _]) (.of rfl) hS (k := 0) rfl Tryz.isAgg45 Tryz.sizeOf45 rfl) rfl ?_ | refine WL.val (.lds (vs := [_, _, _, _, _, _, _, _, _, _]) (.of rfl) hS (k := 0) rfl Tryz.isAgg45 Tryz.sizeOf45 rfl (fun _ _ h => h)) rfl ?_ | refine WL.val (.ldsW (cs := [_, _, _, _, _, _, _, _, _, _]) (.of rfl) hS (k := 1) rfl Tryz.isAgg45 Tryz.sizeOf45 rfl) rfl ?_ | refine WL.val (.lds (vs := [_, _, _, _, _, _, _, _, _, _]) (.of rfl) hS (k := 1) rfl Tryz.isAgg45 Tryz.sizeOf45 rfl (fun _ _ h => h)) rfl ?_ | refine WL.val (.ldsW (cs := [_, _, _, _, _, _, _, _, _, _]) (.of rfl) hS (k := 2) rfl Tryz.isAgg45 Tryz.sizeOf45 rfl) rfl ?_ | refine WL.val (.lds (vs := [_, _, _, _, _, _, _, _, _, _]) (.of rfl) hS (k := 2) rfl Tryz.isAgg45 Tryz.sizeOf45 rfl (fun _ _ h => h)) rfl ?_ | refine WL.val (.ldsW (cs := [_, _, _, _, _, _, _, _, _, _]) (.of rfl) hS (k := 3) rfl Tryz.isAgg45 Tryz.sizeOf45 rfl) rfl ?_ | refine WL.val (.lds (vs := [_, _, _, _, _, _, _, _, _, _]) (.of rfl) hS (k := 3) rfl Tryz.isAgg45 Tryz.sizeOf45 rfl (fun _ _ h => h)) rfl ?_ | refine WL.val (.ldsW (cs := [_, _, _, _, _, _, _, _, _, _]) (.of rfl) hS (k := 4) rfl Tryz.isAgg45 Tryz.sizeOf45 rfl) rfl ?_ | refine WL.val (.lds (vs := [_, _, _, _, _, _, _, _, _, _]) (.of rfl) hS (k := 4) rfl Tryz.isAgg45 Tryz.sizeOf45 rfl (fun _ _ h => h)) rfl ?_ | refine WL.val (.ldsW (cs := [_, _, _, _, _, _, _, _, _, _]) (.of rfl) hS (k := 5) rfl Tryz.isAgg45 Tryz.sizeOf45 rfl) rfl ?_ | refine WL.val (.lds (vs := [_, _, _, _, _, _, _, _, _, _]) (.of rfl) hS (k := 5) rfl Tryz.isAgg45 Tryz.sizeOf45 rfl (fun _ _ h => h)) rfl ?_ | refine WL.val (.ldsW (cs := [_, _, _, _, _, _, _, _, _, _]) (.of rfl) hS (k := 6) rfl Tryz.isAgg45 Tryz.sizeOf45 rfl) rfl ?_ | refine WL.val (.lds (vs := [_, _, _, _, _, _, _, _, _, _]) (.of rfl) hS (k := 6) rfl Tryz.isAgg45 Tryz.sizeOf45 rfl (fun _ _ h => h)) rfl ?_ | refine WL.val (.ldsW (cs := [_, _, _, _, _, _, _, _, _, _]) (.of rfl) hS (k := 7) rfl Tryz.isAgg45 Tryz.sizeOf45 rfl) rfl ?_ | refine WL.val (.lds (vs := [_, _, _, _, _, _, _, _, _, _]) (.of rfl) hS (k := 7) rfl Tryz.isAgg45 Tryz.sizeOf45 rfl (fun _ _ h => h)) rfl ?_
 first | refine WL.stA hS (k := 0) rfl (.of rfl) (.of rfl) rfl Tryz.sizeOf45 rfl (by simp) ?_ | refine WL.stA hS (k := 1) rfl (.of rfl) (.of rfl) rfl Tryz.sizeOf45 rfl (by simp) ?_ | refine WL.stA hS (k := 2) rfl (.of rfl) (.of rfl) rfl Tryz.sizeOf45 rfl (by simp) ?_ | refine WL.stA hS (k := 3) rfl (.of rfl) (.of rfl) rfl Tryz.sizeOf45 rfl (by simp) ?_ | refine WL.stA hS (k := 4) rfl (.of rfl) (.of rfl) rfl Tryz.sizeOf45 rfl (by simp) ?_ | refine WL.stA hS (k := 5) rfl (.of rfl) (.of rfl) rfl Tryz.sizeOf45 rfl (by simp) ?_ | refine WL.stA hS (k := 6) rfl (.of rfl) (.of rfl) rfl Tryz.sizeOf45 rfl (by simp) ?_ | refine WL.stA hS (k := 7) rfl (.of rfl) (.of rfl) rfl Tryz.sizeOf45 rfl (by simp) ?_
 clear hS; intro w hS; try dsimp only [List.set] at hS
 try simp only [List.take_zero, List.nil_append, List.append_nil, List.drop_succ_cons, List.drop_zero, List.drop_nil, Nat.zero_add] at hS
 refine .run 1 rfl trivial (.nil (.ret ?_))
 first | refine ret2c (b := _) (cs := [_, _, _, _, _, _, _, _, _, _]) Tryz.results62 hS (k := 0) rfl Tryz.isAgg45 Tryz.sizeOf45 rfl rfl rfl ?_ | refine ret2c (b := _) (cs := [_, _, _, _, _, _, _, _, _, _]) Tryz.results62 hS (k := 1) rfl Tryz.isAgg45 Tryz.sizeOf45 rfl rfl rfl ?_ | refine ret2c (b := _) (cs := [_, _, _, _, _, _, _, _, _, _]) Tryz.results62 hS (k := 2) rfl Tryz.isAgg45 Tryz.sizeOf45 rfl rfl rfl ?_ | refine ret2c (b := _) (cs := [_, _, _, _, _, _, _, _, _, _]) Tryz.results62 hS (k := 3) rfl Tryz.isAgg45 Tryz.sizeOf45 rfl rfl rfl ?_ | refine ret2c (b := _) (cs := [_, _, _, _, _, _, _, _, _, _]) Tryz.results62 hS (k := 4) rfl Tryz.isAgg45 Tryz.sizeOf45 rfl rfl rfl ?_ | refine ret2c (b := _) (cs := [_, _, _, _, _, _, _, _, _, _]) Tryz.results62 hS (k := 5) rfl Tryz.isAgg45 Tryz.sizeOf45 rfl rfl rfl ?_ | refine ret2c (b := _) (cs := [_, _, _, _, _, _, _, _, _, _]) Tryz.results62 hS (k := 6) rfl Tryz.isAgg45 Tryz.sizeOf45 rfl rfl rfl ?_ | refine ret2c (b := _) (cs := [_, _, _, _, _, _, _, _, _, _]) Tryz.results62 hS (k := 7) rfl Tryz.isAgg45 Tryz.sizeOf45 rfl rfl rfl ?_
 replace hS := Sat.box (T := wdT p (putW ω (touchR (aliveW p.ps ω q.ticket (kindT q.ticket)).1 ω.now))) (a, c, ma, mc) (((((hS.pick 4 rfl).pick 4 rfl).pick 3 rfl).pick 3 rfl).pick 4 rfl)
 try dsimp only [List.eraseIdx] at hS
 have hE : useW p.ps ω q = (((aliveW p.ps ω q.ticket (kindT q.ticket)).1, 0), putW ω (touchR (aliveW p.ps ω q.ticket (kindT q.ticket)).1 ω.now)) := by rw [useW, if_neg (by rw [hb18]; decide), if_neg (by rw [hb27]; decide), if_neg (by rw [hb35]; decide), if_neg (by rw [hb58]; decide)]
 rw [hE]
 exact ⟨_, rfl, rfl, (((hS.drop (k := 1) rfl).drop (k := 1) rfl).drop (k := 1) rfl)⟩
end Go.Proofs.YtadhiihnnkcagaaGreatDoor
namespace Go.Proofs.YtadhiihnnkcagaaGreatDoor
open Gk Ul Pc Tk Tr
set_option linter.unusedVariables false
set_option linter.unusedSimpArgs false
theorem bld56_58 : Bld Tryz.prog 56 [(0, 1), (1, 1), (2, 1), (3, 1)] [S [], .slice none 0 0, .slice none 0 0, S []] := bld_of Tryz.underlying56 Tryz.zeroValue56 (fun w => by simp [go_sem])
def CODES : List (Int × List UInt8) := [(33, [73, 78, 86, 65, 76, 73, 68, 95, 82, 69, 81, 85, 69, 83, 84]), (30, [73, 78, 86, 65, 76, 73, 68, 95, 84, 73, 67, 75, 69, 84]), (32, [73, 78, 86, 65, 76, 73, 68, 95, 84, 73, 67, 75, 69, 84, 95, 83, 80, 69, 67]), (31, [73, 78, 86, 65, 76, 73, 68, 95, 83, 69, 82, 86, 73, 67, 69]), (36, [85, 78, 65, 85, 84, 72, 79, 82, 73, 90, 69, 68, 95, 83, 69, 82, 86, 73, 67, 69]), (34, [73, 78, 86, 65, 76, 73, 68, 95, 80, 82, 79, 88, 89, 95, 67, 65, 76, 76, 66, 65, 67, 75]), (0, [])]
def INTERNAL : List UInt8 := [73, 78, 84, 69, 82, 78, 65, 76, 95, 69, 82, 82, 79, 82]
def codeT (e : Int) : List UInt8 := (CODES.lookup e).getD INTERNAL
theorem lookup_map {α β γ : Type} [BEq α] (f : β → γ) (k : α) : ∀ l : List (α × β), (l.map fun p => (p.1, f p.2)).lookup k = (l.lookup k).map f
 | [] => rfl
 | (a, b) :: l => by
  rw [List.map_cons, List.lookup, List.lookup]
  cases k == a with
  | true => rfl
  | false => exact lookup_map f k l
theorem codes_any (B w : World) (I : Im) (As : List Assn) (hS : Sat B w I As) :
  Calls Tryz.prog 58 [].toArray w (Ret fun v w' => ∃ mb, v = .map (some mb) ∧ Sat B w' I (mapA I64 mb (CODES.map fun p => (p.1, S p.2)) :: As)) := by
 refine calls Tryz.func58 rfl Tryz.ntmps58 rfl (.seq (.region (.run 1 rfl trivial (.nil (.seq (.region (.mkMap I64 hS rfl ?_)))))))
 clear hS; intro b1 w hS
 refine .mins (kv := []) (key := 33) (val := S [73, 78, 86, 65, 76, 73, 68, 95, 82, 69, 81, 85, 69, 83, 84]) keyI hS (k := 0) rfl (.of rfl) (.of rfl) (.of rfl) rfl Tryz.underlying121 Tryz.underlying22 ?_
 clear hS; intro w hS
 replace hS : Sat B w I (mapA I64 b1 [(33, S [73, 78, 86, 65, 76, 73, 68, 95, 82, 69, 81, 85, 69, 83, 84])] :: As) := hS
 refine .mins (kv := [(33, S [73, 78, 86, 65, 76, 73, 68, 95, 82, 69, 81, 85, 69, 83, 84])]) (key := 30) (val := S [73, 78, 86, 65, 76, 73, 68, 95, 84, 73, 67, 75, 69, 84]) keyI hS (k := 0) rfl (.of rfl) (.of rfl) (.of rfl) rfl Tryz.underlying121 Tryz.underlying22 ?_
 clear hS; intro w hS
 replace hS : Sat B w I (mapA I64 b1 [(33, S [73, 78, 86, 65, 76, 73, 68, 95, 82, 69, 81, 85, 69, 83, 84]), (30, S [73, 78, 86, 65, 76, 73, 68, 95, 84, 73, 67, 75, 69, 84])] :: As) := hS
 refine .mins (kv := [(33, S [73, 78, 86, 65, 76, 73, 68, 95, 82, 69, 81, 85, 69, 83, 84]), (30, S [73, 78, 86, 65, 76, 73, 68, 95, 84, 73, 67, 75, 69, 84])]) (key := 32) (val := S [73, 78, 86, 65, 76, 73, 68, 95, 84, 73, 67, 75, 69, 84, 95, 83, 80, 69, 67]) keyI hS (k := 0) rfl (.of rfl) (.of rfl) (.of rfl) rfl Tryz.underlying121 Tryz.underlying22 ?_
 clear hS; intro w hS
 replace hS : Sat B w I (mapA I64 b1 [(33, S [73, 78, 86, 65, 76, 73, 68, 95, 82, 69, 81, 85, 69, 83, 84]), (30, S [73, 78, 86, 65, 76, 73, 68, 95, 84, 73, 67, 75, 69, 84]), (32, S [73, 78, 86, 65, 76, 73, 68, 95, 84, 73, 67, 75, 69, 84, 95, 83, 80, 69, 67])] :: As) := hS
 refine .mins (kv := [(33, S [73, 78, 86, 65, 76, 73, 68, 95, 82, 69, 81, 85, 69, 83, 84]), (30, S [73, 78, 86, 65, 76, 73, 68, 95, 84, 73, 67, 75, 69, 84]), (32, S [73, 78, 86, 65, 76, 73, 68, 95, 84, 73, 67, 75, 69, 84, 95, 83, 80, 69, 67])]) (key := 31) (val := S [73, 78, 86, 65, 76, 73, 68, 95, 83, 69, 82, 86, 73, 67, 69]) keyI hS (k := 0) rfl (.of rfl) (.of rfl) (.of rfl) rfl Tryz.underlying121 Tryz.underlying22 ?_
 clear hS; intro w hS
 replace hS : Sat B w I (mapA I64 b1 [(33, S [73, 78, 86, 65, 76, 73, 68, 95, 82, 69, 81, 85, 69, 83, 84]), (30, S [73, 78, 86, 65, 76, 73, 68, 95, 84, 73, 67, 75, 69, 84]), (32, S [73, 78, 86, 65, 76, 73, 68, 95, 84, 73, 67, 75, 69, 84, 95, 83, 80, 69, 67]), (31, S [73, 78, 86, 65, 76, 73, 68, 95, 83, 69, 82, 86, 73, 67, 69])] :: As) := hS
 refine .mins (kv := [(33, S [73, 78, 86, 65, 76, 73, 68, 95, 82, 69, 81, 85, 69, 83, 84]), (30, S [73, 78, 86, 65, 76, 73, 68, 95, 84, 73, 67, 75, 69, 84]), (32, S [73, 78, 86, 65, 76, 73, 68, 95, 84, 73, 67, 75, 69, 84, 95, 83, 80, 69, 67]), (31, S [73, 78, 86, 65, 76, 73, 68, 95, 83, 69, 82, 86, 73, 67, 69])]) (key := 36) (val := S [85, 78, 65, 85, 84, 72, 79, 82, 73, 90, 69, 68, 95, 83, 69, 82, 86, 73, 67, 69]) keyI hS (k := 0) rfl (.of rfl) (.of rfl) (.of rfl) rfl Tryz.underlying121 Tryz.underlying22 ?_
 clear hS; intro w hS
 replace hS : Sat B w I (mapA I64 b1 [(33, S [73, 78, 86, 65, 76, 73, 68, 95, 82, 69, 81, 85, 69, 83, 84]), (30, S [73, 78, 86, 65, 76, 73, 68, 95, 84, 73, 67, 75, 69, 84]), (32, S [73, 78, 86, 65, 76, 73, 68, 95, 84, 73, 67, 75, 69, 84, 95, 83, 80, 69, 67]), (31, S [73, 78, 86, 65, 76, 73, 68, 95, 83, 69, 82, 86, 73, 67, 69]), (36, S [85, 78, 65, 85, 84, 72, 79, 82, 73, 90, 69, 68, 95, 83, 69, 82, 86, 73, 67, 69])] :: As) := hS
 refine .mins (kv := [(33, S [73, 78, 86, 65, 76, 73, 68, 95, 82, 69, 81, 85, 69, 83, 84]), (30, S [73, 78, 86, 65, 76, 73, 68, 95, 84, 73, 67, 75, 69, 84]), (32, S [73, 78, 86, 65, 76, 73, 68, 95, 84, 73, 67, 75, 69, 84, 95, 83, 80, 69, 67]), (31, S [73, 78, 86, 65, 76, 73, 68, 95, 83, 69, 82, 86, 73, 67, 69]), (36, S [85, 78, 65, 85, 84, 72, 79, 82, 73, 90, 69, 68, 95, 83, 69, 82, 86, 73, 67, 69])]) (key := 34) (val := S [73, 78, 86, 65, 76, 73, 68, 95, 80, 82, 79, 88, 89, 95, 67, 65, 76, 76, 66, 65, 67, 75]) keyI hS (k := 0) rfl (.of rfl) (.of rfl) (.of rfl) rfl Tryz.underlying121 Tryz.underlying22 ?_
 clear hS; intro w hS
 replace hS : Sat B w I (mapA I64 b1 [(33, S [73, 78, 86, 65, 76, 73, 68, 95, 82, 69, 81, 85, 69, 83, 84]), (30, S [73, 78, 86, 65, 76, 73, 68, 95, 84, 73, 67, 75, 69, 84]), (32, S [73, 78, 86, 65, 76, 73, 68, 95, 84, 73, 67, 75, 69, 84, 95, 83, 80, 69, 67]), (31, S [73, 78, 86, 65, 76, 73, 68, 95, 83, 69, 82, 86, 73, 67, 69]), (36, S [85, 78, 65, 85, 84, 72, 79, 82, 73, 90, 69, 68, 95, 83, 69, 82, 86, 73, 67, 69]), (34, S [73, 78, 86, 65, 76, 73, 68, 95, 80, 82, 79, 88, 89, 95, 67, 65, 76, 76, 66, 65, 67, 75])] :: As) := hS
 refine .mins (kv := [(33, S [73, 78, 86, 65, 76, 73, 68, 95, 82, 69, 81, 85, 69, 83, 84]), (30, S [73, 78, 86, 65, 76, 73, 68, 95, 84, 73, 67, 75, 69, 84]), (32, S [73, 78, 86, 65, 76, 73, 68, 95, 84, 73, 67, 75, 69, 84, 95, 83, 80, 69, 67]), (31, S [73, 78, 86, 65, 76, 73, 68, 95, 83, 69, 82, 86, 73, 67, 69]), (36, S [85, 78, 65, 85, 84, 72, 79, 82, 73, 90, 69, 68, 95, 83, 69, 82, 86, 73, 67, 69]), (34, S [73, 78, 86, 65, 76, 73, 68, 95, 80, 82, 79, 88, 89, 95, 67, 65, 76, 76, 66, 65, 67, 75])]) (key := 0) (val := S []) keyI hS (k := 0) rfl (.of rfl) (.of rfl) (.of rfl) rfl Tryz.underlying121 Tryz.underlying22 ?_
 clear hS; intro w hS
 replace hS : Sat B w I (mapA I64 b1 [(33, S [73, 78, 86, 65, 76, 73, 68, 95, 82, 69, 81, 85, 69, 83, 84]), (30, S [73, 78, 86, 65, 76, 73, 68, 95, 84, 73, 67, 75, 69, 84]), (32, S [73, 78, 86, 65, 76, 73, 68, 95, 84, 73, 67, 75, 69, 84, 95, 83, 80, 69, 67]), (31, S [73, 78, 86, 65, 76, 73, 68, 95, 83, 69, 82, 86, 73, 67, 69]), (36, S [85, 78, 65, 85, 84, 72, 79, 82, 73, 90, 69, 68, 95, 83, 69, 82, 86, 73, 67, 69]), (34, S [73, 78, 86, 65, 76, 73, 68, 95, 80, 82, 79, 88, 89, 95, 67, 65, 76, 76, 66, 65, 67, 75]), (0, S [])] :: As) := hS
 refine .run 2 rfl trivial (.nil (.ret (ret1 Tryz.results58 rfl ?_)))
 exact ⟨_, rfl, b1, rfl, hS⟩
theorem Code_any (e : Int) (B w : World) (I : Im) (As : List Assn) (hS : Sat B w I As) :
  Calls Tryz.prog 14 [I64 e].toArray w (Ret fun v w' => v = S (codeT e) ∧ Sat B w' I As) := by
 refine calls Tryz.func14 rfl Tryz.ntmps14 rfl (.seq (.region (.run 1 rfl trivial (.nil (.seq (.seq (.region (.call Tryz.func58 rfl evs_nil rfl (codes_any B _ I _ hS) ?_))))))))
 clear hS
 rintro _ w ⟨mb, rfl, hS⟩
 refine .run 1 rfl trivial ?_
 refine WL.val (v := .tuple #[S ((CODES.lookup e).getD []), .bool (CODES.lookup e).isSome]) (by have h9 := lookup_map S e CODES; have e9 : ((CODES.map fun p => (p.1, S p.2)).lookup e).getD (S []) = S ((CODES.lookup e).getD []) := by { rw [h9]; cases CODES.lookup e <;> rfl }; have e8 : ((CODES.map fun p => (p.1, S p.2)).lookup e).isSome = (CODES.lookup e).isSome := by { rw [h9]; cases CODES.lookup e <;> rfl }; rw [← e9, ← e8]; exact .look2 (key := e) keyI (hS.mapNow (k := 0) rfl) (.of rfl) (.of rfl) Tryz.underlying121 Tryz.underlying22 Tryz.zeroValue9) rfl ?_
 refine .run 5 rfl trivial (.nil (.seq (.region (.run 1 rfl trivial (.nil ?_)))))
 refine WC.cond rfl (fun hb11 => ?_) (fun hb11 => ?_)
 ·
  have hc11 := hb11; try simp only [Gk.cs0] at hc11
  refine .seq (.region (.run 2 rfl trivial (.nil (.ret (ret1 Tryz.results14 rfl ?_)))))
  refine ⟨_, rfl, ?_, hS.drop (k := 0) rfl⟩
  rw [codeT]
  cases h : CODES.lookup e with
  | none => rw [h] at hb11; cases hb11
  | some s => rfl
 have hc11 := hb11; try simp only [Gk.cs0] at hc11
 refine .skip (.seq (.region (.run 1 rfl trivial (.nil (.ret (ret1 Tryz.results14 rfl ?_))))))
 refine ⟨_, rfl, ?_, hS.drop (k := 0) rfl⟩
 rw [codeT]
 cases h : CODES.lookup e with
 | none => rfl
 | some s => rw [h] at hb11; cases hb11
structure Sx where
 user : List UInt8
 attrs : List Pr
 proxies : List (List UInt8)
 iou : List UInt8
def sx0 : Sx := ⟨[], [], [], []⟩
def SxAt (J : Im) (x : Sx) (cs : List Value) : Prop := ∃ ka kc pa pc, cs = [S x.user, .slice ka x.attrs.length kc, .slice pa x.proxies.length pc, S x.iou] ∧ x.attrs.length ≤ kc ∧ RS J ka 2 x.attrs.length (rowsC prCells x.attrs) ∧ x.proxies.length ≤ pc ∧ RS J pa 1 x.proxies.length (x.proxies.map S)
theorem sx0_at (J : Im) : SxAt J sx0 [S [], .slice none 0 0, .slice none 0 0, S []] := ⟨none, 0, none, 0, rfl, Nat.le_refl _, ⟨rfl, fun h => absurd h (by simp [sx0])⟩, Nat.le_refl _, rfl, fun h => absurd h (by simp [sx0])⟩
theorem SxAt.mono {I J : Im} {x : Sx} {cs : List Value} (h : SxAt I x cs) (hl : Le I J) : SxAt J x cs := by
 obtain ⟨ka, kc, pa, pc, e, h1, h2, h3, h4⟩ := h
 exact ⟨ka, kc, pa, pc, e, h1, h2.mono hl, h3, h4.mono hl⟩
def checkE (ps : Nat → Int) (ω : Wd) (q : Qr) : Nat :=
 if (useW ps ω q).1.2 ≠ 0 then (useW ps ω q).1.2
 else if ((((Ul.nU q.service).2 : Nat) : Int) != 0 || !((Ul.nU q.service).1 == (useW ps ω q).1.1.service)) = true then 31
 else if (q.renew && !(useW ps ω q).1.1.fresh) = true then 30 else 0
def checkW (lo : List Sv) (us : List Us) (ps : Nat → Int) (ω : Wd) (q : Qr) : Sx :=
 if checkE ps ω q ≠ 0 then sx0
 else ⟨(useW ps ω q).1.1.user, attrsU us (useW ps ω q).1.1.user (findR lo (useW ps ω q).1.1.service).1.rel, proxiesT (useW ps ω q).2.l (useW ps ω q).1.1.name, []⟩
theorem findR_mem (lo : List Sv) (s : List UInt8) : (findR lo s).1 = z0 ∨ (findR lo s).1 ∈ lo := by
 unfold findR
 split
 ·exact .inl rfl
 ·split
  ·exact .inl rfl
  ·split
   ·exact .inl rfl
   ·rename_i h; exact .inr (List.mem_of_find?_eq_some h)
theorem atU_le {us : List Us} (h : ∀ u ∈ us, u.attrs.length ≤ 8) (name : List UInt8) : (atU us name).length ≤ 8 := by
 unfold atU
 split
 ·rename_i e; exact h _ (List.mem_of_find?_eq_some e)
 ·simp
theorem vCheck_any (q : Qr) (hqt : q.ticket.length ≤ 1000000) (hqs : q.service.length ≤ 1000000) (p : Wp) (ω : Wd) (hω : WdOk ω) (B w : World) (I : Im) (hI : WpOk I p) (As : List Assn) (hS : Sat B w I (wdA p ω :: As)) :
  Calls Tryz.prog 18 [ptr p.wb 0, .agg (qrCells q).toArray].toArray w (Ret fun v w' => ∃ J cs, Le I J ∧ v = .tuple #[.agg (List.toArray cs), I64 (checkE p.ps ω q : Nat)] ∧ SxAt J (checkW p.lo p.us p.ps ω q) cs ∧ Sat B w' J (wdA p (useW p.ps ω q).2 :: As)) := by
 refine calls Tryz.func18 rfl Tryz.ntmps18 rfl (.seq (.region (.boxA (cs := [_, _, _, _]) hS (.of rfl) rfl ?_)))
 clear hS; intro b3 w hS
 refine .allocA (cs := [_, _, _, _]) hS Tryz.zeroValue56 rfl ?_
 clear hS; intro b4 w hS
 refine .run 1 rfl trivial (.nil (.seq (.region (.run 1 rfl trivial ?_))))
 first | refine WL.val (.ldsW (cs := [_, _, _, _]) (.of rfl) hS (k := 0) rfl Tryz.isAgg43 Tryz.sizeOf43 rfl) rfl ?_ | refine WL.val (.lds (vs := [_, _, _, _]) (.of rfl) hS (k := 0) rfl Tryz.isAgg43 Tryz.sizeOf43 rfl (fun _ _ h => h)) rfl ?_ | refine WL.val (.ldsW (cs := [_, _, _, _]) (.of rfl) hS (k := 1) rfl Tryz.isAgg43 Tryz.sizeOf43 rfl) rfl ?_ | refine WL.val (.lds (vs := [_, _, _, _]) (.of rfl) hS (k := 1) rfl Tryz.isAgg43 Tryz.sizeOf43 rfl (fun _ _ h => h)) rfl ?_ | refine WL.val (.ldsW (cs := [_, _, _, _]) (.of rfl) hS (k := 2) rfl Tryz.isAgg43 Tryz.sizeOf43 rfl) rfl ?_ | refine WL.val (.lds (vs := [_, _, _, _]) (.of rfl) hS (k := 2) rfl Tryz.isAgg43 Tryz.sizeOf43 rfl (fun _ _ h => h)) rfl ?_
 refine .call Tryz.func62 rfl (evs_cons (.of rfl) (evs_cons (.of rfl) evs_nil)) rfl (use_any q hqt p ω hω B _ I hI _ (hS.pick 2 rfl)) ?_
 clear hS
 rintro _ w ⟨rfl, hS⟩
 try dsimp only [List.eraseIdx] at hS
 refine .run 3 rfl trivial (.allocA (cs := [_, _, _, _, _, _, _, _, _, _]) hS Tryz.zeroValue45 rfl ?_)
 clear hS; intro b6 w hS
 first | refine WL.stA hS (k := 0) rfl (.of rfl) (.of rfl) rfl Tryz.sizeOf45 rfl (by simp) ?_ | refine WL.stA hS (k := 1) rfl (.of rfl) (.of rfl) rfl Tryz.sizeOf45 rfl (by simp) ?_ | refine WL.stA hS (k := 2) rfl (.of rfl) (.of rfl) rfl Tryz.sizeOf45 rfl (by simp) ?_ | refine WL.stA hS (k := 3) rfl (.of rfl) (.of rfl) rfl Tryz.sizeOf45 rfl (by simp) ?_
 clear hS; intro w hS; try dsimp only [List.set] at hS
 try simp only [List.take_zero, List.nil_append, List.append_nil, List.drop_succ_cons, List.drop_zero, List.drop_nil, Nat.zero_add] at hS
 refine .run 1 rfl trivial (.nil (.seq (.seq (.region (.run 2 rfl trivial (.nil ?_))))))
 refine WC.cond rfl (fun hb19 => ?_) (fun hb19 => ?_)
 ·
  have hc19 := hb19; try simp only [Gk.cs0] at hc19
  refine .seq (.region (.val (.build (cs := [_, _, _, _]) parts_nil bld56_58 rfl) rfl (.run 1 rfl trivial ?_)))
  first | refine WL.stA hS (k := 0) rfl (.of rfl) (.of rfl) rfl Tryz.sizeOf56 rfl (by simp) ?_ | refine WL.stA hS (k := 1) rfl (.of rfl) (.of rfl) rfl Tryz.sizeOf56 rfl (by simp) ?_ | refine WL.stA hS (k := 2) rfl (.of rfl) (.of rfl) rfl Tryz.sizeOf56 rfl (by simp) ?_ | refine WL.stA hS (k := 3) rfl (.of rfl) (.of rfl) rfl Tryz.sizeOf56 rfl (by simp) ?_
  clear hS; intro w hS; try dsimp only [List.set] at hS
  try simp only [List.take_zero, List.nil_append, List.append_nil, List.drop_succ_cons, List.drop_zero, List.drop_nil, Nat.zero_add] at hS
  refine .run 1 rfl trivial (.nil (.ret ?_))
  first | refine ret2c (b := _) (cs := [_, _, _, _]) Tryz.results18 hS (k := 0) rfl Tryz.isAgg56 Tryz.sizeOf56 rfl rfl rfl ?_ | refine ret2c (b := _) (cs := [_, _, _, _]) Tryz.results18 hS (k := 1) rfl Tryz.isAgg56 Tryz.sizeOf56 rfl rfl rfl ?_ | refine ret2c (b := _) (cs := [_, _, _, _]) Tryz.results18 hS (k := 2) rfl Tryz.isAgg56 Tryz.sizeOf56 rfl rfl rfl ?_ | refine ret2c (b := _) (cs := [_, _, _, _]) Tryz.results18 hS (k := 3) rfl Tryz.isAgg56 Tryz.sizeOf56 rfl rfl rfl ?_
  have hne : (useW p.ps ω q).1.2 ≠ 0 := by simpa using hb19
  have hE : checkE p.ps ω q = (useW p.ps ω q).1.2 := by rw [checkE, if_pos hne]
  have hX : checkW p.lo p.us p.ps ω q = sx0 := if_pos (by rw [hE]; exact hne)
  rw [hE, hX]
  exact ⟨_, rfl, I, _, Le.refl _, rfl, sx0_at I, (((hS.drop (k := 0) rfl).drop (k := 1) rfl).drop (k := 1) rfl)⟩
 have hc19 := hb19; try simp only [Gk.cs0] at hc19
 refine .skip (.seq (.region ?_))
 first | refine WL.val (.fieldAddr 1 (.of rfl) Tryz.underlying43 rfl rfl Tryz.sizeOf9 rfl) rfl ?_ | refine WL.val (.fieldAddrI 1 (.of rfl) Tryz.underlying43 rfl rfl Tryz.sizeOf9 rfl) rfl ?_
 first | refine WL.val (.ld (.of rfl) hS (k := 0) rfl Tryz.isAgg9 rfl) rfl ?_ | refine WL.val (.ld (.of rfl) hS (k := 1) rfl Tryz.isAgg9 rfl) rfl ?_ | refine WL.val (.ld (.of rfl) hS (k := 2) rfl Tryz.isAgg9 rfl) rfl ?_ | refine WL.val (.ld (.of rfl) hS (k := 3) rfl Tryz.isAgg9 rfl) rfl ?_
 refine .call Tryz.func63 rfl (evs_cons (.of rfl) evs_nil) rfl (uNormal_any q.service hqs B _ I hI.known _ hS) ?_
 clear hS
 rintro _ w ⟨rfl, hS⟩
 refine .run 5 rfl trivial (.nil (.seq (.block (.seq (.region (.run 3 rfl trivial (.gval rfl rfl (fun hg1 => (.move (.of rfl))) rfl ?_)))))))
 refine WL.gval rfl rfl (fun hg1 => (by first | exact .fieldAddr 4 (.of rfl) Tryz.underlying45 rfl rfl Tryz.sizeOf9 rfl | exact .fieldAddrI 4 (.of rfl) Tryz.underlying45 rfl rfl Tryz.sizeOf9 rfl)) rfl ?_
 refine WL.gval rfl rfl (fun hg1 => (by first | exact (.ld (.gd hg1 rfl) hS (k := 0) rfl Tryz.isAgg9 rfl) | exact (.ld (.gd hg1 rfl) hS (k := 1) rfl Tryz.isAgg9 rfl) | exact (.ld (.gd hg1 rfl) hS (k := 2) rfl Tryz.isAgg9 rfl) | exact (.ld (.gd hg1 rfl) hS (k := 3) rfl Tryz.isAgg9 rfl))) rfl ?_
 refine .gval rfl rfl (fun hg1 => (.nes (.gd hg1 rfl) (.gd hg1 rfl))) rfl (.val (.por (.of rfl) (.of rfl) (.of rfl)) rfl (.run 1 rfl trivial (.nil ?_)))
 refine WC.cond rfl (fun hb28 => ?_) (fun hb28 => ?_)
 ·
  have hc28 := hb28; try simp only [Gk.cs0] at hc28
  refine .seq (.region (.val (.build (cs := [_, _, _, _]) parts_nil bld56_58 rfl) rfl ?_))
  first | refine WL.stA hS (k := 0) rfl (.of rfl) (.of rfl) rfl Tryz.sizeOf56 rfl (by simp) ?_ | refine WL.stA hS (k := 1) rfl (.of rfl) (.of rfl) rfl Tryz.sizeOf56 rfl (by simp) ?_ | refine WL.stA hS (k := 2) rfl (.of rfl) (.of rfl) rfl Tryz.sizeOf56 rfl (by simp) ?_ | refine WL.stA hS (k := 3) rfl (.of rfl) (.of rfl) rfl Tryz.sizeOf56 rfl (by simp) ?_
  clear hS; intro w hS; try dsimp only [List.set] at hS
  try simp only [List.take_zero, List.nil_append, List.append_nil, List.drop_succ_cons, List.drop_zero, List.drop_nil, Nat.zero_add] at hS
  refine .run 1 rfl trivial (.nil (.ret ?_))
  first | refine ret2c (b := _) (cs := [_, _, _, _]) Tryz.results18 hS (k := 0) rfl Tryz.isAgg56 Tryz.sizeOf56 rfl rfl rfl ?_ | refine ret2c (b := _) (cs := [_, _, _, _]) Tryz.results18 hS (k := 1) rfl Tryz.isAgg56 Tryz.sizeOf56 rfl rfl rfl ?_ | refine ret2c (b := _) (cs := [_, _, _, _]) Tryz.results18 hS (k := 2) rfl Tryz.isAgg56 Tryz.sizeOf56 rfl rfl rfl ?_ | refine ret2c (b := _) (cs := [_, _, _, _]) Tryz.results18 hS (k := 3) rfl Tryz.isAgg56 Tryz.sizeOf56 rfl rfl rfl ?_
  have hE : checkE p.ps ω q = 31 := by rw [checkE, if_neg (show ¬ (useW p.ps ω q).1.2 ≠ 0 from by simpa using hb19), if_pos hb28]
  have hX : checkW p.lo p.us p.ps ω q = sx0 := if_pos (by rw [hE]; decide)
  rw [hE, hX]
  exact ⟨_, rfl, I, _, Le.refl _, rfl, sx0_at I, (((hS.drop (k := 0) rfl).drop (k := 1) rfl).drop (k := 1) rfl)⟩
 have hc28 := hb28; try simp only [Gk.cs0] at hc28
 refine .seq (.region ?_)
 first | refine WL.val (.fieldAddr 2 (.of rfl) Tryz.underlying43 rfl rfl Tryz.sizeOf4 rfl) rfl ?_ | refine WL.val (.fieldAddrI 2 (.of rfl) Tryz.underlying43 rfl rfl Tryz.sizeOf4 rfl) rfl ?_
 first | refine WL.val (.ld (.of rfl) hS (k := 0) rfl Tryz.isAgg4 rfl) rfl ?_ | refine WL.val (.ld (.of rfl) hS (k := 1) rfl Tryz.isAgg4 rfl) rfl ?_ | refine WL.val (.ld (.of rfl) hS (k := 2) rfl Tryz.isAgg4 rfl) rfl ?_ | refine WL.val (.ld (.of rfl) hS (k := 3) rfl Tryz.isAgg4 rfl) rfl ?_
 refine .run 1 rfl trivial ?_
 refine WL.gval rfl rfl (fun hg1 => (by first | exact .fieldAddr 9 (.of rfl) Tryz.underlying45 rfl rfl Tryz.sizeOf4 rfl | exact .fieldAddrI 9 (.of rfl) Tryz.underlying45 rfl rfl Tryz.sizeOf4 rfl)) rfl ?_
 refine WL.gval rfl rfl (fun hg1 => (by first | exact (.ld (.gd hg1 rfl) hS (k := 0) rfl Tryz.isAgg4 rfl) | exact (.ld (.gd hg1 rfl) hS (k := 1) rfl Tryz.isAgg4 rfl) | exact (.ld (.gd hg1 rfl) hS (k := 2) rfl Tryz.isAgg4 rfl) | exact (.ld (.gd hg1 rfl) hS (k := 3) rfl Tryz.isAgg4 rfl))) rfl ?_
 refine .gval rfl rfl (fun hg1 => (.not (.gd hg1 rfl))) rfl (.val (.pand (.of rfl) (.of rfl) (.of rfl)) rfl (.run 1 rfl trivial (.nil ?_)))
 refine WC.cond rfl (fun hb38 => ?_) (fun hb38 => ?_)
 ·
  have hc38 := hb38; try simp only [Gk.cs0] at hc38
  refine .seq (.region (.val (.build (cs := [_, _, _, _]) parts_nil bld56_58 rfl) rfl ?_))
  first | refine WL.stA hS (k := 0) rfl (.of rfl) (.of rfl) rfl Tryz.sizeOf56 rfl (by simp) ?_ | refine WL.stA hS (k := 1) rfl (.of rfl) (.of rfl) rfl Tryz.sizeOf56 rfl (by simp) ?_ | refine WL.stA hS (k := 2) rfl (.of rfl) (.of rfl) rfl Tryz.sizeOf56 rfl (by simp) ?_ | refine WL.stA hS (k := 3) rfl (.of rfl) (.of rfl) rfl Tryz.sizeOf56 rfl (by simp) ?_
  clear hS; intro w hS; try dsimp only [List.set] at hS
  try simp only [List.take_zero, List.nil_append, List.append_nil, List.drop_succ_cons, List.drop_zero, List.drop_nil, Nat.zero_add] at hS
  refine .run 1 rfl trivial (.nil (.ret ?_))
  first | refine ret2c (b := _) (cs := [_, _, _, _]) Tryz.results18 hS (k := 0) rfl Tryz.isAgg56 Tryz.sizeOf56 rfl rfl rfl ?_ | refine ret2c (b := _) (cs := [_, _, _, _]) Tryz.results18 hS (k := 1) rfl Tryz.isAgg56 Tryz.sizeOf56 rfl rfl rfl ?_ | refine ret2c (b := _) (cs := [_, _, _, _]) Tryz.results18 hS (k := 2) rfl Tryz.isAgg56 Tryz.sizeOf56 rfl rfl rfl ?_ | refine ret2c (b := _) (cs := [_, _, _, _]) Tryz.results18 hS (k := 3) rfl Tryz.isAgg56 Tryz.sizeOf56 rfl rfl rfl ?_
  have hE : checkE p.ps ω q = 30 := by rw [checkE, if_neg (show ¬ (useW p.ps ω q).1.2 ≠ 0 from by simpa using hb19), if_neg (by rw [hb28]; decide), if_pos hb38]
  have hX : checkW p.lo p.us p.ps ω q = sx0 := if_pos (by rw [hE]; decide)
  rw [hE, hX]
  exact ⟨_, rfl, I, _, Le.refl _, rfl, sx0_at I, (((hS.drop (k := 0) rfl).drop (k := 1) rfl).drop (k := 1) rfl)⟩
 have hc38 := hb38; try simp only [Gk.cs0] at hc38
 refine .skip ?_
 refine WC.cutS (σ := Im × Nat × Option Addr × Nat) (fun ⟨J, b9, ra, rc⟩ => [(0, ptr p.wb 0), (4, ptr b4 0), (6, ptr b6 0), (9, ptr b9 0)]) (fun ⟨J, b9, ra, rc⟩ w => Le I J ∧ (findR p.lo (useW p.ps ω q).1.1.service).1.rel.length ≤ rc ∧ RS J ra 1 (findR p.lo (useW p.ps ω q).1.1.service).1.rel.length ((findR p.lo (useW p.ps ω q).1.1.service).1.rel.map S) ∧ Sat B w J (blk b9 [I64 (findR p.lo (useW p.ps ω q).1.1.service).1.id, F64 (findR p.lo (useW p.ps ω q).1.1.service).1.ord, S (findR p.lo (useW p.ps ω q).1.1.service).1.urls, .bool (findR p.lo (useW p.ps ω q).1.1.service).1.login, .bool (findR p.lo (useW p.ps ω q).1.1.service).1.proxy, .bool (findR p.lo (useW p.ps ω q).1.1.service).1.back, S (findR p.lo (useW p.ps ω q).1.1.service).1.calls, .slice ra (findR p.lo (useW p.ps ω q).1.1.service).1.rel.length rc] 101 :: wdA p (useW p.ps ω q).2 :: blk b6 (recCells (useW p.ps ω q).1.1) 45 :: blk b4 [S [], .slice none 0 0, .slice none 0 0, S []] 56 :: As)) ?_ ?_
 ·
  replace hS := (hS.pick 1 rfl)
  try dsimp only [List.eraseIdx] at hS
  obtain ⟨⟨a2, c2, ma2, mc2⟩, hS⟩ := Sat.unbox hS
  replace hS : Sat B _ _ (blk p.wb (wdC p (useW p.ps ω q).2) 52 :: blk p.tb [I64 (useW p.ps ω q).2.room, .slice a2 (useW p.ps ω q).2.l.length c2] 127 :: Vec 45 10 (.slice a2 (useW p.ps ω q).2.l.length c2) (useW p.ps ω q).2.l.length (rowsR (useW p.ps ω q).2.l) :: blk p.mb [.slice ma2 (useW p.ps ω q).2.D.length mc2] 168 :: VecO 118 (.slice ma2 (useW p.ps ω q).2.D.length mc2) ((useW p.ps ω q).2.D.map fun d => U64 (d : Nat)) :: _) := hS
  have hω2 := useW_ok (ps := p.ps) hω q
  have hlen2 := hω2.len
  have hwf2 := hω2.wf
  have hss := useW_short (ps := p.ps) hω q
  refine .drawn (fun w => ∃ J9 R, Le I J9 ∧ Sat B w J9 (blk b6 (recCells (useW p.ps ω q).1.1) 45 :: blk p.wb (wdC p (useW p.ps ω q).2) 52 :: R)) (fun j => !([].contains j)) (by kernel_rfl) ?_
  replace hS := hS.drew; generalize w.drew = w at hS ⊢
  have hH : ∃ J9 R, Le I J9 ∧ Sat B w J9 (blk b6 (recCells (useW p.ps ω q).1.1) 45 :: blk p.wb (wdC p (useW p.ps ω q).2) 52 :: R) := ⟨_, _, Le.refl _, ((hS.pick 0 rfl).pick 5 rfl)⟩
  refine .takeP (i := 0) rfl (by kernel_rfl) (by kernel_rfl) (by kernel_rfl) (fun w => (.move (.of rfl))) rfl (.takeP (i := 1) rfl (by kernel_rfl) (by kernel_rfl) (by kernel_rfl) (fun w => (.nilCheck (.of rfl))) rfl ?_)
  refine WD.takeP (i := 2) rfl (by kernel_rfl) (by kernel_rfl) (by kernel_rfl) (fun w => (by first | exact .fieldAddr 2 (.of rfl) Tryz.underlying52 rfl rfl Tryz.sizeOf49 rfl | exact .fieldAddrI 2 (.of rfl) Tryz.underlying52 rfl rfl Tryz.sizeOf49 rfl)) rfl ?_
  refine WD.take (i := 3) rfl (by kernel_rfl) (by kernel_rfl) (by kernel_rfl) (by kernel_rfl) hH (fun w ⟨J9, R, hL9, hS⟩ => (by first | exact (.ld (.of rfl) hS (k := 0) rfl Tryz.isAgg49 rfl) | exact (.ld (.of rfl) hS (k := 1) rfl Tryz.isAgg49 rfl))) rfl ?_
  refine WD.takeP (i := 4) rfl (by kernel_rfl) (by kernel_rfl) (by kernel_rfl) (fun w => (by first | exact .fieldAddr 4 (.of rfl) Tryz.underlying45 rfl rfl Tryz.sizeOf9 rfl | exact .fieldAddrI 4 (.of rfl) Tryz.underlying45 rfl rfl Tryz.sizeOf9 rfl)) rfl ?_
  refine WD.take (i := 5) rfl (by kernel_rfl) (by kernel_rfl) (by kernel_rfl) (by kernel_rfl) hH (fun w ⟨J9, R, hL9, hS⟩ => (by first | exact (.ld (.of rfl) hS (k := 0) rfl Tryz.isAgg9 rfl) | exact (.ld (.of rfl) hS (k := 1) rfl Tryz.isAgg9 rfl))) rfl ?_
  refine WD.branch [6, 11] (by kernel_rfl) rfl (WO.cons rfl ?_ (WO.cons rfl ?_ (WO.nil)))
  ·
   refine .call Tryz.func40 rfl (evs_cons (.of rfl) (evs_cons (.of rfl) evs_nil)) rfl (FindJ_any (useW p.ps ω q).1.1.service (by omega) p B _ I hI _ hS) ?_
   clear hS
   rintro _ w ⟨J, ra, rc, hJ, rfl, hrc, hRel, hS⟩
   refine .nil ?_
   clear hH
   have hH : ∃ J9 R, Le I J9 ∧ Sat B w J9 (blk b6 (recCells (useW p.ps ω q).1.1) 45 :: blk p.wb (wdC p (useW p.ps ω q).2) 52 :: R) := ⟨_, _, hJ, ((hS.pick 0 rfl).pick 5 rfl)⟩
   refine And.intro (by intro _ _; exact hH) ?_
   refine .takeP (i := 7) rfl (by kernel_rfl) (by kernel_rfl) (by kernel_rfl) (fun w => (.move (.of rfl))) rfl (.takeP (i := 8) rfl (by kernel_rfl) (by kernel_rfl) (by kernel_rfl) (fun w => (.extract (.of rfl) rfl)) rfl (.takeP (i := 9) rfl (by kernel_rfl) (by kernel_rfl) (by kernel_rfl) (fun w => (.extract (.of rfl) rfl)) rfl (.takeP (i := 10) rfl (by kernel_rfl) (by kernel_rfl) (by kernel_rfl) (fun w => (.extract (.of rfl) rfl)) rfl ?_)))
   refine WD.branch [11] (by kernel_rfl) rfl (WO.cons rfl ?_ (WO.nil))
   refine .allocA (cs := [_, _, _, _, _, _, _, _]) hS Tryz.zeroValue101 rfl ?_
   clear hS; intro b9 w hS
   refine .nil ?_
   clear hH
   have hH : ∃ J9 R, Le I J9 ∧ Sat B w J9 (blk b6 (recCells (useW p.ps ω q).1.1) 45 :: blk p.wb (wdC p (useW p.ps ω q).2) 52 :: R) := ⟨_, _, hJ, ((hS.pick 1 rfl).pick 6 rfl)⟩
   refine And.intro (by intro _ _; exact hH) ?_
   refine WD.branch [12] (by kernel_rfl) rfl (WO.cons rfl ?_ (WO.nil))
   first | refine WL.stA hS (k := 0) rfl (.of rfl) (.of rfl) rfl Tryz.sizeOf101 rfl (by simp) ?_ | refine WL.stA hS (k := 1) rfl (.of rfl) (.of rfl) rfl Tryz.sizeOf101 rfl (by simp) ?_ | refine WL.stA hS (k := 2) rfl (.of rfl) (.of rfl) rfl Tryz.sizeOf101 rfl (by simp) ?_ | refine WL.stA hS (k := 3) rfl (.of rfl) (.of rfl) rfl Tryz.sizeOf101 rfl (by simp) ?_ | refine WL.stA hS (k := 4) rfl (.of rfl) (.of rfl) rfl Tryz.sizeOf101 rfl (by simp) ?_ | refine WL.stA hS (k := 5) rfl (.of rfl) (.of rfl) rfl Tryz.sizeOf101 rfl (by simp) ?_ | refine WL.stA hS (k := 6) rfl (.of rfl) (.of rfl) rfl Tryz.sizeOf101 rfl (by simp) ?_ | refine WL.stA hS (k := 7) rfl (.of rfl) (.of rfl) rfl Tryz.sizeOf101 rfl (by simp) ?_ | refine WL.stA hS (k := 8) rfl (.of rfl) (.of rfl) rfl Tryz.sizeOf101 rfl (by simp) ?_
   clear hS; intro w hS; try dsimp only [List.set] at hS
   try simp only [List.take_zero, List.nil_append, List.append_nil, List.drop_succ_cons, List.drop_zero, List.drop_nil, Nat.zero_add] at hS
   refine .nil ?_
   clear hH
   have hH : ∃ J9 R, Le I J9 ∧ Sat B w J9 (blk b6 (recCells (useW p.ps ω q).1.1) 45 :: blk p.wb (wdC p (useW p.ps ω q).2) 52 :: R) := ⟨_, _, hJ, ((hS.pick 1 rfl).pick 6 rfl)⟩
   refine And.intro (by intro _ _; exact hH) ?_
   refine .takeP (i := 13) rfl (by kernel_rfl) (by kernel_rfl) (by kernel_rfl) (fun w => (.assign (.of rfl))) rfl (.takeP (i := 14) rfl (by kernel_rfl) (by kernel_rfl) (by kernel_rfl) (fun w => (.assign (.of rfl))) rfl (.done (by kernel_rfl) ?_))
   replace hS := Sat.box (T := wdT p (useW p.ps ω q).2) (a2, c2, ma2, mc2) (((((hS.pick 5 rfl).pick 5 rfl).pick 5 rfl).pick 5 rfl).pick 5 rfl)
   try dsimp only [List.eraseIdx] at hS
   exact ⟨(J, b9, ra, rc), ⟨rfl, rfl, rfl, rfl, trivial⟩, hJ, hrc, hRel, (((((hS.drop (k := 4) rfl).pick 3 rfl).pick 3 rfl).pick 2 rfl).pick 3 rfl)⟩
  ·
   refine .allocA (cs := [_, _, _, _, _, _, _, _]) hS Tryz.zeroValue101 rfl ?_
   clear hS; intro b9 w hS
   refine .nil ?_
   clear hH
   have hH : ∃ J9 R, Le I J9 ∧ Sat B w J9 (blk b6 (recCells (useW p.ps ω q).1.1) 45 :: blk p.wb (wdC p (useW p.ps ω q).2) 52 :: R) := ⟨_, _, Le.refl _, ((hS.pick 1 rfl).pick 6 rfl)⟩
   refine And.intro (by intro _ _; exact hH) ?_
   refine WD.branch [6] (by kernel_rfl) rfl (WO.cons rfl ?_ (WO.nil))
   refine .call Tryz.func40 rfl (evs_cons (.of rfl) (evs_cons (.of rfl) evs_nil)) rfl (FindJ_any (useW p.ps ω q).1.1.service (by omega) p B _ I hI _ hS) ?_
   clear hS
   rintro _ w ⟨J, ra, rc, hJ, rfl, hrc, hRel, hS⟩
   refine .nil ?_
   clear hH
   have hH : ∃ J9 R, Le I J9 ∧ Sat B w J9 (blk b6 (recCells (useW p.ps ω q).1.1) 45 :: blk p.wb (wdC p (useW p.ps ω q).2) 52 :: R) := ⟨_, _, hJ, ((hS.pick 1 rfl).pick 6 rfl)⟩
   refine And.intro (by intro _ _; exact hH) ?_
   refine .takeP (i := 7) rfl (by kernel_rfl) (by kernel_rfl) (by kernel_rfl) (fun w => (.move (.of rfl))) rfl (.takeP (i := 8) rfl (by kernel_rfl) (by kernel_rfl) (by kernel_rfl) (fun w => (.extract (.of rfl) rfl)) rfl (.takeP (i := 9) rfl (by kernel_rfl) (by kernel_rfl) (by kernel_rfl) (fun w => (.extract (.of rfl) rfl)) rfl (.takeP (i := 10) rfl (by kernel_rfl) (by kernel_rfl) (by kernel_rfl) (fun w => (.extract (.of rfl) rfl)) rfl ?_)))
   refine WD.branch [12] (by kernel_rfl) rfl (WO.cons rfl ?_ (WO.nil))
   first | refine WL.stA hS (k := 0) rfl (.of rfl) (.of rfl) rfl Tryz.sizeOf101 rfl (by simp) ?_ | refine WL.stA hS (k := 1) rfl (.of rfl) (.of rfl) rfl Tryz.sizeOf101 rfl (by simp) ?_ | refine WL.stA hS (k := 2) rfl (.of rfl) (.of rfl) rfl Tryz.sizeOf101 rfl (by simp) ?_ | refine WL.stA hS (k := 3) rfl (.of rfl) (.of rfl) rfl Tryz.sizeOf101 rfl (by simp) ?_ | refine WL.stA hS (k := 4) rfl (.of rfl) (.of rfl) rfl Tryz.sizeOf101 rfl (by simp) ?_ | refine WL.stA hS (k := 5) rfl (.of rfl) (.of rfl) rfl Tryz.sizeOf101 rfl (by simp) ?_ | refine WL.stA hS (k := 6) rfl (.of rfl) (.of rfl) rfl Tryz.sizeOf101 rfl (by simp) ?_ | refine WL.stA hS (k := 7) rfl (.of rfl) (.of rfl) rfl Tryz.sizeOf101 rfl (by simp) ?_ | refine WL.stA hS (k := 8) rfl (.of rfl) (.of rfl) rfl Tryz.sizeOf101 rfl (by simp) ?_
   clear hS; intro w hS; try dsimp only [List.set] at hS
   try simp only [List.take_zero, List.nil_append, List.append_nil, List.drop_succ_cons, List.drop_zero, List.drop_nil, Nat.zero_add] at hS
   refine .nil ?_
   clear hH
   have hH : ∃ J9 R, Le I J9 ∧ Sat B w J9 (blk b6 (recCells (useW p.ps ω q).1.1) 45 :: blk p.wb (wdC p (useW p.ps ω q).2) 52 :: R) := ⟨_, _, hJ, ((hS.pick 1 rfl).pick 6 rfl)⟩
   refine And.intro (by intro _ _; exact hH) ?_
   refine .takeP (i := 13) rfl (by kernel_rfl) (by kernel_rfl) (by kernel_rfl) (fun w => (.assign (.of rfl))) rfl (.takeP (i := 14) rfl (by kernel_rfl) (by kernel_rfl) (by kernel_rfl) (fun w => (.assign (.of rfl))) rfl (.done (by kernel_rfl) ?_))
   replace hS := Sat.box (T := wdT p (useW p.ps ω q).2) (a2, c2, ma2, mc2) (((((hS.pick 5 rfl).pick 5 rfl).pick 5 rfl).pick 5 rfl).pick 5 rfl)
   try dsimp only [List.eraseIdx] at hS
   exact ⟨(J, b9, ra, rc), ⟨rfl, rfl, rfl, rfl, trivial⟩, hJ, hrc, hRel, (((((hS.drop (k := 4) rfl).pick 3 rfl).pick 3 rfl).pick 2 rfl).pick 3 rfl)⟩
 rintro ⟨J, b9, ra, rc⟩ w ⟨hJ, hrc, hRel, hS⟩
 change WC _ _ _ _ [(0, ptr p.wb 0), (4, ptr b4 0), (6, ptr b6 0), (9, ptr b9 0)] w
 refine .seq ?_
 replace hS := (hS.pick 1 rfl)
 try dsimp only [List.eraseIdx] at hS
 obtain ⟨⟨a2, c2, ma2, mc2⟩, hS⟩ := Sat.unbox hS
 replace hS : Sat B _ _ (blk p.wb (wdC p (useW p.ps ω q).2) 52 :: blk p.tb [I64 (useW p.ps ω q).2.room, .slice a2 (useW p.ps ω q).2.l.length c2] 127 :: Vec 45 10 (.slice a2 (useW p.ps ω q).2.l.length c2) (useW p.ps ω q).2.l.length (rowsR (useW p.ps ω q).2.l) :: blk p.mb [.slice ma2 (useW p.ps ω q).2.D.length mc2] 168 :: VecO 118 (.slice ma2 (useW p.ps ω q).2.D.length mc2) ((useW p.ps ω q).2.D.map fun d => U64 (d : Nat)) :: _) := hS
 have hω2 := useW_ok (ps := p.ps) hω q
 have hlen2 := hω2.len
 have hwf2 := hω2.wf
 have hIJ := hI.mono hJ
 have hat := atU_le hI.att (useW p.ps ω q).1.1.user
 have hrl : (findR p.lo (useW p.ps ω q).1.1.service).1.rel.length ≤ 1000000 := by
  rcases findR_mem p.lo (useW p.ps ω q).1.1.service with e | e
  ·rw [e]; decide
  ·exact hI.rel _ e
 refine .drawn (fun w => ∃ J9 R, Le J J9 ∧ Sat B w J9 (blk b6 (recCells (useW p.ps ω q).1.1) 45 :: blk b9 [I64 (findR p.lo (useW p.ps ω q).1.1.service).1.id, F64 (findR p.lo (useW p.ps ω q).1.1.service).1.ord, S (findR p.lo (useW p.ps ω q).1.1.service).1.urls, .bool (findR p.lo (useW p.ps ω q).1.1.service).1.login, .bool (findR p.lo (useW p.ps ω q).1.1.service).1.proxy, .bool (findR p.lo (useW p.ps ω q).1.1.service).1.back, S (findR p.lo (useW p.ps ω q).1.1.service).1.calls, .slice ra (findR p.lo (useW p.ps ω q).1.1.service).1.rel.length rc] 101 :: blk p.wb (wdC p (useW p.ps ω q).2) 52 :: R)) (fun j => !([].contains j)) (by kernel_rfl) ?_
 replace hS := hS.drew; generalize w.drew = w at hS ⊢
 have hH : ∃ J9 R, Le J J9 ∧ Sat B w J9 (blk b6 (recCells (useW p.ps ω q).1.1) 45 :: blk b9 [I64 (findR p.lo (useW p.ps ω q).1.1.service).1.id, F64 (findR p.lo (useW p.ps ω q).1.1.service).1.ord, S (findR p.lo (useW p.ps ω q).1.1.service).1.urls, .bool (findR p.lo (useW p.ps ω q).1.1.service).1.login, .bool (findR p.lo (useW p.ps ω q).1.1.service).1.proxy, .bool (findR p.lo (useW p.ps ω q).1.1.service).1.back, S (findR p.lo (useW p.ps ω q).1.1.service).1.calls, .slice ra (findR p.lo (useW p.ps ω q).1.1.service).1.rel.length rc] 101 :: blk p.wb (wdC p (useW p.ps ω q).2) 52 :: R) := ⟨_, _, Le.refl _, (((hS.pick 0 rfl).pick 5 rfl).pick 6 rfl)⟩
 refine WD.takeP (i := 0) rfl (by kernel_rfl) (by kernel_rfl) (by kernel_rfl) (fun w => (by first | exact .fieldAddr 3 (.of rfl) Tryz.underlying45 rfl rfl Tryz.sizeOf9 rfl | exact .fieldAddrI 3 (.of rfl) Tryz.underlying45 rfl rfl Tryz.sizeOf9 rfl)) rfl ?_
 refine WD.take (i := 1) rfl (by kernel_rfl) (by kernel_rfl) (by kernel_rfl) (by kernel_rfl) hH (fun w ⟨J9, R, hL9, hS⟩ => (by first | exact (.ld (.of rfl) hS (k := 0) rfl Tryz.isAgg9 rfl) | exact (.ld (.of rfl) hS (k := 1) rfl Tryz.isAgg9 rfl) | exact (.ld (.of rfl) hS (k := 2) rfl Tryz.isAgg9 rfl))) rfl ?_
 refine .takeP (i := 2) rfl (by kernel_rfl) (by kernel_rfl) (by kernel_rfl) (fun w => (.move (.of rfl))) rfl (.takeP (i := 3) rfl (by kernel_rfl) (by kernel_rfl) (by kernel_rfl) (fun w => (.nilCheck (.of rfl))) rfl ?_)
 refine WD.takeP (i := 4) rfl (by kernel_rfl) (by kernel_rfl) (by kernel_rfl) (fun w => (by first | exact .fieldAddr 3 (.of rfl) Tryz.underlying52 rfl rfl Tryz.sizeOf50 rfl | exact .fieldAddrI 3 (.of rfl) Tryz.underlying52 rfl rfl Tryz.sizeOf50 rfl)) rfl ?_
 refine WD.take (i := 5) rfl (by kernel_rfl) (by kernel_rfl) (by kernel_rfl) (by kernel_rfl) hH (fun w ⟨J9, R, hL9, hS⟩ => (by first | exact (.ld (.of rfl) hS (k := 0) rfl Tryz.isAgg50 rfl) | exact (.ld (.of rfl) hS (k := 1) rfl Tryz.isAgg50 rfl) | exact (.ld (.of rfl) hS (k := 2) rfl Tryz.isAgg50 rfl))) rfl ?_
 refine WD.takeP (i := 6) rfl (by kernel_rfl) (by kernel_rfl) (by kernel_rfl) (fun w => (by first | exact .fieldAddr 3 (.of rfl) Tryz.underlying45 rfl rfl Tryz.sizeOf9 rfl | exact .fieldAddrI 3 (.of rfl) Tryz.underlying45 rfl rfl Tryz.sizeOf9 rfl)) rfl ?_
 refine WD.take (i := 7) rfl (by kernel_rfl) (by kernel_rfl) (by kernel_rfl) (by kernel_rfl) hH (fun w ⟨J9, R, hL9, hS⟩ => (by first | exact (.ld (.of rfl) hS (k := 0) rfl Tryz.isAgg9 rfl) | exact (.ld (.of rfl) hS (k := 1) rfl Tryz.isAgg9 rfl) | exact (.ld (.of rfl) hS (k := 2) rfl Tryz.isAgg9 rfl))) rfl ?_
 refine WD.takeP (i := 8) rfl (by kernel_rfl) (by kernel_rfl) (by kernel_rfl) (fun w => (by first | exact .fieldAddr 7 (.of rfl) Tryz.underlying101 rfl rfl Tryz.sizeOf41 rfl | exact .fieldAddrI 7 (.of rfl) Tryz.underlying101 rfl rfl Tryz.sizeOf41 rfl)) rfl ?_
 refine WD.take (i := 9) rfl (by kernel_rfl) (by kernel_rfl) (by kernel_rfl) (by kernel_rfl) hH (fun w ⟨J9, R, hL9, hS⟩ => (by first | exact (.ld (.of rfl) hS (k := 0) rfl Tryz.isAgg41 rfl) | exact (.ld (.of rfl) hS (k := 1) rfl Tryz.isAgg41 rfl) | exact (.ld (.of rfl) hS (k := 2) rfl Tryz.isAgg41 rfl))) rfl ?_
 refine .takeP (i := 11) rfl (by kernel_rfl) (by kernel_rfl) (by kernel_rfl) (fun w => (.move (.of rfl))) rfl ?_
 refine WD.takeP (i := 12) rfl (by kernel_rfl) (by kernel_rfl) (by kernel_rfl) (fun w => (by first | exact .fieldAddr 1 (.of rfl) Tryz.underlying45 rfl rfl Tryz.sizeOf9 rfl | exact .fieldAddrI 1 (.of rfl) Tryz.underlying45 rfl rfl Tryz.sizeOf9 rfl)) rfl ?_
 refine WD.take (i := 13) rfl (by kernel_rfl) (by kernel_rfl) (by kernel_rfl) (by kernel_rfl) hH (fun w ⟨J9, R, hL9, hS⟩ => (by first | exact (.ld (.of rfl) hS (k := 0) rfl Tryz.isAgg9 rfl) | exact (.ld (.of rfl) hS (k := 1) rfl Tryz.isAgg9 rfl) | exact (.ld (.of rfl) hS (k := 2) rfl Tryz.isAgg9 rfl))) rfl ?_
 refine WD.branch [10] (by kernel_rfl) rfl (WO.cons rfl ?_ (WO.nil))
 refine WL.call Tryz.func64 rfl (evs_cons (.of rfl) (evs_cons (.of rfl) (evs_cons (.of rfl) evs_nil))) rfl (uAttrs_any p.ub p.us hI.fit (useW p.ps ω q).1.1.user hat ra rc _ hrl B _ _ (by first | exact hIJ.tab | exact hIJ.tab.mono hJp) (by first | exact hRel | exact hRel.mono hJp) _ hS) ?_
 clear hS
 rintro _ w ⟨Ja, ka, kc, rfl, hJa, hkc, hRa, hS⟩
 refine .nil ?_
 clear hH
 have hH : ∃ J9 R, Le J J9 ∧ Sat B w J9 (blk b6 (recCells (useW p.ps ω q).1.1) 45 :: blk b9 [I64 (findR p.lo (useW p.ps ω q).1.1.service).1.id, F64 (findR p.lo (useW p.ps ω q).1.1.service).1.ord, S (findR p.lo (useW p.ps ω q).1.1.service).1.urls, .bool (findR p.lo (useW p.ps ω q).1.1.service).1.login, .bool (findR p.lo (useW p.ps ω q).1.1.service).1.proxy, .bool (findR p.lo (useW p.ps ω q).1.1.service).1.back, S (findR p.lo (useW p.ps ω q).1.1.service).1.calls, .slice ra (findR p.lo (useW p.ps ω q).1.1.service).1.rel.length rc] 101 :: blk p.wb (wdC p (useW p.ps ω q).2) 52 :: R) := ⟨_, _, (by first | exact Le.refl _ | exact hJa | exact hJp | exact hJa.trans hJp | exact hJp.trans hJa), (((hS.pick 0 rfl).pick 5 rfl).pick 6 rfl)⟩
 refine And.intro (by intro _ _; exact hH) ?_
 refine WD.branch [14] (by kernel_rfl) rfl (WO.cons rfl ?_ (WO.nil))
 refine .call Tryz.func31 rfl (evs_cons (.of rfl) (evs_cons (.of rfl) evs_nil)) rfl (Proxies_any p (useW p.ps ω q).2 a2 c2 hlen2 hwf2 (useW p.ps ω q).1.1.name B _ _ _ (((hS.pick 2 rfl).pick 2 rfl).pick 2 rfl)) ?_
 clear hS
 rintro _ w ⟨Jp, pa, pc, rfl, hJp, hpc, hRp, hS⟩
 try dsimp only [List.eraseIdx] at hS
 refine .nil ?_
 clear hH
 have hH : ∃ J9 R, Le J J9 ∧ Sat B w J9 (blk b6 (recCells (useW p.ps ω q).1.1) 45 :: blk b9 [I64 (findR p.lo (useW p.ps ω q).1.1.service).1.id, F64 (findR p.lo (useW p.ps ω q).1.1.service).1.ord, S (findR p.lo (useW p.ps ω q).1.1.service).1.urls, .bool (findR p.lo (useW p.ps ω q).1.1.service).1.login, .bool (findR p.lo (useW p.ps ω q).1.1.service).1.proxy, .bool (findR p.lo (useW p.ps ω q).1.1.service).1.back, S (findR p.lo (useW p.ps ω q).1.1.service).1.calls, .slice ra (findR p.lo (useW p.ps ω q).1.1.service).1.rel.length rc] 101 :: blk p.wb (wdC p (useW p.ps ω q).2) 52 :: R) := ⟨_, _, (by first | exact Le.refl _ | exact hJa | exact hJp | exact hJa.trans hJp | exact hJp.trans hJa), (((hS.pick 0 rfl).pick 5 rfl).pick 6 rfl)⟩
 refine And.intro (by intro _ _; exact hH) ?_
 refine .takeP (i := 15) rfl (by kernel_rfl) (by kernel_rfl) (by kernel_rfl) (fun w => (.build (cs := [_, _, _, _]) (parts_cons (.of rfl) (parts_cons (.of rfl) (parts_cons (.of rfl) parts_nil))) bld56_58 rfl)) rfl ?_
 refine WD.branch [16] (by kernel_rfl) rfl (WO.cons rfl ?_ (WO.nil))
 first | refine WL.stA hS (k := 0) rfl (.of rfl) (.of rfl) rfl Tryz.sizeOf56 rfl (by simp) ?_ | refine WL.stA hS (k := 1) rfl (.of rfl) (.of rfl) rfl Tryz.sizeOf56 rfl (by simp) ?_ | refine WL.stA hS (k := 2) rfl (.of rfl) (.of rfl) rfl Tryz.sizeOf56 rfl (by simp) ?_ | refine WL.stA hS (k := 3) rfl (.of rfl) (.of rfl) rfl Tryz.sizeOf56 rfl (by simp) ?_ | refine WL.stA hS (k := 4) rfl (.of rfl) (.of rfl) rfl Tryz.sizeOf56 rfl (by simp) ?_ | refine WL.stA hS (k := 5) rfl (.of rfl) (.of rfl) rfl Tryz.sizeOf56 rfl (by simp) ?_ | refine WL.stA hS (k := 6) rfl (.of rfl) (.of rfl) rfl Tryz.sizeOf56 rfl (by simp) ?_ | refine WL.stA hS (k := 7) rfl (.of rfl) (.of rfl) rfl Tryz.sizeOf56 rfl (by simp) ?_
 clear hS; intro w hS; try dsimp only [List.set] at hS
 try simp only [List.take_zero, List.nil_append, List.append_nil, List.drop_succ_cons, List.drop_zero, List.drop_nil, Nat.zero_add] at hS
 refine .nil ?_
 clear hH
 have hH : ∃ J9 R, Le J J9 ∧ Sat B w J9 (blk b6 (recCells (useW p.ps ω q).1.1) 45 :: blk b9 [I64 (findR p.lo (useW p.ps ω q).1.1.service).1.id, F64 (findR p.lo (useW p.ps ω q).1.1.service).1.ord, S (findR p.lo (useW p.ps ω q).1.1.service).1.urls, .bool (findR p.lo (useW p.ps ω q).1.1.service).1.login, .bool (findR p.lo (useW p.ps ω q).1.1.service).1.proxy, .bool (findR p.lo (useW p.ps ω q).1.1.service).1.back, S (findR p.lo (useW p.ps ω q).1.1.service).1.calls, .slice ra (findR p.lo (useW p.ps ω q).1.1.service).1.rel.length rc] 101 :: blk p.wb (wdC p (useW p.ps ω q).2) 52 :: R) := ⟨_, _, (by first | exact Le.refl _ | exact hJa | exact hJp | exact hJa.trans hJp | exact hJp.trans hJa), (((hS.pick 0 rfl).pick 5 rfl).pick 6 rfl)⟩
 refine And.intro (by intro _ _; exact hH) ?_
 refine .takeP (i := 17) rfl (by kernel_rfl) (by kernel_rfl) (by kernel_rfl) (fun w => (.assign (.of rfl))) rfl (.done (by kernel_rfl) (.ret ?_))
 first | refine ret2c (b := _) (cs := [_, _, _, _]) Tryz.results18 hS (k := 0) rfl Tryz.isAgg56 Tryz.sizeOf56 rfl rfl rfl ?_ | refine ret2c (b := _) (cs := [_, _, _, _]) Tryz.results18 hS (k := 1) rfl Tryz.isAgg56 Tryz.sizeOf56 rfl rfl rfl ?_ | refine ret2c (b := _) (cs := [_, _, _, _]) Tryz.results18 hS (k := 2) rfl Tryz.isAgg56 Tryz.sizeOf56 rfl rfl rfl ?_ | refine ret2c (b := _) (cs := [_, _, _, _]) Tryz.results18 hS (k := 3) rfl Tryz.isAgg56 Tryz.sizeOf56 rfl rfl rfl ?_ | refine ret2c (b := _) (cs := [_, _, _, _]) Tryz.results18 hS (k := 4) rfl Tryz.isAgg56 Tryz.sizeOf56 rfl rfl rfl ?_ | refine ret2c (b := _) (cs := [_, _, _, _]) Tryz.results18 hS (k := 5) rfl Tryz.isAgg56 Tryz.sizeOf56 rfl rfl rfl ?_ | refine ret2c (b := _) (cs := [_, _, _, _]) Tryz.results18 hS (k := 6) rfl Tryz.isAgg56 Tryz.sizeOf56 rfl rfl rfl ?_ | refine ret2c (b := _) (cs := [_, _, _, _]) Tryz.results18 hS (k := 7) rfl Tryz.isAgg56 Tryz.sizeOf56 rfl rfl rfl ?_
 replace hS := Sat.box (T := wdT p (useW p.ps ω q).2) (a2, c2, ma2, mc2) (((((hS.pick 4 rfl).pick 4 rfl).pick 4 rfl).pick 4 rfl).pick 4 rfl)
 try dsimp only [List.eraseIdx] at hS
 have hE : checkE p.ps ω q = 0 := by rw [checkE, if_neg (show ¬ (useW p.ps ω q).1.2 ≠ 0 from by simpa using hb19), if_neg (by rw [hb28]; decide), if_neg (by rw [hb38]; decide)]
 have hX : checkW p.lo p.us p.ps ω q = ⟨(useW p.ps ω q).1.1.user, attrsU p.us (useW p.ps ω q).1.1.user (findR p.lo (useW p.ps ω q).1.1.service).1.rel, proxiesT (useW p.ps ω q).2.l (useW p.ps ω q).1.1.name, []⟩ := if_neg (by rw [hE]; decide)
 rw [hE, hX]
 refine ⟨_, rfl, _, _, ?_, rfl, ⟨ka, kc, pa, pc, rfl, hkc, ?_, hpc, ?_⟩, (((hS.drop (k := 1) rfl).drop (k := 1) rfl).drop (k := 1) rfl)⟩
 ·first | exact (hJ.trans hJa).trans hJp | exact (hJ.trans hJp).trans hJa
 ·first | exact hRa | exact hRa.mono hJp
 ·first | exact hRp | exact hRp.mono hJa
end Go.Proofs.YtadhiihnnkcagaaGreatDoor
namespace Go.Proofs.YtadhiihnnkcagaaGreatDoor
open Gk Ul Pc Tk Tr
set_option linter.unusedVariables false
set_option linter.unusedSimpArgs false
theorem Ex.sub3U {P : Program} {n : Nat} {L : Env} {w : World} {d : Option Nat} {ty t : TypeId} {pos : String} {af : Array Edge} {g : Option (Nat × Bool)} {x y z : Operand} {l : List UInt8} {i j : Int} (hx : Ev n L x (S l)) (hy : Ev n L y (U64 i)) (hz : Ev n L z (U64 j)) (h0 : 0 ≤ i) (h1 : i ≤ j) (h2 : j ≤ (l.length : Int)) (hT : P.underlying t = some .string) :
  Ex P n L w ⟨d, .slice t x (some y) (some z) none, ty, pos, af, g⟩ (S ((l.drop i.toNat).take (j.toNat - i.toNat))) w := fun a ha => by
 have h := run_slice_string (P := P) w t ⟨l.toArray⟩ .u64 .u64 i j hT h0 h1 h2
 rw [sub_str] at h
 simp [execOp, hx a ha, hy a ha, hz a ha, run_sliceAt_string w t _ _ _ _ hT, h]
def fewRec (r : Rec) : Bool := (((decide ((r.name.length : Int) ≤ 60) && decide ((r.parent.length : Int) ≤ 60)) && decide ((r.user.length : Int) ≤ 120)) && decide ((r.service.length : Int) ≤ 120)) && decide ((r.url.length : Int) ≤ 120)
def bigP (y : Pr) : Bool := decide ((80 : Int) < (y.1.length : Int)) || decide ((80 : Int) < (y.2.length : Int))
def bigU (u : Us) : Bool := (decide ((20 : Int) < (u.attrs.length : Int)) || decide ((80 : Int) < (u.name.length : Int))) || decide ((80 : Int) < (u.pw.length : Int))
def fewU1 (u : Us) : Bool := !bigU u && u.attrs.all fun y => !bigP y
def fewU (l : List Us) : Bool := l.all fewU1 && decide ((l.length : Int) ≤ 20)
def fewC (c : Cf) : Bool := few c.svs && fewU c.us
theorem rs_at {α : Type} {cells : α → List Value} {s : Nat} (hc : ∀ x, (cells x).length = s) {I : Im} {a : Option Addr} {l : List α} (hR : RS I a s l.length (rowsC cells l)) {i : Nat} {x : α} (hx : l[i]? = some x) : ∃ q, a = some q ∧ At I (q.add (i * s)) (cells x) := by
 obtain ⟨q, rfl, hq⟩ := hR.2 (by have := (List.getElem?_eq_some_iff.1 hx).1; omega)
 refine ⟨q, rfl, ?_⟩
 have h3 := at_take (hq.add (i * s)) s
 rw [rowsC, flat_piece (l.map cells) (fun c h => by obtain ⟨y, _, rfl⟩ := List.mem_map.1 h; exact hc y) i (cells x) (by rw [List.getElem?_map, hx]; rfl)] at h3
 exact h3
theorem fewRec_any (r : Rec) (B w : World) (I : Im) (As : List Assn) (hS : Sat B w I As) :
  Calls Tryz.prog 59 [.agg (recCells r).toArray].toArray w (Ret fun v w' => v = .bool (fewRec r) ∧ Sat B w' I As) := by
 refine calls Tryz.func59 rfl Tryz.ntmps59 rfl (.seq (.region (.boxA (cs := [_, _, _, _, _, _, _, _, _, _]) hS (.of rfl) rfl ?_)))
 clear hS; intro b1 w hS
 refine .run 1 rfl trivial (.nil (.seq (.region ?_)))
 first | refine WL.val (.fieldAddr 1 (.of rfl) Tryz.underlying45 rfl rfl Tryz.sizeOf9 rfl) rfl ?_ | refine WL.val (.fieldAddrI 1 (.of rfl) Tryz.underlying45 rfl rfl Tryz.sizeOf9 rfl) rfl ?_
 first | refine WL.val (.ld (.of rfl) hS (k := 0) rfl Tryz.isAgg9 rfl) rfl ?_ | refine WL.val (.ld (.of rfl) hS (k := 1) rfl Tryz.isAgg9 rfl) rfl ?_
 refine .run 3 rfl ⟨Tryz.underlying9, trivial⟩ ?_
 refine WL.gval rfl rfl (fun hg1 => (by first | exact .fieldAddr 2 (.of rfl) Tryz.underlying45 rfl rfl Tryz.sizeOf9 rfl | exact .fieldAddrI 2 (.of rfl) Tryz.underlying45 rfl rfl Tryz.sizeOf9 rfl)) rfl ?_
 refine WL.gval rfl rfl (fun hg1 => (by first | exact (.ld (.gd hg1 rfl) hS (k := 0) rfl Tryz.isAgg9 rfl) | exact (.ld (.gd hg1 rfl) hS (k := 1) rfl Tryz.isAgg9 rfl))) rfl ?_
 refine .gval rfl rfl (fun hg1 => (.len (.gd hg1 rfl) Tryz.underlying9)) rfl (.gval rfl rfl (fun hg1 => (.leq (.gd hg1 rfl) (.of rfl))) rfl (.val (.pand (.of rfl) (.of rfl) (.of rfl)) rfl (.run 1 rfl trivial ?_)))
 refine WL.gval rfl rfl (fun hg1 => (by first | exact .fieldAddr 3 (.of rfl) Tryz.underlying45 rfl rfl Tryz.sizeOf9 rfl | exact .fieldAddrI 3 (.of rfl) Tryz.underlying45 rfl rfl Tryz.sizeOf9 rfl)) rfl ?_
 refine WL.gval rfl rfl (fun hg1 => (by first | exact (.ld (.gd hg1 rfl) hS (k := 0) rfl Tryz.isAgg9 rfl) | exact (.ld (.gd hg1 rfl) hS (k := 1) rfl Tryz.isAgg9 rfl))) rfl ?_
 refine .gval rfl rfl (fun hg1 => (.len (.gd hg1 rfl) Tryz.underlying9)) rfl (.gval rfl rfl (fun hg1 => (.leq (.gd hg1 rfl) (.of rfl))) rfl (.val (.pand (.of rfl) (.of rfl) (.of rfl)) rfl (.run 1 rfl trivial ?_)))
 refine WL.gval rfl rfl (fun hg1 => (by first | exact .fieldAddr 4 (.of rfl) Tryz.underlying45 rfl rfl Tryz.sizeOf9 rfl | exact .fieldAddrI 4 (.of rfl) Tryz.underlying45 rfl rfl Tryz.sizeOf9 rfl)) rfl ?_
 refine WL.gval rfl rfl (fun hg1 => (by first | exact (.ld (.gd hg1 rfl) hS (k := 0) rfl Tryz.isAgg9 rfl) | exact (.ld (.gd hg1 rfl) hS (k := 1) rfl Tryz.isAgg9 rfl))) rfl ?_
 refine .gval rfl rfl (fun hg1 => (.len (.gd hg1 rfl) Tryz.underlying9)) rfl (.gval rfl rfl (fun hg1 => (.leq (.gd hg1 rfl) (.of rfl))) rfl (.val (.pand (.of rfl) (.of rfl) (.of rfl)) rfl (.run 1 rfl trivial ?_)))
 refine WL.gval rfl rfl (fun hg1 => (by first | exact .fieldAddr 5 (.of rfl) Tryz.underlying45 rfl rfl Tryz.sizeOf9 rfl | exact .fieldAddrI 5 (.of rfl) Tryz.underlying45 rfl rfl Tryz.sizeOf9 rfl)) rfl ?_
 refine WL.gval rfl rfl (fun hg1 => (by first | exact (.ld (.gd hg1 rfl) hS (k := 0) rfl Tryz.isAgg9 rfl) | exact (.ld (.gd hg1 rfl) hS (k := 1) rfl Tryz.isAgg9 rfl))) rfl ?_
 refine .gval rfl rfl (fun hg1 => (.len (.gd hg1 rfl) Tryz.underlying9)) rfl (.gval rfl rfl (fun hg1 => (.leq (.gd hg1 rfl) (.of rfl))) rfl (.val (.pand (.of rfl) (.of rfl) (.of rfl)) rfl (.run 1 rfl trivial (.nil (.ret (ret1 Tryz.results59 rfl ?_))))))
 exact ⟨_, rfl, rfl, hS.drop (k := 0) rfl⟩
theorem fewU_any (a : Option Addr) (cap : Nat) (l : List Us) (hln : l.length ≤ 9223372036854775807) (hfit : ∀ u ∈ l, u.fits) (B w : World) (I : Im) (hU : UsrsAt I a l) (As : List Assn) (hS : Sat B w I As) :
  Calls Tryz.prog 108 [.slice a l.length cap].toArray w (Ret fun v w' => v = .bool (fewU l) ∧ Sat B w' I As) := by
 refine calls Tryz.func108 rfl Tryz.ntmps108 rfl (.seq (.region (.run 1 rfl trivial (.nil (.seq (.seq (.region (.run 1 rfl trivial (.nil (.block (.loop (σ := Nat) (fun i => [(0, .slice a l.length cap), (3, I64 (i : Nat))]) (fun i w => i ≤ l.length ∧ (∀ (j : Nat) u, j < i → l[j]? = some u → fewU1 u = true) ∧ Sat B w I As) (fun i => l.length - i) 0 ⟨rfl, rfl, trivial⟩ ⟨Nat.zero_le _, fun _ _ h => absurd h (by omega), hS⟩ ?_)))))))))))
 rintro i w ⟨hi, hno, hS⟩
 change WC _ _ _ _ [(0, .slice a l.length cap), (3, I64 (i : Nat))] w
 refine .seq (.seq (.region (.run 4 rfl ⟨⟨_, Tryz.underlying28⟩, trivial⟩ (.nil ?_))))
 refine WC.cond rfl (fun hb8 => ?_) (fun hb8 => ?_)
 ·
  have hc8 := hb8; try simp only [Gk.cs0] at hc8
  refine .skip (.seq (.block (.seq (.seq ?_))))
  obtain ⟨u, hu⟩ : ∃ u, l[i]? = some u := ⟨_, List.getElem?_eq_getElem (by omega)⟩
  obtain ⟨p, ra, rc, hap, hx, hrc, hRR⟩ := hU i u hu
  have hfu := (hfit u (List.mem_of_getElem? hu)).attrs.1
  subst hap
  unfold usCells at hx
  refine .region (.run 2 rfl trivial ?_)
  first | refine WL.val (.indexAddr (.of rfl) (.of rfl) (by omega) (by omega) Tryz.underlying28 Tryz.sizeOf67) rfl ?_ | refine WL.val (.indexAddrI (.of rfl) (.of rfl) (by omega) (by omega) Tryz.underlying28 Tryz.sizeOf67) rfl ?_
  first | refine WL.val (.fieldAddr 2 (.of rfl) Tryz.underlying67 rfl rfl Tryz.sizeOf54 rfl) rfl ?_ | refine WL.val (.fieldAddrI 2 (.of rfl) Tryz.underlying67 rfl rfl Tryz.sizeOf54 rfl) rfl ?_
  first | refine WL.val (.ldI (.of rfl) hS (At.add hx _) Tryz.isAgg54 rfl) rfl ?_ | refine WL.val (.ldI (.of rfl) hS (At.add hy _) Tryz.isAgg54 rfl) rfl ?_
  refine .run 3 rfl ⟨⟨_, Tryz.underlying54⟩, trivial⟩ (.gval rfl rfl (fun hg1 => (.move (.of rfl))) rfl (.gval rfl rfl (fun hg1 => (.move (.of rfl))) rfl ?_))
  refine WL.gval rfl rfl (fun hg1 => (by first | exact .indexAddr (.gd hg1 rfl) (.gd hg1 rfl) (by (try simp only [Gk.cs0] at hg1); omega) (by (try simp only [Gk.cs0] at hg1); omega) Tryz.underlying28 Tryz.sizeOf67 | exact .indexAddrI (.gd hg1 rfl) (.gd hg1 rfl) (by (try simp only [Gk.cs0] at hg1); omega) (by (try simp only [Gk.cs0] at hg1); omega) Tryz.underlying28 Tryz.sizeOf67)) rfl ?_
  refine WL.gval rfl rfl (fun hg1 => (by first | exact .fieldAddr 0 (.gd hg1 rfl) Tryz.underlying67 rfl rfl Tryz.sizeOf9 rfl | exact .fieldAddrI 0 (.gd hg1 rfl) Tryz.underlying67 rfl rfl Tryz.sizeOf9 rfl)) rfl ?_
  refine WL.gval rfl rfl (fun hg1 => (by first | exact (.ldI (.gd hg1 rfl) hS (At.add hx _) Tryz.isAgg9 rfl) | exact (.ldI (.gd hg1 rfl) hS (At.add hy _) Tryz.isAgg9 rfl))) rfl ?_
  refine .gval rfl rfl (fun hg1 => (.len (.gd hg1 rfl) Tryz.underlying9)) rfl (.gval rfl rfl (fun hg1 => (.gtr (.gd hg1 rfl) (.of rfl))) rfl (.val (.por (.of rfl) (.of rfl) (.of rfl)) rfl (.run 1 rfl trivial (.gval rfl rfl (fun hg1 => (.move (.of rfl))) rfl (.gval rfl rfl (fun hg1 => (.move (.of rfl))) rfl ?_)))))
  refine WL.gval rfl rfl (fun hg1 => (by first | exact .indexAddr (.gd hg1 rfl) (.gd hg1 rfl) (by (try simp only [Gk.cs0] at hg1); omega) (by (try simp only [Gk.cs0] at hg1); omega) Tryz.underlying28 Tryz.sizeOf67 | exact .indexAddrI (.gd hg1 rfl) (.gd hg1 rfl) (by (try simp only [Gk.cs0] at hg1); omega) (by (try simp only [Gk.cs0] at hg1); omega) Tryz.underlying28 Tryz.sizeOf67)) rfl ?_
  refine WL.gval rfl rfl (fun hg1 => (by first | exact .fieldAddr 1 (.gd hg1 rfl) Tryz.underlying67 rfl rfl Tryz.sizeOf9 rfl | exact .fieldAddrI 1 (.gd hg1 rfl) Tryz.underlying67 rfl rfl Tryz.sizeOf9 rfl)) rfl ?_
  refine WL.gval rfl rfl (fun hg1 => (by first | exact (.ldI (.gd hg1 rfl) hS (At.add hx _) Tryz.isAgg9 rfl) | exact (.ldI (.gd hg1 rfl) hS (At.add hy _) Tryz.isAgg9 rfl))) rfl ?_
  refine .gval rfl rfl (fun hg1 => (.len (.gd hg1 rfl) Tryz.underlying9)) rfl (.gval rfl rfl (fun hg1 => (.gtr (.gd hg1 rfl) (.of rfl))) rfl (.val (.por (.of rfl) (.of rfl) (.of rfl)) rfl (.nil ?_)))
  refine WC.cond rfl (fun hb35 => ?_) (fun hb35 => ?_)
  ·
   have hc35 := hb35; try simp only [Gk.cs0] at hc35
   refine .seq (.region (.run 1 rfl trivial (.nil (.ret (ret1 Tryz.results108 rfl ?_)))))
   refine ⟨_, rfl, congrArg Value.bool ?_, hS⟩
   have : l.all fewU1 = false := List.all_eq_false.2 ⟨u, List.mem_of_getElem? hu, by
    rw [fewU1, show bigU u = true from hb35, Bool.not_true, Bool.false_and]; decide⟩
   rw [fewU, this]; rfl
  have hc35 := hb35; try simp only [Gk.cs0] at hc35
  refine .skip (.seq (.region (.run 1 rfl trivial (.nil (.block (.loop (σ := Nat) (fun k => [(0, .slice (some p) l.length cap), (3, I64 (i : Nat)), (4, I64 (k : Nat))]) (fun k w => k ≤ u.attrs.length ∧ (∀ (j : Nat) y, j < k → u.attrs[j]? = some y → bigP y = false) ∧ Sat B w I As) (fun k => u.attrs.length - k) 0 ⟨rfl, rfl, rfl, trivial⟩ ⟨Nat.zero_le _, fun _ _ h => absurd h (by omega), hS⟩ ?_))))))
  rintro k w ⟨hk, hny, hS⟩
  change WC _ _ _ _ [(0, .slice (some p) l.length cap), (3, I64 (i : Nat)), (4, I64 (k : Nat))] w
  refine .seq (.seq (.region (.run 3 rfl trivial ?_)))
  first | refine WL.val (.indexAddr (.of rfl) (.of rfl) (by omega) (by omega) Tryz.underlying28 Tryz.sizeOf67) rfl ?_ | refine WL.val (.indexAddrI (.of rfl) (.of rfl) (by omega) (by omega) Tryz.underlying28 Tryz.sizeOf67) rfl ?_
  first | refine WL.val (.fieldAddr 2 (.of rfl) Tryz.underlying67 rfl rfl Tryz.sizeOf54 rfl) rfl ?_ | refine WL.val (.fieldAddrI 2 (.of rfl) Tryz.underlying67 rfl rfl Tryz.sizeOf54 rfl) rfl ?_
  first | refine WL.val (.ldI (.of rfl) hS (At.add hx _) Tryz.isAgg54 rfl) rfl ?_ | refine WL.val (.ldI (.of rfl) hS (At.add hy _) Tryz.isAgg54 rfl) rfl ?_
  refine .run 2 rfl ⟨⟨_, Tryz.underlying54⟩, trivial⟩ (.nil ?_)
  refine WC.cond rfl (fun hb43 => ?_) (fun hb43 => ?_)
  ·
   have hc43 := hb43; try simp only [Gk.cs0] at hc43
   refine .skip (.seq (.block (.seq ?_)))
   obtain ⟨y, hy0⟩ : ∃ y, u.attrs[k]? = some y := ⟨_, List.getElem?_eq_getElem (by omega)⟩
   obtain ⟨q, hq9, hy⟩ := rs_at (cells := prCells) (s := 2) (fun _ => rfl) hRR hy0
   subst hq9
   unfold prCells at hy
   refine .region (.run 2 rfl trivial ?_)
   first | refine WL.val (.indexAddr (.of rfl) (.of rfl) (by omega) (by omega) Tryz.underlying28 Tryz.sizeOf67) rfl ?_ | refine WL.val (.indexAddrI (.of rfl) (.of rfl) (by omega) (by omega) Tryz.underlying28 Tryz.sizeOf67) rfl ?_
   first | refine WL.val (.fieldAddr 2 (.of rfl) Tryz.underlying67 rfl rfl Tryz.sizeOf54 rfl) rfl ?_ | refine WL.val (.fieldAddrI 2 (.of rfl) Tryz.underlying67 rfl rfl Tryz.sizeOf54 rfl) rfl ?_
   first | refine WL.val (.ldI (.of rfl) hS (At.add hx _) Tryz.isAgg54 rfl) rfl ?_ | refine WL.val (.ldI (.of rfl) hS (At.add hy _) Tryz.isAgg54 rfl) rfl ?_
   refine .run 1 rfl trivial ?_
   first | refine WL.val (.indexAddr (.of rfl) (.of rfl) (by omega) (by omega) Tryz.underlying54 Tryz.sizeOf69) rfl ?_ | refine WL.val (.indexAddrI (.of rfl) (.of rfl) (by omega) (by omega) Tryz.underlying54 Tryz.sizeOf69) rfl ?_
   first | refine WL.val (.fieldAddr 0 (.of rfl) Tryz.underlying69 rfl rfl Tryz.sizeOf9 rfl) rfl ?_ | refine WL.val (.fieldAddrI 0 (.of rfl) Tryz.underlying69 rfl rfl Tryz.sizeOf9 rfl) rfl ?_
   first | refine WL.val (.ldI (.of rfl) hS (At.add hx _) Tryz.isAgg9 rfl) rfl ?_ | refine WL.val (.ldI (.of rfl) hS (At.add hy _) Tryz.isAgg9 rfl) rfl ?_
   refine .run 3 rfl ⟨Tryz.underlying9, trivial⟩ (.gval rfl rfl (fun hg1 => (.move (.of rfl))) rfl (.gval rfl rfl (fun hg1 => (.move (.of rfl))) rfl ?_))
   refine WL.gval rfl rfl (fun hg1 => (by first | exact .indexAddr (.gd hg1 rfl) (.gd hg1 rfl) (by (try simp only [Gk.cs0] at hg1); omega) (by (try simp only [Gk.cs0] at hg1); omega) Tryz.underlying28 Tryz.sizeOf67 | exact .indexAddrI (.gd hg1 rfl) (.gd hg1 rfl) (by (try simp only [Gk.cs0] at hg1); omega) (by (try simp only [Gk.cs0] at hg1); omega) Tryz.underlying28 Tryz.sizeOf67)) rfl ?_
   refine WL.gval rfl rfl (fun hg1 => (by first | exact .fieldAddr 2 (.gd hg1 rfl) Tryz.underlying67 rfl rfl Tryz.sizeOf54 rfl | exact .fieldAddrI 2 (.gd hg1 rfl) Tryz.underlying67 rfl rfl Tryz.sizeOf54 rfl)) rfl ?_
   refine WL.gval rfl rfl (fun hg1 => (by first | exact (.ldI (.gd hg1 rfl) hS (At.add hx _) Tryz.isAgg54 rfl) | exact (.ldI (.gd hg1 rfl) hS (At.add hy _) Tryz.isAgg54 rfl))) rfl ?_
   refine .gval rfl rfl (fun hg1 => (.move (.of rfl))) rfl ?_
   refine WL.gval rfl rfl (fun hg1 => (by first | exact .indexAddr (.gd hg1 rfl) (.gd hg1 rfl) (by (try simp only [Gk.cs0] at hg1); omega) (by (try simp only [Gk.cs0] at hg1); omega) Tryz.underlying54 Tryz.sizeOf69 | exact .indexAddrI (.gd hg1 rfl) (.gd hg1 rfl) (by (try simp only [Gk.cs0] at hg1); omega) (by (try simp only [Gk.cs0] at hg1); omega) Tryz.underlying54 Tryz.sizeOf69)) rfl ?_
   refine WL.gval rfl rfl (fun hg1 => (by first | exact .fieldAddr 1 (.gd hg1 rfl) Tryz.underlying69 rfl rfl Tryz.sizeOf9 rfl | exact .fieldAddrI 1 (.gd hg1 rfl) Tryz.underlying69 rfl rfl Tryz.sizeOf9 rfl)) rfl ?_
   refine WL.gval rfl rfl (fun hg1 => (by first | exact (.ldI (.gd hg1 rfl) hS (At.add hx _) Tryz.isAgg9 rfl) | exact (.ldI (.gd hg1 rfl) hS (At.add hy _) Tryz.isAgg9 rfl))) rfl ?_
   refine .gval rfl rfl (fun hg1 => (.len (.gd hg1 rfl) Tryz.underlying9)) rfl (.gval rfl rfl (fun hg1 => (.gtr (.gd hg1 rfl) (.of rfl))) rfl (.val (.por (.of rfl) (.of rfl) (.of rfl)) rfl (.nil ?_)))
   refine WC.cond rfl (fun hb69 => ?_) (fun hb69 => ?_)
   ·
    have hc69 := hb69; try simp only [Gk.cs0] at hc69
    refine .seq (.region (.run 1 rfl trivial (.nil (.ret (ret1 Tryz.results108 rfl ?_)))))
    refine ⟨_, rfl, congrArg Value.bool ?_, hS⟩
    have : l.all fewU1 = false := List.all_eq_false.2 ⟨u, List.mem_of_getElem? hu, by
     have : u.attrs.all (fun y => !bigP y) = false := List.all_eq_false.2 ⟨y, List.mem_of_getElem? hy0, by
      rw [show bigP y = true from hb69]; decide⟩
     rw [fewU1, this, Bool.and_false]; decide⟩
    rw [fewU, this]; rfl
   have hc69 := hb69; try simp only [Gk.cs0] at hc69
   refine .skip (.region (.run 3 rfl ⟨⟨by omega, by omega⟩, trivial⟩ (.nil ?_)))
   refine ⟨k + 1, ⟨rfl, rfl, rfl, trivial⟩, ⟨by (try dsimp only); omega, fun j t hj ht => ?_, hS⟩, by (try dsimp only); omega⟩
   rcases Nat.lt_or_ge j k with h1 | h1
   ·exact hny j t h1 ht
   ·have e : j = k := by omega
    subst e
    rw [hy0] at ht; cases ht
    exact hb69
  have hc43 := hb43; try simp only [Gk.cs0] at hc43
  refine .exit (.region (.run 3 rfl ⟨⟨by omega, by omega⟩, trivial⟩ (.nil ?_)))
  refine ⟨i + 1, ⟨rfl, rfl, trivial⟩, ⟨by (try dsimp only); omega, fun j t hj ht => ?_, hS⟩, by (try dsimp only); omega⟩
  rcases Nat.lt_or_ge j i with h1 | h1
  ·exact hno j t h1 ht
  ·have e : j = i := by omega
   subst e
   rw [hu] at ht; cases ht
   have e1 : bigU u = false := hb35
   rw [fewU1, e1, Bool.not_false, Bool.true_and, List.all_eq_true]
   intro y hy
   obtain ⟨q, hq⟩ := List.mem_iff_getElem?.1 hy
   have := (List.getElem?_eq_some_iff.1 hq).1
   rw [hny q y (by omega) hq]; rfl
 have hc8 := hb8; try simp only [Gk.cs0] at hc8
 refine .exit (.seq (.region (.run 4 rfl ⟨⟨_, Tryz.underlying28⟩, trivial⟩ (.nil (.ret (ret1 Tryz.results108 rfl ?_))))))
 refine ⟨_, rfl, congrArg Value.bool ?_, hS⟩
 have : l.all fewU1 = true := by
  rw [List.all_eq_true]
  intro u hu
  obtain ⟨q, hq⟩ := List.mem_iff_getElem?.1 hu
  have := (List.getElem?_eq_some_iff.1 hq).1
  exact hno q u (by omega) hq
 rw [fewU, this, Bool.true_and]
set_option maxRecDepth 20000 in
theorem fewC_any (c : Cf) (a : Option Addr) (cap : Nat) (ua : Option Addr) (ucap : Nat) (hcap : c.svs.length ≤ cap) (hcm : cap ≤ maxLen) (hun : c.us.length ≤ 9223372036854775807) (hfit : ∀ u ∈ c.us, u.fits) (B w : World) (I : Im) (hl : SvsAt I a c.svs) (hU : UsrsAt I ua c.us) (As : List Assn) (hS : Sat B w I As) :
  Calls Tryz.prog 60 [.agg (cfCells c a cap ua ucap).toArray].toArray w (Ret fun v w' => v = .bool (fewC c) ∧ Sat B w' I As) := by
 refine calls Tryz.func60 rfl Tryz.ntmps60 rfl (.seq (.region (.boxA (cs := [_, _, _, _, _, _, _, _, _, _, _, _, _, _, _, _, _, _, _, _, _, _, _, _, _, _, _, _]) hS (.of rfl) rfl ?_)))
 clear hS; intro b1 w hS
 refine .run 1 rfl trivial (.nil (.seq (.region ?_)))
 first | refine WL.val (.fieldAddr 0 (.of rfl) Tryz.underlying34 rfl rfl Tryz.sizeOf27 rfl) rfl ?_ | refine WL.val (.fieldAddrI 0 (.of rfl) Tryz.underlying34 rfl rfl Tryz.sizeOf27 rfl) rfl ?_
 first | refine WL.val (.ld (.of rfl) hS (k := 0) rfl Tryz.isAgg27 rfl) rfl ?_ | refine WL.val (.ld (.of rfl) hS (k := 1) rfl Tryz.isAgg27 rfl) rfl ?_
 refine .call Tryz.func107 rfl (evs_cons (.of rfl) evs_nil) rfl (Few_any a cap c.svs hcap hcm B _ I hl _ hS) ?_
 clear hS
 rintro _ w ⟨rfl, hS⟩
 refine .run 1 rfl trivial (.nil (.seq (.region ?_)))
 first | refine WL.val (.fieldAddr 1 (.of rfl) Tryz.underlying34 rfl rfl Tryz.sizeOf28 rfl) rfl ?_ | refine WL.val (.fieldAddrI 1 (.of rfl) Tryz.underlying34 rfl rfl Tryz.sizeOf28 rfl) rfl ?_
 first | refine WL.val (.ld (.of rfl) hS (k := 0) rfl Tryz.isAgg28 rfl) rfl ?_ | refine WL.val (.ld (.of rfl) hS (k := 1) rfl Tryz.isAgg28 rfl) rfl ?_
 refine .call Tryz.func108 rfl (evs_cons (.of rfl) evs_nil) rfl (fewU_any ua ucap c.us hun hfit B _ I hU _ hS) ?_
 clear hS
 rintro _ w ⟨rfl, hS⟩
 refine .run 1 rfl trivial (.nil (.seq (.region (.run 2 rfl trivial (.gval rfl rfl (fun hg1 => (.move (.of rfl))) rfl (.val (.pand (.of rfl) (.of rfl) (.of rfl)) rfl (.run 1 rfl trivial (.nil (.ret (ret1 Tryz.results60 rfl ?_))))))))))
 exact ⟨_, rfl, rfl, hS.drop (k := 0) rfl⟩
theorem refPrefix_any (k : Int) (B w : World) (I : Im) (As : List Assn) (hS : Sat B w I As) :
  Calls Tryz.prog 97 [I64 k].toArray w (Ret fun v w' => v = S (preI k) ∧ Sat B w' I As) := by
 refine calls Tryz.func97 rfl Tryz.ntmps97 rfl (.seq (.region (.run 1 rfl trivial (.nil (.seq (.seq (.region (.run 1 rfl trivial (.nil (.block (.seq (.region (.run 2 rfl trivial (.nil ?_))))))))))))))
 refine WC.cond rfl (fun hb4 => ?_) (fun hb4 => ?_)
 ·
  have hc4 := hb4; try simp only [Gk.cs0] at hc4
  refine .seq (.region (.run 1 rfl trivial (.nil (.ret (ret1 Tryz.results97 rfl ?_)))))
  refine ⟨_, rfl, congrArg S ?_, hS⟩
  simp only [beq_iff_eq, beq_eq_false_iff_ne] at *
  first | subst_vars; rfl | (rw [preI, if_pos (by omega)])
 have hc4 := hb4; try simp only [Gk.cs0] at hc4
 refine .seq (.region (.run 2 rfl trivial (.nil ?_)))
 refine WC.cond rfl (fun hb6 => ?_) (fun hb6 => ?_)
 ·
  have hc6 := hb6; try simp only [Gk.cs0] at hc6
  refine .seq (.region (.run 1 rfl trivial (.nil (.ret (ret1 Tryz.results97 rfl ?_)))))
  refine ⟨_, rfl, congrArg S ?_, hS⟩
  simp only [beq_iff_eq, beq_eq_false_iff_ne] at *
  first | subst_vars; rfl | (rw [preI, if_pos (by omega)])
 have hc6 := hb6; try simp only [Gk.cs0] at hc6
 refine .seq (.region (.run 2 rfl trivial (.nil ?_)))
 refine WC.cond rfl (fun hb8 => ?_) (fun hb8 => ?_)
 ·
  have hc8 := hb8; try simp only [Gk.cs0] at hc8
  refine .seq (.region (.run 1 rfl trivial (.nil (.ret (ret1 Tryz.results97 rfl ?_)))))
  refine ⟨_, rfl, congrArg S ?_, hS⟩
  simp only [beq_iff_eq, beq_eq_false_iff_ne] at *
  first | subst_vars; rfl | (rw [preI, if_pos (by omega)])
 have hc8 := hb8; try simp only [Gk.cs0] at hc8
 refine .seq (.region (.run 2 rfl trivial (.nil ?_)))
 refine WC.cond rfl (fun hb10 => ?_) (fun hb10 => ?_)
 ·
  have hc10 := hb10; try simp only [Gk.cs0] at hc10
  refine .seq (.region (.run 1 rfl trivial (.nil (.ret (ret1 Tryz.results97 rfl ?_)))))
  refine ⟨_, rfl, congrArg S ?_, hS⟩
  simp only [beq_iff_eq, beq_eq_false_iff_ne] at *
  first | subst_vars; rfl | (rw [preI, if_pos (by omega)])
 have hc10 := hb10; try simp only [Gk.cs0] at hc10
 refine .seq (.region (.run 2 rfl trivial (.nil ?_)))
 refine WC.cond rfl (fun hb12 => ?_) (fun hb12 => ?_)
 ·
  have hc12 := hb12; try simp only [Gk.cs0] at hc12
  refine .seq (.region (.run 1 rfl trivial (.nil (.ret (ret1 Tryz.results97 rfl ?_)))))
  refine ⟨_, rfl, congrArg S ?_, hS⟩
  simp only [beq_iff_eq, beq_eq_false_iff_ne] at *
  first | subst_vars; rfl | (rw [preI, if_pos (by omega)])
 have hc12 := hb12; try simp only [Gk.cs0] at hc12
 refine .seq (.region (.run 2 rfl trivial (.nil ?_)))
 refine WC.cond rfl (fun hb14 => ?_) (fun hb14 => ?_)
 ·
  have hc14 := hb14; try simp only [Gk.cs0] at hc14
  refine .seq (.region (.run 1 rfl trivial (.nil (.ret (ret1 Tryz.results97 rfl ?_)))))
  refine ⟨_, rfl, congrArg S ?_, hS⟩
  simp only [beq_iff_eq, beq_eq_false_iff_ne] at *
  first | subst_vars; rfl | (rw [preI, if_pos (by omega)])
 have hc14 := hb14; try simp only [Gk.cs0] at hc14
 refine .skip (.seq (.region (.run 1 rfl trivial (.nil (.ret (ret1 Tryz.results97 rfl ?_))))))
 refine ⟨_, rfl, congrArg S ?_, hS⟩
 simp only [beq_iff_eq, beq_eq_false_iff_ne] at *
 first | subst_vars; rfl | (rw [preI, if_pos (by omega)])
theorem hex_take {n : Nat} (h : n < 16) : (HEXD.drop n).take 1 = [dg n] := (by decide : ∀ n : Fin 16, (HEXD.drop n.val).take 1 = [dg n.val]) ⟨n, h⟩
theorem refName_any (kind : Int) (d : Nat) (hd : d < 18446744073709551616) (B w : World) (I : Im) (As : List Assn) (hS : Sat B w I As) :
  Calls Tryz.prog 56 [I64 kind, U64 (d : Nat)].toArray w (Ret fun v w' => v = (if preI kind = [] then .tuple #[S [], I64 8] else .tuple #[S (preI kind ++ 45 :: digs 16 d), I64 0]) ∧ Sat B w' I As) := by
 refine calls Tryz.func56 rfl Tryz.ntmps56 rfl (.seq (.region (.run 2 rfl trivial (.nil (.seq (.region (.run 1 rfl trivial (.call Tryz.func97 rfl (evs_cons (.of rfl) evs_nil) rfl (refPrefix_any kind B _ I _ hS) ?_))))))))
 clear hS
 rintro _ w ⟨rfl, hS⟩
 refine .run 1 rfl trivial (.nil (.seq (.seq (.region (.run 2 rfl trivial (.nil ?_))))))
 refine WC.cond rfl (fun hb13 => ?_) (fun hb13 => ?_)
 ·
  have hc13 := hb13; try simp only [Gk.cs0] at hc13
  refine .seq (.region (.run 2 rfl trivial (.nil (.ret (ret2 Tryz.results56 rfl rfl ?_)))))
  exact ⟨_, rfl, by rw [if_pos (by simpa using hb13)], hS⟩
 have hc13 := hb13; try simp only [Gk.cs0] at hc13
 refine .skip (.seq (.region (.run 1 rfl trivial (.nil (.seq (.region (.run 1 rfl trivial (.nil (.seq (.seq (.region (.run 1 rfl trivial (.nil (.block (.loop (σ := Nat × Nat) (fun ⟨i, e⟩ => [(1, U64 (e : Nat)), (6, S (preI kind)), (7, S HEXD), (8, S (digs i d)), (9, I64 (i : Nat))]) (fun ⟨i, e⟩ w => i ≤ 16 ∧ e = d / 16 ^ i ∧ Sat B w I As) (fun ⟨i, e⟩ => 16 - i) (0, d) ⟨rfl, rfl, rfl, rfl, rfl, trivial⟩ ⟨Nat.zero_le _, by simp, hS⟩ ?_)))))))))))))))
 rintro ⟨i, e⟩ w ⟨hi, he, hS⟩
 change WC _ _ _ _ [(1, U64 (e : Nat)), (6, S (preI kind)), (7, S HEXD), (8, S (digs i d)), (9, I64 (i : Nat))] w
 refine .seq (.seq (.region (.run 2 rfl trivial (.nil ?_))))
 refine WC.cond rfl (fun hb15 => ?_) (fun hb15 => ?_)
 ·
  have hc15 := hb15; try simp only [Gk.cs0] at hc15
  refine .skip (.seq (.block (.seq ?_)))
  have hed : e < 18446744073709551616 := by rw [he]; exact Nat.lt_of_le_of_lt (Nat.div_le_self _ _) hd
  have hdl := digs_len i d
  have hm16 := Nat.mod_lt e (show 0 < 16 by decide)
  have hcast : ((e : Nat) : Int) % 16 = ((e % 16 : Nat) : Int) := by omega
  have htk := hex_take hm16
  have hsl : (HEXD.drop ((e : Int) % 16).toNat).take (((e : Int) % 16 + 1).toNat - ((e : Int) % 16).toNat) = [dg (e % 16)] := by
   rw [hcast, Int.toNat_natCast, show (((e % 16 : Nat) : Int) + 1).toNat - e % 16 = 1 by omega]; exact htk
  have hcons : [dg (e % 16)] ++ digs i d = digs (i + 1) d := by rw [digs_cons, he]; rfl
  have hquo : ((e : Nat) : Int) / 16 = ((e / 16 : Nat) : Int) := by omega
  have hee : e / 16 = d / 16 ^ (i + 1) := by rw [he, Nat.div_div_eq_div_mul, Nat.pow_succ]
  refine .region (.run 2 rfl trivial (.val (.rem (.of rfl) (.of rfl) (by omega) (by omega)) rfl (.run 1 rfl trivial (.val (.rem (.of rfl) (.of rfl) (by omega) (by omega)) rfl ?_))))
  first | refine WL.val (.addx (.of rfl) (.of rfl) (by rw [IntKind.wrap_u64]; omega)) rfl ?_ | refine WL.val (.addw (.of rfl) (.of rfl)) rfl ?_
  refine WL.val (Ex.sub3U (.of rfl) (.of rfl) (.of rfl) (by omega) (by omega) (by show _ ≤ (16 : Int); omega) Tryz.underlying9) rfl ?_
  rw [hsl]
  refine .run 1 rfl trivial ?_
  refine WL.val (.cat (.of rfl) (.of rfl) (by (try simp only [List.length_append, List.length_cons, List.length_nil]); omega)) rfl ?_
  rw [hcons]
  refine .run 1 rfl trivial (.nil (.region (.run 1 rfl trivial ?_)))
  refine WL.val (.quo (.of rfl) (.of rfl) (by omega) (by omega) (by rw [IntKind.wrap_u64]; omega)) rfl ?_
  rw [hquo]
  refine .run 1 rfl trivial (.nil (.region (.run 3 rfl ⟨⟨by omega, by omega⟩, trivial⟩ (.nil ?_))))
  refine ⟨(i + 1, e / 16), ⟨rfl, rfl, rfl, rfl, rfl, trivial⟩, ⟨by (try dsimp only); omega, hee, hS⟩, by (try dsimp only); omega⟩
 have hc15 := hb15; try simp only [Gk.cs0] at hc15
 refine .exit (.seq ?_)
 have hpl := preI_le kind
 have hdl := digs_len i d
 refine .region ?_
 refine WL.run 6 rfl ⟨by (try simp only [List.length_append, List.length_cons, List.length_nil]); omega, by (try simp only [List.length_append, List.length_cons, List.length_nil]); omega, trivial⟩ ?_
 refine .nil (.ret (ret2 Tryz.results56 rfl rfl ?_))
 have e16 : i = 16 := by omega
 subst e16
 refine ⟨_, rfl, by rw [if_neg (by simpa using hb13), List.append_assoc]; rfl, hS⟩
end Go.Proofs.YtadhiihnnkcagaaGreatDoor
namespace Go.Proofs.YtadhiihnnkcagaaGreatDoor
open Gk Pat
set_option linter.unusedVariables false
set_option linter.unusedSimpArgs false
theorem few_facts {l : List Sv} (h : few l = true) : l.length ≤ 20 ∧ ∀ s ∈ l, s.rel.length ≤ 20 := by
 unfold few at h
 simp only [Bool.and_eq_true, decide_eq_true_eq] at h
 refine ⟨by omega, fun s hs => ?_⟩
 have := List.all_eq_true.1 h.1 s hs
 unfold few1 at this
 simp only [Bool.not_eq_true', Bool.or_eq_false_iff, decide_eq_false_iff_not] at this
 omega
theorem fits_ord {l : List Sv} (h : ∀ s ∈ l, s.fits) : ∀ v ∈ ords l, v < 18446744073709551616 := fun v hv => by
 obtain ⟨s, hs, rfl⟩ := List.mem_map.1 hv
 exact (h s hs).ord
theorem fits_fit {l : List Sv} (h : ∀ s ∈ l, s.fits) (hr : ∀ s ∈ l, s.rel.length ≤ 20) : ∀ s ∈ l, s.urls.length ≤ 9223372036854775807 ∧ s.calls.length ≤ 9223372036854775807 ∧ s.rel.length ≤ 1000000 := fun s hs => by
 have h1 := (h s hs).urls
 have h2 := (h s hs).calls
 have h3 := hr s hs
 unfold maxLen at h1 h2
 exact ⟨by omega, by omega, by omega⟩
end Go.Proofs.YtadhiihnnkcagaaGreatDoor
namespace Go.Proofs.YtadhiihnnkcagaaGreatDoor
open Gk Ul Pc Tk Tr
set_option linter.unusedVariables false
set_option linter.unusedSimpArgs false
def bigQ (q : Qr) : Bool := decide ((60 : Int) < (q.ticket.length : Int)) || decide ((200 : Int) < (q.service.length : Int))
def few21 (c : Cf) (l : List Rec) (asks : List Qr) : Bool := (l.all fewRec && asks.all fun q => !bigQ q) && ((fewC c && decide ((l.length : Int) ≤ 30)) && decide ((asks.length : Int) ≤ 20))
def addW (ω : Wd) (r : Rec) : Wd := { ω with l := add ω.room ω.l r }
theorem addW_ok {ω : Wd} (h : WdOk ω) (r : Rec) : WdOk (addW ω r) := by
 refine ⟨?_, h.wf.add, h.D, h.now, h.room⟩
 show (add ω.room ω.l r).length ≤ 64
 unfold add
 split
 ·rename_i e
  have := (add_ok e).2.2.2
  have := h.room
  rw [List.length_append, List.length_cons, List.length_nil]; omega
 ·exact h.len
theorem addsW_ok : ∀ (l : List Rec) {ω : Wd}, WdOk ω → WdOk (l.foldl addW ω)
 | [], _, h => h
 | r :: l, _, h => addsW_ok l (addW_ok h r)
def madeW (c : Cf) (l : List Rec) (now : Int) : Wd := tick (l.foldl addW (w0 c)) now
theorem madeW_ok (c : Cf) (l : List Rec) (now : Int) : WdOk (madeW c l now) := tick_ok (addsW_ok l (w0_ok c)) now
def MadeT (c : Cf) (ω : Wd) (J : Im) (pv : Option Addr) (B w : World) (As : List Assn) : Prop := (newE c ≠ 0 ∧ pv = none ∧ Sat B w J As) ∨ (newE c = 0 ∧ ∃ p D, Srt.Ord (kx (ords c.svs)) c.svs.length D ∧ p.lo = pickS c.svs D ∧ p.us = c.us ∧ p.ps = c.ps ∧ pv = some (ad p.wb 0) ∧ WpOk J p ∧ Sat B w J (wdA p ω :: As))
structure CfAt (I : Im) (c : Cf) (a : Option Addr) (cap : Nat) (ua : Option Addr) (ucap : Nat) : Prop where
 svs : SvsAt I a c.svs
 us : UsrsAt I ua c.us
 cap : c.svs.length ≤ cap ∧ cap ≤ maxLen
 un : c.us.length ≤ 9223372036854775807
 sfit : ∀ s ∈ c.svs, s.fits
 ufit : ∀ u ∈ c.us, u.fits
theorem CfAt.mono {I J : Im} {c : Cf} {a ua : Option Addr} {cap ucap : Nat} (h : CfAt I c a cap ua ucap) (hl : Le I J) : CfAt J c a cap ua ucap := ⟨h.svs.mono hl, h.us.mono hl, h.cap, h.un, h.sfit, h.ufit⟩
theorem fewC_fits {I : Im} {c : Cf} {a ua : Option Addr} {cap ucap : Nat} (h : CfAt I c a cap ua ucap) (hf : fewC c = true) : c.fits := by
 unfold fewC at hf
 simp only [Bool.and_eq_true] at hf
 have h1 := few_facts hf.1
 refine ⟨by omega, fits_ord h.sfit, fits_fit h.sfit h1.2, h.un, h.ufit⟩
theorem few21_any (c : Cf) (a : Option Addr) (cap : Nat) (ua : Option Addr) (ucap : Nat) (la : Option Addr) (lc : Nat) (l : List Rec) (hll : l.length ≤ 9223372036854775807) (qa : Option Addr) (qc : Nat) (asks : List Qr) (hql : asks.length ≤ 9223372036854775807) (B w : World) (I : Im) (hC : CfAt I c a cap ua ucap) (hR : RS I la 10 l.length (rowsC recCells l)) (hQ : RS I qa 4 asks.length (rowsC qrCells asks)) (As : List Assn) (hS : Sat B w I As) :
  Calls Tryz.prog 15 [.agg (cfCells c a cap ua ucap).toArray, .slice la l.length lc, .slice qa asks.length qc].toArray w (Ret fun v w' => v = .bool (few21 c l asks) ∧ Sat B w' I As) := by
 refine calls Tryz.func15 rfl Tryz.ntmps15 rfl (.seq (.region (.boxA (cs := cfCells c a cap ua ucap) hS (.of rfl) rfl ?_)))
 clear hS; intro b3 w hS
 refine .run 1 rfl trivial (.nil (.seq (.seq (.region (.run 1 rfl trivial (.nil (.block (.loop (σ := Nat) (fun i => [(1, .slice la l.length lc), (2, .slice qa asks.length qc), (3, ptr b3 0), (7, I64 (i : Nat))]) (fun i w => i ≤ l.length ∧ (∀ (j : Nat) r, j < i → l[j]? = some r → fewRec r = true) ∧ Sat B w I (blk b3 (cfCells c a cap ua ucap) 34 :: As)) (fun i => l.length - i) 0 ⟨rfl, rfl, rfl, rfl, trivial⟩ ⟨Nat.zero_le _, fun _ _ h => absurd h (by omega), hS⟩ ?_))))))))
 rintro i w ⟨hi, hno, hS⟩
 change WC _ _ _ _ [(1, .slice la l.length lc), (2, .slice qa asks.length qc), (3, ptr b3 0), (7, I64 (i : Nat))] w
 refine .seq (.seq (.region (.run 4 rfl ⟨⟨_, Tryz.underlying35⟩, trivial⟩ (.nil ?_))))
 refine WC.cond rfl (fun hb14 => ?_) (fun hb14 => ?_)
 ·
  have hc14 := hb14; try simp only [Gk.cs0] at hc14
  refine .skip (.seq (.block (.seq ?_)))
  obtain ⟨r, hr⟩ : ∃ r, l[i]? = some r := ⟨_, List.getElem?_eq_getElem (by omega)⟩
  obtain ⟨p, hp9, hx⟩ := rs_at (cells := recCells) (s := 10) (fun _ => rfl) hR hr
  subst hp9
  refine .region (.run 2 rfl trivial ?_)
  first | refine WL.val (.indexAddr (.of rfl) (.of rfl) (by omega) (by omega) Tryz.underlying35 Tryz.sizeOf45) rfl ?_ | refine WL.val (.indexAddrI (.of rfl) (.of rfl) (by omega) (by omega) Tryz.underlying35 Tryz.sizeOf45) rfl ?_
  refine .val (.ldsI (.of rfl) hS hx Tryz.isAgg45 Tryz.sizeOf45 rfl (fun _ _ h => h)) rfl (.call Tryz.func59 rfl (evs_cons (.of rfl) evs_nil) rfl (fewRec_any r B _ I _ hS) ?_)
  clear hS
  rintro _ w ⟨rfl, hS⟩
  refine .run 1 rfl trivial (.nil (.seq (.region (.run 2 rfl trivial (.nil ?_)))))
  refine WC.cond rfl (fun hb23 => ?_) (fun hb23 => ?_)
  ·
   have hc23 := hb23; try simp only [Gk.cs0] at hc23
   refine .seq (.region (.run 1 rfl trivial (.nil (.ret (ret1 Tryz.results15 rfl ?_)))))
   refine ⟨_, rfl, congrArg Value.bool ?_, hS.drop (k := 0) rfl⟩
   have : l.all fewRec = false := List.all_eq_false.2 ⟨r, List.mem_of_getElem? hr, by simpa using hb23⟩
   rw [few21, this]; rfl
  have hc23 := hb23; try simp only [Gk.cs0] at hc23
  refine .skip (.region (.run 3 rfl ⟨⟨by omega, by omega⟩, trivial⟩ (.nil ?_)))
  refine ⟨i + 1, ⟨rfl, rfl, rfl, rfl, trivial⟩, ⟨by (try dsimp only); omega, fun j t hj ht => ?_, hS⟩, by (try dsimp only); omega⟩
  rcases Nat.lt_or_ge j i with h1 | h1
  ·exact hno j t h1 ht
  ·have e : j = i := by omega
   subst e
   rw [hr] at ht; cases ht
   simpa using hb23
 have hc14 := hb14; try simp only [Gk.cs0] at hc14
 refine .exit (.seq (.seq ?_))
 have hil : i = l.length := by omega
 subst hil
 have hallr : l.all fewRec = true := by
  rw [List.all_eq_true]
  intro r hr
  obtain ⟨j, hj⟩ := List.mem_iff_getElem?.1 hr
  have := (List.getElem?_eq_some_iff.1 hj).1
  exact hno j r (by omega) hj
 refine .region (.run 1 rfl trivial (.nil (.block (.loop (σ := Nat) (fun i => [(1, .slice la l.length lc), (2, .slice qa asks.length qc), (3, ptr b3 0), (9, I64 (i : Nat))]) (fun i w => i ≤ asks.length ∧ (∀ (j : Nat) q, j < i → asks[j]? = some q → bigQ q = false) ∧ Sat B w I (blk b3 (cfCells c a cap ua ucap) 34 :: As)) (fun i => asks.length - i) 0 ⟨rfl, rfl, rfl, rfl, trivial⟩ ⟨Nat.zero_le _, fun _ _ h => absurd h (by omega), hS⟩ ?_))))
 rintro i w ⟨hi, hnq, hS⟩
 change WC _ _ _ _ [(1, .slice la l.length lc), (2, .slice qa asks.length qc), (3, ptr b3 0), (9, I64 (i : Nat))] w
 refine .seq (.seq (.region (.run 4 rfl ⟨⟨_, Tryz.underlying36⟩, trivial⟩ (.nil ?_))))
 refine WC.cond rfl (fun hb27 => ?_) (fun hb27 => ?_)
 ·
  have hc27 := hb27; try simp only [Gk.cs0] at hc27
  refine .skip (.seq (.block (.seq ?_)))
  obtain ⟨q, hq0⟩ : ∃ q, asks[i]? = some q := ⟨_, List.getElem?_eq_getElem (by omega)⟩
  obtain ⟨p, hp9, hq⟩ := rs_at (cells := qrCells) (s := 4) (fun _ => rfl) hQ hq0
  subst hp9
  unfold qrCells at hq
  refine .region (.run 2 rfl trivial ?_)
  first | refine WL.val (.indexAddr (.of rfl) (.of rfl) (by omega) (by omega) Tryz.underlying36 Tryz.sizeOf43) rfl ?_ | refine WL.val (.indexAddrI (.of rfl) (.of rfl) (by omega) (by omega) Tryz.underlying36 Tryz.sizeOf43) rfl ?_
  first | refine WL.val (.fieldAddr 0 (.of rfl) Tryz.underlying43 rfl rfl Tryz.sizeOf9 rfl) rfl ?_ | refine WL.val (.fieldAddrI 0 (.of rfl) Tryz.underlying43 rfl rfl Tryz.sizeOf9 rfl) rfl ?_
  first | refine WL.val (.ld (.of rfl) hS (k := 0) rfl Tryz.isAgg9 rfl) rfl ?_ | refine WL.val (.ldI (.of rfl) hS (At.add hx _) Tryz.isAgg9 rfl) rfl ?_ | refine WL.val (.ldI (.of rfl) hS (At.add hq _) Tryz.isAgg9 rfl) rfl ?_
  refine .run 3 rfl ⟨Tryz.underlying9, trivial⟩ (.gval rfl rfl (fun hg1 => (.move (.of rfl))) rfl (.gval rfl rfl (fun hg1 => (.move (.of rfl))) rfl ?_))
  refine WL.gval rfl rfl (fun hg1 => (by first | exact .indexAddr (.gd hg1 rfl) (.gd hg1 rfl) (by (try simp only [Gk.cs0] at hg1); omega) (by (try simp only [Gk.cs0] at hg1); omega) Tryz.underlying36 Tryz.sizeOf43 | exact .indexAddrI (.gd hg1 rfl) (.gd hg1 rfl) (by (try simp only [Gk.cs0] at hg1); omega) (by (try simp only [Gk.cs0] at hg1); omega) Tryz.underlying36 Tryz.sizeOf43)) rfl ?_
  refine WL.gval rfl rfl (fun hg1 => (by first | exact .fieldAddr 1 (.gd hg1 rfl) Tryz.underlying43 rfl rfl Tryz.sizeOf9 rfl | exact .fieldAddrI 1 (.gd hg1 rfl) Tryz.underlying43 rfl rfl Tryz.sizeOf9 rfl)) rfl ?_
  refine WL.gval rfl rfl (fun hg1 => (by first | exact (.ld (.gd hg1 rfl) hS (k := 0) rfl Tryz.isAgg9 rfl) | exact (.ldI (.gd hg1 rfl) hS (At.add hx _) Tryz.isAgg9 rfl) | exact (.ldI (.gd hg1 rfl) hS (At.add hq _) Tryz.isAgg9 rfl))) rfl ?_
  refine .gval rfl rfl (fun hg1 => (.len (.gd hg1 rfl) Tryz.underlying9)) rfl (.gval rfl rfl (fun hg1 => (.gtr (.gd hg1 rfl) (.of rfl))) rfl (.val (.por (.of rfl) (.of rfl) (.of rfl)) rfl (.nil ?_)))
  refine WC.cond rfl (fun hb45 => ?_) (fun hb45 => ?_)
  ·
   have hc45 := hb45; try simp only [Gk.cs0] at hc45
   refine .seq (.region (.run 1 rfl trivial (.nil (.ret (ret1 Tryz.results15 rfl ?_)))))
   refine ⟨_, rfl, congrArg Value.bool ?_, hS.drop (k := 0) rfl⟩
   have : (asks.all fun q => !bigQ q) = false := List.all_eq_false.2 ⟨q, List.mem_of_getElem? hq0, by rw [show bigQ q = true from hb45]; decide⟩
   rw [few21, this, Bool.and_false]; rfl
  have hc45 := hb45; try simp only [Gk.cs0] at hc45
  refine .skip (.region (.run 3 rfl ⟨⟨by omega, by omega⟩, trivial⟩ (.nil ?_)))
  refine ⟨i + 1, ⟨rfl, rfl, rfl, rfl, trivial⟩, ⟨by (try dsimp only); omega, fun j t hj ht => ?_, hS⟩, by (try dsimp only); omega⟩
  rcases Nat.lt_or_ge j i with h1 | h1
  ·exact hnq j t h1 ht
  ·have e : j = i := by omega
   subst e
   rw [hq0] at ht; cases ht
   exact hb45
 have hc27 := hb27; try simp only [Gk.cs0] at hc27
 refine .exit (.seq (.region ?_))
 refine WL.val (.lds (vs := cfCells c a cap ua ucap) (.of rfl) hS (k := 0) rfl Tryz.isAgg34 Tryz.sizeOf34 rfl (fun j v hj => by rw [Nat.zero_add]; exact hj)) rfl ?_
 refine .call Tryz.func60 rfl (evs_cons (.of rfl) evs_nil) rfl (fewC_any c a cap ua ucap hC.cap.1 hC.cap.2 hC.un hC.ufit B _ I hC.svs hC.us _ hS) ?_
 clear hS
 rintro _ w ⟨rfl, hS⟩
 refine .run 1 rfl trivial (.nil (.seq (.region (.run 2 rfl trivial (.gval rfl rfl (fun hg1 => (.move (.of rfl))) rfl (.gval rfl rfl (fun hg1 => (.lenSlice (.gd hg1 rfl) Tryz.underlying35)) rfl (.gval rfl rfl (fun hg1 => (.leq (.gd hg1 rfl) (.of rfl))) rfl (.val (.pand (.of rfl) (.of rfl) (.of rfl)) rfl (.run 1 rfl trivial (.gval rfl rfl (fun hg1 => (.move (.of rfl))) rfl (.gval rfl rfl (fun hg1 => (.lenSlice (.gd hg1 rfl) Tryz.underlying36)) rfl (.gval rfl rfl (fun hg1 => (.leq (.gd hg1 rfl) (.of rfl))) rfl (.val (.pand (.of rfl) (.of rfl) (.of rfl)) rfl (.run 1 rfl trivial (.nil (.ret (ret1 Tryz.results15 rfl ?_)))))))))))))))))
 refine ⟨_, rfl, congrArg Value.bool ?_, hS.drop (k := 0) rfl⟩
 have : (asks.all fun q => !bigQ q) = true := by
  rw [List.all_eq_true]
  intro q hq
  obtain ⟨j, hj⟩ := List.mem_iff_getElem?.1 hq
  have := (List.getElem?_eq_some_iff.1 hj).1
  rw [hnq j q (by omega) hj]; rfl
 rw [few21, hallr, this]; rfl
theorem made21_any (c : Cf) (a : Option Addr) (cap : Nat) (ua : Option Addr) (ucap : Nat) (hc : c.fits) (la : Option Addr) (lc : Nat) (l : List Rec) (hll : l.length ≤ 9223372036854775807) (hsr : ∀ r ∈ l, r.name.length ≤ 60 ∧ r.parent.length ≤ 60) (now : Int) (B w : World) (I : Im) (hK : Known I) (hP : PreAt I) (hC : CfAt I c a cap ua ucap) (hR : RS I la 10 l.length (rowsC recCells l)) (As : List Assn) (hS : Sat B w I As) :
  Calls Tryz.prog 16 [.agg (cfCells c a cap ua ucap).toArray, .slice la l.length lc, I64 now].toArray w (Ret fun v w' => ∃ J pv, Le I J ∧ v = .pointer pv ∧ MadeT c (madeW c l now) J pv B w' As) := by
 refine calls Tryz.func16 rfl Tryz.ntmps16 rfl (.seq (.region (.boxA (cs := cfCells c a cap ua ucap) hS (.of rfl) rfl ?_)))
 clear hS; intro b3 w hS
 refine .run 1 rfl trivial (.nil (.seq (.region ?_)))
 refine WL.val (.lds (vs := cfCells c a cap ua ucap) (.of rfl) hS (k := 0) rfl Tryz.isAgg34 Tryz.sizeOf34 rfl (fun j v hj => by rw [Nat.zero_add]; exact hj)) rfl ?_
 refine .call Tryz.func41 rfl (evs_cons (.of rfl) evs_nil) rfl (grantNew_any c hc a cap ua ucap B _ I hK hP hC.svs hC.us _ hS) ?_
 clear hS
 rintro v w ⟨J, hJ, hcase⟩
 obtain ⟨pv, e9, rfl, hcs⟩ : ∃ (pv : Option Addr) (e9 : Nat), v = .tuple #[.pointer pv, I64 (e9 : Nat)] ∧ ((newE c ≠ 0 ∧ pv = none ∧ Sat B w J (blk b3 (cfCells c a cap ua ucap) 34 :: As)) ∨ (newE c = 0 ∧ ∃ p D, Srt.Ord (kx (ords c.svs)) c.svs.length D ∧ p.lo = pickS c.svs D ∧ p.us = c.us ∧ p.ps = c.ps ∧ pv = some (ad p.wb 0) ∧ WpOk J p ∧ Sat B w J (wdA p (w0 c) :: blk b3 (cfCells c a cap ua ucap) 34 :: As))) := by
  rcases hcase with ⟨h1, h2, h3⟩ | ⟨h1, p, D, h2, h3, h4, h5, h6, h7, h8⟩
  ·exact ⟨_, _, h2, .inl ⟨h1, rfl, h3⟩⟩
  ·exact ⟨_, 0, h6, .inr ⟨h1, p, D, h2, h3, h4, h5, rfl, h7, h8⟩⟩
 refine .run 5 rfl trivial (.nil (.seq (.seq (.region (.run 1 rfl trivial (.val (.eqp (.of rfl) (.of rfl) Tryz.underlying39) rfl (.nil ?_)))))))
 refine WC.cond rfl (fun hb16 => ?_) (fun hb16 => ?_)
 ·
  have hc16 := hb16; try simp only [Gk.cs0] at hc16
  refine .seq (.region (.run 1 rfl trivial (.nil (.ret (ret1 Tryz.results16 rfl ?_)))))
  rcases hcs with ⟨h1, rfl, hS⟩ | ⟨_, p, D, _, _, _, _, h9, _⟩
  ·exact ⟨_, rfl, J, none, hJ, rfl, .inl ⟨h1, rfl, hS.drop (k := 0) rfl⟩⟩
  ·exfalso; rw [h9] at hb16; cases hb16
 have hc16 := hb16; try simp only [Gk.cs0] at hc16
 refine .skip (.seq (.seq (.region (.run 1 rfl trivial (.nil (.block ?_))))))
 rcases hcs with ⟨_, h9, _⟩ | ⟨hz, p, D, hD, hlo, hus, hps, hpv, hI, hS⟩
 ·exfalso; rw [h9] at hb16; cases hb16
 subst hpv
 refine .loop (σ := Nat) (fun i => [(1, .slice la l.length lc), (2, I64 now), (7, ptr p.wb 0), (9, I64 (i : Nat))]) (fun i w => i ≤ l.length ∧ Sat B w J (wdA p ((l.take i).foldl addW (w0 c)) :: blk b3 (cfCells c a cap ua ucap) 34 :: As)) (fun i => l.length - i) 0 ⟨rfl, rfl, rfl, rfl, trivial⟩ ⟨Nat.zero_le _, hS⟩ ?_
 rintro i w ⟨hi, hS⟩
 change WC _ _ _ _ [(1, .slice la l.length lc), (2, I64 now), (7, ptr p.wb 0), (9, I64 (i : Nat))] w
 refine .seq (.seq (.region (.run 4 rfl ⟨⟨_, Tryz.underlying35⟩, trivial⟩ (.nil ?_))))
 refine WC.cond rfl (fun hb20 => ?_) (fun hb20 => ?_)
 ·
  have hc20 := hb20; try simp only [Gk.cs0] at hc20
  refine .skip (.seq (.block ?_))
  obtain ⟨⟨a9, c9, ma9, mc9⟩, hS⟩ := Sat.unbox hS
  replace hS : Sat B _ _ (blk p.wb (wdC p ((l.take i).foldl addW (w0 c))) 52 :: blk p.tb [I64 ((l.take i).foldl addW (w0 c)).room, .slice a9 ((l.take i).foldl addW (w0 c)).l.length c9] 127 :: Vec 45 10 (.slice a9 ((l.take i).foldl addW (w0 c)).l.length c9) ((l.take i).foldl addW (w0 c)).l.length (rowsR ((l.take i).foldl addW (w0 c)).l) :: blk p.mb [.slice ma9 ((l.take i).foldl addW (w0 c)).D.length mc9] 168 :: VecO 118 (.slice ma9 ((l.take i).foldl addW (w0 c)).D.length mc9) (((l.take i).foldl addW (w0 c)).D.map fun d => U64 (d : Nat)) :: _) := hS
  obtain ⟨r, hr⟩ : ∃ r, l[i]? = some r := ⟨_, List.getElem?_eq_getElem (by omega)⟩
  obtain ⟨pp, hp9, hx⟩ := rs_at (cells := recCells) (s := 10) (fun _ => rfl) hR hr
  subst hp9
  have hω := addsW_ok (l.take i) (w0_ok c)
  have hlen := hω.len
  refine .drawn (fun w => ∃ R, Sat B w J (blk p.wb (wdC p ((l.take i).foldl addW (w0 c))) 52 :: R)) (fun j => !([].contains j)) (by kernel_rfl) ?_
  replace hS := hS.drew; generalize w.drew = w at hS ⊢
  have hH : ∃ R, Sat B w J (blk p.wb (wdC p ((l.take i).foldl addW (w0 c))) 52 :: R) := ⟨_, (hS.pick 0 rfl)⟩
  refine .takeP (i := 0) rfl (by kernel_rfl) (by kernel_rfl) (by kernel_rfl) (fun w => (.move (.of rfl))) rfl (.takeP (i := 1) rfl (by kernel_rfl) (by kernel_rfl) (by kernel_rfl) (fun w => (.nilCheck (.of rfl))) rfl ?_)
  refine WD.takeP (i := 2) rfl (by kernel_rfl) (by kernel_rfl) (by kernel_rfl) (fun w => (by first | exact .fieldAddr 0 (.of rfl) Tryz.underlying52 rfl rfl Tryz.sizeOf47 rfl | exact .fieldAddrI 0 (.of rfl) Tryz.underlying52 rfl rfl Tryz.sizeOf47 rfl)) rfl ?_
  refine .take (i := 3) rfl (by kernel_rfl) (by kernel_rfl) (by kernel_rfl) (by kernel_rfl) hH (fun w ⟨R, hS⟩ => (.ld (.of rfl) hS (k := 0) rfl Tryz.isAgg47 rfl)) rfl (.takeP (i := 4) rfl (by kernel_rfl) (by kernel_rfl) (by kernel_rfl) (fun w => (.move (.of rfl))) rfl (.takeP (i := 5) rfl (by kernel_rfl) (by kernel_rfl) (by kernel_rfl) (fun w => (.move (.of rfl))) rfl ?_))
  refine WD.takeP (i := 6) rfl (by kernel_rfl) (by kernel_rfl) (by kernel_rfl) (fun w => (by first | exact .indexAddr (.of rfl) (.of rfl) (by omega) (by omega) Tryz.underlying35 Tryz.sizeOf45 | exact .indexAddrI (.of rfl) (.of rfl) (by omega) (by omega) Tryz.underlying35 Tryz.sizeOf45)) rfl ?_
  refine .take (i := 7) rfl (by kernel_rfl) (by kernel_rfl) (by kernel_rfl) (by kernel_rfl) hH (fun w ⟨R, hS⟩ => .ldsI (.of rfl) hS (hx.mono hJ) Tryz.isAgg45 Tryz.sizeOf45 rfl (fun _ _ h => h)) rfl ?_
  refine WD.branch [8] (by kernel_rfl) rfl (WO.cons rfl ?_ (WO.nil))
  refine WL.call Tryz.func57 rfl (evs_cons (.of rfl) (evs_cons (.of rfl) evs_nil)) rfl (Add_any p.tb ((l.take i).foldl addW (w0 c)).room a9 c9 ((l.take i).foldl addW (w0 c)).l (by omega) r (by have := hsr r (List.mem_of_getElem? hr); omega) (by have := hsr r (List.mem_of_getElem? hr); omega) B _ J hI.known hI.pre _ ((hS.pick 2 rfl).pick 2 rfl)) ?_
  clear hS
  rintro _ w ⟨rfl, a2, c2, hS⟩
  try dsimp only [List.eraseIdx] at hS
  refine .nil ?_
  clear hH
  have hH : ∃ R, Sat B w J (blk p.wb (wdC p ((l.take i).foldl addW (w0 c))) 52 :: R) := ⟨_, (hS.pick 2 rfl)⟩
  refine And.intro (by intro _ _; exact hH) ?_
  refine .done (by kernel_rfl) (.region (.run 3 rfl ⟨⟨by omega, by omega⟩, trivial⟩ (.nil ?_)))
  replace hS := Sat.box (T := wdT p (addW ((l.take i).foldl addW (w0 c)) r)) (a2, c2, ma9, mc9) (((((hS.pick 4 rfl).pick 4 rfl).pick 3 rfl).pick 3 rfl).pick 4 rfl)
  try dsimp only [List.eraseIdx] at hS
  refine ⟨i + 1, ⟨rfl, rfl, rfl, rfl, trivial⟩, ⟨by (try dsimp only); omega, ?_⟩, by (try dsimp only); omega⟩
  show Sat B _ J (wdA p ((l.take (i + 1)).foldl addW (w0 c)) :: _)
  rw [List.take_add_one, hr, Option.toList_some, List.foldl_append]
  exact hS
 have hc20 := hb20; try simp only [Gk.cs0] at hc20
 refine .exit (.seq ?_)
 have hil : i = l.length := by omega
 subst hil
 rw [List.take_length] at hS
 refine .region (.run 2 rfl trivial (.call Tryz.func20 rfl (evs_cons (.of rfl) (evs_cons (.of rfl) evs_nil)) rfl (Tick_any p _ now (addsW_ok l (w0_ok c)) B _ J _ hS) ?_))
 clear hS
 rintro _ w ⟨rfl, hS⟩
 try dsimp only [List.eraseIdx] at hS
 refine .nil (.seq (.region (.run 2 rfl trivial (.nil (.ret (ret1 Tryz.results16 rfl ?_))))))
 exact ⟨_, rfl, J, _, hJ, rfl, .inr ⟨hz, p, D, hD, hlo, hus, hps, rfl, hI, hS.drop (k := 1) rfl⟩⟩
end Go.Proofs.YtadhiihnnkcagaaGreatDoor
