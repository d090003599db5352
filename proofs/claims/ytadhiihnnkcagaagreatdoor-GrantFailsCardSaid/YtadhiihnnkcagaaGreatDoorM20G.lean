/- Part 7 of what the proof stands on: W21t, W18x, W21u, W21v, W21w, W21x, Op21, W20a, W20b, W20c, W20d, GkK, Kn2, Op20, W20e. -/
import Derived.Test.YtadhiihnnkcagaaGreatDoorM20F
import Derived.KernelRfl
import Derived.Laws.StructEq
import Derived.OpenShut
import Derived.Lib.LaidTab
import Derived.Lib.LaidU8
import Derived.Lay
import Derived.Shelf.Vars
import Derived.HandedShaped
import Derived.MakeChecks
import Derived.Test.YtadhiihnnkcagaaGreatDoorRows
namespace Go.Proofs.YtadhiihnnkcagaaGreatDoor
open Gk Ul Pc Tk Tr
set_option linter.unusedVariables false
set_option linter.unusedSimpArgs false
theorem Ex.sub3U {P : Program} {n : Nat} {L : Env} {w : World} {d : Option Nat} {ty t : TypeId} {pos : String} {af : Array Edge} {g : Option (Nat × Bool)} {x y z : Operand} {l : List UInt8} {i j : Int} (hx : Ev n L x (S l)) (hy : Ev n L y (U64 i)) (hz : Ev n L z (U64 j)) (h0 : 0 ≤ i) (h1 : i ≤ j) (h2 : j ≤ (l.length : Int)) (hT : P.underlying t = some .string) :
  Ex P n L w ⟨d, .slice t x (some y) (some z) none, ty, pos, af, g⟩ (S ((l.drop i.toNat).take (j.toNat - i.toNat))) w := fun a ha => by
 have h := run_slice_string (P := P) w t ⟨l.toArray⟩ .u64 .u64 i j hT h0 h1 h2
 rw [sub_str] at h
 simp [execOp, hx a ha, hy a ha, hz a ha, run_sliceAt_string w t _ _ _ _ hT, h]
def bigP (y : Pr) : Bool := decide ((80 : Int) < (y.1.length : Int)) || decide ((80 : Int) < (y.2.length : Int))
def bigU (u : Us) : Bool := (decide ((20 : Int) < (u.attrs.length : Int)) || decide ((80 : Int) < (u.name.length : Int))) || decide ((80 : Int) < (u.pw.length : Int))
def fewU1 (u : Us) : Bool := !bigU u && u.attrs.all fun y => !bigP y
def fewU (l : List Us) : Bool := l.all fewU1 && decide ((l.length : Int) ≤ 20)
def fewC (c : Cf) : Bool := few c.svs && fewU c.us
theorem rs_at {α : Type} {cells : α → List Value} {s : Nat} (hc : ∀ x, (cells x).length = s) {I : Im} {a : Option Addr} {l : List α} (hR : RS I a s l.length (rowsC cells l)) {i : Nat} {x : α} (hx : l[i]? = some x) : ∃ q, a = some q ∧ At I (q.add (i * s)) (cells x) := by
 obtain ⟨q, rfl, hq⟩ := hR.2 (by have := (List.getElem?_eq_some_iff.1 hx).1; omega)
 refine ⟨q, rfl, ?_⟩
 have h3 := at_take (hq.add (i * s)) s
 rw [rowsC, flat_piece (l.map cells) (fun c h => by obtain ⟨y, _, rfl⟩ := List.mem_map.1 h; exact hc y) i (cells x) (by rw [List.getElem?_map, hx]; rfl)] at h3
 exact h3
theorem fewU_any (a : Option Addr) (cap : Nat) (l : List Us) (hln : l.length ≤ 9223372036854775807) (hfit : ∀ u ∈ l, u.fits) (B w : World) (I : Im) (hU : UsrsAt I a l) (As : List Assn) (hS : Sat B w I As) :
  Calls Tryz.prog 108 [.slice a l.length cap].toArray w (Ret fun v w' => v = .bool (fewU l) ∧ Sat B w' I As) := by
 refine calls Tryz.func108 rfl Tryz.ntmps108 rfl (.seq (.region (.run 1 rfl trivial (.nil (.seq (.seq (.region (.run 1 rfl trivial (.nil (.block (.loop (σ := Nat) (fun i => [(0, .slice a l.length cap), (3, I64 (i : Nat))]) (fun i w => i ≤ l.length ∧ (∀ (j : Nat) u, j < i → l[j]? = some u → fewU1 u = true) ∧ Sat B w I As) (fun i => l.length - i) 0 ⟨rfl, rfl, trivial⟩ ⟨Nat.zero_le _, fun _ _ h => absurd h (by omega), hS⟩ ?_)))))))))))
 rintro i w ⟨hi, hno, hS⟩
 change WC _ _ _ _ [(0, .slice a l.length cap), (3, I64 (i : Nat))] w
 refine .seq (.seq (.region (.run 4 rfl ⟨⟨_, Tryz.underlying28⟩, trivial⟩ (.nil ?_))))
 refine WC.cond rfl (fun hb8 => ?_) (fun hb8 => ?_)
 ·
  have hc8 := hb8; try simp only [Gk.cs0] at hc8
  refine .skip (.seq (.block (.seq (.seq ?_))))
  obtain ⟨u, hu⟩ : ∃ u, l[i]? = some u := ⟨_, List.getElem?_eq_getElem (by omega)⟩
  obtain ⟨p, ra, rc, hap, hx, hrc, hRR⟩ := hU i u hu
  have hfu := (hfit u (List.mem_of_getElem? hu)).attrs.1
  subst hap
  unfold usCells at hx
  refine .region (.run 2 rfl trivial ?_)
  first | refine WL.val (.indexAddr (.of rfl) (.of rfl) (by omega) (by omega) Tryz.underlying28 Tryz.sizeOf67) rfl ?_ | refine WL.val (.indexAddrI (.of rfl) (.of rfl) (by omega) (by omega) Tryz.underlying28 Tryz.sizeOf67) rfl ?_
  first | refine WL.val (.fieldAddr 2 (.of rfl) Tryz.underlying67 rfl rfl Tryz.sizeOf54 rfl) rfl ?_ | refine WL.val (.fieldAddrI 2 (.of rfl) Tryz.underlying67 rfl rfl Tryz.sizeOf54 rfl) rfl ?_
  first | refine WL.val (.ldI (.of rfl) hS (At.add hx _) Tryz.isAgg54 rfl) rfl ?_ | refine WL.val (.ldI (.of rfl) hS (At.add hy _) Tryz.isAgg54 rfl) rfl ?_
  refine .run 3 rfl ⟨⟨_, Tryz.underlying54⟩, trivial⟩ (.gval rfl rfl (fun hg1 => (.move (.of rfl))) rfl (.gval rfl rfl (fun hg1 => (.move (.of rfl))) rfl ?_))
  refine WL.gval rfl rfl (fun hg1 => (by first | exact .indexAddr (.gd hg1 rfl) (.gd hg1 rfl) (by (try simp only [Gk.cs0] at hg1); omega) (by (try simp only [Gk.cs0] at hg1); omega) Tryz.underlying28 Tryz.sizeOf67 | exact .indexAddrI (.gd hg1 rfl) (.gd hg1 rfl) (by (try simp only [Gk.cs0] at hg1); omega) (by (try simp only [Gk.cs0] at hg1); omega) Tryz.underlying28 Tryz.sizeOf67)) rfl ?_
  refine WL.gval rfl rfl (fun hg1 => (by first | exact .fieldAddr 0 (.gd hg1 rfl) Tryz.underlying67 rfl rfl Tryz.sizeOf9 rfl | exact .fieldAddrI 0 (.gd hg1 rfl) Tryz.underlying67 rfl rfl Tryz.sizeOf9 rfl)) rfl ?_
  refine WL.gval rfl rfl (fun hg1 => (by first | exact (.ldI (.gd hg1 rfl) hS (At.add hx _) Tryz.isAgg9 rfl) | exact (.ldI (.gd hg1 rfl) hS (At.add hy _) Tryz.isAgg9 rfl))) rfl ?_
  refine .gval rfl rfl (fun hg1 => (.len (.gd hg1 rfl) Tryz.underlying9)) rfl (.gval rfl rfl (fun hg1 => (.gtr (.gd hg1 rfl) (.of rfl))) rfl (.val (.por (.of rfl) (.of rfl) (.of rfl)) rfl (.run 1 rfl trivial (.gval rfl rfl (fun hg1 => (.move (.of rfl))) rfl (.gval rfl rfl (fun hg1 => (.move (.of rfl))) rfl ?_)))))
  refine WL.gval rfl rfl (fun hg1 => (by first | exact .indexAddr (.gd hg1 rfl) (.gd hg1 rfl) (by (try simp only [Gk.cs0] at hg1); omega) (by (try simp only [Gk.cs0] at hg1); omega) Tryz.underlying28 Tryz.sizeOf67 | exact .indexAddrI (.gd hg1 rfl) (.gd hg1 rfl) (by (try simp only [Gk.cs0] at hg1); omega) (by (try simp only [Gk.cs0] at hg1); omega) Tryz.underlying28 Tryz.sizeOf67)) rfl ?_
  refine WL.gval rfl rfl (fun hg1 => (by first | exact .fieldAddr 1 (.gd hg1 rfl) Tryz.underlying67 rfl rfl Tryz.sizeOf9 rfl | exact .fieldAddrI 1 (.gd hg1 rfl) Tryz.underlying67 rfl rfl Tryz.sizeOf9 rfl)) rfl ?_
  refine WL.gval rfl rfl (fun hg1 => (by first | exact (.ldI (.gd hg1 rfl) hS (At.add hx _) Tryz.isAgg9 rfl) | exact (.ldI (.gd hg1 rfl) hS (At.add hy _) Tryz.isAgg9 rfl))) rfl ?_
  refine .gval rfl rfl (fun hg1 => (.len (.gd hg1 rfl) Tryz.underlying9)) rfl (.gval rfl rfl (fun hg1 => (.gtr (.gd hg1 rfl) (.of rfl))) rfl (.val (.por (.of rfl) (.of rfl) (.of rfl)) rfl (.nil ?_)))
  refine WC.cond rfl (fun hb35 => ?_) (fun hb35 => ?_)
  ·
   have hc35 := hb35; try simp only [Gk.cs0] at hc35
   refine .seq (.region (.run 1 rfl trivial (.nil (.ret (ret1 Tryz.results108 rfl ?_)))))
   refine ⟨_, rfl, congrArg Value.bool ?_, hS⟩
   have : l.all fewU1 = false := List.all_eq_false.2 ⟨u, List.mem_of_getElem? hu, by
    rw [fewU1, show bigU u = true from hb35, Bool.not_true, Bool.false_and]; decide⟩
   rw [fewU, this]; rfl
  have hc35 := hb35; try simp only [Gk.cs0] at hc35
  refine .skip (.seq (.region (.run 1 rfl trivial (.nil (.block (.loop (σ := Nat) (fun k => [(0, .slice (some p) l.length cap), (3, I64 (i : Nat)), (4, I64 (k : Nat))]) (fun k w => k ≤ u.attrs.length ∧ (∀ (j : Nat) y, j < k → u.attrs[j]? = some y → bigP y = false) ∧ Sat B w I As) (fun k => u.attrs.length - k) 0 ⟨rfl, rfl, rfl, trivial⟩ ⟨Nat.zero_le _, fun _ _ h => absurd h (by omega), hS⟩ ?_))))))
  rintro k w ⟨hk, hny, hS⟩
  change WC _ _ _ _ [(0, .slice (some p) l.length cap), (3, I64 (i : Nat)), (4, I64 (k : Nat))] w
  refine .seq (.seq (.region (.run 3 rfl trivial ?_)))
  first | refine WL.val (.indexAddr (.of rfl) (.of rfl) (by omega) (by omega) Tryz.underlying28 Tryz.sizeOf67) rfl ?_ | refine WL.val (.indexAddrI (.of rfl) (.of rfl) (by omega) (by omega) Tryz.underlying28 Tryz.sizeOf67) rfl ?_
  first | refine WL.val (.fieldAddr 2 (.of rfl) Tryz.underlying67 rfl rfl Tryz.sizeOf54 rfl) rfl ?_ | refine WL.val (.fieldAddrI 2 (.of rfl) Tryz.underlying67 rfl rfl Tryz.sizeOf54 rfl) rfl ?_
  first | refine WL.val (.ldI (.of rfl) hS (At.add hx _) Tryz.isAgg54 rfl) rfl ?_ | refine WL.val (.ldI (.of rfl) hS (At.add hy _) Tryz.isAgg54 rfl) rfl ?_
  refine .run 2 rfl ⟨⟨_, Tryz.underlying54⟩, trivial⟩ (.nil ?_)
  refine WC.cond rfl (fun hb43 => ?_) (fun hb43 => ?_)
  ·
   have hc43 := hb43; try simp only [Gk.cs0] at hc43
   refine .skip (.seq (.block (.seq ?_)))
   obtain ⟨y, hy0⟩ : ∃ y, u.attrs[k]? = some y := ⟨_, List.getElem?_eq_getElem (by omega)⟩
   obtain ⟨q, hq9, hy⟩ := rs_at (cells := prCells) (s := 2) (fun _ => rfl) hRR hy0
   subst hq9
   unfold prCells at hy
   refine .region (.run 2 rfl trivial ?_)
   first | refine WL.val (.indexAddr (.of rfl) (.of rfl) (by omega) (by omega) Tryz.underlying28 Tryz.sizeOf67) rfl ?_ | refine WL.val (.indexAddrI (.of rfl) (.of rfl) (by omega) (by omega) Tryz.underlying28 Tryz.sizeOf67) rfl ?_
   first | refine WL.val (.fieldAddr 2 (.of rfl) Tryz.underlying67 rfl rfl Tryz.sizeOf54 rfl) rfl ?_ | refine WL.val (.fieldAddrI 2 (.of rfl) Tryz.underlying67 rfl rfl Tryz.sizeOf54 rfl) rfl ?_
   first | refine WL.val (.ldI (.of rfl) hS (At.add hx _) Tryz.isAgg54 rfl) rfl ?_ | refine WL.val (.ldI (.of rfl) hS (At.add hy _) Tryz.isAgg54 rfl) rfl ?_
   refine .run 1 rfl trivial ?_
   first | refine WL.val (.indexAddr (.of rfl) (.of rfl) (by omega) (by omega) Tryz.underlying54 Tryz.sizeOf69) rfl ?_ | refine WL.val (.indexAddrI (.of rfl) (.of rfl) (by omega) (by omega) Tryz.underlying54 Tryz.sizeOf69) rfl ?_
   first | refine WL.val (.fieldAddr 0 (.of rfl) Tryz.underlying69 rfl rfl Tryz.sizeOf9 rfl) rfl ?_ | refine WL.val (.fieldAddrI 0 (.of rfl) Tryz.underlying69 rfl rfl Tryz.sizeOf9 rfl) rfl ?_
   first | refine WL.val (.ldI (.of rfl) hS (At.add hx _) Tryz.isAgg9 rfl) rfl ?_ | refine WL.val (.ldI (.of rfl) hS (At.add hy _) Tryz.isAgg9 rfl) rfl ?_
   refine .run 3 rfl ⟨Tryz.underlying9, trivial⟩ (.gval rfl rfl (fun hg1 => (.move (.of rfl))) rfl (.gval rfl rfl (fun hg1 => (.move (.of rfl))) rfl ?_))
   refine WL.gval rfl rfl (fun hg1 => (by first | exact .indexAddr (.gd hg1 rfl) (.gd hg1 rfl) (by (try simp only [Gk.cs0] at hg1); omega) (by (try simp only [Gk.cs0] at hg1); omega) Tryz.underlying28 Tryz.sizeOf67 | exact .indexAddrI (.gd hg1 rfl) (.gd hg1 rfl) (by (try simp only [Gk.cs0] at hg1); omega) (by (try simp only [Gk.cs0] at hg1); omega) Tryz.underlying28 Tryz.sizeOf67)) rfl ?_
   refine WL.gval rfl rfl (fun hg1 => (by first | exact .fieldAddr 2 (.gd hg1 rfl) Tryz.underlying67 rfl rfl Tryz.sizeOf54 rfl | exact .fieldAddrI 2 (.gd hg1 rfl) Tryz.underlying67 rfl rfl Tryz.sizeOf54 rfl)) rfl ?_
   refine WL.gval rfl rfl (fun hg1 => (by first | exact (.ldI (.gd hg1 rfl) hS (At.add hx _) Tryz.isAgg54 rfl) | exact (.ldI (.gd hg1 rfl) hS (At.add hy _) Tryz.isAgg54 rfl))) rfl ?_
   refine .gval rfl rfl (fun hg1 => (.move (.of rfl))) rfl ?_
   refine WL.gval rfl rfl (fun hg1 => (by first | exact .indexAddr (.gd hg1 rfl) (.gd hg1 rfl) (by (try simp only [Gk.cs0] at hg1); omega) (by (try simp only [Gk.cs0] at hg1); omega) Tryz.underlying54 Tryz.sizeOf69 | exact .indexAddrI (.gd hg1 rfl) (.gd hg1 rfl) (by (try simp only [Gk.cs0] at hg1); omega) (by (try simp only [Gk.cs0] at hg1); omega) Tryz.underlying54 Tryz.sizeOf69)) rfl ?_
   refine WL.gval rfl rfl (fun hg1 => (by first | exact .fieldAddr 1 (.gd hg1 rfl) Tryz.underlying69 rfl rfl Tryz.sizeOf9 rfl | exact .fieldAddrI 1 (.gd hg1 rfl) Tryz.underlying69 rfl rfl Tryz.sizeOf9 rfl)) rfl ?_
   refine WL.gval rfl rfl (fun hg1 => (by first | exact (.ldI (.gd hg1 rfl) hS (At.add hx _) Tryz.isAgg9 rfl) | exact (.ldI (.gd hg1 rfl) hS (At.add hy _) Tryz.isAgg9 rfl))) rfl ?_
   refine .gval rfl rfl (fun hg1 => (.len (.gd hg1 rfl) Tryz.underlying9)) rfl (.gval rfl rfl (fun hg1 => (.gtr (.gd hg1 rfl) (.of rfl))) rfl (.val (.por (.of rfl) (.of rfl) (.of rfl)) rfl (.nil ?_)))
   refine WC.cond rfl (fun hb69 => ?_) (fun hb69 => ?_)
   ·
    have hc69 := hb69; try simp only [Gk.cs0] at hc69
    refine .seq (.region (.run 1 rfl trivial (.nil (.ret (ret1 Tryz.results108 rfl ?_)))))
    refine ⟨_, rfl, congrArg Value.bool ?_, hS⟩
    have : l.all fewU1 = false := List.all_eq_false.2 ⟨u, List.mem_of_getElem? hu, by
     have : u.attrs.all (fun y => !bigP y) = false := List.all_eq_false.2 ⟨y, List.mem_of_getElem? hy0, by
      rw [show bigP y = true from hb69]; decide⟩
     rw [fewU1, this, Bool.and_false]; decide⟩
    rw [fewU, this]; rfl
   have hc69 := hb69; try simp only [Gk.cs0] at hc69
   refine .skip (.region (.run 3 rfl ⟨⟨by omega, by omega⟩, trivial⟩ (.nil ?_)))
   refine ⟨k + 1, ⟨rfl, rfl, rfl, trivial⟩, ⟨by (try dsimp only); omega, fun j t hj ht => ?_, hS⟩, by (try dsimp only); omega⟩
   rcases Nat.lt_or_ge j k with h1 | h1
   ·exact hny j t h1 ht
   ·have e : j = k := by omega
    subst e
    rw [hy0] at ht; cases ht
    exact hb69
  have hc43 := hb43; try simp only [Gk.cs0] at hc43
  refine .exit (.region (.run 3 rfl ⟨⟨by omega, by omega⟩, trivial⟩ (.nil ?_)))
  refine ⟨i + 1, ⟨rfl, rfl, trivial⟩, ⟨by (try dsimp only); omega, fun j t hj ht => ?_, hS⟩, by (try dsimp only); omega⟩
  rcases Nat.lt_or_ge j i with h1 | h1
  ·exact hno j t h1 ht
  ·have e : j = i := by omega
   subst e
   rw [hu] at ht; cases ht
   have e1 : bigU u = false := hb35
   rw [fewU1, e1, Bool.not_false, Bool.true_and, List.all_eq_true]
   intro y hy
   obtain ⟨q, hq⟩ := List.mem_iff_getElem?.1 hy
   have := (List.getElem?_eq_some_iff.1 hq).1
   rw [hny q y (by omega) hq]; rfl
 have hc8 := hb8; try simp only [Gk.cs0] at hc8
 refine .exit (.seq (.region (.run 4 rfl ⟨⟨_, Tryz.underlying28⟩, trivial⟩ (.nil (.ret (ret1 Tryz.results108 rfl ?_))))))
 refine ⟨_, rfl, congrArg Value.bool ?_, hS⟩
 have : l.all fewU1 = true := by
  rw [List.all_eq_true]
  intro u hu
  obtain ⟨q, hq⟩ := List.mem_iff_getElem?.1 hu
  have := (List.getElem?_eq_some_iff.1 hq).1
  exact hno q u (by omega) hq
 rw [fewU, this, Bool.true_and]
set_option maxRecDepth 20000 in
theorem fewC_any (c : Cf) (a : Option Addr) (cap : Nat) (ua : Option Addr) (ucap : Nat) (hcap : c.svs.length ≤ cap) (hcm : cap ≤ maxLen) (hun : c.us.length ≤ 9223372036854775807) (hfit : ∀ u ∈ c.us, u.fits) (B w : World) (I : Im) (hl : SvsAt I a c.svs) (hU : UsrsAt I ua c.us) (As : List Assn) (hS : Sat B w I As) :
  Calls Tryz.prog 60 [.agg (cfCells c a cap ua ucap).toArray].toArray w (Ret fun v w' => v = .bool (fewC c) ∧ Sat B w' I As) := by
 refine calls Tryz.func60 rfl Tryz.ntmps60 rfl (.seq (.region (.boxA (cs := [_, _, _, _, _, _, _, _, _, _, _, _, _, _, _, _, _, _, _, _, _, _, _, _, _, _, _, _]) hS (.of rfl) rfl ?_)))
 clear hS; intro b1 w hS
 refine .run 1 rfl trivial (.nil (.seq (.region ?_)))
 first | refine WL.val (.fieldAddr 0 (.of rfl) Tryz.underlying34 rfl rfl Tryz.sizeOf27 rfl) rfl ?_ | refine WL.val (.fieldAddrI 0 (.of rfl) Tryz.underlying34 rfl rfl Tryz.sizeOf27 rfl) rfl ?_
 first | refine WL.val (.ld (.of rfl) hS (k := 0) rfl Tryz.isAgg27 rfl) rfl ?_ | refine WL.val (.ld (.of rfl) hS (k := 1) rfl Tryz.isAgg27 rfl) rfl ?_
 refine .call Tryz.func107 rfl (evs_cons (.of rfl) evs_nil) rfl (Few_any a cap c.svs hcap hcm B _ I hl _ hS) ?_
 clear hS
 rintro _ w ⟨rfl, hS⟩
 refine .run 1 rfl trivial (.nil (.seq (.region ?_)))
 first | refine WL.val (.fieldAddr 1 (.of rfl) Tryz.underlying34 rfl rfl Tryz.sizeOf28 rfl) rfl ?_ | refine WL.val (.fieldAddrI 1 (.of rfl) Tryz.underlying34 rfl rfl Tryz.sizeOf28 rfl) rfl ?_
 first | refine WL.val (.ld (.of rfl) hS (k := 0) rfl Tryz.isAgg28 rfl) rfl ?_ | refine WL.val (.ld (.of rfl) hS (k := 1) rfl Tryz.isAgg28 rfl) rfl ?_
 refine .call Tryz.func108 rfl (evs_cons (.of rfl) evs_nil) rfl (fewU_any ua ucap c.us hun hfit B _ I hU _ hS) ?_
 clear hS
 rintro _ w ⟨rfl, hS⟩
 refine .run 1 rfl trivial (.nil (.seq (.region (.run 2 rfl trivial (.gval rfl rfl (fun hg1 => (.move (.of rfl))) rfl (.val (.pand (.of rfl) (.of rfl) (.of rfl)) rfl (.run 1 rfl trivial (.nil (.ret (ret1 Tryz.results60 rfl ?_))))))))))
 exact ⟨_, rfl, rfl, hS.drop (k := 0) rfl⟩
theorem refPrefix_any (k : Int) (B w : World) (I : Im) (As : List Assn) (hS : Sat B w I As) :
  Calls Tryz.prog 97 [I64 k].toArray w (Ret fun v w' => v = S (preI k) ∧ Sat B w' I As) := by
 refine calls Tryz.func97 rfl Tryz.ntmps97 rfl (.seq (.region (.run 1 rfl trivial (.nil (.seq (.seq (.region (.run 1 rfl trivial (.nil (.block (.seq (.region (.run 2 rfl trivial (.nil ?_))))))))))))))
 refine WC.cond rfl (fun hb4 => ?_) (fun hb4 => ?_)
 ·
  have hc4 := hb4; try simp only [Gk.cs0] at hc4
  refine .seq (.region (.run 1 rfl trivial (.nil (.ret (ret1 Tryz.results97 rfl ?_)))))
  refine ⟨_, rfl, congrArg S ?_, hS⟩
  simp only [beq_iff_eq, beq_eq_false_iff_ne] at *
  first | subst_vars; rfl | (rw [preI, if_pos (by omega)])
 have hc4 := hb4; try simp only [Gk.cs0] at hc4
 refine .seq (.region (.run 2 rfl trivial (.nil ?_)))
 refine WC.cond rfl (fun hb6 => ?_) (fun hb6 => ?_)
 ·
  have hc6 := hb6; try simp only [Gk.cs0] at hc6
  refine .seq (.region (.run 1 rfl trivial (.nil (.ret (ret1 Tryz.results97 rfl ?_)))))
  refine ⟨_, rfl, congrArg S ?_, hS⟩
  simp only [beq_iff_eq, beq_eq_false_iff_ne] at *
  first | subst_vars; rfl | (rw [preI, if_pos (by omega)])
 have hc6 := hb6; try simp only [Gk.cs0] at hc6
 refine .seq (.region (.run 2 rfl trivial (.nil ?_)))
 refine WC.cond rfl (fun hb8 => ?_) (fun hb8 => ?_)
 ·
  have hc8 := hb8; try simp only [Gk.cs0] at hc8
  refine .seq (.region (.run 1 rfl trivial (.nil (.ret (ret1 Tryz.results97 rfl ?_)))))
  refine ⟨_, rfl, congrArg S ?_, hS⟩
  simp only [beq_iff_eq, beq_eq_false_iff_ne] at *
  first | subst_vars; rfl | (rw [preI, if_pos (by omega)])
 have hc8 := hb8; try simp only [Gk.cs0] at hc8
 refine .seq (.region (.run 2 rfl trivial (.nil ?_)))
 refine WC.cond rfl (fun hb10 => ?_) (fun hb10 => ?_)
 ·
  have hc10 := hb10; try simp only [Gk.cs0] at hc10
  refine .seq (.region (.run 1 rfl trivial (.nil (.ret (ret1 Tryz.results97 rfl ?_)))))
  refine ⟨_, rfl, congrArg S ?_, hS⟩
  simp only [beq_iff_eq, beq_eq_false_iff_ne] at *
  first | subst_vars; rfl | (rw [preI, if_pos (by omega)])
 have hc10 := hb10; try simp only [Gk.cs0] at hc10
 refine .seq (.region (.run 2 rfl trivial (.nil ?_)))
 refine WC.cond rfl (fun hb12 => ?_) (fun hb12 => ?_)
 ·
  have hc12 := hb12; try simp only [Gk.cs0] at hc12
  refine .seq (.region (.run 1 rfl trivial (.nil (.ret (ret1 Tryz.results97 rfl ?_)))))
  refine ⟨_, rfl, congrArg S ?_, hS⟩
  simp only [beq_iff_eq, beq_eq_false_iff_ne] at *
  first | subst_vars; rfl | (rw [preI, if_pos (by omega)])
 have hc12 := hb12; try simp only [Gk.cs0] at hc12
 refine .seq (.region (.run 2 rfl trivial (.nil ?_)))
 refine WC.cond rfl (fun hb14 => ?_) (fun hb14 => ?_)
 ·
  have hc14 := hb14; try simp only [Gk.cs0] at hc14
  refine .seq (.region (.run 1 rfl trivial (.nil (.ret (ret1 Tryz.results97 rfl ?_)))))
  refine ⟨_, rfl, congrArg S ?_, hS⟩
  simp only [beq_iff_eq, beq_eq_false_iff_ne] at *
  first | subst_vars; rfl | (rw [preI, if_pos (by omega)])
 have hc14 := hb14; try simp only [Gk.cs0] at hc14
 refine .skip (.seq (.region (.run 1 rfl trivial (.nil (.ret (ret1 Tryz.results97 rfl ?_))))))
 refine ⟨_, rfl, congrArg S ?_, hS⟩
 simp only [beq_iff_eq, beq_eq_false_iff_ne] at *
 first | subst_vars; rfl | (rw [preI, if_pos (by omega)])
theorem hex_take {n : Nat} (h : n < 16) : (HEXD.drop n).take 1 = [dg n] := (by decide : ∀ n : Fin 16, (HEXD.drop n.val).take 1 = [dg n.val]) ⟨n, h⟩
theorem refName_any (kind : Int) (d : Nat) (hd : d < 18446744073709551616) (B w : World) (I : Im) (As : List Assn) (hS : Sat B w I As) :
  Calls Tryz.prog 56 [I64 kind, U64 (d : Nat)].toArray w (Ret fun v w' => v = (if preI kind = [] then .tuple #[S [], I64 8] else .tuple #[S (preI kind ++ 45 :: digs 16 d), I64 0]) ∧ Sat B w' I As) := by
 refine calls Tryz.func56 rfl Tryz.ntmps56 rfl (.seq (.region (.run 2 rfl trivial (.nil (.seq (.region (.run 1 rfl trivial (.call Tryz.func97 rfl (evs_cons (.of rfl) evs_nil) rfl (refPrefix_any kind B _ I _ hS) ?_))))))))
 clear hS
 rintro _ w ⟨rfl, hS⟩
 refine .run 1 rfl trivial (.nil (.seq (.seq (.region (.run 2 rfl trivial (.nil ?_))))))
 refine WC.cond rfl (fun hb13 => ?_) (fun hb13 => ?_)
 ·
  have hc13 := hb13; try simp only [Gk.cs0] at hc13
  refine .seq (.region (.run 2 rfl trivial (.nil (.ret (ret2 Tryz.results56 rfl rfl ?_)))))
  exact ⟨_, rfl, by rw [if_pos (by simpa using hb13)], hS⟩
 have hc13 := hb13; try simp only [Gk.cs0] at hc13
 refine .skip (.seq (.region (.run 1 rfl trivial (.nil (.seq (.region (.run 1 rfl trivial (.nil (.seq (.seq (.region (.run 1 rfl trivial (.nil (.block (.loop (σ := Nat × Nat) (fun ⟨i, e⟩ => [(1, U64 (e : Nat)), (6, S (preI kind)), (7, S HEXD), (8, S (digs i d)), (9, I64 (i : Nat))]) (fun ⟨i, e⟩ w => i ≤ 16 ∧ e = d / 16 ^ i ∧ Sat B w I As) (fun ⟨i, e⟩ => 16 - i) (0, d) ⟨rfl, rfl, rfl, rfl, rfl, trivial⟩ ⟨Nat.zero_le _, by simp, hS⟩ ?_)))))))))))))))
 rintro ⟨i, e⟩ w ⟨hi, he, hS⟩
 change WC _ _ _ _ [(1, U64 (e : Nat)), (6, S (preI kind)), (7, S HEXD), (8, S (digs i d)), (9, I64 (i : Nat))] w
 refine .seq (.seq (.region (.run 2 rfl trivial (.nil ?_))))
 refine WC.cond rfl (fun hb15 => ?_) (fun hb15 => ?_)
 ·
  have hc15 := hb15; try simp only [Gk.cs0] at hc15
  refine .skip (.seq (.block (.seq ?_)))
  have hed : e < 18446744073709551616 := by rw [he]; exact Nat.lt_of_le_of_lt (Nat.div_le_self _ _) hd
  have hdl := digs_len i d
  have hm16 := Nat.mod_lt e (show 0 < 16 by decide)
  have hcast : ((e : Nat) : Int) % 16 = ((e % 16 : Nat) : Int) := by omega
  have htk := hex_take hm16
  have hsl : (HEXD.drop ((e : Int) % 16).toNat).take (((e : Int) % 16 + 1).toNat - ((e : Int) % 16).toNat) = [dg (e % 16)] := by
   rw [hcast, Int.toNat_natCast, show (((e % 16 : Nat) : Int) + 1).toNat - e % 16 = 1 by omega]; exact htk
  have hcons : [dg (e % 16)] ++ digs i d = digs (i + 1) d := by rw [digs_cons, he]; rfl
  have hquo : ((e : Nat) : Int) / 16 = ((e / 16 : Nat) : Int) := by omega
  have hee : e / 16 = d / 16 ^ (i + 1) := by rw [he, Nat.div_div_eq_div_mul, Nat.pow_succ]
  refine .region (.run 2 rfl trivial (.val (.rem (.of rfl) (.of rfl) (by omega) (by omega)) rfl (.run 1 rfl trivial (.val (.rem (.of rfl) (.of rfl) (by omega) (by omega)) rfl ?_))))
  first | refine WL.val (.addx (.of rfl) (.of rfl) (by rw [IntKind.wrap_u64]; omega)) rfl ?_ | refine WL.val (.addw (.of rfl) (.of rfl)) rfl ?_
  refine WL.val (Ex.sub3U (.of rfl) (.of rfl) (.of rfl) (by omega) (by omega) (by show _ ≤ (16 : Int); omega) Tryz.underlying9) rfl ?_
  rw [hsl]
  refine .run 1 rfl trivial ?_
  refine WL.val (.cat (.of rfl) (.of rfl) (by (try simp only [List.length_append, List.length_cons, List.length_nil]); omega)) rfl ?_
  rw [hcons]
  refine .run 1 rfl trivial (.nil (.region (.run 1 rfl trivial ?_)))
  refine WL.val (.quo (.of rfl) (.of rfl) (by omega) (by omega) (by rw [IntKind.wrap_u64]; omega)) rfl ?_
  rw [hquo]
  refine .run 1 rfl trivial (.nil (.region (.run 3 rfl ⟨⟨by omega, by omega⟩, trivial⟩ (.nil ?_))))
  refine ⟨(i + 1, e / 16), ⟨rfl, rfl, rfl, rfl, rfl, trivial⟩, ⟨by (try dsimp only); omega, hee, hS⟩, by (try dsimp only); omega⟩
 have hc15 := hb15; try simp only [Gk.cs0] at hc15
 refine .exit (.seq ?_)
 have hpl := preI_le kind
 have hdl := digs_len i d
 refine .region ?_
 refine WL.run 6 rfl ⟨by (try simp only [List.length_append, List.length_cons, List.length_nil]); omega, by (try simp only [List.length_append, List.length_cons, List.length_nil]); omega, trivial⟩ ?_
 refine .nil (.ret (ret2 Tryz.results56 rfl rfl ?_))
 have e16 : i = 16 := by omega
 subst e16
 refine ⟨_, rfl, by rw [if_neg (by simpa using hb13), List.append_assoc]; rfl, hS⟩
end Go.Proofs.YtadhiihnnkcagaaGreatDoor
namespace Go.Proofs.YtadhiihnnkcagaaGreatDoor
open Gk Pat
set_option linter.unusedVariables false
set_option linter.unusedSimpArgs false
theorem few_facts {l : List Sv} (h : few l = true) : l.length ≤ 20 ∧ ∀ s ∈ l, s.rel.length ≤ 20 := by
 unfold few at h
 simp only [Bool.and_eq_true, decide_eq_true_eq] at h
 refine ⟨by omega, fun s hs => ?_⟩
 have := List.all_eq_true.1 h.1 s hs
 unfold few1 at this
 simp only [Bool.not_eq_true', Bool.or_eq_false_iff, decide_eq_false_iff_not] at this
 omega
theorem fits_ord {l : List Sv} (h : ∀ s ∈ l, s.fits) : ∀ v ∈ ords l, v < 18446744073709551616 := fun v hv => by
 obtain ⟨s, hs, rfl⟩ := List.mem_map.1 hv
 exact (h s hs).ord
theorem fits_fit {l : List Sv} (h : ∀ s ∈ l, s.fits) (hr : ∀ s ∈ l, s.rel.length ≤ 20) : ∀ s ∈ l, s.urls.length ≤ 9223372036854775807 ∧ s.calls.length ≤ 9223372036854775807 ∧ s.rel.length ≤ 1000000 := fun s hs => by
 have h1 := (h s hs).urls
 have h2 := (h s hs).calls
 have h3 := hr s hs
 unfold maxLen at h1 h2
 exact ⟨by omega, by omega, by omega⟩
end Go.Proofs.YtadhiihnnkcagaaGreatDoor
namespace Go.Proofs.YtadhiihnnkcagaaGreatDoor
open Gk Ul Pc Tk Tr
set_option linter.unusedVariables false
set_option linter.unusedSimpArgs false
structure CfAt (I : Im) (c : Cf) (a : Option Addr) (cap : Nat) (ua : Option Addr) (ucap : Nat) : Prop where
 svs : SvsAt I a c.svs
 us : UsrsAt I ua c.us
 cap : c.svs.length ≤ cap ∧ cap ≤ maxLen
 un : c.us.length ≤ 9223372036854775807
 sfit : ∀ s ∈ c.svs, s.fits
 ufit : ∀ u ∈ c.us, u.fits
theorem CfAt.mono {I J : Im} {c : Cf} {a ua : Option Addr} {cap ucap : Nat} (h : CfAt I c a cap ua ucap) (hl : Le I J) : CfAt J c a cap ua ucap := ⟨h.svs.mono hl, h.us.mono hl, h.cap, h.un, h.sfit, h.ufit⟩
theorem fewC_fits {I : Im} {c : Cf} {a ua : Option Addr} {cap ucap : Nat} (h : CfAt I c a cap ua ucap) (hf : fewC c = true) : c.fits := by
 unfold fewC at hf
 simp only [Bool.and_eq_true] at hf
 have h1 := few_facts hf.1
 refine ⟨by omega, fits_ord h.sfit, fits_fit h.sfit h1.2, h.un, h.ufit⟩
end Go.Proofs.YtadhiihnnkcagaaGreatDoor
namespace Go.Proofs.YtadhiihnnkcagaaGreatDoor
open Gk Ul Pc Tk Tr
set_option linter.unusedVariables false
set_option linter.unusedSimpArgs false
def AWS : Sv := ⟨0, 0, [104, 116, 116, 112, 58, 47, 47, 97, 47, 42, 42], true, false, false, [], []⟩
def AWUs : Us := ⟨[117], [112], []⟩
def AWC : Cf := ⟨[AWS], [AWUs], fun _ => 0, 9, 0, 0, 0, 0⟩
theorem awc_new : newE AWC = 0 := by kernel_rfl
theorem awc_ord : Srt.Ord (kx (ords [AWS])) 1 [0] := ⟨by decide +kernel, by decide +kernel⟩
theorem awc_fits : AWC.fits := ⟨by decide, by decide +kernel, by decide +kernel, by decide, fun u hu => by
 rw [show AWC.us = [AWUs] from rfl, List.mem_singleton] at hu; subst hu
 exact ⟨by decide, by decide, by decide, fun p hp => by simp [AWUs] at hp⟩⟩
theorem awc_cfat {J : Im} {s u : Nat} {E F : TypeId} (h1 : J s = some (cellsO [I64 0, F64 0, S AWS.urls, .bool true, .bool false, .bool false, S [], .slice none 0 0] E)) (h2 : J u = some (cellsO [S AWUs.name, S AWUs.pw, .slice none 0 0] F)) : SvsAt J (some (ad s 0)) [AWS] ∧ UsrsAt J (some (ad u 0)) [AWUs] := by
 constructor
 ·intro i t ht
  match i, ht with
  | 0, ht => cases ht; exact ⟨_, none, 0, rfl, at_frozen h1, Nat.le_refl _, RS.nil _ _⟩
  | i + 1, ht => simp at ht
 ·intro i t ht
  match i, ht with
  | 0, ht => cases ht; exact ⟨_, none, 0, rfl, at_frozen h2, Nat.le_refl _, RS.nil _ _⟩
  | i + 1, ht => simp at ht
end Go.Proofs.YtadhiihnnkcagaaGreatDoor
namespace Go.Proofs.YtadhiihnnkcagaaGreatDoor
open Gk Ul Pc Tk Tr
set_option linter.unusedVariables false
set_option linter.unusedSimpArgs false
theorem rec_equal (r s : Rec) (w : World) : (Op.equalIn 10000 45 (.agg (recCells r).toArray) (.agg (recCells s).toArray)).run Tryz.prog w = .ok (decide (r = s)) w := by
 have hS : Tryz.prog.underlying 45 = some (.struct (Tryz.prog.fieldsOf 45)) := by kernel_rfl
 have hp : Tryz.prog.stoodInHeld 45 = false := by kernel_rfl
 have ui := Tryz.underlying3
 have ai := Tryz.isAgg3
 have us := Tryz.underlying9
 have as9 := Tryz.isAgg9
 have ub := Tryz.underlying4
 have ab := Tryz.isAgg4
 rw [show (10000 : Nat) = 9999 + 1 from rfl, run_equalIn_agg w 9999 45 _ _ hS hp]
 simp only [Program.fieldsOf, Tryz.underlying45]
 obtain ⟨k, n, pa, u, sv, ur, m, us', uc, f⟩ := r
 obtain ⟨k', n', pa', u', sv', ur', m', us'', uc', f'⟩ := s
 unfold recCells
 go_simp
 repeat' split
 all_goals simp_all
theorem Ex.neRec {n : Nat} {L : Env} {w : World} {d : Option Nat} {ty t' : TypeId} {pos : String} {af : Array Edge} {g : Option (Nat × Bool)} {x y : Operand} {r s : Rec} (hx : Ev n L x (.agg (recCells r).toArray)) (hy : Ev n L y (.agg (recCells s).toArray)) : Ex Tryz.prog n L w ⟨d, .binOp .neq 45 x y t', ty, pos, af, g⟩ (.bool (!decide (r = s))) w :=
 ex_bin hx hy (fun p q => run_eqGuard_agg w _ _ _ _ _ _ (by kernel_rfl)) (by rw [run_neq_struct, rec_equal]; rfl)
def tCells (s : List UInt8) : List Value := [S s]
theorem rowsT (l : List (List UInt8)) : rowsC tCells l = l.map S := by
 unfold rowsC
 induction l with
 | nil => rfl
 | cons x l ih => rw [List.map_cons, List.flatten_cons, ih]; rfl
end Go.Proofs.YtadhiihnnkcagaaGreatDoor
namespace Go.Proofs.YtadhiihnnkcagaaGreatDoor
open Gk Ul Pc Tk Tr
set_option linter.unusedVariables false
set_option linter.unusedSimpArgs false
theorem getD_put {l : List Rec} {r : Rec} (h : putE l r = 0) (name : List UInt8) : getD (put l r) name = if name = r.name then r else getD l name := by
 obtain ⟨_, j, t, h1, h2, h3, _, _⟩ := put_ok h
 have hp : put l r = l.set j r := by rw [put, if_pos h, h1, Int.toNat_natCast]
 have hj := (List.getElem?_eq_some_iff.1 h2).1
 have ha : at0 (l.set j r) name = at0 l name := atN_set name l j 0 t h2 h3
 rw [hp]
 rcases Tr.get_at (l.set j r) name with ⟨a1, a2⟩ | ⟨i, u, a1, a2, a3, a4⟩
 ·rcases Tr.get_at l name with ⟨b1, b2⟩ | ⟨k, v, b1, _⟩
  ·rw [if_neg (by intro e; subst e; omega), getD, getD, a2, b2]
  ·omega
 ·rcases Tr.get_at l name with ⟨b1, _⟩ | ⟨k, v, b1, b2, b3, b4⟩
  ·omega
  ·have e : k = i := by omega
   subst e
   by_cases hk : k = j
   ·subst hk
    rw [List.getElem?_set_self hj] at a2
    cases a2
    rw [if_pos a3.symm, getD, a4]; rfl
   ·rw [List.getElem?_set_ne (Ne.symm hk), b2] at a2
    cases a2
    rw [if_neg (by intro e; subst e; omega), getD, getD, a4, b4]
theorem right_touch {r : Rec} (h : rightR r = true) {now : Int} (hn : now ≤ 1099511627776) : rightR (touchR r now) = true := by
 unfold rightR at h ⊢
 unfold touchR
 simp only [Bool.and_eq_true, decide_eq_true_eq] at h ⊢
 obtain ⟨⟨⟨h1, h2⟩, h3⟩, h4⟩ := h
 exact ⟨⟨⟨h1, by omega⟩, h3⟩, h4⟩
end Go.Proofs.YtadhiihnnkcagaaGreatDoor
namespace Go.Proofs.YtadhiihnnkcagaaGreatDoor
open Gk Ul Pc Tk Tr Go.RowKit Go.WideShapes Go.ChangeShapes
set_option linter.unusedVariables false
set_option linter.unusedSimpArgs false
set_option maxRecDepth 100000
theorem open_pair {H : Type} {enc : TypeId × Value → H} {W : World} {spare : Nat → Bool} {held : Bool} {fuel : Nat} {cs : List Value} {x : DataW H × List MemPlace} (h : DataW.trod enc Tryz.prog W 0 spare held fuel 69 cs = some x) : ∃ z : Pr, cs = prCells z ∧ fitsP z := by
 obtain ⟨xs, n, _, _, hcl, hxl, hf⟩ := DataW.trod_struct Tryz.underlying69 h
 rw [show Tryz.prog.cellsOf 69 = 2 from by kernel_rfl] at hcl
 obtain ⟨y0, hy0⟩ : ∃ y, DataW.trod enc Tryz.prog W 0 spare held n 9 ((cs.drop 0).take (Tryz.prog.cellsOf 9)) = some y := ⟨_, (hf 0 _ rfl).trans (List.getElem?_eq_getElem (by rw [hxl]; decide))⟩
 rw [show Tryz.prog.cellsOf 9 = 1 from by kernel_rfl] at hy0
 obtain ⟨y1, hy1⟩ : ∃ y, DataW.trod enc Tryz.prog W 0 spare held n 9 ((cs.drop 1).take (Tryz.prog.cellsOf 9)) = some y := ⟨_, (hf 1 _ rfl).trans (List.getElem?_eq_getElem (by rw [hxl]; decide))⟩
 rw [show Tryz.prog.cellsOf 9 = 1 from by kernel_rfl] at hy1
 obtain ⟨v0, v1, rfl⟩ : ∃ v0 v1, cs = [v0, v1] := by
  match cs, hcl with
  | [v0, v1], _ => exact ⟨v0, v1, rfl⟩
 simp only [List.drop_succ_cons, List.drop_zero, List.take_succ_cons, List.take_zero] at hy0 hy1
 obtain ⟨z0, e0, _, w0⟩ := DataW.trod_string Tryz.underlying9 hy0
 obtain ⟨z1, e1, _, w1⟩ := DataW.trod_string Tryz.underlying9 hy1
 simp only [List.cons.injEq, and_true] at e0 e1
 subst e0 e1
 exact ⟨(z0.data.toList, z1.data.toList), rfl, ⟨w0, w1⟩⟩
def recFit (r : Rec) : Prop := r.name.length ≤ maxLen ∧ r.parent.length ≤ maxLen ∧ r.user.length ≤ maxLen ∧ r.service.length ≤ maxLen ∧ r.url.length ≤ maxLen
theorem open_rec {H : Type} {enc : TypeId × Value → H} {W : World} {spare : Nat → Bool} {held : Bool} {fuel : Nat} {cs : List Value} {x : DataW H × List MemPlace} (h : DataW.trod enc Tryz.prog W 0 spare held fuel 45 cs = some x) : ∃ z : Rec, cs = recCells z ∧ recFit z := by
 obtain ⟨xs, n, _, _, hcl, hxl, hf⟩ := DataW.trod_struct Tryz.underlying45 h
 rw [show Tryz.prog.cellsOf 45 = 10 from by kernel_rfl] at hcl
 obtain ⟨y0, hy0⟩ : ∃ y, DataW.trod enc Tryz.prog W 0 spare held n 3 ((cs.drop 0).take (Tryz.prog.cellsOf 3)) = some y := ⟨_, (hf 0 _ rfl).trans (List.getElem?_eq_getElem (by rw [hxl]; decide))⟩
 rw [show Tryz.prog.cellsOf 3 = 1 from by kernel_rfl] at hy0
 obtain ⟨y1, hy1⟩ : ∃ y, DataW.trod enc Tryz.prog W 0 spare held n 9 ((cs.drop 1).take (Tryz.prog.cellsOf 9)) = some y := ⟨_, (hf 1 _ rfl).trans (List.getElem?_eq_getElem (by rw [hxl]; decide))⟩
 rw [show Tryz.prog.cellsOf 9 = 1 from by kernel_rfl] at hy1
 obtain ⟨y2, hy2⟩ : ∃ y, DataW.trod enc Tryz.prog W 0 spare held n 9 ((cs.drop 2).take (Tryz.prog.cellsOf 9)) = some y := ⟨_, (hf 2 _ rfl).trans (List.getElem?_eq_getElem (by rw [hxl]; decide))⟩
 rw [show Tryz.prog.cellsOf 9 = 1 from by kernel_rfl] at hy2
 obtain ⟨y3, hy3⟩ : ∃ y, DataW.trod enc Tryz.prog W 0 spare held n 9 ((cs.drop 3).take (Tryz.prog.cellsOf 9)) = some y := ⟨_, (hf 3 _ rfl).trans (List.getElem?_eq_getElem (by rw [hxl]; decide))⟩
 rw [show Tryz.prog.cellsOf 9 = 1 from by kernel_rfl] at hy3
 obtain ⟨y4, hy4⟩ : ∃ y, DataW.trod enc Tryz.prog W 0 spare held n 9 ((cs.drop 4).take (Tryz.prog.cellsOf 9)) = some y := ⟨_, (hf 4 _ rfl).trans (List.getElem?_eq_getElem (by rw [hxl]; decide))⟩
 rw [show Tryz.prog.cellsOf 9 = 1 from by kernel_rfl] at hy4
 obtain ⟨y5, hy5⟩ : ∃ y, DataW.trod enc Tryz.prog W 0 spare held n 9 ((cs.drop 5).take (Tryz.prog.cellsOf 9)) = some y := ⟨_, (hf 5 _ rfl).trans (List.getElem?_eq_getElem (by rw [hxl]; decide))⟩
 rw [show Tryz.prog.cellsOf 9 = 1 from by kernel_rfl] at hy5
 obtain ⟨y6, hy6⟩ : ∃ y, DataW.trod enc Tryz.prog W 0 spare held n 3 ((cs.drop 6).take (Tryz.prog.cellsOf 3)) = some y := ⟨_, (hf 6 _ rfl).trans (List.getElem?_eq_getElem (by rw [hxl]; decide))⟩
 rw [show Tryz.prog.cellsOf 3 = 1 from by kernel_rfl] at hy6
 obtain ⟨y7, hy7⟩ : ∃ y, DataW.trod enc Tryz.prog W 0 spare held n 3 ((cs.drop 7).take (Tryz.prog.cellsOf 3)) = some y := ⟨_, (hf 7 _ rfl).trans (List.getElem?_eq_getElem (by rw [hxl]; decide))⟩
 rw [show Tryz.prog.cellsOf 3 = 1 from by kernel_rfl] at hy7
 obtain ⟨y8, hy8⟩ : ∃ y, DataW.trod enc Tryz.prog W 0 spare held n 3 ((cs.drop 8).take (Tryz.prog.cellsOf 3)) = some y := ⟨_, (hf 8 _ rfl).trans (List.getElem?_eq_getElem (by rw [hxl]; decide))⟩
 rw [show Tryz.prog.cellsOf 3 = 1 from by kernel_rfl] at hy8
 obtain ⟨y9, hy9⟩ : ∃ y, DataW.trod enc Tryz.prog W 0 spare held n 4 ((cs.drop 9).take (Tryz.prog.cellsOf 4)) = some y := ⟨_, (hf 9 _ rfl).trans (List.getElem?_eq_getElem (by rw [hxl]; decide))⟩
 rw [show Tryz.prog.cellsOf 4 = 1 from by kernel_rfl] at hy9
 obtain ⟨v0, v1, v2, v3, v4, v5, v6, v7, v8, v9, rfl⟩ : ∃ v0 v1 v2 v3 v4 v5 v6 v7 v8 v9, cs = [v0, v1, v2, v3, v4, v5, v6, v7, v8, v9] := by
  match cs, hcl with
  | [v0, v1, v2, v3, v4, v5, v6, v7, v8, v9], _ => exact ⟨v0, v1, v2, v3, v4, v5, v6, v7, v8, v9, rfl⟩
 simp only [List.drop_succ_cons, List.drop_zero, List.take_succ_cons, List.take_zero] at hy0 hy1 hy2 hy3 hy4 hy5 hy6 hy7 hy8 hy9
 obtain ⟨z0, e0, _, w0⟩ := DataW.trod_int Tryz.underlying3 hy0
 obtain ⟨z1, e1, _, w1⟩ := DataW.trod_string Tryz.underlying9 hy1
 obtain ⟨z2, e2, _, w2⟩ := DataW.trod_string Tryz.underlying9 hy2
 obtain ⟨z3, e3, _, w3⟩ := DataW.trod_string Tryz.underlying9 hy3
 obtain ⟨z4, e4, _, w4⟩ := DataW.trod_string Tryz.underlying9 hy4
 obtain ⟨z5, e5, _, w5⟩ := DataW.trod_string Tryz.underlying9 hy5
 obtain ⟨z6, e6, _, w6⟩ := DataW.trod_int Tryz.underlying3 hy6
 obtain ⟨z7, e7, _, w7⟩ := DataW.trod_int Tryz.underlying3 hy7
 obtain ⟨z8, e8, _, w8⟩ := DataW.trod_int Tryz.underlying3 hy8
 obtain ⟨z9, e9, _⟩ := DataW.trod_bool Tryz.underlying4 hy9
 simp only [List.cons.injEq, and_true] at e0 e1 e2 e3 e4 e5 e6 e7 e8 e9
 subst e0 e1 e2 e3 e4 e5 e6 e7 e8 e9
 exact ⟨⟨z0, z1.data.toList, z2.data.toList, z3.data.toList, z4.data.toList, z5.data.toList, z6, z7, z8, z9⟩, rfl, ⟨w1, w2, w3, w4, w5⟩⟩
theorem open_flat {α : Type} {cells : α → List Value} {c : Nat} {fit : α → Prop} {t e : TypeId} {H : Type} {enc : TypeId × Value → H} {W : World} {spare : Nat → Bool} {held : Bool} {fuel : Nat} {cs : List Value} {x : DataW H × List MemPlace} (ht : Tryz.prog.underlying t = some (.slice e)) (hc : Tryz.prog.cellsOf e = c) (hc0 : 0 < c)
  (one : ∀ n cs y, DataW.trod enc Tryz.prog W 0 spare held n e cs = some y → ∃ z : α, cs = cells z ∧ fit z) (h : DataW.trod enc Tryz.prog W 0 spare held fuel t cs = some x) :
  ∃ (a : Option Addr) (cap : Nat) (l : List α), cs = [.slice a l.length cap] ∧ l.length ≤ cap ∧ cap ≤ maxLen ∧ RS (im0 W) a c l.length (rowsC cells l) ∧ ∀ z ∈ l, fit z := by
 obtain ⟨a, cap, L, n, rfl, h1, h2, h3, h4, h5⟩ := open_rows ht hc hc0 h
 have key : ∀ L : List (List Value), (∀ l ∈ L, ∃ y, DataW.trod enc Tryz.prog W 0 spare held n e l = some y) → ∃ l : List α, L = l.map cells ∧ ∀ z ∈ l, fit z := by
  intro L
  induction L with
  | nil => intro _; exact ⟨[], rfl, fun z h => by simp at h⟩
  | cons c L ih =>
   intro h
   obtain ⟨y, hy⟩ := h c (by simp)
   obtain ⟨z, rfl, hf⟩ := one n c y hy
   obtain ⟨l, rfl, e2⟩ := ih (fun c hc => h c (by simp [hc]))
   exact ⟨z :: l, rfl, fun u hu => by
    rcases List.mem_cons.1 hu with e | hu
    ·subst e; exact hf
    ·exact e2 u hu⟩
 obtain ⟨l, rfl, hfit⟩ := key L h5
 rw [List.length_map] at h1 h4
 exact ⟨a, cap, l, by rw [List.length_map], h1, h2, h4, hfit⟩
theorem open_usr {H : Type} {enc : TypeId × Value → H} {W : World} {spare : Nat → Bool} {held : Bool} {fuel : Nat} {cs : List Value} {x : DataW H × List MemPlace} (h : DataW.trod enc Tryz.prog W 0 spare held fuel 67 cs = some x) : ∃ u : Us, UsAt (im0 W) u cs ∧ u.fits := by
 obtain ⟨xs, n, _, _, hcl, hxl, hf⟩ := DataW.trod_struct Tryz.underlying67 h
 rw [show Tryz.prog.cellsOf 67 = 3 from by kernel_rfl] at hcl
 obtain ⟨y0, hy0⟩ : ∃ y, DataW.trod enc Tryz.prog W 0 spare held n 9 ((cs.drop 0).take (Tryz.prog.cellsOf 9)) = some y := ⟨_, (hf 0 _ rfl).trans (List.getElem?_eq_getElem (by rw [hxl]; decide))⟩
 rw [show Tryz.prog.cellsOf 9 = 1 from by kernel_rfl] at hy0
 obtain ⟨y1, hy1⟩ : ∃ y, DataW.trod enc Tryz.prog W 0 spare held n 9 ((cs.drop 1).take (Tryz.prog.cellsOf 9)) = some y := ⟨_, (hf 1 _ rfl).trans (List.getElem?_eq_getElem (by rw [hxl]; decide))⟩
 rw [show Tryz.prog.cellsOf 9 = 1 from by kernel_rfl] at hy1
 obtain ⟨y2, hy2⟩ : ∃ y, DataW.trod enc Tryz.prog W 0 spare held n 54 ((cs.drop 2).take (Tryz.prog.cellsOf 54)) = some y := ⟨_, (hf 2 _ rfl).trans (List.getElem?_eq_getElem (by rw [hxl]; decide))⟩
 rw [show Tryz.prog.cellsOf 54 = 1 from by kernel_rfl] at hy2
 obtain ⟨v0, v1, v2, rfl⟩ : ∃ v0 v1 v2, cs = [v0, v1, v2] := by
  match cs, hcl with
  | [v0, v1, v2], _ => exact ⟨v0, v1, v2, rfl⟩
 simp only [List.drop_succ_cons, List.drop_zero, List.take_succ_cons, List.take_zero] at hy0 hy1 hy2
 obtain ⟨z0, e0, _, w0⟩ := DataW.trod_string Tryz.underlying9 hy0
 obtain ⟨z1, e1, _, w1⟩ := DataW.trod_string Tryz.underlying9 hy1
 obtain ⟨a, c, l, e2, h1, h2, h3, h4⟩ := open_flat (cells := prCells) (c := 2) (fit := fitsP) Tryz.underlying54 (by kernel_rfl) (by decide) (fun n cs y h => open_pair h) hy2
 simp only [List.cons.injEq, and_true] at e0 e1 e2
 subst e0 e1 e2
 exact ⟨⟨z0.data.toList, z1.data.toList, l⟩, ⟨a, c, rfl, h1, h3⟩, ⟨w0, w1, Nat.le_trans h1 h2, h4⟩⟩
theorem open_usrs {H : Type} {enc : TypeId × Value → H} {W : World} {spare : Nat → Bool} {held : Bool} {fuel : Nat} {cs : List Value} {x : DataW H × List MemPlace} (h : DataW.trod enc Tryz.prog W 0 spare held fuel 28 cs = some x) : ∃ (a : Option Addr) (cap : Nat) (l : List Us), cs = [.slice a l.length cap] ∧ l.length ≤ cap ∧ cap ≤ maxLen ∧ UsrsAt (im0 W) a l ∧ ∀ u ∈ l, u.fits := by
 obtain ⟨a, cap, L, n, rfl, h1, h2, h3, h4, h5⟩ := open_rows (c := 3) Tryz.underlying28 (by kernel_rfl) (by decide) h
 have key : ∀ L : List (List Value), (∀ l ∈ L, ∃ y, DataW.trod enc Tryz.prog W 0 spare held n 67 l = some y) → ∃ l : List Us, L.length = l.length ∧ ∀ (i : Nat) (u : Us), l[i]? = some u → u.fits ∧ ∃ c, L[i]? = some c ∧ UsAt (im0 W) u c := by
  intro L
  induction L with
  | nil => intro _; exact ⟨[], rfl, fun i s h => by simp at h⟩
  | cons c L ih =>
   intro h
   obtain ⟨y, hy⟩ := h c (by simp)
   obtain ⟨s, hs, hf⟩ := open_usr hy
   obtain ⟨l, e1, e2⟩ := ih (fun c hc => h c (by simp [hc]))
   refine ⟨s :: l, by simp [e1], fun i u hu => ?_⟩
   cases i with
   | zero => simp at hu; subst hu; exact ⟨hf, c, rfl, hs⟩
   | succ i => simpa using e2 i u (by simpa using hu)
 obtain ⟨l, e1, e2⟩ := key L h5
 refine ⟨a, cap, l, by rw [e1], by rw [← e1]; exact h1, h2, fun i u hu => ?_, fun u hu => ?_⟩
 ·obtain ⟨_, c, hc, ra, rc, rfl, h6, h7⟩ := e2 i u hu
  obtain ⟨p, rfl, hp⟩ := h4.2 (by have := (List.getElem?_eq_some_iff.1 hc).1; omega)
  have h8 := at_take (hp.add (i * 3)) 3
  rw [flat_piece L h3 i _ hc] at h8
  exact ⟨p, ra, rc, rfl, h8, h6, h7⟩
 ·obtain ⟨i, hi⟩ := List.mem_iff_getElem?.1 hu
  exact (e2 i u hi).1
theorem open_arr {H : Type} {enc : TypeId × Value → H} {W : World} {spare : Nat → Bool} {held : Bool} {fuel : Nat} {cs : List Value} {x : DataW H × List MemPlace} (h : DataW.trod enc Tryz.prog W 0 spare held fuel 29 cs = some x) : ∃ l : List Int, l.length = 7 ∧ cs = l.map I64 := by
 obtain ⟨xs, n, _, _, hcl, hxl, hf⟩ := DataW.trod_array Tryz.underlying29 h
 rw [show Tryz.prog.cellsOf 29 = 7 from by kernel_rfl] at hcl
 rw [show Tryz.prog.cellsOf 3 = 1 from by kernel_rfl] at hf
 have each : ∀ v ∈ cs, ∃ z : Int, v = I64 z := by
  intro v hv
  obtain ⟨i, hi⟩ := List.mem_iff_getElem?.1 hv
  have hil := (List.getElem?_eq_some_iff.1 hi).1
  obtain ⟨y, hy⟩ : ∃ y, xs[i]? = some y := ⟨_, List.getElem?_eq_getElem (by omega)⟩
  have h2 := (hf i (by omega)).trans hy
  obtain ⟨z, e, _⟩ := DataW.trod_int Tryz.underlying3 h2
  rw [Nat.mul_one, List.drop_eq_getElem_cons hil, List.take_succ_cons, List.take_zero, (List.getElem?_eq_some_iff.1 hi).2] at e
  exact ⟨z, (List.cons.inj e).1⟩
 have key : ∀ cs : List Value, (∀ v ∈ cs, ∃ z : Int, v = I64 z) → ∃ l : List Int, cs = l.map I64 := by
  intro cs
  induction cs with
  | nil => intro _; exact ⟨[], rfl⟩
  | cons v r ih =>
   intro h
   obtain ⟨z, rfl⟩ := h v (by simp)
   obtain ⟨l, rfl⟩ := ih (fun v hv => h v (by simp [hv]))
   exact ⟨z :: l, rfl⟩
 obtain ⟨l, rfl⟩ := key cs each
 exact ⟨l, by simpa using hcl, rfl⟩
theorem psL_of {L : List Int} (h : L.length = 21) : psL (fun i => L.getD i 0) = L := by
 match L, h with
 | [a0, a1, a2, a3, a4, a5, a6, a7, a8, a9, a10, a11, a12, a13, a14, a15, a16, a17, a18, a19, a20], _ => rfl
theorem open_pol {H : Type} {enc : TypeId × Value → H} {W : World} {spare : Nat → Bool} {held : Bool} {fuel : Nat} {cs : List Value} {x : DataW H × List MemPlace} (h : DataW.trod enc Tryz.prog W 0 spare held fuel 31 cs = some x) : ∃ p : Nat → Int, cs = (psL p).map I64 := by
 obtain ⟨xs, n, _, _, hcl, hxl, hf⟩ := DataW.trod_struct Tryz.underlying31 h
 rw [show Tryz.prog.cellsOf 31 = 21 from by kernel_rfl] at hcl
 obtain ⟨y0, hy0⟩ : ∃ y, DataW.trod enc Tryz.prog W 0 spare held n 29 ((cs.drop 0).take (Tryz.prog.cellsOf 29)) = some y := ⟨_, (hf 0 _ rfl).trans (List.getElem?_eq_getElem (by rw [hxl]; decide))⟩
 rw [show Tryz.prog.cellsOf 29 = 7 from by kernel_rfl] at hy0
 obtain ⟨y1, hy1⟩ : ∃ y, DataW.trod enc Tryz.prog W 0 spare held n 29 ((cs.drop 7).take (Tryz.prog.cellsOf 29)) = some y := ⟨_, (hf 1 _ rfl).trans (List.getElem?_eq_getElem (by rw [hxl]; decide))⟩
 rw [show Tryz.prog.cellsOf 29 = 7 from by kernel_rfl] at hy1
 obtain ⟨y2, hy2⟩ : ∃ y, DataW.trod enc Tryz.prog W 0 spare held n 29 ((cs.drop 14).take (Tryz.prog.cellsOf 29)) = some y := ⟨_, (hf 2 _ rfl).trans (List.getElem?_eq_getElem (by rw [hxl]; decide))⟩
 rw [show Tryz.prog.cellsOf 29 = 7 from by kernel_rfl] at hy2
 obtain ⟨v0, v1, v2, v3, v4, v5, v6, v7, v8, v9, v10, v11, v12, v13, v14, v15, v16, v17, v18, v19, v20, rfl⟩ : ∃ v0 v1 v2 v3 v4 v5 v6 v7 v8 v9 v10 v11 v12 v13 v14 v15 v16 v17 v18 v19 v20, cs = [v0, v1, v2, v3, v4, v5, v6, v7, v8, v9, v10, v11, v12, v13, v14, v15, v16, v17, v18, v19, v20] := by
  match cs, hcl with
  | [v0, v1, v2, v3, v4, v5, v6, v7, v8, v9, v10, v11, v12, v13, v14, v15, v16, v17, v18, v19, v20], _ => exact ⟨v0, v1, v2, v3, v4, v5, v6, v7, v8, v9, v10, v11, v12, v13, v14, v15, v16, v17, v18, v19, v20, rfl⟩
 simp only [List.drop_succ_cons, List.drop_zero, List.take_succ_cons, List.take_zero] at hy0 hy1 hy2
 obtain ⟨l0, h0, e0⟩ := open_arr hy0
 obtain ⟨l1, h1, e1⟩ := open_arr hy1
 obtain ⟨l2, h2, e2⟩ := open_arr hy2
 refine ⟨fun i => (l0 ++ (l1 ++ l2)).getD i 0, ?_⟩
 rw [psL_of (by simp only [List.length_append]; omega), List.map_append, List.map_append, ← e0, ← e1, ← e2]
 rfl
theorem open_cfg {H : Type} {enc : TypeId × Value → H} {W : World} {spare : Nat → Bool} {held : Bool} {fuel : Nat} {cs : List Value} {x : DataW H × List MemPlace} (h : DataW.trod enc Tryz.prog W 0 spare held fuel 34 cs = some x) : ∃ (c : Cf) (a : Option Addr) (cap : Nat) (ua : Option Addr) (ucap : Nat), cs = cfCells c a cap ua ucap ∧ CfAt (im0 W) c a cap ua ucap := by
 obtain ⟨xs, n, _, _, hcl, hxl, hf⟩ := DataW.trod_struct Tryz.underlying34 h
 rw [show Tryz.prog.cellsOf 34 = 28 from by kernel_rfl] at hcl
 obtain ⟨y0, hy0⟩ : ∃ y, DataW.trod enc Tryz.prog W 0 spare held n 27 ((cs.drop 0).take (Tryz.prog.cellsOf 27)) = some y := ⟨_, (hf 0 _ rfl).trans (List.getElem?_eq_getElem (by rw [hxl]; decide))⟩
 rw [show Tryz.prog.cellsOf 27 = 1 from by kernel_rfl] at hy0
 obtain ⟨y1, hy1⟩ : ∃ y, DataW.trod enc Tryz.prog W 0 spare held n 28 ((cs.drop 1).take (Tryz.prog.cellsOf 28)) = some y := ⟨_, (hf 1 _ rfl).trans (List.getElem?_eq_getElem (by rw [hxl]; decide))⟩
 rw [show Tryz.prog.cellsOf 28 = 1 from by kernel_rfl] at hy1
 obtain ⟨y2, hy2⟩ : ∃ y, DataW.trod enc Tryz.prog W 0 spare held n 31 ((cs.drop 2).take (Tryz.prog.cellsOf 31)) = some y := ⟨_, (hf 2 _ rfl).trans (List.getElem?_eq_getElem (by rw [hxl]; decide))⟩
 rw [show Tryz.prog.cellsOf 31 = 21 from by kernel_rfl] at hy2
 obtain ⟨y3, hy3⟩ : ∃ y, DataW.trod enc Tryz.prog W 0 spare held n 3 ((cs.drop 23).take (Tryz.prog.cellsOf 3)) = some y := ⟨_, (hf 3 _ rfl).trans (List.getElem?_eq_getElem (by rw [hxl]; decide))⟩
 rw [show Tryz.prog.cellsOf 3 = 1 from by kernel_rfl] at hy3
 obtain ⟨y4, hy4⟩ : ∃ y, DataW.trod enc Tryz.prog W 0 spare held n 32 ((cs.drop 24).take (Tryz.prog.cellsOf 32)) = some y := ⟨_, (hf 4 _ rfl).trans (List.getElem?_eq_getElem (by rw [hxl]; decide))⟩
 rw [show Tryz.prog.cellsOf 32 = 1 from by kernel_rfl] at hy4
 obtain ⟨y5, hy5⟩ : ∃ y, DataW.trod enc Tryz.prog W 0 spare held n 32 ((cs.drop 25).take (Tryz.prog.cellsOf 32)) = some y := ⟨_, (hf 5 _ rfl).trans (List.getElem?_eq_getElem (by rw [hxl]; decide))⟩
 rw [show Tryz.prog.cellsOf 32 = 1 from by kernel_rfl] at hy5
 obtain ⟨y6, hy6⟩ : ∃ y, DataW.trod enc Tryz.prog W 0 spare held n 32 ((cs.drop 26).take (Tryz.prog.cellsOf 32)) = some y := ⟨_, (hf 6 _ rfl).trans (List.getElem?_eq_getElem (by rw [hxl]; decide))⟩
 rw [show Tryz.prog.cellsOf 32 = 1 from by kernel_rfl] at hy6
 obtain ⟨y7, hy7⟩ : ∃ y, DataW.trod enc Tryz.prog W 0 spare held n 3 ((cs.drop 27).take (Tryz.prog.cellsOf 3)) = some y := ⟨_, (hf 7 _ rfl).trans (List.getElem?_eq_getElem (by rw [hxl]; decide))⟩
 rw [show Tryz.prog.cellsOf 3 = 1 from by kernel_rfl] at hy7
 obtain ⟨v0, v1, v2, v3, v4, v5, v6, v7, v8, v9, v10, v11, v12, v13, v14, v15, v16, v17, v18, v19, v20, v21, v22, v23, v24, v25, v26, v27, rfl⟩ : ∃ v0 v1 v2 v3 v4 v5 v6 v7 v8 v9 v10 v11 v12 v13 v14 v15 v16 v17 v18 v19 v20 v21 v22 v23 v24 v25 v26 v27, cs = [v0, v1, v2, v3, v4, v5, v6, v7, v8, v9, v10, v11, v12, v13, v14, v15, v16, v17, v18, v19, v20, v21, v22, v23, v24, v25, v26, v27] := by
  match cs, hcl with
  | [v0, v1, v2, v3, v4, v5, v6, v7, v8, v9, v10, v11, v12, v13, v14, v15, v16, v17, v18, v19, v20, v21, v22, v23, v24, v25, v26, v27], _ => exact ⟨v0, v1, v2, v3, v4, v5, v6, v7, v8, v9, v10, v11, v12, v13, v14, v15, v16, v17, v18, v19, v20, v21, v22, v23, v24, v25, v26, v27, rfl⟩
 simp only [List.drop_succ_cons, List.drop_zero, List.take_succ_cons, List.take_zero] at hy0 hy1 hy2 hy3 hy4 hy5 hy6 hy7
 obtain ⟨a, cap, L, l, e0, h1, h2, h3, h4, h5, h6⟩ := open_svcs hy0
 obtain ⟨ua, ucap, us, e1, h7, h8, h9, h10⟩ := open_usrs hy1
 obtain ⟨ps, e2⟩ := open_pol hy2
 obtain ⟨z3, e3, _⟩ := DataW.trod_int Tryz.underlying3 hy3
 obtain ⟨z4, e4, _⟩ := trod_float_ Tryz.underlying32 hy4
 obtain ⟨z5, e5, _⟩ := trod_float_ Tryz.underlying32 hy5
 obtain ⟨z6, e6, _⟩ := trod_float_ Tryz.underlying32 hy6
 obtain ⟨z7, e7, _⟩ := DataW.trod_int Tryz.underlying3 hy7
 simp only [List.cons.injEq, and_true] at e0 e1 e3 e4 e5 e6 e7
 subst e0 e1 e3 e4 e5 e6 e7
 refine ⟨⟨l, us, ps, z3, z4, z5, z6, z7⟩, a, cap, ua, ucap, ?_, svs_of h4 h5 (fun i s hs => (h6 i s hs).2), h9, ⟨by rw [← h3]; exact h1, h2⟩, Nat.le_trans h7 h8, fun s hs => ?_, h10⟩
 ·show _ = Value.slice a l.length cap :: Value.slice ua us.length ucap :: ((psL ps).map I64 ++ _)
  rw [← e2, ← h3]; rfl
 ·obtain ⟨i, hi⟩ := List.mem_iff_getElem?.1 hs
  exact (h6 i s hi).1
end Go.Proofs.YtadhiihnnkcagaaGreatDoor
namespace Go.Proofs.YtadhiihnnkcagaaGreatDoor
open Gk Ul Pc Tk Tr
set_option linter.unusedVariables false
set_option linter.unusedSimpArgs false
structure Op where
 act : Int
 n : Int
 d : List Nat
 a : Int
 b : List UInt8
 c : List UInt8
 f : Bool
 r : Rec
 q : Ak
def opCells (o : Op) (da : Option Addr) (dc : Nat) : List Value := [I64 o.act, I64 o.n, .slice da o.d.length dc, I64 o.a, S o.b, S o.c, .bool o.f, I64 o.r.kind, S o.r.name, S o.r.parent, S o.r.user, S o.r.service, S o.r.url, I64 o.r.made, I64 o.r.used, I64 o.r.uses, .bool o.r.fresh, S o.q.service, S o.q.cookie, .bool o.q.has, .bool o.q.renew, .bool o.q.gateway, .bool o.q.warn]
def OpAt (I : Im) (o : Op) (cs : List Value) : Prop := ∃ da dc, cs = opCells o da dc ∧ o.d.length ≤ dc ∧ dc ≤ maxLen ∧ RS I da 1 o.d.length (o.d.map fun d => U64 (d : Nat))
def OpsAt (I : Im) (a : Option Addr) (l : List Op) : Prop := ∃ L : List (List Value), L.length = l.length ∧ (∀ c ∈ L, c.length = 23) ∧ RS I a 23 l.length L.flatten ∧ ∀ (i : Nat) (o : Op), l[i]? = some o → ∃ cs, L[i]? = some cs ∧ OpAt I o cs
theorem OpAt.mono {I J : Im} {o : Op} {cs : List Value} (h : OpAt I o cs) (hl : Le I J) : OpAt J o cs := by
 obtain ⟨da, dc, e, h1, h2, h3⟩ := h
 exact ⟨da, dc, e, h1, h2, h3.mono hl⟩
theorem OpsAt.mono {I J : Im} {a : Option Addr} {l : List Op} (h : OpsAt I a l) (hl : Le I J) : OpsAt J a l := by
 obtain ⟨L, h1, h2, h3, h4⟩ := h
 exact ⟨L, h1, h2, h3.mono hl, fun i o ho => by
  obtain ⟨cs, h5, h6⟩ := h4 i o ho
  exact ⟨cs, h5, h6.mono hl⟩⟩
theorem OpsAt.at {I : Im} {a : Option Addr} {l : List Op} (h : OpsAt I a l) (i : Nat) (u : Op) (hu : l[i]? = some u) : ∃ p cs, a = some p ∧ At I (p.add (i * 23)) cs ∧ OpAt I u cs := by
 obtain ⟨L, h1, h2, h3, h4⟩ := h
 obtain ⟨cs, h5, h6⟩ := h4 i u hu
 obtain ⟨p, rfl, hp⟩ := h3.2 (by have := (List.getElem?_eq_some_iff.1 hu).1; omega)
 refine ⟨p, cs, rfl, ?_, h6⟩
 have h8 := at_take (hp.add (i * 23)) 23
 rw [flat_piece L h2 i _ h5] at h8
 exact h8
theorem opAt_one {I : Im} {o : Op} {cs : List Value} (h : OpAt I o cs) : cs.length = 23 ∧ cs.all Value.oneCell' = true := by
 obtain ⟨da, dc, rfl, _⟩ := h
 exact ⟨rfl, rfl⟩
theorem ops_one {I : Im} {l : List Op} {L : List (List Value)} (h1 : L.length = l.length) (h4 : ∀ (i : Nat) (o : Op), l[i]? = some o → ∃ cs, L[i]? = some cs ∧ OpAt I o cs) : L.flatten.all Value.oneCell' = true := by
 rw [List.all_eq_true]
 intro v hv
 obtain ⟨c, hc, hv⟩ := List.mem_flatten.1 hv
 obtain ⟨i, hi⟩ := List.mem_iff_getElem?.1 hc
 have hil := (List.getElem?_eq_some_iff.1 hi).1
 obtain ⟨o, ho⟩ : ∃ o, l[i]? = some o := ⟨_, List.getElem?_eq_getElem (by omega)⟩
 obtain ⟨cs, h5, h6⟩ := h4 i o ho
 rw [hi] at h5; cases h5
 exact List.all_eq_true.1 (opAt_one h6).2 v hv
theorem opsAt_cons {I J : Im} {l : List Op} {L : List (List Value)} (h1 : L.length = l.length) (h2 : ∀ c ∈ L, c.length = 23) (h4 : ∀ (i : Nat) (o : Op), l[i]? = some o → ∃ cs, L[i]? = some cs ∧ OpAt I o cs) (hl : Le I J) {a : Option Addr} {o : Op} {cs : List Value} (ho : OpAt J o cs) (hR : RS J a 23 (1 + l.length) (cs ++ L.flatten)) : OpsAt J a (o :: l) := by
 refine ⟨cs :: L, by simp [h1], fun c hc => ?_, by rw [List.flatten_cons, List.length_cons, Nat.add_comm]; exact hR, fun i u hu => ?_⟩
 ·rcases List.mem_cons.1 hc with rfl | hc
  ·exact (opAt_one ho).1
  ·exact h2 c hc
 ·cases i with
  | zero => simp at hu; subst hu; exact ⟨cs, rfl, ho⟩
  | succ i =>
   obtain ⟨c, h5, h6⟩ := h4 i u (by simpa using hu)
   exact ⟨c, by simpa using h5, h6.mono hl⟩
structure Op.fits (o : Op) : Prop where
 d : ∀ x ∈ o.d, x < 18446744073709551616
 b : o.b.length ≤ maxLen
 c : o.c.length ≤ maxLen
def bigO (o : Op) : Bool := ((((((decide ((10 : Int) < (o.d.length : Int)) || decide ((120 : Int) < (o.b.length : Int))) || decide ((80 : Int) < (o.c.length : Int))) || decide ((120 : Int) < (o.q.service.length : Int))) || decide ((60 : Int) < (o.r.parent.length : Int))) || decide ((60 : Int) < (o.r.user.length : Int))) || decide ((120 : Int) < (o.r.service.length : Int))) || decide ((120 : Int) < (o.r.url.length : Int))
def few20 (c : Cf) (l : List Op) : Bool := (l.all fun o => !bigO o) && (fewC c && decide ((l.length : Int) ≤ 40))
def toldN (names : List (List UInt8)) (at9 : Int) : List UInt8 := if (decide (at9 < 0) || decide ((names.length : Int) ≤ at9)) = true then [] else (names[names.length - 1 - at9.toNat]?).getD []
def feedW (ω : Wd) (d : List Nat) : Wd := { ω with D := ω.D ++ d }
def LTr : Rec := ⟨6, [], [], [], [], [], 0, 0, 0, false⟩
def actW (lo : List Sv) (us : List Us) (ps : Nat → Int) (ω : Wd) (names : List (List UInt8)) (o : Op) : (List UInt8 × Nat) × Wd :=
 if o.act = 1 then (([], 0), feedW ω o.d)
 else if o.act = 2 then (([], 0), tick ω o.n)
 else if o.act = 3 then mkW ω LTr
 else if o.act = 4 then loginW us ps ω (toldN names o.a) o.b o.c
 else if o.act = 5 then (((grantW lo ps ω (toldN names o.a) o.b o.f).1.1.1, (grantW lo ps ω (toldN names o.a) o.b o.f).1.2), (grantW lo ps ω (toldN names o.a) o.b o.f).2)
 else (([], 0), ω)
def addN (names : List (List UInt8)) (a : List UInt8) : List (List UInt8) := if (a != []) = true then names ++ [a] else names
def stepW (lo : List Sv) (us : List Us) (ps : Nat → Int) (s : Wd × List (List UInt8)) (o : Op) : Wd × List (List UInt8) := ((actW lo us ps s.1 s.2 o).2, addN s.2 (actW lo us ps s.1 s.2 o).1.1)
def walkW (lo : List Sv) (us : List Us) (ps : Nat → Int) (ω : Wd) (l : List Op) : Wd × List (List UInt8) := l.foldl (stepW lo us ps) (ω, [])
theorem feedW_ok {ω : Wd} (h : WdOk ω) {d : List Nat} (hd : ∀ x ∈ d, x < 18446744073709551616) : WdOk (feedW ω d) := ⟨h.len, h.wf, fun x hx => by
 rcases List.mem_append.1 hx with h1 | h1
 ·exact h.D x h1
 ·exact hd x h1, h.now, h.room⟩
theorem mkW_nlen {ω : Wd} {r : Rec} : (mkW ω r).1.1.length ≤ 60 := by
 unfold mkW
 split
 ·exact Nat.zero_le _
 ·dsimp only
  split
  ·exact Nat.zero_le _
  ·have := nextT_len (pr := fun s => (get ω.l s).isSome) (kind := r.kind) (D := ω.D)
   show (mkN ω r).1.1.length ≤ 60
   unfold mkN; omega
theorem mkW_D {ω : Wd} {r : Rec} : (mkW ω r).2.D.length ≤ ω.D.length := by
 have h : (mkN ω r).2.length ≤ ω.D.length := by
  unfold mkN nextT
  split
  ·exact Nat.le_refl _
  ·cases ω.D with
   | nil => exact Nat.le_refl _
   | cons d D => dsimp only; split <;> simp
 unfold mkW
 split
 ·exact h
 ·exact h
theorem loginW_nlen {us : List Us} {ps : Nat → Int} {ω : Wd} {lt user pw : List UInt8} : (loginW us ps ω lt user pw).1.1.length ≤ 60 := by
 unfold loginW
 split
 ·exact Nat.zero_le _
 ·split
  ·exact Nat.zero_le _
  ·exact mkW_nlen
theorem loginW_D {us : List Us} {ps : Nat → Int} {ω : Wd} {lt user pw : List UInt8} : (loginW us ps ω lt user pw).2.D.length ≤ ω.D.length := by
 unfold loginW
 split
 ·exact Nat.le_refl _
 ·split
  ·exact Nat.le_refl _
  ·dsimp only
   split
   ·exact mkW_D
   ·exact mkW_D
theorem grantW_nlen {lo : List Sv} {ps : Nat → Int} {ω : Wd} {t s : List UInt8} {f : Bool} : (grantW lo ps ω t s f).1.1.1.length ≤ 60 := by
 unfold grantW
 split
 ·exact Nat.zero_le _
 ·split
  ·exact Nat.zero_le _
  ·split
   ·exact Nat.zero_le _
   ·split
    ·exact Nat.zero_le _
    ·exact mkW_nlen
theorem grantW_D {lo : List Sv} {ps : Nat → Int} {ω : Wd} {t s : List UInt8} {f : Bool} : (grantW lo ps ω t s f).2.D.length ≤ ω.D.length := by
 unfold grantW
 split
 ·exact Nat.le_refl _
 ·split
  ·exact Nat.le_refl _
  ·split
   ·exact Nat.le_refl _
   ·split
    ·exact mkW_D
    ·exact mkW_D
structure WkOk (i : Nat) (s : Wd × List (List UInt8)) : Prop where
 ok : WdOk s.1
 nm : ∀ t ∈ s.2, t.length ≤ 60
 nl : s.2.length ≤ i
 dl : s.1.D.length ≤ 10 * i
theorem actW_nlen {lo : List Sv} {us : List Us} {ps : Nat → Int} {ω : Wd} {ns : List (List UInt8)} {o : Op} : (actW lo us ps ω ns o).1.1.length ≤ 60 := by
 unfold actW
 split
 ·exact Nat.zero_le _
 ·split
  ·exact Nat.zero_le _
  ·split
   ·exact mkW_nlen
   ·split
    ·exact loginW_nlen
    ·split
     ·exact grantW_nlen
     ·exact Nat.zero_le _
theorem actW_ok {lo : List Sv} {us : List Us} {ps : Nat → Int} {ω : Wd} {ns : List (List UInt8)} {o : Op} (h : WdOk ω) (hd : ∀ x ∈ o.d, x < 18446744073709551616) : WdOk (actW lo us ps ω ns o).2 := by
 unfold actW
 split
 ·exact feedW_ok h hd
 ·split
  ·exact tick_ok h _
  ·split
   ·exact mkW_ok h _
   ·split
    ·exact loginW_ok h _ _ _
    ·split
     ·exact grantW_ok h _ _ _
     ·exact h
theorem actW_D {lo : List Sv} {us : List Us} {ps : Nat → Int} {ω : Wd} {ns : List (List UInt8)} {o : Op} (hb : o.d.length ≤ 10) : (actW lo us ps ω ns o).2.D.length ≤ ω.D.length + 10 := by
 unfold actW
 split
 ·show (ω.D ++ o.d).length ≤ _
  rw [List.length_append]; omega
 ·split
  ·show ω.D.length ≤ _; omega
  ·split
   ·exact Nat.le_trans mkW_D (Nat.le_add_right _ _)
   ·split
    ·exact Nat.le_trans loginW_D (Nat.le_add_right _ _)
    ·split
     ·exact Nat.le_trans grantW_D (Nat.le_add_right _ _)
     ·show ω.D.length ≤ _; omega
theorem stepW_ok {lo : List Sv} {us : List Us} {ps : Nat → Int} {i : Nat} {s : Wd × List (List UInt8)} {o : Op} (h : WkOk i s) (hd : ∀ x ∈ o.d, x < 18446744073709551616) (hb : o.d.length ≤ 10) : WkOk (i + 1) (stepW lo us ps s o) := by
 refine ⟨actW_ok h.ok hd, fun t ht => ?_, ?_, ?_⟩
 ·change t ∈ addN _ _ at ht
  unfold addN at ht
  split at ht
  ·rcases List.mem_append.1 ht with h1 | h1
   ·exact h.nm t h1
   ·rw [List.mem_singleton.1 h1]; exact actW_nlen
  ·exact h.nm t ht
 ·show (addN _ _).length ≤ _
  have := h.nl
  unfold addN
  split
  ·rw [List.length_append, List.length_cons, List.length_nil]; omega
  ·omega
 ·have := actW_D (lo := lo) (us := us) (ps := ps) (ω := s.1) (ns := s.2) hb
  have := h.dl
  show (actW lo us ps s.1 s.2 o).2.D.length ≤ _
  omega
theorem toldN_len {ns : List (List UInt8)} (h : ∀ t ∈ ns, t.length ≤ 60) (a : Int) : (toldN ns a).length ≤ 60 := by
 unfold toldN
 split
 ·decide
 ·cases e : ns[ns.length - 1 - a.toNat]? with
  | none => decide
  | some t => exact h t (List.mem_of_getElem? e)
theorem few20_facts {c : Cf} {l : List Op} (h : few20 c l = true) : fewC c = true ∧ l.length ≤ 40 ∧ ∀ o ∈ l, o.d.length ≤ 10 ∧ o.b.length ≤ 120 ∧ o.c.length ≤ 80 ∧ o.q.service.length ≤ 120 ∧ o.r.parent.length ≤ 60 ∧ o.r.user.length ≤ 60 ∧ o.r.service.length ≤ 120 ∧ o.r.url.length ≤ 120 := by
 unfold few20 at h
 simp only [Bool.and_eq_true, decide_eq_true_eq] at h
 refine ⟨h.2.1, by omega, fun o ho => ?_⟩
 have := List.all_eq_true.1 h.1 o ho
 simp [bigO] at this
 omega
theorem few20_any (c : Cf) (a : Option Addr) (cap : Nat) (ua : Option Addr) (ucap : Nat) (oa : Option Addr) (oc : Nat) (l : List Op) (hol : l.length ≤ 9223372036854775807) (B w : World) (I : Im) (hC : CfAt I c a cap ua ucap) (hO : OpsAt I oa l) (As : List Assn) (hS : Sat B w I As) :
  Calls Tryz.prog 35 [.agg (cfCells c a cap ua ucap).toArray, .slice oa l.length oc].toArray w (Ret fun v w' => v = .bool (few20 c l) ∧ Sat B w' I As) := by
 refine calls Tryz.func35 rfl Tryz.ntmps35 rfl (.seq (.region (.boxA (cs := cfCells c a cap ua ucap) hS (.of rfl) rfl ?_)))
 clear hS; intro b2 w hS
 refine .run 1 rfl trivial (.nil (.seq (.seq (.region (.run 1 rfl trivial (.nil (.block (.loop (σ := Nat) (fun i => [(1, .slice oa l.length oc), (2, ptr b2 0), (5, I64 (i : Nat))]) (fun i w => i ≤ l.length ∧ (∀ (j : Nat) o, j < i → l[j]? = some o → bigO o = false) ∧ Sat B w I (blk b2 (cfCells c a cap ua ucap) 34 :: As)) (fun i => l.length - i) 0 ⟨rfl, rfl, rfl, trivial⟩ ⟨Nat.zero_le _, fun _ _ h => absurd h (by omega), hS⟩ ?_))))))))
 rintro i w ⟨hi, hno, hS⟩
 change WC _ _ _ _ [(1, .slice oa l.length oc), (2, ptr b2 0), (5, I64 (i : Nat))] w
 refine .seq (.seq (.region (.run 4 rfl ⟨⟨_, Tryz.underlying88⟩, trivial⟩ (.nil ?_))))
 refine WC.cond rfl (fun hb10 => ?_) (fun hb10 => ?_)
 ·
  have hc10 := hb10; try simp only [Gk.cs0] at hc10
  refine .skip (.seq (.block (.seq ?_)))
  obtain ⟨o, ho⟩ : ∃ o, l[i]? = some o := ⟨_, List.getElem?_eq_getElem (by omega)⟩
  obtain ⟨p, cs, hp9, hx, da, dc, rfl, hdc, hdm, hd⟩ := hO.at i o ho
  subst hp9
  unfold opCells at hx
  refine .region (.run 2 rfl trivial ?_)
  first | refine WL.val (.indexAddr (.of rfl) (.of rfl) (by omega) (by omega) Tryz.underlying88 Tryz.sizeOf97) rfl ?_ | refine WL.val (.indexAddrI (.of rfl) (.of rfl) (by omega) (by omega) Tryz.underlying88 Tryz.sizeOf97) rfl ?_
  first | refine WL.val (.fieldAddr 2 (.of rfl) Tryz.underlying97 rfl rfl Tryz.sizeOf81 rfl) rfl ?_ | refine WL.val (.fieldAddrI 2 (.of rfl) Tryz.underlying97 rfl rfl Tryz.sizeOf81 rfl) rfl ?_
  first | refine WL.val (.ld (.of rfl) hS (k := 0) rfl Tryz.isAgg81 rfl) rfl ?_ | refine WL.val (.ldI (.of rfl) hS (At.add hx _) Tryz.isAgg81 rfl) rfl ?_
  refine .run 3 rfl ⟨⟨_, Tryz.underlying81⟩, trivial⟩ (.gval rfl rfl (fun hg1 => (.move (.of rfl))) rfl (.gval rfl rfl (fun hg1 => (.move (.of rfl))) rfl ?_))
  refine WL.gval rfl rfl (fun hg1 => (by first | exact .indexAddr (.gd hg1 rfl) (.gd hg1 rfl) (by (try simp only [Gk.cs0] at hg1); omega) (by (try simp only [Gk.cs0] at hg1); omega) Tryz.underlying88 Tryz.sizeOf97 | exact .indexAddrI (.gd hg1 rfl) (.gd hg1 rfl) (by (try simp only [Gk.cs0] at hg1); omega) (by (try simp only [Gk.cs0] at hg1); omega) Tryz.underlying88 Tryz.sizeOf97)) rfl ?_
  refine WL.gval rfl rfl (fun hg1 => (by first | exact .fieldAddr 4 (.gd hg1 rfl) Tryz.underlying97 rfl rfl Tryz.sizeOf9 rfl | exact .fieldAddrI 4 (.gd hg1 rfl) Tryz.underlying97 rfl rfl Tryz.sizeOf9 rfl)) rfl ?_
  refine WL.gval rfl rfl (fun hg1 => (by first | exact (.ld (.gd hg1 rfl) hS (k := 0) rfl Tryz.isAgg9 rfl) | exact (.ldI (.gd hg1 rfl) hS (At.add hx _) Tryz.isAgg9 rfl))) rfl ?_
  refine .gval rfl rfl (fun hg1 => (.len (.gd hg1 rfl) Tryz.underlying9)) rfl (.gval rfl rfl (fun hg1 => (.gtr (.gd hg1 rfl) (.of rfl))) rfl (.val (.por (.of rfl) (.of rfl) (.of rfl)) rfl (.run 1 rfl trivial (.gval rfl rfl (fun hg1 => (.move (.of rfl))) rfl (.gval rfl rfl (fun hg1 => (.move (.of rfl))) rfl ?_)))))
  refine WL.gval rfl rfl (fun hg1 => (by first | exact .indexAddr (.gd hg1 rfl) (.gd hg1 rfl) (by (try simp only [Gk.cs0] at hg1); omega) (by (try simp only [Gk.cs0] at hg1); omega) Tryz.underlying88 Tryz.sizeOf97 | exact .indexAddrI (.gd hg1 rfl) (.gd hg1 rfl) (by (try simp only [Gk.cs0] at hg1); omega) (by (try simp only [Gk.cs0] at hg1); omega) Tryz.underlying88 Tryz.sizeOf97)) rfl ?_
  refine WL.gval rfl rfl (fun hg1 => (by first | exact .fieldAddr 5 (.gd hg1 rfl) Tryz.underlying97 rfl rfl Tryz.sizeOf9 rfl | exact .fieldAddrI 5 (.gd hg1 rfl) Tryz.underlying97 rfl rfl Tryz.sizeOf9 rfl)) rfl ?_
  refine WL.gval rfl rfl (fun hg1 => (by first | exact (.ld (.gd hg1 rfl) hS (k := 0) rfl Tryz.isAgg9 rfl) | exact (.ldI (.gd hg1 rfl) hS (At.add hx _) Tryz.isAgg9 rfl))) rfl ?_
  refine .gval rfl rfl (fun hg1 => (.len (.gd hg1 rfl) Tryz.underlying9)) rfl (.gval rfl rfl (fun hg1 => (.gtr (.gd hg1 rfl) (.of rfl))) rfl (.val (.por (.of rfl) (.of rfl) (.of rfl)) rfl (.run 1 rfl trivial (.gval rfl rfl (fun hg1 => (.move (.of rfl))) rfl (.gval rfl rfl (fun hg1 => (.move (.of rfl))) rfl ?_)))))
  refine WL.gval rfl rfl (fun hg1 => (by first | exact .indexAddr (.gd hg1 rfl) (.gd hg1 rfl) (by (try simp only [Gk.cs0] at hg1); omega) (by (try simp only [Gk.cs0] at hg1); omega) Tryz.underlying88 Tryz.sizeOf97 | exact .indexAddrI (.gd hg1 rfl) (.gd hg1 rfl) (by (try simp only [Gk.cs0] at hg1); omega) (by (try simp only [Gk.cs0] at hg1); omega) Tryz.underlying88 Tryz.sizeOf97)) rfl ?_
  refine WL.gval rfl rfl (fun hg1 => (by first | exact .fieldAddr 17 (.gd hg1 rfl) Tryz.underlying97 rfl rfl Tryz.sizeOf95 rfl | exact .fieldAddrI 17 (.gd hg1 rfl) Tryz.underlying97 rfl rfl Tryz.sizeOf95 rfl)) rfl ?_
  refine WL.gval rfl rfl (fun hg1 => (by first | exact .fieldAddr 0 (.gd hg1 rfl) Tryz.underlying95 rfl rfl Tryz.sizeOf9 rfl | exact .fieldAddrI 0 (.gd hg1 rfl) Tryz.underlying95 rfl rfl Tryz.sizeOf9 rfl)) rfl ?_
  refine WL.gval rfl rfl (fun hg1 => (by first | exact (.ld (.gd hg1 rfl) hS (k := 0) rfl Tryz.isAgg9 rfl) | exact (.ldI (.gd hg1 rfl) hS (At.add hx 17) Tryz.isAgg9 rfl))) rfl ?_
  refine .gval rfl rfl (fun hg1 => (.len (.gd hg1 rfl) Tryz.underlying9)) rfl (.gval rfl rfl (fun hg1 => (.gtr (.gd hg1 rfl) (.of rfl))) rfl (.val (.por (.of rfl) (.of rfl) (.of rfl)) rfl (.run 1 rfl trivial (.gval rfl rfl (fun hg1 => (.move (.of rfl))) rfl (.gval rfl rfl (fun hg1 => (.move (.of rfl))) rfl ?_)))))
  refine WL.gval rfl rfl (fun hg1 => (by first | exact .indexAddr (.gd hg1 rfl) (.gd hg1 rfl) (by (try simp only [Gk.cs0] at hg1); omega) (by (try simp only [Gk.cs0] at hg1); omega) Tryz.underlying88 Tryz.sizeOf97 | exact .indexAddrI (.gd hg1 rfl) (.gd hg1 rfl) (by (try simp only [Gk.cs0] at hg1); omega) (by (try simp only [Gk.cs0] at hg1); omega) Tryz.underlying88 Tryz.sizeOf97)) rfl ?_
  refine WL.gval rfl rfl (fun hg1 => (by first | exact .fieldAddr 7 (.gd hg1 rfl) Tryz.underlying97 rfl rfl Tryz.sizeOf45 rfl | exact .fieldAddrI 7 (.gd hg1 rfl) Tryz.underlying97 rfl rfl Tryz.sizeOf45 rfl)) rfl ?_
  refine WL.gval rfl rfl (fun hg1 => (by first | exact .fieldAddr 2 (.gd hg1 rfl) Tryz.underlying45 rfl rfl Tryz.sizeOf9 rfl | exact .fieldAddrI 2 (.gd hg1 rfl) Tryz.underlying45 rfl rfl Tryz.sizeOf9 rfl)) rfl ?_
  refine WL.gval rfl rfl (fun hg1 => (by first | exact (.ld (.gd hg1 rfl) hS (k := 0) rfl Tryz.isAgg9 rfl) | exact (.ldI (.gd hg1 rfl) hS (At.add hx 9) Tryz.isAgg9 rfl))) rfl ?_
  refine .gval rfl rfl (fun hg1 => (.len (.gd hg1 rfl) Tryz.underlying9)) rfl (.gval rfl rfl (fun hg1 => (.gtr (.gd hg1 rfl) (.of rfl))) rfl (.val (.por (.of rfl) (.of rfl) (.of rfl)) rfl (.run 1 rfl trivial (.gval rfl rfl (fun hg1 => (.move (.of rfl))) rfl (.gval rfl rfl (fun hg1 => (.move (.of rfl))) rfl ?_)))))
  refine WL.gval rfl rfl (fun hg1 => (by first | exact .indexAddr (.gd hg1 rfl) (.gd hg1 rfl) (by (try simp only [Gk.cs0] at hg1); omega) (by (try simp only [Gk.cs0] at hg1); omega) Tryz.underlying88 Tryz.sizeOf97 | exact .indexAddrI (.gd hg1 rfl) (.gd hg1 rfl) (by (try simp only [Gk.cs0] at hg1); omega) (by (try simp only [Gk.cs0] at hg1); omega) Tryz.underlying88 Tryz.sizeOf97)) rfl ?_
  refine WL.gval rfl rfl (fun hg1 => (by first | exact .fieldAddr 7 (.gd hg1 rfl) Tryz.underlying97 rfl rfl Tryz.sizeOf45 rfl | exact .fieldAddrI 7 (.gd hg1 rfl) Tryz.underlying97 rfl rfl Tryz.sizeOf45 rfl)) rfl ?_
  refine WL.gval rfl rfl (fun hg1 => (by first | exact .fieldAddr 3 (.gd hg1 rfl) Tryz.underlying45 rfl rfl Tryz.sizeOf9 rfl | exact .fieldAddrI 3 (.gd hg1 rfl) Tryz.underlying45 rfl rfl Tryz.sizeOf9 rfl)) rfl ?_
  refine WL.gval rfl rfl (fun hg1 => (by first | exact (.ld (.gd hg1 rfl) hS (k := 0) rfl Tryz.isAgg9 rfl) | exact (.ldI (.gd hg1 rfl) hS (At.add hx 10) Tryz.isAgg9 rfl))) rfl ?_
  refine .gval rfl rfl (fun hg1 => (.len (.gd hg1 rfl) Tryz.underlying9)) rfl (.gval rfl rfl (fun hg1 => (.gtr (.gd hg1 rfl) (.of rfl))) rfl (.val (.por (.of rfl) (.of rfl) (.of rfl)) rfl (.run 1 rfl trivial (.gval rfl rfl (fun hg1 => (.move (.of rfl))) rfl (.gval rfl rfl (fun hg1 => (.move (.of rfl))) rfl ?_)))))
  refine WL.gval rfl rfl (fun hg1 => (by first | exact .indexAddr (.gd hg1 rfl) (.gd hg1 rfl) (by (try simp only [Gk.cs0] at hg1); omega) (by (try simp only [Gk.cs0] at hg1); omega) Tryz.underlying88 Tryz.sizeOf97 | exact .indexAddrI (.gd hg1 rfl) (.gd hg1 rfl) (by (try simp only [Gk.cs0] at hg1); omega) (by (try simp only [Gk.cs0] at hg1); omega) Tryz.underlying88 Tryz.sizeOf97)) rfl ?_
  refine WL.gval rfl rfl (fun hg1 => (by first | exact .fieldAddr 7 (.gd hg1 rfl) Tryz.underlying97 rfl rfl Tryz.sizeOf45 rfl | exact .fieldAddrI 7 (.gd hg1 rfl) Tryz.underlying97 rfl rfl Tryz.sizeOf45 rfl)) rfl ?_
  refine WL.gval rfl rfl (fun hg1 => (by first | exact .fieldAddr 4 (.gd hg1 rfl) Tryz.underlying45 rfl rfl Tryz.sizeOf9 rfl | exact .fieldAddrI 4 (.gd hg1 rfl) Tryz.underlying45 rfl rfl Tryz.sizeOf9 rfl)) rfl ?_
  refine WL.gval rfl rfl (fun hg1 => (by first | exact (.ld (.gd hg1 rfl) hS (k := 0) rfl Tryz.isAgg9 rfl) | exact (.ldI (.gd hg1 rfl) hS (At.add hx 11) Tryz.isAgg9 rfl))) rfl ?_
  refine .gval rfl rfl (fun hg1 => (.len (.gd hg1 rfl) Tryz.underlying9)) rfl (.gval rfl rfl (fun hg1 => (.gtr (.gd hg1 rfl) (.of rfl))) rfl (.val (.por (.of rfl) (.of rfl) (.of rfl)) rfl (.run 1 rfl trivial (.gval rfl rfl (fun hg1 => (.move (.of rfl))) rfl (.gval rfl rfl (fun hg1 => (.move (.of rfl))) rfl ?_)))))
  refine WL.gval rfl rfl (fun hg1 => (by first | exact .indexAddr (.gd hg1 rfl) (.gd hg1 rfl) (by (try simp only [Gk.cs0] at hg1); omega) (by (try simp only [Gk.cs0] at hg1); omega) Tryz.underlying88 Tryz.sizeOf97 | exact .indexAddrI (.gd hg1 rfl) (.gd hg1 rfl) (by (try simp only [Gk.cs0] at hg1); omega) (by (try simp only [Gk.cs0] at hg1); omega) Tryz.underlying88 Tryz.sizeOf97)) rfl ?_
  refine WL.gval rfl rfl (fun hg1 => (by first | exact .fieldAddr 7 (.gd hg1 rfl) Tryz.underlying97 rfl rfl Tryz.sizeOf45 rfl | exact .fieldAddrI 7 (.gd hg1 rfl) Tryz.underlying97 rfl rfl Tryz.sizeOf45 rfl)) rfl ?_
  refine WL.gval rfl rfl (fun hg1 => (by first | exact .fieldAddr 5 (.gd hg1 rfl) Tryz.underlying45 rfl rfl Tryz.sizeOf9 rfl | exact .fieldAddrI 5 (.gd hg1 rfl) Tryz.underlying45 rfl rfl Tryz.sizeOf9 rfl)) rfl ?_
  refine WL.gval rfl rfl (fun hg1 => (by first | exact (.ld (.gd hg1 rfl) hS (k := 0) rfl Tryz.isAgg9 rfl) | exact (.ldI (.gd hg1 rfl) hS (At.add hx 12) Tryz.isAgg9 rfl))) rfl ?_
  refine .gval rfl rfl (fun hg1 => (.len (.gd hg1 rfl) Tryz.underlying9)) rfl (.gval rfl rfl (fun hg1 => (.gtr (.gd hg1 rfl) (.of rfl))) rfl (.val (.por (.of rfl) (.of rfl) (.of rfl)) rfl (.nil ?_)))
  refine WC.cond rfl (fun hb87 => ?_) (fun hb87 => ?_)
  ·
   have hc87 := hb87; try simp only [Gk.cs0] at hc87
   refine .seq (.region (.run 1 rfl trivial (.nil (.ret (ret1 Tryz.results35 rfl ?_)))))
   refine ⟨_, rfl, congrArg Value.bool ?_, hS.drop (k := 0) rfl⟩
   have : (l.all fun o => !bigO o) = false := List.all_eq_false.2 ⟨o, List.mem_of_getElem? ho, by rw [show bigO o = true from hb87]; decide⟩
   rw [few20, this]; rfl
  have hc87 := hb87; try simp only [Gk.cs0] at hc87
  refine .skip (.region (.run 3 rfl ⟨⟨by omega, by omega⟩, trivial⟩ (.nil ?_)))
  refine ⟨i + 1, ⟨rfl, rfl, rfl, trivial⟩, ⟨by (try dsimp only); omega, fun j t hj ht => ?_, hS⟩, by (try dsimp only); omega⟩
  rcases Nat.lt_or_ge j i with h1 | h1
  ·exact hno j t h1 ht
  ·have e : j = i := by omega
   subst e
   rw [ho] at ht; cases ht
   exact hb87
 have hc10 := hb10; try simp only [Gk.cs0] at hc10
 refine .exit (.seq (.region ?_))
 refine WL.val (.lds (vs := cfCells c a cap ua ucap) (.of rfl) hS (k := 0) rfl Tryz.isAgg34 Tryz.sizeOf34 rfl (fun j v hj => by rw [Nat.zero_add]; exact hj)) rfl ?_
 refine .call Tryz.func60 rfl (evs_cons (.of rfl) evs_nil) rfl (fewC_any c a cap ua ucap hC.cap.1 hC.cap.2 hC.un hC.ufit B _ I hC.svs hC.us _ hS) ?_
 clear hS
 rintro _ w ⟨rfl, hS⟩
 refine .run 1 rfl trivial (.nil (.seq (.region (.run 2 rfl trivial (.gval rfl rfl (fun hg1 => (.move (.of rfl))) rfl (.gval rfl rfl (fun hg1 => (.lenSlice (.gd hg1 rfl) Tryz.underlying88)) rfl (.gval rfl rfl (fun hg1 => (.leq (.gd hg1 rfl) (.of rfl))) rfl (.val (.pand (.of rfl) (.of rfl) (.of rfl)) rfl (.run 1 rfl trivial (.nil (.ret (ret1 Tryz.results35 rfl ?_))))))))))))
 refine ⟨_, rfl, congrArg Value.bool ?_, hS.drop (k := 0) rfl⟩
 have : (l.all fun o => !bigO o) = true := by
  rw [List.all_eq_true]
  intro q hq
  obtain ⟨j, hj⟩ := List.mem_iff_getElem?.1 hq
  have := (List.getElem?_eq_some_iff.1 hj).1
  rw [hno j q (by omega) hj]; rfl
 rw [few20, this]; rfl
theorem toldN_any (a : Option Addr) (c : Nat) (l : List (List UInt8)) (hl : l.length ≤ 9223372036854775807) (at9 : Int) (B w : World) (I : Im) (As : List Assn) (hE : ∀ w, Sat B w I As → RowsW w tCells 1 a l) (hS : Sat B w I As) :
  Calls Tryz.prog 38 [.slice a l.length c, I64 at9].toArray w (Ret fun v w' => v = S (toldN l at9) ∧ Sat B w' I As) := by
 refine calls Tryz.func38 rfl Tryz.ntmps38 rfl (.seq (.region (.run 1 rfl trivial (.nil (.seq (.seq (.region (.run 3 rfl trivial (.gval rfl rfl (fun hg1 => (.move (.of rfl))) rfl (.gval rfl rfl (fun hg1 => (.move (.of rfl))) rfl (.gval rfl rfl (fun hg1 => (.lenSlice (.gd hg1 rfl) Tryz.underlying41)) rfl (.gval rfl rfl (fun hg1 => (.geq (.gd hg1 rfl) (.gd hg1 rfl))) rfl (.val (.por (.of rfl) (.of rfl) (.of rfl)) rfl (.nil ?_))))))))))))))
 refine WC.cond rfl (fun hb12 => ?_) (fun hb12 => ?_)
 ·
  have hc12 := hb12; try simp only [Gk.cs0] at hc12
  refine .seq (.region (.run 1 rfl trivial (.nil (.ret (ret1 Tryz.results38 rfl ?_)))))
  exact ⟨_, rfl, congrArg S (by rw [toldN, if_pos (by simpa using hb12)]), hS⟩
 have hc12 := hb12; try simp only [Gk.cs0] at hc12
 refine .skip (.seq ?_)
 have hc12 := hb12
 simp only [Bool.or_eq_false_iff, decide_eq_false_iff_not] at hc12
 obtain ⟨k, hk⟩ : ∃ k, k = l.length - 1 - at9.toNat := ⟨_, rfl⟩
 obtain ⟨x, hx⟩ : ∃ x, l[k]? = some x := ⟨_, List.getElem?_eq_getElem (by omega)⟩
 obtain ⟨p, rfl, hA⟩ := hE w hS k x hx
 have hc0 := hA 0 _ rfl
 refine .region (.run 5 rfl ⟨⟨_, Tryz.underlying41⟩, ⟨by omega, by omega⟩, trivial⟩ (.val (.sub (.of rfl) (.of rfl) ⟨by omega, by omega⟩) rfl ?_))
 rw [show ((l.length : Nat) : Int) - 1 - at9 = ((k : Nat) : Int) by omega]
 first | refine WL.val (.indexAddr (.of rfl) (.of rfl) (by omega) (by omega) Tryz.underlying41 Tryz.sizeOf9) rfl ?_ | refine WL.val (.indexAddrI (.of rfl) (.of rfl) (by omega) (by omega) Tryz.underlying41 Tryz.sizeOf9) rfl ?_
 refine .val (v := S x) (.ld1 (.of rfl) (by simpa [Addr.add_add] using hc0) Tryz.isAgg9) rfl (.run 1 rfl trivial (.nil (.ret (ret1 Tryz.results38 rfl ?_))))
 exact ⟨_, rfl, congrArg S (by rw [toldN, if_neg (by simpa using hb12), ← hk, hx]; rfl), hS⟩
end Go.Proofs.YtadhiihnnkcagaaGreatDoor
namespace Go.Proofs.YtadhiihnnkcagaaGreatDoor
open Gk Ul Pc Tk Tr
set_option linter.unusedVariables false
set_option linter.unusedSimpArgs false
theorem info9_B : Tryz.prog.info? 9 = some Tryz.t9 := by kernel_rfl
theorem walkW_snoc {lo : List Sv} {us : List Us} {ps : Nat → Int} {ω : Wd} {l : List Op} {i : Nat} {o : Op} (h : l[i]? = some o) : walkW lo us ps ω (l.take (i + 1)) = stepW lo us ps (walkW lo us ps ω (l.take i)) o := by
 unfold walkW
 rw [List.take_add_one, h, Option.toList_some, List.foldl_append]; rfl
theorem w0_wk (c : Cf) : WkOk 0 (w0 c, []) := ⟨w0_ok c, fun t h => by simp at h, Nat.le_refl _, Nat.le_refl _⟩
def WalkT (c : Cf) (l : List Op) (J : Im) (pv : Option Addr) (dv : Value) (B w : World) (As : List Assn) : Prop := (newE c ≠ 0 ∧ pv = none ∧ Sat B w J As) ∨ (newE c = 0 ∧ ∃ p D, Srt.Ord (kx (ords c.svs)) c.svs.length D ∧ p.lo = pickS c.svs D ∧ p.us = c.us ∧ p.ps = c.ps ∧ pv = some (ad p.wb 0) ∧ WpOk J p ∧ Sat B w J (Vec 9 1 dv (walkW p.lo p.us p.ps (w0 c) l).2.length ((walkW p.lo p.us p.ps (w0 c) l).2.map S) :: wdA p (walkW p.lo p.us p.ps (w0 c) l).1 :: As))
theorem walkedN_any (c : Cf) (a : Option Addr) (cap : Nat) (ua : Option Addr) (ucap : Nat) (oa : Option Addr) (oc : Nat) (l : List Op) (hol : l.length ≤ 9223372036854775807) (hf : few20 c l = true) (hfit : ∀ o ∈ l, o.fits) (hz : newE c ≠ 0) (B w : World) (I : Im) (hK : Known I) (hP : PreAt I) (hC : CfAt I c a cap ua ucap) (hO : OpsAt I oa l) (As : List Assn) (hS : Sat B w I As) :
  Calls Tryz.prog 36 [.agg (cfCells c a cap ua ucap).toArray, .slice oa l.length oc].toArray w (Ret fun v w' => ∃ J pv dv, Le I J ∧ v = .tuple #[.pointer pv, dv] ∧ WalkT c l J pv dv B w' As) := by
 refine calls Tryz.func36 rfl Tryz.ntmps36 rfl (.seq (.region (.boxA (cs := cfCells c a cap ua ucap) hS (.of rfl) rfl ?_)))
 clear hS; intro b2 w hS
 refine .run 2 rfl trivial (.nil (.seq (.region ?_)))
 refine WL.val (.lds (vs := cfCells c a cap ua ucap) (.of rfl) hS (k := 0) rfl Tryz.isAgg34 Tryz.sizeOf34 rfl (fun j v hj => by rw [Nat.zero_add]; exact hj)) rfl ?_
 have hc := fewC_fits hC (few20_facts hf).1
 refine .call Tryz.func41 rfl (evs_cons (.of rfl) evs_nil) rfl (grantNew_any c hc a cap ua ucap B _ I hK hP hC.svs hC.us _ hS) ?_
 clear hS
 rintro v w ⟨J, hJ, hcase⟩
 obtain ⟨_, rfl, hS⟩ := hcase.resolve_right (fun h => hz h.1)
 refine .run 5 rfl trivial (.nil (.seq (.region (.run 1 rfl trivial (.nil (.seq (.seq (.region (.run 1 rfl trivial (.nil (.block (.loop (σ := Unit) (fun ⟨⟩ => [(1, .slice oa l.length oc), (6, .pointer none), (8, .slice none 0 0), (9, I64 ((0 : Nat) : Int))]) (fun ⟨⟩ w => Sat B w J (blk b2 (cfCells c a cap ua ucap) 34 :: As)) (fun ⟨⟩ => 0) () ⟨rfl, rfl, rfl, rfl, trivial⟩ hS ?_))))))))))))
 rintro ⟨⟩ w hS
 change WC _ _ _ _ [(1, .slice oa l.length oc), (6, .pointer none), (8, .slice none 0 0), (9, I64 ((0 : Nat) : Int))] w
 refine .seq (.seq (.region (.run 5 rfl ⟨⟨_, Tryz.underlying88⟩, trivial⟩ (.gval rfl rfl (fun hg1 => (.move (.of rfl))) rfl (.gval rfl rfl (fun hg1 => (.nep (.gd hg1 rfl) (.of rfl) Tryz.underlying39)) rfl (.val (.pand (.of rfl) (.of rfl) (.of rfl)) rfl (.nil (.condF (congrArg (fun b => some (Value.bool b)) (Bool.and_false _)) (.exit (.seq (.region (.run 4 rfl trivial (.nil (.ret (ret2 Tryz.results36 rfl rfl ?_)))))))))))))))
 exact ⟨_, rfl, J, none, _, hJ, rfl, .inl ⟨hz, rfl, hS.drop (k := 0) rfl⟩⟩
set_option maxRecDepth 20000 in
theorem walkedY_any (c : Cf) (a : Option Addr) (cap : Nat) (ua : Option Addr) (ucap : Nat) (oa : Option Addr) (oc : Nat) (l : List Op) (hol : l.length ≤ 9223372036854775807) (hf : few20 c l = true) (hfit : ∀ o ∈ l, o.fits) (hz : newE c = 0) (B w : World) (I : Im) (hK : Known I) (hP : PreAt I) (hC : CfAt I c a cap ua ucap) (hO : OpsAt I oa l) (As : List Assn) (hS : Sat B w I As) :
  Calls Tryz.prog 36 [.agg (cfCells c a cap ua ucap).toArray, .slice oa l.length oc].toArray w (Ret fun v w' => ∃ J pv dv, Le I J ∧ v = .tuple #[.pointer pv, dv] ∧ WalkT c l J pv dv B w' As) := by
 refine calls Tryz.func36 rfl Tryz.ntmps36 rfl (.seq (.region (.boxA (cs := cfCells c a cap ua ucap) hS (.of rfl) rfl ?_)))
 clear hS; intro b2 w hS
 refine .run 2 rfl trivial (.nil (.seq (.region ?_)))
 refine WL.val (.lds (vs := cfCells c a cap ua ucap) (.of rfl) hS (k := 0) rfl Tryz.isAgg34 Tryz.sizeOf34 rfl (fun j v hj => by rw [Nat.zero_add]; exact hj)) rfl ?_
 have hc := fewC_fits hC (few20_facts hf).1
 refine .call Tryz.func41 rfl (evs_cons (.of rfl) evs_nil) rfl (grantNew_any c hc a cap ua ucap B _ I hK hP hC.svs hC.us _ hS) ?_
 clear hS
 rintro v w ⟨J, hJ, hcase⟩
 obtain ⟨_, p, D, hD, hlo, hus, hps, rfl, hI, hS⟩ := hcase.resolve_left (fun h => h.1 hz)
 have hfw := few20_facts hf
 refine .run 5 rfl trivial (.nil (.seq (.region (.run 1 rfl trivial (.nil (.seq (.seq (.region (.run 1 rfl trivial (.nil (.block ?_)))))))))))
 replace hS := hS.vecNil 9 1
 refine .loop (σ := (Wd × List (List UInt8)) × Nat × Value) (fun ⟨s, i, dv⟩ => [(1, .slice oa l.length oc), (2, ptr b2 0), (6, ptr p.wb 0), (8, dv), (9, I64 (i : Nat))]) (fun ⟨s, i, dv⟩ w => i ≤ l.length ∧ s = walkW p.lo p.us p.ps (w0 c) (l.take i) ∧ WkOk i s ∧ Sat B w J (Vec 9 1 dv s.2.length (s.2.map S) :: wdA p s.1 :: blk b2 (cfCells c a cap ua ucap) 34 :: As)) (fun ⟨s, i, dv⟩ => l.length - i) ((w0 c, []), 0, .slice none 0 0) ⟨rfl, rfl, rfl, rfl, rfl, trivial⟩ ⟨Nat.zero_le _, rfl, w0_wk c, hS⟩ ?_
 rintro ⟨s, i, dv⟩ w ⟨hi, hs, hwk, hS⟩
 change WC _ _ _ _ [(1, .slice oa l.length oc), (2, ptr b2 0), (6, ptr p.wb 0), (8, dv), (9, I64 (i : Nat))] w
 refine .seq (.seq (.region (.run 5 rfl ⟨⟨_, Tryz.underlying88⟩, trivial⟩ (.gval rfl rfl (fun hg1 => (.move (.of rfl))) rfl (.gval rfl rfl (fun hg1 => (.nep (.gd hg1 rfl) (.of rfl) Tryz.underlying39)) rfl (.val (.pand (.of rfl) (.of rfl) (.of rfl)) rfl (.nil ?_)))))))
 refine WC.cond rfl (fun hb24 => ?_) (fun hb24 => ?_)
 ·
  have hc24 := hb24; try simp only [Gk.cs0] at hc24
  refine .skip (.seq (.block (.seq ?_)))
  obtain ⟨o, ho⟩ : ∃ o, l[i]? = some o := ⟨_, List.getElem?_eq_getElem (by omega)⟩
  obtain ⟨pp, cs, hp9, hx, da, dc, rfl, hdc, hdm, hd⟩ := (hO.mono hJ).at i o ho
  subst hp9
  unfold opCells at hx
  have hof := hfit o (List.mem_of_getElem? ho)
  have hob := hfw.2.2 o (List.mem_of_getElem? ho)
  have hb9 := hof.b
  have hc9 := hof.c
  unfold maxLen at hb9 hc9
  have hω := hwk.ok
  have hnl := hwk.nl
  have hdl := hwk.dl
  have htn := toldN_len hwk.nm o.a
  obtain ⟨va, vc, hdv, hvc, _⟩ := hS.vecSlice (k := 0) rfl
  subst hdv
  refine .region (.run 2 rfl trivial ?_)
  first | refine WL.val (.indexAddr (.of rfl) (.of rfl) (by omega) (by omega) Tryz.underlying88 Tryz.sizeOf97) rfl ?_ | refine WL.val (.indexAddrI (.of rfl) (.of rfl) (by omega) (by omega) Tryz.underlying88 Tryz.sizeOf97) rfl ?_
  first | refine WL.val (.ldsW (cs := [_, _, _, _, _, _, _, _, _, _, _, _, _, _, _, _, _, _, _, _, _, _, _]) (.of rfl) hS (k := 0) rfl Tryz.isAgg97 Tryz.sizeOf97 rfl) rfl ?_ | refine WL.val (.lds (vs := [_, _, _, _, _, _, _, _, _, _, _, _, _, _, _, _, _, _, _, _, _, _, _]) (.of rfl) hS (k := 0) rfl Tryz.isAgg97 Tryz.sizeOf97 rfl (fun _ _ h => h)) rfl ?_ | refine WL.val (.ldsW (cs := [_, _, _, _, _, _, _, _, _, _, _, _, _, _, _, _, _, _, _, _, _, _, _]) (.of rfl) hS (k := 1) rfl Tryz.isAgg97 Tryz.sizeOf97 rfl) rfl ?_ | refine WL.val (.lds (vs := [_, _, _, _, _, _, _, _, _, _, _, _, _, _, _, _, _, _, _, _, _, _, _]) (.of rfl) hS (k := 1) rfl Tryz.isAgg97 Tryz.sizeOf97 rfl (fun _ _ h => h)) rfl ?_ | refine WL.val (.ldsW (cs := [_, _, _, _, _, _, _, _, _, _, _, _, _, _, _, _, _, _, _, _, _, _, _]) (.of rfl) hS (k := 2) rfl Tryz.isAgg97 Tryz.sizeOf97 rfl) rfl ?_ | refine WL.val (.lds (vs := [_, _, _, _, _, _, _, _, _, _, _, _, _, _, _, _, _, _, _, _, _, _, _]) (.of rfl) hS (k := 2) rfl Tryz.isAgg97 Tryz.sizeOf97 rfl (fun _ _ h => h)) rfl ?_ | refine WL.val (.ldsI (.of rfl) hS hx Tryz.isAgg97 Tryz.sizeOf97 rfl (fun _ _ h => h)) rfl ?_ | refine WL.val (.ldsI (.of rfl) hS (At.add hx _) Tryz.isAgg97 Tryz.sizeOf97 rfl (fun _ _ h => h)) rfl ?_
  refine .allocA (cs := [_, _, _, _, _, _, _, _, _, _, _, _, _, _, _, _, _, _, _, _, _, _, _]) hS Tryz.zeroValue97 rfl ?_
  clear hS; intro b10 w hS
  first | refine WL.stA hS (k := 0) rfl (.of rfl) (.of rfl) rfl Tryz.sizeOf97 rfl (by simp) ?_ | refine WL.stA hS (k := 1) rfl (.of rfl) (.of rfl) rfl Tryz.sizeOf97 rfl (by simp) ?_ | refine WL.stA hS (k := 2) rfl (.of rfl) (.of rfl) rfl Tryz.sizeOf97 rfl (by simp) ?_ | refine WL.stA hS (k := 3) rfl (.of rfl) (.of rfl) rfl Tryz.sizeOf97 rfl (by simp) ?_
  clear hS; intro w hS; try dsimp only [List.set] at hS
  try simp only [List.take_zero, List.nil_append, List.append_nil, List.drop_succ_cons, List.drop_zero, List.drop_nil, Nat.zero_add] at hS
  refine .nil (.seq (.region (.run 1 rfl trivial (.nil ?_))))
  refine WC.cutS (σ := Unit) (fun ⟨⟩ => [(1, .slice (some pp) l.length oc), (2, ptr b2 0), (6, ptr p.wb 0), (8, .slice va s.2.length vc), (9, I64 (i : Nat)), (10, ptr b10 0), (11, S (actW p.lo p.us p.ps s.1 s.2 o).1.1)]) (fun ⟨⟩ w => Sat B w J (wdA p (actW p.lo p.us p.ps s.1 s.2 o).2 :: blk b10 [I64 o.act, I64 o.n, .slice da o.d.length dc, I64 o.a, S o.b, S o.c, .bool o.f, I64 o.r.kind, S o.r.name, S o.r.parent, S o.r.user, S o.r.service, S o.r.url, I64 o.r.made, I64 o.r.used, I64 o.r.uses, .bool o.r.fresh, S o.q.service, S o.q.cookie, .bool o.q.has, .bool o.q.renew, .bool o.q.gateway, .bool o.q.warn] 97 :: Vec 9 1 (.slice va s.2.length vc) s.2.length (s.2.map S) :: blk b2 (cfCells c a cap ua ucap) 34 :: As)) ?_ ?_
  ·
   refine .seq (.region ?_)
   first | refine WL.val (.fieldAddr 0 (.of rfl) Tryz.underlying97 rfl rfl Tryz.sizeOf3 rfl) rfl ?_ | refine WL.val (.fieldAddrI 0 (.of rfl) Tryz.underlying97 rfl rfl Tryz.sizeOf3 rfl) rfl ?_
   first | refine WL.val (.ld (.of rfl) hS (k := 0) rfl Tryz.isAgg3 rfl) rfl ?_ | refine WL.val (.ld (.of rfl) hS (k := 1) rfl Tryz.isAgg3 rfl) rfl ?_ | refine WL.val (.ld (.of rfl) hS (k := 2) rfl Tryz.isAgg3 rfl) rfl ?_ | refine WL.val (.ld (.of rfl) hS (k := 3) rfl Tryz.isAgg3 rfl) rfl ?_ | refine WL.val (.ldI (.of rfl) hS (At.add hx _) Tryz.isAgg3 rfl) rfl ?_
   refine .nil (.block (.seq (.region (.run 2 rfl trivial (.nil ?_)))))
   refine WC.cond rfl (fun hb33 => ?_) (fun hb33 => ?_)
   ·
    have hc33 := hb33; try simp only [Gk.cs0] at hc33
    replace hS := (hS.pick 2 rfl)
    try dsimp only [List.eraseIdx] at hS
    obtain ⟨⟨a5, c5, ma5, mc5⟩, hS⟩ := Sat.unbox hS
    replace hS : Sat B _ _ (blk p.wb (wdC p s.1) 52 :: blk p.tb [I64 s.1.room, .slice a5 s.1.l.length c5] 127 :: Vec 45 10 (.slice a5 s.1.l.length c5) s.1.l.length (rowsR s.1.l) :: blk p.mb [.slice ma5 s.1.D.length mc5] 168 :: VecO 118 (.slice ma5 s.1.D.length mc5) (s.1.D.map fun d => U64 (d : Nat)) :: _) := hS
    refine .drawn (fun w => ∃ R, Sat B w J (blk b10 [I64 o.act, I64 o.n, .slice da o.d.length dc, I64 o.a, S o.b, S o.c, .bool o.f, I64 o.r.kind, S o.r.name, S o.r.parent, S o.r.user, S o.r.service, S o.r.url, I64 o.r.made, I64 o.r.used, I64 o.r.uses, .bool o.r.fresh, S o.q.service, S o.q.cookie, .bool o.q.has, .bool o.q.renew, .bool o.q.gateway, .bool o.q.warn] 97 :: blk p.wb (wdC p s.1) 52 :: R)) (fun j => !([].contains j)) (by kernel_rfl) ?_
    replace hS := hS.drew; generalize w.drew = w at hS ⊢
    have hH : ∃ R, Sat B w J (blk b10 [I64 o.act, I64 o.n, .slice da o.d.length dc, I64 o.a, S o.b, S o.c, .bool o.f, I64 o.r.kind, S o.r.name, S o.r.parent, S o.r.user, S o.r.service, S o.r.url, I64 o.r.made, I64 o.r.used, I64 o.r.uses, .bool o.r.fresh, S o.q.service, S o.q.cookie, .bool o.q.has, .bool o.q.renew, .bool o.q.gateway, .bool o.q.warn] 97 :: blk p.wb (wdC p s.1) 52 :: R) := ⟨_, ((hS.pick 0 rfl).pick 5 rfl)⟩
    refine .takeP (i := 0) rfl (by kernel_rfl) (by kernel_rfl) (by kernel_rfl) (fun w => (.move (.of rfl))) rfl (.takeP (i := 1) rfl (by kernel_rfl) (by kernel_rfl) (by kernel_rfl) (fun w => (.nilCheck (.of rfl))) rfl ?_)
    refine WD.takeP (i := 2) rfl (by kernel_rfl) (by kernel_rfl) (by kernel_rfl) (fun w => (by first | exact .fieldAddr 1 (.of rfl) Tryz.underlying52 rfl rfl Tryz.sizeOf48 rfl | exact .fieldAddrI 1 (.of rfl) Tryz.underlying52 rfl rfl Tryz.sizeOf48 rfl)) rfl ?_
    refine WD.take (i := 3) rfl (by kernel_rfl) (by kernel_rfl) (by kernel_rfl) (by kernel_rfl) hH (fun w ⟨R, hS⟩ => (by first | exact (.ld (.of rfl) hS (k := 0) rfl Tryz.isAgg48 rfl) | exact (.ld (.of rfl) hS (k := 1) rfl Tryz.isAgg48 rfl) | exact (.ldI (.of rfl) hS (At.add hx _) Tryz.isAgg48 rfl))) rfl ?_
    refine WD.takeP (i := 4) rfl (by kernel_rfl) (by kernel_rfl) (by kernel_rfl) (fun w => (by first | exact .fieldAddr 2 (.of rfl) Tryz.underlying97 rfl rfl Tryz.sizeOf81 rfl | exact .fieldAddrI 2 (.of rfl) Tryz.underlying97 rfl rfl Tryz.sizeOf81 rfl)) rfl ?_
    refine WD.take (i := 5) rfl (by kernel_rfl) (by kernel_rfl) (by kernel_rfl) (by kernel_rfl) hH (fun w ⟨R, hS⟩ => (by first | exact (.ld (.of rfl) hS (k := 0) rfl Tryz.isAgg81 rfl) | exact (.ld (.of rfl) hS (k := 1) rfl Tryz.isAgg81 rfl) | exact (.ldI (.of rfl) hS (At.add hx _) Tryz.isAgg81 rfl))) rfl ?_
    refine WD.branch [6] (by kernel_rfl) rfl (WO.cons rfl ?_ (WO.nil))
    refine .call Tryz.func42 rfl (evs_cons (.of rfl) (evs_cons (.of rfl) evs_nil)) rfl (Feed_any p.mb ma5 mc5 s.1.D (by omega) da dc o.d (by omega) B _ J hd _ ((hS.pick 4 rfl).pick 4 rfl)) ?_
    clear hS
    rintro _ w ⟨rfl, ma6, mc6, hS⟩
    try dsimp only [List.eraseIdx] at hS
    refine .nil ?_
    clear hH
    have hH : ∃ R, Sat B w J (blk b10 [I64 o.act, I64 o.n, .slice da o.d.length dc, I64 o.a, S o.b, S o.c, .bool o.f, I64 o.r.kind, S o.r.name, S o.r.parent, S o.r.user, S o.r.service, S o.r.url, I64 o.r.made, I64 o.r.used, I64 o.r.uses, .bool o.r.fresh, S o.q.service, S o.q.cookie, .bool o.q.has, .bool o.q.renew, .bool o.q.gateway, .bool o.q.warn] 97 :: blk p.wb (wdC p s.1) 52 :: R) := ⟨_, ((hS.pick 2 rfl).pick 5 rfl)⟩
    refine And.intro (by intro _ _; exact hH) ?_
    refine .done (by kernel_rfl) ?_
    replace hS := Sat.box (T := wdT p (feedW s.1 o.d)) (a5, c5, ma6, mc6) (((((hS.pick 1 rfl).pick 1 rfl).pick 4 rfl).pick 4 rfl).pick 4 rfl)
    try dsimp only [List.eraseIdx] at hS
    have hA9 : actW p.lo p.us p.ps s.1 s.2 o = (([], 0), feedW s.1 o.d) := by
     unfold actW
     rw [if_pos (by simpa using hb33)]
    refine ⟨(), ?_⟩
    rw [hA9]
    exact ⟨⟨rfl, rfl, rfl, rfl, rfl, rfl, rfl, trivial⟩, ((((hS.pick 3 rfl).pick 3 rfl).pick 3 rfl).pick 3 rfl)⟩
   have hc33 := hb33; try simp only [Gk.cs0] at hc33
   refine .seq (.region (.run 2 rfl trivial (.nil ?_)))
   refine WC.cond rfl (fun hb42 => ?_) (fun hb42 => ?_)
   ·
    have hc42 := hb42; try simp only [Gk.cs0] at hc42
    refine .region (.run 1 rfl trivial ?_)
    first | refine WL.val (.fieldAddr 1 (.of rfl) Tryz.underlying97 rfl rfl Tryz.sizeOf3 rfl) rfl ?_ | refine WL.val (.fieldAddrI 1 (.of rfl) Tryz.underlying97 rfl rfl Tryz.sizeOf3 rfl) rfl ?_
    first | refine WL.val (.ld (.of rfl) hS (k := 0) rfl Tryz.isAgg3 rfl) rfl ?_ | refine WL.val (.ld (.of rfl) hS (k := 1) rfl Tryz.isAgg3 rfl) rfl ?_ | refine WL.val (.ld (.of rfl) hS (k := 2) rfl Tryz.isAgg3 rfl) rfl ?_ | refine WL.val (.ld (.of rfl) hS (k := 3) rfl Tryz.isAgg3 rfl) rfl ?_ | refine WL.val (.ldI (.of rfl) hS (At.add hx _) Tryz.isAgg3 rfl) rfl ?_
    refine .call Tryz.func20 rfl (evs_cons (.of rfl) (evs_cons (.of rfl) evs_nil)) rfl (Tick_any p s.1 o.n hω B _ J _ (hS.pick 2 rfl)) ?_
    clear hS
    rintro _ w ⟨rfl, hS⟩
    try dsimp only [List.eraseIdx] at hS
    refine .nil ?_
    have hA9 : actW p.lo p.us p.ps s.1 s.2 o = (([], 0), tick s.1 o.n) := by
     unfold actW
     rw [if_neg (by simpa using hb33), if_pos (by simpa using hb42)]
    refine ⟨(), ?_⟩
    rw [hA9]
    exact ⟨⟨rfl, rfl, rfl, rfl, rfl, rfl, rfl, trivial⟩, ((((hS.pick 3 rfl).pick 3 rfl).pick 3 rfl).pick 3 rfl)⟩
   have hc42 := hb42; try simp only [Gk.cs0] at hc42
   refine .seq (.region (.run 2 rfl trivial (.nil ?_)))
   refine WC.cond rfl (fun hb48 => ?_) (fun hb48 => ?_)
   ·
    have hc48 := hb48; try simp only [Gk.cs0] at hc48
    refine .region (.run 1 rfl trivial (.call Tryz.func43 rfl (evs_cons (.of rfl) evs_nil) rfl (LoginTicket_any p s.1 hω B _ J hI _ (hS.pick 2 rfl)) ?_))
    clear hS
    rintro _ w ⟨rfl, hS⟩
    try dsimp only [List.eraseIdx] at hS
    refine .run 4 rfl trivial (.nil ?_)
    have hA9 : actW p.lo p.us p.ps s.1 s.2 o = mkW s.1 LTr := by
     unfold actW
     rw [if_neg (by simpa using hb33), if_neg (by simpa using hb42), if_pos (by simpa using hb48)]
    refine ⟨(), ?_⟩
    rw [hA9]
    exact ⟨⟨rfl, rfl, rfl, rfl, rfl, rfl, rfl, trivial⟩, ((((hS.pick 3 rfl).pick 3 rfl).pick 3 rfl).pick 3 rfl)⟩
   have hc48 := hb48; try simp only [Gk.cs0] at hc48
   refine .seq (.region (.run 2 rfl trivial (.nil ?_)))
   refine WC.cond rfl (fun hb55 => ?_) (fun hb55 => ?_)
   ·
    have hc55 := hb55; try simp only [Gk.cs0] at hc55
    refine .drawn (fun w => ∃ R, Sat B w J (blk b10 [I64 o.act, I64 o.n, .slice da o.d.length dc, I64 o.a, S o.b, S o.c, .bool o.f, I64 o.r.kind, S o.r.name, S o.r.parent, S o.r.user, S o.r.service, S o.r.url, I64 o.r.made, I64 o.r.used, I64 o.r.uses, .bool o.r.fresh, S o.q.service, S o.q.cookie, .bool o.q.has, .bool o.q.renew, .bool o.q.gateway, .bool o.q.warn] 97 :: R)) (fun j => !([].contains j)) (by kernel_rfl) ?_
    replace hS := hS.drew; generalize w.drew = w at hS ⊢
    have hH : ∃ R, Sat B w J (blk b10 [I64 o.act, I64 o.n, .slice da o.d.length dc, I64 o.a, S o.b, S o.c, .bool o.f, I64 o.r.kind, S o.r.name, S o.r.parent, S o.r.user, S o.r.service, S o.r.url, I64 o.r.made, I64 o.r.used, I64 o.r.uses, .bool o.r.fresh, S o.q.service, S o.q.cookie, .bool o.q.has, .bool o.q.renew, .bool o.q.gateway, .bool o.q.warn] 97 :: R) := ⟨_, (hS.pick 0 rfl)⟩
    refine .takeP (i := 0) rfl (by kernel_rfl) (by kernel_rfl) (by kernel_rfl) (fun w => (.move (.of rfl))) rfl (.takeP (i := 1) rfl (by kernel_rfl) (by kernel_rfl) (by kernel_rfl) (fun w => (.move (.of rfl))) rfl ?_)
    refine WD.takeP (i := 2) rfl (by kernel_rfl) (by kernel_rfl) (by kernel_rfl) (fun w => (by first | exact .fieldAddr 3 (.of rfl) Tryz.underlying97 rfl rfl Tryz.sizeOf3 rfl | exact .fieldAddrI 3 (.of rfl) Tryz.underlying97 rfl rfl Tryz.sizeOf3 rfl)) rfl ?_
    refine WD.take (i := 3) rfl (by kernel_rfl) (by kernel_rfl) (by kernel_rfl) (by kernel_rfl) hH (fun w ⟨R, hS⟩ => (by first | exact (.ld (.of rfl) hS (k := 0) rfl Tryz.isAgg3 rfl) | exact (.ldI (.of rfl) hS (At.add hx _) Tryz.isAgg3 rfl))) rfl ?_
    refine WD.takeP (i := 5) rfl (by kernel_rfl) (by kernel_rfl) (by kernel_rfl) (fun w => (by first | exact .fieldAddr 4 (.of rfl) Tryz.underlying97 rfl rfl Tryz.sizeOf9 rfl | exact .fieldAddrI 4 (.of rfl) Tryz.underlying97 rfl rfl Tryz.sizeOf9 rfl)) rfl ?_
    refine WD.take (i := 6) rfl (by kernel_rfl) (by kernel_rfl) (by kernel_rfl) (by kernel_rfl) hH (fun w ⟨R, hS⟩ => (by first | exact (.ld (.of rfl) hS (k := 0) rfl Tryz.isAgg9 rfl) | exact (.ldI (.of rfl) hS (At.add hx _) Tryz.isAgg9 rfl))) rfl ?_
    refine WD.takeP (i := 7) rfl (by kernel_rfl) (by kernel_rfl) (by kernel_rfl) (fun w => (by first | exact .fieldAddr 5 (.of rfl) Tryz.underlying97 rfl rfl Tryz.sizeOf9 rfl | exact .fieldAddrI 5 (.of rfl) Tryz.underlying97 rfl rfl Tryz.sizeOf9 rfl)) rfl ?_
    refine WD.take (i := 8) rfl (by kernel_rfl) (by kernel_rfl) (by kernel_rfl) (by kernel_rfl) hH (fun w ⟨R, hS⟩ => (by first | exact (.ld (.of rfl) hS (k := 0) rfl Tryz.isAgg9 rfl) | exact (.ldI (.of rfl) hS (At.add hx _) Tryz.isAgg9 rfl))) rfl ?_
    refine WD.branch [4] (by kernel_rfl) rfl (WO.cons rfl ?_ (WO.nil))
    refine WL.call Tryz.func38 rfl (evs_cons (.of rfl) (evs_cons (.of rfl) evs_nil)) rfl (toldN_any va vc s.2 (by omega) o.a B _ J _ (fun w h => rows_own (cells := tCells) (s := 1) (fun _ => rfl) h (k := 1) (by rw [rowsT]; rfl)) hS) ?_
    clear hS
    rintro _ w ⟨rfl, hS⟩
    refine .nil ?_
    clear hH
    have hH : ∃ R, Sat B w J (blk b10 [I64 o.act, I64 o.n, .slice da o.d.length dc, I64 o.a, S o.b, S o.c, .bool o.f, I64 o.r.kind, S o.r.name, S o.r.parent, S o.r.user, S o.r.service, S o.r.url, I64 o.r.made, I64 o.r.used, I64 o.r.uses, .bool o.r.fresh, S o.q.service, S o.q.cookie, .bool o.q.has, .bool o.q.renew, .bool o.q.gateway, .bool o.q.warn] 97 :: R) := ⟨_, (hS.pick 0 rfl)⟩
    refine And.intro (by intro _ _; exact hH) ?_
    refine WD.branch [9] (by kernel_rfl) rfl (WO.cons rfl ?_ (WO.nil))
    refine .call Tryz.func37 rfl (evs_cons (.of rfl) (evs_cons (.of rfl) (evs_cons (.of rfl) (evs_cons (.of rfl) evs_nil)))) rfl (Login_any (toldN s.2 o.a) o.b o.c (by omega) p s.1 hω B _ J hI _ (hS.pick 2 rfl)) ?_
    clear hS
    rintro _ w ⟨rfl, hS⟩
    try dsimp only [List.eraseIdx] at hS
    refine .nil ?_
    clear hH
    have hH : ∃ R, Sat B w J (blk b10 [I64 o.act, I64 o.n, .slice da o.d.length dc, I64 o.a, S o.b, S o.c, .bool o.f, I64 o.r.kind, S o.r.name, S o.r.parent, S o.r.user, S o.r.service, S o.r.url, I64 o.r.made, I64 o.r.used, I64 o.r.uses, .bool o.r.fresh, S o.q.service, S o.q.cookie, .bool o.q.has, .bool o.q.renew, .bool o.q.gateway, .bool o.q.warn] 97 :: R) := ⟨_, (hS.pick 1 rfl)⟩
    refine And.intro (by intro _ _; exact hH) ?_
    refine .takeP (i := 10) rfl (by kernel_rfl) (by kernel_rfl) (by kernel_rfl) (fun w => (.move (.of rfl))) rfl (.takeP (i := 11) rfl (by kernel_rfl) (by kernel_rfl) (by kernel_rfl) (fun w => (.extract (.of rfl) rfl)) rfl (.takeP (i := 12) rfl (by kernel_rfl) (by kernel_rfl) (by kernel_rfl) (fun w => (.extract (.of rfl) rfl)) rfl (.takeP (i := 13) rfl (by kernel_rfl) (by kernel_rfl) (by kernel_rfl) (fun w => (.assign (.of rfl))) rfl (.done (by kernel_rfl) ?_))))
    have hA9 : actW p.lo p.us p.ps s.1 s.2 o = loginW p.us p.ps s.1 (toldN s.2 o.a) o.b o.c := by
     unfold actW
     rw [if_neg (by simpa using hb33), if_neg (by simpa using hb42), if_neg (by simpa using hb48), if_pos (by simpa using hb55)]
    refine ⟨(), ?_⟩
    rw [hA9]
    exact ⟨⟨rfl, rfl, rfl, rfl, rfl, rfl, rfl, trivial⟩, ((((hS.pick 3 rfl).pick 3 rfl).pick 3 rfl).pick 3 rfl)⟩
   have hc55 := hb55; try simp only [Gk.cs0] at hc55
   refine .seq (.region (.run 2 rfl trivial (.nil ?_)))
   refine WC.cond rfl (fun hb70 => ?_) (fun hb70 => ?_)
   ·
    have hc70 := hb70; try simp only [Gk.cs0] at hc70
    refine .drawn (fun w => ∃ R, Sat B w J (blk b10 [I64 o.act, I64 o.n, .slice da o.d.length dc, I64 o.a, S o.b, S o.c, .bool o.f, I64 o.r.kind, S o.r.name, S o.r.parent, S o.r.user, S o.r.service, S o.r.url, I64 o.r.made, I64 o.r.used, I64 o.r.uses, .bool o.r.fresh, S o.q.service, S o.q.cookie, .bool o.q.has, .bool o.q.renew, .bool o.q.gateway, .bool o.q.warn] 97 :: R)) (fun j => !([].contains j)) (by kernel_rfl) ?_
    replace hS := hS.drew; generalize w.drew = w at hS ⊢
    have hH : ∃ R, Sat B w J (blk b10 [I64 o.act, I64 o.n, .slice da o.d.length dc, I64 o.a, S o.b, S o.c, .bool o.f, I64 o.r.kind, S o.r.name, S o.r.parent, S o.r.user, S o.r.service, S o.r.url, I64 o.r.made, I64 o.r.used, I64 o.r.uses, .bool o.r.fresh, S o.q.service, S o.q.cookie, .bool o.q.has, .bool o.q.renew, .bool o.q.gateway, .bool o.q.warn] 97 :: R) := ⟨_, (hS.pick 0 rfl)⟩
    refine .takeP (i := 0) rfl (by kernel_rfl) (by kernel_rfl) (by kernel_rfl) (fun w => (.move (.of rfl))) rfl (.takeP (i := 1) rfl (by kernel_rfl) (by kernel_rfl) (by kernel_rfl) (fun w => (.move (.of rfl))) rfl ?_)
    refine WD.takeP (i := 2) rfl (by kernel_rfl) (by kernel_rfl) (by kernel_rfl) (fun w => (by first | exact .fieldAddr 3 (.of rfl) Tryz.underlying97 rfl rfl Tryz.sizeOf3 rfl | exact .fieldAddrI 3 (.of rfl) Tryz.underlying97 rfl rfl Tryz.sizeOf3 rfl)) rfl ?_
    refine WD.take (i := 3) rfl (by kernel_rfl) (by kernel_rfl) (by kernel_rfl) (by kernel_rfl) hH (fun w ⟨R, hS⟩ => (by first | exact (.ld (.of rfl) hS (k := 0) rfl Tryz.isAgg3 rfl) | exact (.ldI (.of rfl) hS (At.add hx _) Tryz.isAgg3 rfl))) rfl ?_
    refine WD.takeP (i := 5) rfl (by kernel_rfl) (by kernel_rfl) (by kernel_rfl) (fun w => (by first | exact .fieldAddr 4 (.of rfl) Tryz.underlying97 rfl rfl Tryz.sizeOf9 rfl | exact .fieldAddrI 4 (.of rfl) Tryz.underlying97 rfl rfl Tryz.sizeOf9 rfl)) rfl ?_
    refine WD.take (i := 6) rfl (by kernel_rfl) (by kernel_rfl) (by kernel_rfl) (by kernel_rfl) hH (fun w ⟨R, hS⟩ => (by first | exact (.ld (.of rfl) hS (k := 0) rfl Tryz.isAgg9 rfl) | exact (.ldI (.of rfl) hS (At.add hx _) Tryz.isAgg9 rfl))) rfl ?_
    refine WD.takeP (i := 7) rfl (by kernel_rfl) (by kernel_rfl) (by kernel_rfl) (fun w => (by first | exact .fieldAddr 6 (.of rfl) Tryz.underlying97 rfl rfl Tryz.sizeOf4 rfl | exact .fieldAddrI 6 (.of rfl) Tryz.underlying97 rfl rfl Tryz.sizeOf4 rfl)) rfl ?_
    refine WD.take (i := 8) rfl (by kernel_rfl) (by kernel_rfl) (by kernel_rfl) (by kernel_rfl) hH (fun w ⟨R, hS⟩ => (by first | exact (.ld (.of rfl) hS (k := 0) rfl Tryz.isAgg4 rfl) | exact (.ldI (.of rfl) hS (At.add hx _) Tryz.isAgg4 rfl))) rfl ?_
    refine WD.branch [4] (by kernel_rfl) rfl (WO.cons rfl ?_ (WO.nil))
    refine WL.call Tryz.func38 rfl (evs_cons (.of rfl) (evs_cons (.of rfl) evs_nil)) rfl (toldN_any va vc s.2 (by omega) o.a B _ J _ (fun w h => rows_own (cells := tCells) (s := 1) (fun _ => rfl) h (k := 1) (by rw [rowsT]; rfl)) hS) ?_
    clear hS
    rintro _ w ⟨rfl, hS⟩
    refine .nil ?_
    clear hH
    have hH : ∃ R, Sat B w J (blk b10 [I64 o.act, I64 o.n, .slice da o.d.length dc, I64 o.a, S o.b, S o.c, .bool o.f, I64 o.r.kind, S o.r.name, S o.r.parent, S o.r.user, S o.r.service, S o.r.url, I64 o.r.made, I64 o.r.used, I64 o.r.uses, .bool o.r.fresh, S o.q.service, S o.q.cookie, .bool o.q.has, .bool o.q.renew, .bool o.q.gateway, .bool o.q.warn] 97 :: R) := ⟨_, (hS.pick 0 rfl)⟩
    refine And.intro (by intro _ _; exact hH) ?_
    refine WD.branch [9] (by kernel_rfl) rfl (WO.cons rfl ?_ (WO.nil))
    refine .call Tryz.func45 rfl (evs_cons (.of rfl) (evs_cons (.of rfl) (evs_cons (.of rfl) (evs_cons (.of rfl) evs_nil)))) rfl (Grant_any (toldN s.2 o.a) o.b o.f (by omega) (by omega) p s.1 hω B _ J hI _ (hS.pick 2 rfl)) ?_
    clear hS
    rintro _ w ⟨rfl, hS⟩
    try dsimp only [List.eraseIdx] at hS
    refine .nil ?_
    clear hH
    have hH : ∃ R, Sat B w J (blk b10 [I64 o.act, I64 o.n, .slice da o.d.length dc, I64 o.a, S o.b, S o.c, .bool o.f, I64 o.r.kind, S o.r.name, S o.r.parent, S o.r.user, S o.r.service, S o.r.url, I64 o.r.made, I64 o.r.used, I64 o.r.uses, .bool o.r.fresh, S o.q.service, S o.q.cookie, .bool o.q.has, .bool o.q.renew, .bool o.q.gateway, .bool o.q.warn] 97 :: R) := ⟨_, (hS.pick 1 rfl)⟩
    refine And.intro (by intro _ _; exact hH) ?_
    refine .takeP (i := 10) rfl (by kernel_rfl) (by kernel_rfl) (by kernel_rfl) (fun w => (.move (.of rfl))) rfl (.takeP (i := 11) rfl (by kernel_rfl) (by kernel_rfl) (by kernel_rfl) (fun w => (.extract (.of rfl) rfl)) rfl (.takeP (i := 12) rfl (by kernel_rfl) (by kernel_rfl) (by kernel_rfl) (fun w => (.extract (.of rfl) rfl)) rfl (.takeP (i := 13) rfl (by kernel_rfl) (by kernel_rfl) (by kernel_rfl) (fun w => (.extract (.of rfl) rfl)) rfl (.takeP (i := 14) rfl (by kernel_rfl) (by kernel_rfl) (by kernel_rfl) (fun w => (.assign (.of rfl))) rfl (.done (by kernel_rfl) ?_)))))
    have hA9 : actW p.lo p.us p.ps s.1 s.2 o = (((grantW p.lo p.ps s.1 (toldN s.2 o.a) o.b o.f).1.1.1, (grantW p.lo p.ps s.1 (toldN s.2 o.a) o.b o.f).1.2), (grantW p.lo p.ps s.1 (toldN s.2 o.a) o.b o.f).2) := by
     unfold actW
     rw [if_neg (by simpa using hb33), if_neg (by simpa using hb42), if_neg (by simpa using hb48), if_neg (by simpa using hb55), if_pos (by simpa using hb70)]
    refine ⟨(), ?_⟩
    rw [hA9]
    exact ⟨⟨rfl, rfl, rfl, rfl, rfl, rfl, rfl, trivial⟩, ((((hS.pick 3 rfl).pick 3 rfl).pick 3 rfl).pick 3 rfl)⟩
   have hc70 := hb70; try simp only [Gk.cs0] at hc70
   refine .skip ?_
   have hA9 : actW p.lo p.us p.ps s.1 s.2 o = (([], 0), s.1) := by
    unfold actW
    rw [if_neg (by simpa using hb33), if_neg (by simpa using hb42), if_neg (by simpa using hb48), if_neg (by simpa using hb55), if_neg (by simpa using hb70)]
   refine ⟨(), ?_⟩
   rw [hA9]
   exact ⟨⟨rfl, rfl, rfl, rfl, rfl, rfl, rfl, trivial⟩, ((((hS.pick 3 rfl).pick 2 rfl).pick 2 rfl).pick 3 rfl)⟩
  rintro ⟨⟩ w hS
  change WC _ _ _ _ [(1, .slice (some pp) l.length oc), (2, ptr b2 0), (6, ptr p.wb 0), (8, .slice va s.2.length vc), (9, I64 (i : Nat)), (10, ptr b10 0), (11, S (actW p.lo p.us p.ps s.1 s.2 o).1.1)] w
  refine .seq (.region (.run 2 rfl trivial (.nil ?_)))
  refine WC.cond rfl (fun hb87 => ?_) (fun hb87 => ?_)
  ·
   have hc87 := hb87; try simp only [Gk.cs0] at hc87
   refine .region (.run 2 rfl trivial (.buildSlice (cs := [_]) hS (parts_cons (.of rfl) parts_nil) Tryz.underlying41 Tryz.sizeOf9 Tryz.zeroValue9 rfl rfl rfl rfl ?_))
   clear hS; intro b90 w hS
   first | refine WL.append (size := 1) (bytes := 16) hS (.of rfl) (.of rfl) (k := 0) rfl Tryz.underlying41 info9_B rfl rfl rfl rfl rfl rfl rfl ⟨by omega, by unfold maxLen; omega⟩ rfl ?_ | refine WL.append (size := 1) (bytes := 16) hS (.of rfl) (.of rfl) (k := 1) rfl Tryz.underlying41 info9_B rfl rfl rfl rfl rfl rfl rfl ⟨by omega, by unfold maxLen; omega⟩ rfl ?_ | refine WL.append (size := 1) (bytes := 16) hS (.of rfl) (.of rfl) (k := 2) rfl Tryz.underlying41 info9_B rfl rfl rfl rfl rfl rfl rfl ⟨by omega, by unfold maxLen; omega⟩ rfl ?_ | refine WL.append (size := 1) (bytes := 16) hS (.of rfl) (.of rfl) (k := 3) rfl Tryz.underlying41 info9_B rfl rfl rfl rfl rfl rfl rfl ⟨by omega, by unfold maxLen; omega⟩ rfl ?_
   clear hS; intro v91 w hS; try dsimp only [List.set] at hS
   first | obtain ⟨a91, c91, rfl, hcap91, _⟩ := hS.vecSlice (k := 0) (v := v91) rfl | obtain ⟨a91, c91, rfl, hcap91, _⟩ := hS.vecSlice (k := 1) (v := v91) rfl | obtain ⟨a91, c91, rfl, hcap91, _⟩ := hS.vecSlice (k := 2) (v := v91) rfl | obtain ⟨a91, c91, rfl, hcap91, _⟩ := hS.vecSlice (k := 3) (v := v91) rfl
   refine .run 1 rfl trivial (.nil (.region (.run 3 rfl ⟨⟨by omega, by omega⟩, trivial⟩ (.nil ?_))))
   refine ⟨(stepW p.lo p.us p.ps s o, i + 1, .slice a91 (s.2.length + 1) c91), ⟨rfl, rfl, rfl, rfl, rfl, trivial⟩, ⟨by (try dsimp only); omega, by (try dsimp only); rw [walkW_snoc ho, ← hs], stepW_ok hwk hof.d (by omega), ?_⟩, by (try dsimp only); omega⟩
   show Sat B _ J (Vec 9 1 _ (addN s.2 (actW p.lo p.us p.ps s.1 s.2 o).1.1).length ((addN s.2 (actW p.lo p.us p.ps s.1 s.2 o).1.1).map S) :: wdA p (actW p.lo p.us p.ps s.1 s.2 o).2 :: _)
   rw [addN, if_pos (by simpa using hb87), List.length_append, List.length_cons, List.length_nil, List.map_append]
   exact (((((hS.pick 1 rfl).pick 3 rfl).pick 2 rfl).pick 3 rfl).drop (k := 3) rfl)
  have hc87 := hb87; try simp only [Gk.cs0] at hc87
  refine .skip (.region (.run 3 rfl ⟨⟨by omega, by omega⟩, trivial⟩ (.nil ?_)))
  refine ⟨(stepW p.lo p.us p.ps s o, i + 1, .slice va s.2.length vc), ⟨rfl, rfl, rfl, rfl, rfl, trivial⟩, ⟨by (try dsimp only); omega, by (try dsimp only); rw [walkW_snoc ho, ← hs], stepW_ok hwk hof.d (by omega), ?_⟩, by (try dsimp only); omega⟩
  show Sat B _ J (Vec 9 1 _ (addN s.2 (actW p.lo p.us p.ps s.1 s.2 o).1.1).length ((addN s.2 (actW p.lo p.us p.ps s.1 s.2 o).1.1).map S) :: wdA p (actW p.lo p.us p.ps s.1 s.2 o).2 :: _)
  rw [addN, if_neg (by simpa using hb87)]
  exact (((((hS.pick 1 rfl).pick 3 rfl).pick 2 rfl).pick 3 rfl).drop (k := 3) rfl)
 have hc24 := hb24; try simp only [Gk.cs0] at hc24
 refine .exit (.seq (.region (.run 4 rfl trivial (.nil (.ret (ret2 Tryz.results36 rfl rfl ?_))))))
 have ei : i = l.length := by
  first | omega | simp at hb24; omega
 subst ei
 rw [List.take_length] at hs
 subst hs
 exact ⟨_, rfl, J, _, dv, hJ, rfl, .inr ⟨hz, p, D, hD, hlo, hus, hps, rfl, hI, hS.drop (k := 2) rfl⟩⟩
theorem walked_any (c : Cf) (a : Option Addr) (cap : Nat) (ua : Option Addr) (ucap : Nat) (oa : Option Addr) (oc : Nat) (l : List Op) (hol : l.length ≤ 9223372036854775807) (hf : few20 c l = true) (hfit : ∀ o ∈ l, o.fits) (B w : World) (I : Im) (hK : Known I) (hP : PreAt I) (hC : CfAt I c a cap ua ucap) (hO : OpsAt I oa l) (As : List Assn) (hS : Sat B w I As) :
  Calls Tryz.prog 36 [.agg (cfCells c a cap ua ucap).toArray, .slice oa l.length oc].toArray w (Ret fun v w' => ∃ J pv dv, Le I J ∧ v = .tuple #[.pointer pv, dv] ∧ WalkT c l J pv dv B w' As) := by
 by_cases hz : newE c = 0
 ·exact walkedY_any c a cap ua ucap oa oc l hol hf hfit hz B w I hK hP hC hO As hS
 ·exact walkedN_any c a cap ua ucap oa oc l hol hf hfit hz B w I hK hP hC hO As hS
end Go.Proofs.YtadhiihnnkcagaaGreatDoor
namespace Go.Proofs.YtadhiihnnkcagaaGreatDoor
open Gk Ul Pc Tk Tr
set_option linter.unusedVariables false
set_option linter.unusedSimpArgs false
theorem bld34_C : Bld Tryz.prog 34 [(0, 1), (1, 1), (2, 21), (23, 1), (24, 1), (25, 1), (26, 1), (27, 1)] [.slice none 0 0, .slice none 0 0, .int .i64 0, .int .i64 0, .int .i64 0, .int .i64 0, .int .i64 0, .int .i64 0, .int .i64 0, .int .i64 0, .int .i64 0, .int .i64 0, .int .i64 0, .int .i64 0, .int .i64 0, .int .i64 0, .int .i64 0, .int .i64 0, .int .i64 0, .int .i64 0, .int .i64 0, .int .i64 0, .int .i64 0, .int .i64 0, .float .f64 0, .float .f64 0, .float .f64 0, .int .i64 0] := bld_of Tryz.underlying34 Tryz.zeroValue34 (fun w => by simp [go_sem])
theorem bld67_C : Bld Tryz.prog 67 [(0, 1), (1, 1), (2, 1)] [S [], S [], .slice none 0 0] := bld_of Tryz.underlying67 Tryz.zeroValue67 (fun w => by simp [go_sem])
theorem bld95_C : Bld Tryz.prog 95 [(0, 1), (1, 1), (2, 1), (3, 1), (4, 1), (5, 1)] [S [], S [], .bool false, .bool false, .bool false, .bool false] := bld_of Tryz.underlying95 Tryz.zeroValue95 (fun w => by simp [go_sem])
theorem bld101_C : Bld Tryz.prog 101 [(0, 1), (1, 1), (2, 1), (3, 1), (4, 1), (5, 1), (6, 1), (7, 1)] [.int .i64 0, .float .f64 0, S [], .bool false, .bool false, .bool false, S [], .slice none 0 0] := bld_of Tryz.underlying101 Tryz.zeroValue101 (fun w => by simp [go_sem])
theorem config20_any (B w : World) (I : Im) (As : List Assn) (hS : Sat B w I As) :
  Calls Tryz.prog 83 [].toArray w (Ret fun v w' => ∃ J s u, Le I J ∧ v = .agg (cfCells AWC (some (ad s 0)) 1 (some (ad u 0)) 1).toArray ∧ SvsAt J (some (ad s 0)) [AWS] ∧ UsrsAt J (some (ad u 0)) [AWUs] ∧ Sat B w' J As) := by
 refine calls Tryz.func83 rfl Tryz.ntmps83 rfl (.seq (.region (.allocA (cs := [_, _, _, _, _, _, _, _, _, _, _, _, _, _, _, _, _, _, _, _, _, _, _, _, _, _, _, _]) hS Tryz.zeroValue34 rfl ?_)))
 clear hS; intro b0 w hS
 refine .nil (.seq (.region (.val (.build (cs := [_, _, _, _, _, _, _, _]) (parts_cons (.of rfl) (parts_cons (.of rfl) parts_nil)) bld101_C rfl) rfl (.buildSlice (cs := [_, _, _, _, _, _, _, _]) hS (parts_cons (.of rfl) parts_nil) Tryz.underlying27 Tryz.sizeOf101 Tryz.zeroValue101 rfl rfl rfl rfl ?_))))
 clear hS; intro b2 w hS
 refine .val (.build (cs := [_, _, _]) (parts_cons (.of rfl) (parts_cons (.of rfl) parts_nil)) bld67_C rfl) rfl (.buildSlice (cs := [_, _, _]) hS (parts_cons (.of rfl) parts_nil) Tryz.underlying28 Tryz.sizeOf67 Tryz.zeroValue67 rfl rfl rfl rfl ?_)
 clear hS; intro b4 w hS
 refine .val (.build (cs := [_, _, _, _, _, _, _, _, _, _, _, _, _, _, _, _, _, _, _, _, _, _, _, _, _, _, _, _]) (parts_cons (.of rfl) (parts_cons (.of rfl) (parts_cons (.of rfl) parts_nil))) bld34_C rfl) rfl ?_
 first | refine WL.stA hS (k := 0) rfl (.of rfl) (.of rfl) rfl Tryz.sizeOf34 rfl (by simp) ?_ | refine WL.stA hS (k := 1) rfl (.of rfl) (.of rfl) rfl Tryz.sizeOf34 rfl (by simp) ?_ | refine WL.stA hS (k := 2) rfl (.of rfl) (.of rfl) rfl Tryz.sizeOf34 rfl (by simp) ?_
 clear hS; intro w hS; try dsimp only [List.set] at hS
 try simp only [List.take_zero, List.nil_append, List.append_nil, List.drop_succ_cons, List.drop_zero, List.drop_nil, Nat.zero_add] at hS
 refine .nil (.ret ?_)
 first | refine ret1c (b := _) (cs := [_, _, _, _, _, _, _, _, _, _, _, _, _, _, _, _, _, _, _, _, _, _, _, _, _, _, _, _]) Tryz.results83 hS (k := 0) rfl Tryz.isAgg34 Tryz.sizeOf34 rfl rfl ?_ | refine ret1c (b := _) (cs := [_, _, _, _, _, _, _, _, _, _, _, _, _, _, _, _, _, _, _, _, _, _, _, _, _, _, _, _]) Tryz.results83 hS (k := 1) rfl Tryz.isAgg34 Tryz.sizeOf34 rfl rfl ?_ | refine ret1c (b := _) (cs := [_, _, _, _, _, _, _, _, _, _, _, _, _, _, _, _, _, _, _, _, _, _, _, _, _, _, _, _]) Tryz.results83 hS (k := 2) rfl Tryz.isAgg34 Tryz.sizeOf34 rfl rfl ?_
 obtain ⟨J1, hJ1, hb4, hS⟩ := hS.freeze (k := 0) rfl
 obtain ⟨J2, hJ2, hb2, hS⟩ := hS.freeze (k := 0) rfl
 try dsimp only [List.eraseIdx] at hS
 have hcf := awc_cfat (J := J2) hb2 (hJ2 _ _ hb4)
 exact ⟨_, rfl, J2, b2, b4, hJ1.trans hJ2, rfl, hcf.1, hcf.2, hS.drop (k := 0) rfl⟩
set_option maxRecDepth 20000 in
theorem awake20_any (B w : World) (I : Im) (hK : Known I) (hP : PreAt I) (As : List Assn) (hS : Sat B w I As) :
  Calls Tryz.prog 34 [].toArray w (Ret fun v w' => v = .bool true ∧ Sat B w' I As) := by
 refine calls Tryz.func34 rfl Tryz.ntmps34 rfl (.seq (.region (.run 1 rfl trivial (.nil (.seq (.region (.call Tryz.func83 rfl evs_nil rfl (config20_any B _ I _ hS) ?_)))))))
 clear hS
 rintro _ w ⟨J1, sb, ub, hJ1, rfl, hs1, hu1, hS⟩
 refine .call Tryz.func41 rfl (evs_cons (.of rfl) evs_nil) rfl (grantNew_any AWC awc_fits (some (ad sb 0)) 1 (some (ad ub 0)) 1 B _ J1 (hK.mono hJ1) (hP.mono hJ1) hs1 hu1 _ hS) ?_
 clear hS
 rintro v w ⟨J, hJ, hcase⟩
 obtain ⟨_, p, D, hD, hlo, hus, hps, rfl, hI, hS⟩ := hcase.resolve_left (fun h => h.1 awc_new)
 obtain rfl : D = [0] := hD.unique awc_ord
 have hlo : p.lo = [AWS] := hlo
 have hus : p.us = [AWUs] := hus
 have hps : p.ps = fun _ => 0 := hps
 refine .run 5 rfl trivial (.nil (.seq (.seq ?_)))
 obtain ⟨⟨a, c, ma, mc⟩, hS⟩ := Sat.unbox hS
 replace hS : Sat B _ _ (blk p.wb (wdC p (w0 AWC)) 52 :: blk p.tb [I64 (w0 AWC).room, .slice a (w0 AWC).l.length c] 127 :: Vec 45 10 (.slice a (w0 AWC).l.length c) (w0 AWC).l.length (rowsR (w0 AWC).l) :: blk p.mb [.slice ma (w0 AWC).D.length mc] 168 :: VecO 118 (.slice ma (w0 AWC).D.length mc) ((w0 AWC).D.map fun d => U64 (d : Nat)) :: _) := hS
 refine .region (.run 1 rfl trivial (.val (.eqp (.of rfl) (.of rfl) Tryz.underlying39) rfl (.run 1 rfl trivial (.gval rfl rfl (fun hg1 => (.move (.of rfl))) rfl (.gval rfl rfl (fun hg1 => (.neq (.gd hg1 rfl) (.of rfl))) rfl (.val (.por (.of rfl) (.of rfl) (.of rfl)) rfl (.run 1 rfl trivial (.gval rfl rfl (fun hg1 => (.move (.of rfl))) rfl (.gval rfl rfl (fun hg1 => (.nilCheck (.gd hg1 rfl))) rfl ?_)))))))))
 refine WL.gval rfl rfl (fun hg1 => (by first | exact .fieldAddr 1 (.gd hg1 rfl) Tryz.underlying52 rfl rfl Tryz.sizeOf48 rfl | exact .fieldAddrI 1 (.gd hg1 rfl) Tryz.underlying52 rfl rfl Tryz.sizeOf48 rfl)) rfl ?_
 refine WL.gval rfl rfl (fun hg1 => (by first | exact (.ld (.gd hg1 rfl) hS (k := 0) rfl Tryz.isAgg48 rfl) | exact (.ld (.gd hg1 rfl) hS (k := 1) rfl Tryz.isAgg48 rfl) | exact (.ld (.gd hg1 rfl) hS (k := 2) rfl Tryz.isAgg48 rfl) | exact (.ld (.gd hg1 rfl) hS (k := 3) rfl Tryz.isAgg48 rfl) | exact (.ld (.gd hg1 rfl) hS (k := 4) rfl Tryz.isAgg48 rfl))) rfl ?_
 refine .gval rfl rfl (fun hg1 => (.eqp (.gd hg1 rfl) (.of rfl) Tryz.underlying48)) rfl (.val (.por (.of rfl) (.of rfl) (.of rfl)) rfl (.run 1 rfl trivial (.gval rfl rfl (fun hg1 => (.move (.of rfl))) rfl (.gval rfl rfl (fun hg1 => (.nilCheck (.gd hg1 rfl))) rfl ?_))))
 refine WL.gval rfl rfl (fun hg1 => (by first | exact .fieldAddr 0 (.gd hg1 rfl) Tryz.underlying52 rfl rfl Tryz.sizeOf47 rfl | exact .fieldAddrI 0 (.gd hg1 rfl) Tryz.underlying52 rfl rfl Tryz.sizeOf47 rfl)) rfl ?_
 refine WL.gval rfl rfl (fun hg1 => (by first | exact (.ld (.gd hg1 rfl) hS (k := 0) rfl Tryz.isAgg47 rfl) | exact (.ld (.gd hg1 rfl) hS (k := 1) rfl Tryz.isAgg47 rfl) | exact (.ld (.gd hg1 rfl) hS (k := 2) rfl Tryz.isAgg47 rfl) | exact (.ld (.gd hg1 rfl) hS (k := 3) rfl Tryz.isAgg47 rfl) | exact (.ld (.gd hg1 rfl) hS (k := 4) rfl Tryz.isAgg47 rfl))) rfl ?_
 refine .gval rfl rfl (fun hg1 => (.eqp (.gd hg1 rfl) (.of rfl) Tryz.underlying47)) rfl (.val (.por (.of rfl) (.of rfl) (.of rfl)) rfl (.nil (.condF (rfl) (.skip (.seq (.region (.run 2 rfl trivial ?_)))))))
 first | refine WL.val (.fieldAddr 1 (.of rfl) Tryz.underlying52 rfl rfl Tryz.sizeOf48 rfl) rfl ?_ | refine WL.val (.fieldAddrI 1 (.of rfl) Tryz.underlying52 rfl rfl Tryz.sizeOf48 rfl) rfl ?_
 first | refine WL.val (.ld (.of rfl) hS (k := 0) rfl Tryz.isAgg48 rfl) rfl ?_ | refine WL.val (.ld (.of rfl) hS (k := 1) rfl Tryz.isAgg48 rfl) rfl ?_ | refine WL.val (.ld (.of rfl) hS (k := 2) rfl Tryz.isAgg48 rfl) rfl ?_ | refine WL.val (.ld (.of rfl) hS (k := 3) rfl Tryz.isAgg48 rfl) rfl ?_ | refine WL.val (.ld (.of rfl) hS (k := 4) rfl Tryz.isAgg48 rfl) rfl ?_
 refine .buildSlice (cs := [_, _, _]) hS (parts_cons (.of rfl) (parts_cons (.of rfl) (parts_cons (.of rfl) parts_nil))) Tryz.underlying81 Tryz.sizeOf118 Tryz.zeroValue118 rfl rfl rfl rfl ?_
 clear hS; intro b41 w hS
 obtain ⟨J2, hJ2, hb41, hS⟩ := hS.freeze (k := 0) rfl
 try dsimp only [List.eraseIdx] at hS
 refine .call Tryz.func42 rfl (evs_cons (.of rfl) (evs_cons (.of rfl) evs_nil)) rfl (Feed_any p.mb ma mc [] (by decide) (some (ad b41 0)) 3 [1, 2, 3] (by decide) B _ J2 ⟨rfl, fun _ => ⟨_, rfl, at_frozen hb41⟩⟩ _ ((hS.pick 4 rfl).pick 4 rfl)) ?_
 clear hS
 rintro _ w ⟨rfl, ma2, mc2, hS⟩
 try dsimp only [List.eraseIdx] at hS
 refine .nil (.seq ?_)
 replace hS := Sat.box (T := wdT p (feedW (w0 AWC) [1, 2, 3])) (a, c, ma2, mc2) (((((hS.pick 1 rfl).pick 1 rfl).pick 4 rfl).pick 4 rfl).pick 4 rfl)
 try dsimp only [List.eraseIdx] at hS
 refine .region (.run 1 rfl trivial (.call Tryz.func43 rfl (evs_cons (.of rfl) evs_nil) rfl (LoginTicket_any p (feedW (w0 AWC) [1, 2, 3]) (feedW_ok (w0_ok AWC) (by decide) : WdOk (feedW (w0 AWC) [1, 2, 3])) B _ J2 (hI.mono hJ2) _ hS) ?_))
 clear hS
 rintro _ w ⟨rfl, hS⟩
 try dsimp only [List.eraseIdx] at hS
 refine .run 5 rfl trivial (.nil (.seq (.region (.run 2 rfl trivial (.call Tryz.func37 rfl (evs_cons (.of rfl) (evs_cons (.of rfl) (evs_cons (.of rfl) (evs_cons (.of rfl) evs_nil)))) rfl (Login_any (mkW (feedW (w0 AWC) [1, 2, 3]) LTr).1.1 [117] [112] (by decide) p (mkW (feedW (w0 AWC) [1, 2, 3]) LTr).2 (mkW_ok (feedW_ok (w0_ok AWC) (by decide) : WdOk (feedW (w0 AWC) [1, 2, 3])) _) B _ J2 (hI.mono hJ2) _ hS) ?_)))))
 clear hS
 rintro _ w ⟨rfl, hS⟩
 try dsimp only [List.eraseIdx] at hS
 refine .run 5 rfl trivial (.nil (.seq (.region (.run 2 rfl trivial (.call Tryz.func45 rfl (evs_cons (.of rfl) (evs_cons (.of rfl) (evs_cons (.of rfl) (evs_cons (.of rfl) evs_nil)))) rfl (Grant_any (loginW p.us p.ps (mkW (feedW (w0 AWC) [1, 2, 3]) LTr).2 (mkW (feedW (w0 AWC) [1, 2, 3]) LTr).1.1 [117] [112]).1.1 [104, 116, 116, 112, 58, 47, 47, 65, 47, 120] false (Nat.le_trans loginW_nlen (by decide)) (by decide) p (loginW p.us p.ps (mkW (feedW (w0 AWC) [1, 2, 3]) LTr).2 (mkW (feedW (w0 AWC) [1, 2, 3]) LTr).1.1 [117] [112]).2 (loginW_ok (mkW_ok (feedW_ok (w0_ok AWC) (by decide) : WdOk (feedW (w0 AWC) [1, 2, 3])) _) _ _ _) B _ J2 (hI.mono hJ2) _ hS) ?_)))))
 clear hS
 rintro _ w ⟨rfl, hS⟩
 try dsimp only [List.eraseIdx] at hS
 refine .run 7 rfl trivial (.nil (.seq (.region (.call Tryz.func56 rfl (evs_cons (.of rfl) (evs_cons (.of rfl) evs_nil)) rfl (refName_any 2 3 (by decide) B _ J2 _ hS) ?_))))
 clear hS
 rintro v w ⟨hv9, hS⟩
 rw [if_neg (by decide)] at hv9
 subst hv9
 refine .run 5 rfl trivial (.nil (.seq (.region (.run 3 rfl trivial (.gval rfl rfl (fun hg1 => (.move (.of rfl))) rfl (.gval rfl rfl (fun hg1 => (.eql (.gd hg1 rfl) (.of rfl))) rfl (.val (.pand (.of rfl) (.of rfl) (.of rfl)) rfl (.run 1 rfl trivial (.gval rfl rfl (fun hg1 => (.move (.of rfl))) rfl (.gval rfl rfl (fun hg1 => (.eql (.gd hg1 rfl) (.of rfl))) rfl (.val (.pand (.of rfl) (.of rfl) (.of rfl)) rfl (.run 1 rfl trivial (.gval rfl rfl (fun hg1 => (.move (.of rfl))) rfl (.gval rfl rfl (fun hg1 => (.move (.of rfl))) rfl (.gval rfl rfl (fun hg1 => (.eqs (.gd hg1 rfl) (.gd hg1 rfl))) rfl (.val (.pand (.of rfl) (.of rfl) (.of rfl)) rfl (.run 1 rfl trivial (.gval rfl rfl (fun hg1 => (.move (.of rfl))) rfl (.gval rfl rfl (fun hg1 => (.eqs (.gd hg1 rfl) (.of rfl))) rfl (.val (.pand (.of rfl) (.of rfl) (.of rfl)) rfl (.run 1 rfl trivial (.gval rfl rfl (fun hg1 => (.move (.of rfl))) rfl (.gval rfl rfl (fun hg1 => (.move (.of rfl))) rfl (.gval rfl rfl (fun hg1 => (.build (cs := [_, _, _, _, _, _]) (parts_cons (.gd hg1 rfl) parts_nil) bld95_C rfl)) rfl (.gcall (T := fun w => Sat B w J2 _) rfl rfl rfl Tryz.func39 rfl (fun hg1 => (evs_cons (.gd hg1 rfl) (evs_cons (.gd hg1 rfl) evs_nil))) rfl (fun hg1 => Choose_any ⟨[], (loginW p.us p.ps (mkW (feedW (w0 AWC) [1, 2, 3]) LTr).2 (mkW (feedW (w0 AWC) [1, 2, 3]) LTr).1.1 [117] [112]).1.1, false, false, false, false⟩ (Nat.zero_le _) p (grantW p.lo p.ps (loginW p.us p.ps (mkW (feedW (w0 AWC) [1, 2, 3]) LTr).2 (mkW (feedW (w0 AWC) [1, 2, 3]) LTr).1.1 [117] [112]).2 (loginW p.us p.ps (mkW (feedW (w0 AWC) [1, 2, 3]) LTr).2 (mkW (feedW (w0 AWC) [1, 2, 3]) LTr).1.1 [117] [112]).1.1 [104, 116, 116, 112, 58, 47, 47, 65, 47, 120] false).2 (grantW_ok (loginW_ok (mkW_ok (feedW_ok (w0_ok AWC) (by decide) : WdOk (feedW (w0 AWC) [1, 2, 3])) _) _ _ _) _ _ _) B _ J2 (hI.mono hJ2) _ hS) hS ?_)))))))))))))))))))))))))
 clear hS; rintro w hS
 refine .gval rfl rfl (fun hg1 => (.eql (.gd hg1 rfl) (.of rfl))) rfl (.val (.pand (.of rfl) (.of rfl) (.of rfl)) rfl (.run 1 rfl trivial (.nil (.ret (ret1 Tryz.results34 rfl ?_)))))
 refine ⟨_, rfl, ?_, (hS.drop (k := 0) rfl).weaken (hJ1.trans (hJ.trans hJ2))⟩
 refine congrArg Value.bool ?_
 rw [hlo, hus, hps]
 kernel_rfl
end Go.Proofs.YtadhiihnnkcagaaGreatDoor
namespace Go.Proofs.YtadhiihnnkcagaaGreatDoor
open Gk Ul Pc Tk Tr
set_option linter.unusedVariables false
set_option linter.unusedSimpArgs false
theorem walkW_wk {lo : List Sv} {us : List Us} {ps : Nat → Int} {c : Cf} {l : List Op} (hf : few20 c l = true) (hfit : ∀ o ∈ l, o.fits) : ∀ i, i ≤ l.length → WkOk i (walkW lo us ps (w0 c) (l.take i))
 | 0, _ => w0_wk c
 | i + 1, h => by
  obtain ⟨o, ho⟩ : ∃ o, l[i]? = some o := ⟨_, List.getElem?_eq_getElem (by omega)⟩
  rw [walkW_snoc ho]
  have := (few20_facts hf).2.2 o (List.mem_of_getElem? ho)
  exact stepW_ok (walkW_wk hf hfit i (by omega)) (hfit o (List.mem_of_getElem? ho)).d (by omega)
theorem walkW_ok {lo : List Sv} {us : List Us} {ps : Nat → Int} {c : Cf} {l : List Op} (hf : few20 c l = true) (hfit : ∀ o ∈ l, o.fits) : WkOk l.length (walkW lo us ps (w0 c) l) := by
 have := walkW_wk (lo := lo) (us := us) (ps := ps) hf hfit l.length (Nat.le_refl _)
 rwa [List.take_length] at this
theorem getD_none {l : List Rec} {n : List UInt8} (h : get l n = none) : getD l n = r0 := by rw [getD, h]; rfl
theorem getD_drop_self (l : List Rec) (n : List UInt8) : getD (drop l n) n = r0 := by
 refine getD_none ?_
 rw [get_drop]
 split
 ·rfl
 ·rename_i h
  rcases Tr.get_at l n with ⟨_, e⟩ | ⟨j, r, h1, h2, h3, h4⟩
  ·exact e
  ·exfalso
   apply h
   have hj := (List.getElem?_eq_some_iff.1 h2).1
   obtain ⟨m, hm⟩ : ∃ m, l.length = m + 1 := ⟨l.length - 1, by omega⟩
   rw [below, if_pos (by omega), hm, belowF]
   simp
theorem alive_same {ps : Nat → Int} {ω ω2 : Wd} (h : ω2.l = ω.l) (hn : ω2.now = ω.now) (n : List UInt8) (k : Int) : aliveW ps ω2 n k = aliveW ps ω n k := by
 unfold aliveW
 rw [h, hn]
theorem mkW_err {ω : Wd} {r : Rec} (h : (mkW ω r).1.2 ≠ 0) : (mkW ω r).2.l = ω.l ∧ (mkW ω r).2.now = ω.now ∧ (mkW ω r).1.2 = 39 ∧ (mkW ω r).1.1 = [] := by
 unfold mkW at h ⊢
 split
 ·exact ⟨rfl, rfl, rfl, rfl⟩
 ·rename_i h1
  rw [if_neg h1] at h
  dsimp only at h ⊢
  split
  ·rename_i h2
   exact ⟨by rw [add, if_neg h2], rfl, rfl, rfl⟩
  ·rename_i h2
   rw [if_neg h2] at h
   exact absurd rfl h
theorem mkW_now {ω : Wd} {r : Rec} : (mkW ω r).2.now = ω.now := by
 unfold mkW
 split
 ·rfl
 ·rfl
theorem mkW_okay {ω : Wd} {r : Rec} (h : (mkW ω r).1.2 = 0) : addE ω.room ω.l (mkR ω r) = 0 ∧ (mkW ω r).2.l = ω.l ++ [mkR ω r] ∧ (mkW ω r).1.1 = (mkR ω r).name ∧ (mkW ω r).2.D.length + 1 = ω.D.length := by
 unfold mkW at h ⊢
 split
 ·rename_i h1
  rw [if_pos h1] at h; cases h
 ·rename_i h1
  rw [if_neg h1] at h
  dsimp only at h ⊢
  split
  ·rename_i h2
   rw [if_pos h2] at h; cases h
  ·rename_i h2
   have h3 : addE ω.room ω.l (mkR ω r) = 0 := Decidable.not_not.1 h2
   refine ⟨h3, by rw [add, if_pos h3], rfl, ?_⟩
   show (mkN ω r).2.length + 1 = _
   have h4 : (mkN ω r).1.2 = 0 := Decidable.not_not.1 h1
   unfold mkN nextT at h4 ⊢
   split
   ·rename_i h5; rw [if_pos h5] at h4; cases h4
   ·rename_i h5; rw [if_neg h5] at h4
    cases hD : ω.D with
    | nil => rw [hD] at h4; cases h4
    | cons d D => dsimp only; split <;> simp
theorem login_inside {us : List Us} {ps : Nat → Int} {ω : Wd} {x user pw : List UInt8} (ha : (aliveW ps ω x 6).2 = true) (h : (loginW us ps ω x user pw).1.2 = 39) : (aliveW ps (loginW us ps ω x user pw).2 x 6).2 = true := by
 unfold loginW at h ⊢
 rw [if_neg (by rw [ha]; decide)] at h ⊢
 split
 ·rename_i h1; rw [if_pos h1] at h; cases h
 ·rename_i h1
  rw [if_neg h1] at h
  dsimp only at h ⊢
  obtain ⟨e1, e2, _⟩ := mkW_err (by rw [h]; decide)
  rw [if_neg (by rw [h]; decide), alive_same e1 e2]; exact ha
theorem dead_drop {us : List Us} {ps : Nat → Int} {ω : Wd} {x user pw : List UInt8} : (loginW us ps (dropW ω x) x user pw).1.2 = 38 := by
 have : (aliveW ps (dropW ω x) x 6).2 = false := by
  unfold aliveW
  rw [if_pos]
  rw [show (dropW ω x).l = drop ω.l x from rfl, getD_drop_self]; rfl
 unfold loginW
 rw [if_pos this]
theorem login_done {us : List Us} {ps : Nat → Int} {ω : Wd} {x user pw other : List UInt8} (ha : (aliveW ps ω x 6).2 = true) (h : (loginW us ps ω x user pw).1.2 ≠ 39) : ((loginW us ps ω x user pw).1.2 = 0 ∨ (loginW us ps ω x user pw).1.2 = 37) ∧ (loginW us ps (loginW us ps ω x user pw).2 x user other).1.2 = 38 := by
 have key : ((loginW us ps ω x user pw).1.2 = 0 ∨ (loginW us ps ω x user pw).1.2 = 37) ∧ ∃ ω2, (loginW us ps ω x user pw).2 = dropW ω2 x := by
  unfold loginW at h ⊢
  rw [if_neg (by rw [ha]; decide)] at h ⊢
  split
  ·exact ⟨.inr rfl, _, rfl⟩
  ·rename_i h1
   rw [if_neg h1] at h
   dsimp only at h ⊢
   have h2 : (mkW ω ⟨1, [], [], user, [], [], 0, 0, 0, true⟩).1.2 = 0 := by
    refine Decidable.byContradiction fun h3 => h (mkW_err h3).2.2.1
   exact ⟨.inl h2, _, by rw [if_pos h2]⟩
 obtain ⟨k1, ω2, k2⟩ := key
 exact ⟨k1, by rw [k2]; exact dead_drop⟩
set_option maxRecDepth 20000 in
theorem GrantOnce_any (c : Cf) (a : Option Addr) (cap : Nat) (ua : Option Addr) (ucap : Nat) (oa : Option Addr) (oc : Nat) (l : List Op) (hol : l.length ≤ 9223372036854775807) (hfit : ∀ o ∈ l, o.fits) (user pw other : List UInt8) (B w : World) (I : Im) (hK : Known I) (hP : PreAt I) (hC : CfAt I c a cap ua ucap) (hO : OpsAt I oa l) (As : List Assn) (hS : Sat B w I As) :
  Calls Tryz.prog 8 [.agg (cfCells c a cap ua ucap).toArray, .slice oa l.length oc, S user, S pw, S other].toArray w (Ret fun v w' => v = .bool true ∧ ∃ J, Le I J ∧ Sat B w' J As) := by
 refine calls Tryz.func8 rfl Tryz.ntmps8 rfl (.seq (.region (.boxA (cs := cfCells c a cap ua ucap) hS (.of rfl) rfl ?_)))
 clear hS; intro b5 w hS
 refine .run 1 rfl trivial (.nil (.seq (.region (.call Tryz.func34 rfl evs_nil rfl (awake20_any B _ I hK hP _ hS) ?_))))
 clear hS
 rintro _ w ⟨rfl, hS⟩
 refine .run 1 rfl trivial (.nil (.seq (.region ?_)))
 refine WL.val (.lds (vs := cfCells c a cap ua ucap) (.of rfl) hS (k := 0) rfl Tryz.isAgg34 Tryz.sizeOf34 rfl (fun j v hj => by rw [Nat.zero_add]; exact hj)) rfl ?_
 refine .run 1 rfl trivial (.call Tryz.func35 rfl (evs_cons (.of rfl) (evs_cons (.of rfl) evs_nil)) rfl (few20_any c a cap ua ucap oa oc l hol B _ I hC hO _ hS) ?_)
 clear hS
 rintro _ w ⟨rfl, hS⟩
 refine .run 1 rfl trivial (.nil (.seq (.seq (.region (.run 3 rfl trivial (.gval rfl rfl (fun hg1 => (.move (.of rfl))) rfl (.gval rfl rfl (fun hg1 => (.len (.gd hg1 rfl) Tryz.underlying9)) rfl (.gval rfl rfl (fun hg1 => (.gtr (.gd hg1 rfl) (.of rfl))) rfl (.val (.por (.of rfl) (.of rfl) (.of rfl)) rfl (.run 1 rfl trivial (.gval rfl rfl (fun hg1 => (.move (.of rfl))) rfl (.gval rfl rfl (fun hg1 => (.len (.gd hg1 rfl) Tryz.underlying9)) rfl (.gval rfl rfl (fun hg1 => (.gtr (.gd hg1 rfl) (.of rfl))) rfl (.val (.por (.of rfl) (.of rfl) (.of rfl)) rfl (.run 1 rfl trivial (.gval rfl rfl (fun hg1 => (.move (.of rfl))) rfl (.gval rfl rfl (fun hg1 => (.len (.gd hg1 rfl) Tryz.underlying9)) rfl (.gval rfl rfl (fun hg1 => (.gtr (.gd hg1 rfl) (.of rfl))) rfl (.val (.por (.of rfl) (.of rfl) (.of rfl)) rfl (.nil ?_))))))))))))))))))))
 refine WC.cond rfl (fun hb44 => ?_) (fun hb44 => ?_)
 ·
  have hc44 := hb44; try simp only [Gk.cs0] at hc44
  refine .seq (.region (.run 2 rfl trivial (.nil (.ret (ret1 Tryz.results8 rfl ?_)))))
  exact ⟨_, rfl, rfl, I, Le.refl _, hS.drop (k := 0) rfl⟩
 have hc44 := hb44; try simp only [Gk.cs0] at hc44
 refine .skip (.seq ?_)
 have hf : few20 c l = true := by
  have h := hb44
  simp at h
  exact h.1.1.1
 have hlen : user.length ≤ 80 ∧ pw.length ≤ 80 ∧ other.length ≤ 80 := by
  have h := hb44
  simp at h
  omega
 refine .region ?_
 refine WL.val (.lds (vs := cfCells c a cap ua ucap) (.of rfl) hS (k := 0) rfl Tryz.isAgg34 Tryz.sizeOf34 rfl (fun j v hj => by rw [Nat.zero_add]; exact hj)) rfl ?_
 refine .run 1 rfl trivial (.call Tryz.func36 rfl (evs_cons (.of rfl) (evs_cons (.of rfl) evs_nil)) rfl (walked_any c a cap ua ucap oa oc l hol hf hfit B _ I (hK) (hP) (hC) (hO) _ hS) ?_)
 clear hS
 rintro _ w ⟨J, pv, dv, hJ, rfl, hcs⟩
 refine .run 5 rfl trivial (.nil (.seq (.seq (.region (.run 1 rfl trivial (.val (.eqp (.of rfl) (.of rfl) Tryz.underlying39) rfl (.nil ?_)))))))
 refine WC.cond rfl (fun hb53 => ?_) (fun hb53 => ?_)
 ·
  have hc53 := hb53; try simp only [Gk.cs0] at hc53
  refine .seq (.region (.run 2 rfl trivial (.nil (.ret (ret1 Tryz.results8 rfl ?_)))))
  rcases hcs with ⟨_, rfl, hS⟩ | ⟨_, p, D, _, _, _, _, h9, _⟩
  ·exact ⟨_, rfl, rfl, J, hJ, hS.drop (k := 0) rfl⟩
  ·exfalso; rw [h9] at hb53; cases hb53
 have hc53 := hb53; try simp only [Gk.cs0] at hc53
 refine .skip (.seq (.seq (.region (.run 1 rfl trivial (.nil (.block ?_))))))
 rcases hcs with ⟨_, h9, _⟩ | ⟨hz, p, D, hD, hlo, hus, hps, hpv, hI, hS⟩
 ·exfalso; rw [h9] at hb53; cases hb53
 subst hpv
 have hwk := walkW_ok (lo := p.lo) (us := p.us) (ps := p.ps) hf hfit
 generalize hs9 : walkW p.lo p.us p.ps (w0 c) l = s at hwk hS
 obtain ⟨va, vc, hdv, hvc, _⟩ := hS.vecSlice (k := 0) rfl
 subst hdv
 have hnl := hwk.nl
 refine .loop (σ := Wd × Nat) (fun ⟨ω, i⟩ => [(2, S user), (3, S pw), (4, S other), (11, .bool true), (13, ptr p.wb 0), (14, .slice va s.2.length vc), (15, I64 (i : Nat))]) (fun ⟨ω, i⟩ w => i ≤ s.2.length ∧ WdOk ω ∧ Sat B w J (Vec 9 1 (.slice va s.2.length vc) s.2.length (s.2.map S) :: wdA p ω :: blk b5 (cfCells c a cap ua ucap) 34 :: As)) (fun ⟨ω, i⟩ => s.2.length - i) (s.1, 0) ⟨rfl, rfl, rfl, rfl, rfl, rfl, rfl, trivial⟩ ⟨Nat.zero_le _, hwk.ok, hS⟩ ?_
 rintro ⟨ω, i⟩ w ⟨hi, hω, hS⟩
 change WC _ _ _ _ [(2, S user), (3, S pw), (4, S other), (11, .bool true), (13, ptr p.wb 0), (14, .slice va s.2.length vc), (15, I64 (i : Nat))] w
 refine .seq (.seq (.region (.run 4 rfl ⟨⟨_, Tryz.underlying41⟩, trivial⟩ (.nil ?_))))
 refine WC.cond rfl (fun hb58 => ?_) (fun hb58 => ?_)
 ·
  have hc58 := hb58; try simp only [Gk.cs0] at hc58
  refine .skip (.seq (.block (.seq ?_)))
  obtain ⟨x, hx0⟩ : ∃ x, s.2[i]? = some x := ⟨_, List.getElem?_eq_getElem (by omega)⟩
  obtain ⟨pp, rfl, hc9⟩ := rows_own (cells := tCells) (s := 1) (fun _ => rfl) hS (k := 0) (by rw [rowsT]; rfl) i x hx0
  have hc0 := hc9 0 _ rfl
  refine .region (.run 3 rfl trivial ?_)
  first | refine WL.val (.indexAddr (.of rfl) (.of rfl) (by omega) (by omega) Tryz.underlying41 Tryz.sizeOf9) rfl ?_ | refine WL.val (.indexAddrI (.of rfl) (.of rfl) (by omega) (by omega) Tryz.underlying41 Tryz.sizeOf9) rfl ?_
  refine .val (v := S x) (.ld1 (.of rfl) (by simpa [Addr.add_add] using hc0) Tryz.isAgg9) rfl (.call Tryz.func21 rfl (evs_cons (.of rfl) (evs_cons (.of rfl) (evs_cons (.of rfl) evs_nil))) rfl (Alive_any x 6 p ω hω B _ J _ (hS.pick 1 rfl)) ?_)
  clear hS
  rintro _ w ⟨rfl, hS⟩
  try dsimp only [List.eraseIdx] at hS
  refine .run 3 rfl trivial (.allocA (cs := [_, _, _, _, _, _, _, _, _, _]) hS Tryz.zeroValue45 rfl ?_)
  clear hS; intro b16 w hS
  first | refine WL.stA hS (k := 0) rfl (.of rfl) (.of rfl) rfl Tryz.sizeOf45 rfl (by simp) ?_ | refine WL.stA hS (k := 1) rfl (.of rfl) (.of rfl) rfl Tryz.sizeOf45 rfl (by simp) ?_ | refine WL.stA hS (k := 2) rfl (.of rfl) (.of rfl) rfl Tryz.sizeOf45 rfl (by simp) ?_ | refine WL.stA hS (k := 3) rfl (.of rfl) (.of rfl) rfl Tryz.sizeOf45 rfl (by simp) ?_
  clear hS; intro w hS; try dsimp only [List.set] at hS
  try simp only [List.take_zero, List.nil_append, List.append_nil, List.drop_succ_cons, List.drop_zero, List.drop_nil, Nat.zero_add] at hS
  refine .run 1 rfl trivial (.nil (.seq (.seq (.region (.run 2 rfl trivial (.nil ?_))))))
  refine WC.cond rfl (fun hb71 => ?_) (fun hb71 => ?_)
  ·
   have hc71 := hb71; try simp only [Gk.cs0] at hc71
   refine .exit (.region (.run 3 rfl ⟨⟨by omega, by omega⟩, trivial⟩ (.nil ?_)))
   refine ⟨(ω, i + 1), ⟨rfl, rfl, rfl, rfl, rfl, rfl, rfl, trivial⟩, ⟨by (try dsimp only); omega, hω, ((((hS.pick 3 rfl).pick 2 rfl).pick 3 rfl).drop (k := 3) rfl)⟩, by (try dsimp only); omega⟩
  have hc71 := hb71; try simp only [Gk.cs0] at hc71
  refine .skip (.seq ?_)
  have hE9 : RowsW w tCells 1 (some pp) s.2 := by first | exact rows_own (cells := tCells) (s := 1) (fun _ => rfl) hS (k := 0) (by rw [rowsT]; rfl) | exact rows_own (cells := tCells) (s := 1) (fun _ => rfl) hS (k := 1) (by rw [rowsT]; rfl) | exact rows_own (cells := tCells) (s := 1) (fun _ => rfl) hS (k := 2) (by rw [rowsT]; rfl) | exact rows_own (cells := tCells) (s := 1) (fun _ => rfl) hS (k := 3) (by rw [rowsT]; rfl) | exact rows_own (cells := tCells) (s := 1) (fun _ => rfl) hS (k := 4) (by rw [rowsT]; rfl)
  obtain ⟨pq, hpq, hc9⟩ := hE9 i x hx0
  cases hpq
  have hc0 := hc9 0 _ rfl
  refine .region (.run 3 rfl trivial ?_)
  first | refine WL.val (.indexAddr (.of rfl) (.of rfl) (by omega) (by omega) Tryz.underlying41 Tryz.sizeOf9) rfl ?_ | refine WL.val (.indexAddrI (.of rfl) (.of rfl) (by omega) (by omega) Tryz.underlying41 Tryz.sizeOf9) rfl ?_
  refine .val (v := S x) (.ld1 (.of rfl) (by simpa [Addr.add_add] using hc0) Tryz.isAgg9) rfl (.run 2 rfl trivial (.call Tryz.func37 rfl (evs_cons (.of rfl) (evs_cons (.of rfl) (evs_cons (.of rfl) (evs_cons (.of rfl) evs_nil)))) rfl (Login_any x user pw (by omega) p ω hω B _ J hI _ (hS.pick 1 rfl)) ?_))
  clear hS
  rintro _ w ⟨rfl, hS⟩
  try dsimp only [List.eraseIdx] at hS
  refine .run 5 rfl trivial (.nil (.seq (.seq (.region (.run 2 rfl trivial (.nil ?_))))))
  refine WC.cond rfl (fun hb84 => ?_) (fun hb84 => ?_)
  ·
   have hc84 := hb84; try simp only [Gk.cs0] at hc84
   refine .seq ?_
   have hE9 : RowsW w tCells 1 (some pp) s.2 := by first | exact rows_own (cells := tCells) (s := 1) (fun _ => rfl) hS (k := 0) (by rw [rowsT]; rfl) | exact rows_own (cells := tCells) (s := 1) (fun _ => rfl) hS (k := 1) (by rw [rowsT]; rfl) | exact rows_own (cells := tCells) (s := 1) (fun _ => rfl) hS (k := 2) (by rw [rowsT]; rfl) | exact rows_own (cells := tCells) (s := 1) (fun _ => rfl) hS (k := 3) (by rw [rowsT]; rfl) | exact rows_own (cells := tCells) (s := 1) (fun _ => rfl) hS (k := 4) (by rw [rowsT]; rfl)
   obtain ⟨pq, hpq, hc9⟩ := hE9 i x hx0
   cases hpq
   have hc0 := hc9 0 _ rfl
   refine .region (.run 3 rfl trivial ?_)
   first | refine WL.val (.indexAddr (.of rfl) (.of rfl) (by omega) (by omega) Tryz.underlying41 Tryz.sizeOf9) rfl ?_ | refine WL.val (.indexAddrI (.of rfl) (.of rfl) (by omega) (by omega) Tryz.underlying41 Tryz.sizeOf9) rfl ?_
   refine .val (v := S x) (.ld1 (.of rfl) (by simpa [Addr.add_add] using hc0) Tryz.isAgg9) rfl (.call Tryz.func21 rfl (evs_cons (.of rfl) (evs_cons (.of rfl) (evs_cons (.of rfl) evs_nil))) rfl (Alive_any x 6 p (loginW p.us p.ps ω x user pw).2 (loginW_ok hω _ _ _) B _ J _ hS) ?_)
   clear hS
   rintro _ w ⟨rfl, hS⟩
   try dsimp only [List.eraseIdx] at hS
   refine .run 3 rfl trivial (.allocA (cs := [_, _, _, _, _, _, _, _, _, _]) hS Tryz.zeroValue45 rfl ?_)
   clear hS; intro b20 w hS
   first | refine WL.stA hS (k := 0) rfl (.of rfl) (.of rfl) rfl Tryz.sizeOf45 rfl (by simp) ?_ | refine WL.stA hS (k := 1) rfl (.of rfl) (.of rfl) rfl Tryz.sizeOf45 rfl (by simp) ?_ | refine WL.stA hS (k := 2) rfl (.of rfl) (.of rfl) rfl Tryz.sizeOf45 rfl (by simp) ?_ | refine WL.stA hS (k := 3) rfl (.of rfl) (.of rfl) rfl Tryz.sizeOf45 rfl (by simp) ?_ | refine WL.stA hS (k := 4) rfl (.of rfl) (.of rfl) rfl Tryz.sizeOf45 rfl (by simp) ?_
   clear hS; intro w hS; try dsimp only [List.set] at hS
   try simp only [List.take_zero, List.nil_append, List.append_nil, List.drop_succ_cons, List.drop_zero, List.drop_nil, Nat.zero_add] at hS
   refine .run 1 rfl trivial (.nil (.seq (.seq (.region (.run 2 rfl trivial (.nil ?_))))))
   refine WC.cond rfl (fun hb95 => ?_) (fun hb95 => ?_)
   ·
    have hc95 := hb95; try simp only [Gk.cs0] at hc95
    refine .seq (.region (.run 1 rfl trivial (.nil (.ret (ret1 Tryz.results8 rfl ?_)))))
    exfalso
    rw [login_inside (by simpa using hb71) (by have h := hb84; simp at h; omega)] at hb95
    cases hb95
   have hc95 := hb95; try simp only [Gk.cs0] at hc95
   refine .skip (.exit (.region (.run 3 rfl ⟨⟨by omega, by omega⟩, trivial⟩ (.nil ?_))))
   refine ⟨((loginW p.us p.ps ω x user pw).2, i + 1), ⟨rfl, rfl, rfl, rfl, rfl, rfl, rfl, trivial⟩, ⟨by (try dsimp only); omega, (loginW_ok hω _ _ _), (((((hS.pick 4 rfl).pick 2 rfl).pick 4 rfl).drop (k := 3) rfl).drop (k := 3) rfl)⟩, by (try dsimp only); omega⟩
  have hc84 := hb84; try simp only [Gk.cs0] at hc84
  refine .skip (.seq ?_)
  have hE9 : RowsW w tCells 1 (some pp) s.2 := by first | exact rows_own (cells := tCells) (s := 1) (fun _ => rfl) hS (k := 0) (by rw [rowsT]; rfl) | exact rows_own (cells := tCells) (s := 1) (fun _ => rfl) hS (k := 1) (by rw [rowsT]; rfl) | exact rows_own (cells := tCells) (s := 1) (fun _ => rfl) hS (k := 2) (by rw [rowsT]; rfl) | exact rows_own (cells := tCells) (s := 1) (fun _ => rfl) hS (k := 3) (by rw [rowsT]; rfl) | exact rows_own (cells := tCells) (s := 1) (fun _ => rfl) hS (k := 4) (by rw [rowsT]; rfl)
  obtain ⟨pq, hpq, hc9⟩ := hE9 i x hx0
  cases hpq
  have hc0 := hc9 0 _ rfl
  refine .region (.run 3 rfl trivial ?_)
  first | refine WL.val (.indexAddr (.of rfl) (.of rfl) (by omega) (by omega) Tryz.underlying41 Tryz.sizeOf9) rfl ?_ | refine WL.val (.indexAddrI (.of rfl) (.of rfl) (by omega) (by omega) Tryz.underlying41 Tryz.sizeOf9) rfl ?_
  refine .val (v := S x) (.ld1 (.of rfl) (by simpa [Addr.add_add] using hc0) Tryz.isAgg9) rfl (.run 2 rfl trivial (.call Tryz.func37 rfl (evs_cons (.of rfl) (evs_cons (.of rfl) (evs_cons (.of rfl) (evs_cons (.of rfl) evs_nil)))) rfl (Login_any x user other (by omega) p (loginW p.us p.ps ω x user pw).2 (loginW_ok hω _ _ _) B _ J hI _ hS) ?_))
  clear hS
  rintro _ w ⟨rfl, hS⟩
  try dsimp only [List.eraseIdx] at hS
  refine .run 5 rfl trivial (.nil (.seq (.region (.run 3 rfl trivial (.gval rfl rfl (fun hg1 => (.move (.of rfl))) rfl (.gval rfl rfl (fun hg1 => (.neq (.gd hg1 rfl) (.of rfl))) rfl (.val (.pand (.of rfl) (.of rfl) (.of rfl)) rfl (.run 1 rfl trivial (.gval rfl rfl (fun hg1 => (.move (.of rfl))) rfl (.gval rfl rfl (fun hg1 => (.neq (.gd hg1 rfl) (.of rfl))) rfl (.val (.por (.of rfl) (.of rfl) (.of rfl)) rfl (.nil ?_))))))))))))
  refine WC.cond rfl (fun hb116 => ?_) (fun hb116 => ?_)
  ·
   have hc116 := hb116; try simp only [Gk.cs0] at hc116
   refine .seq (.region (.run 1 rfl trivial (.nil (.ret (ret1 Tryz.results8 rfl ?_)))))
   exfalso
   have h39 : (loginW p.us p.ps ω x user pw).1.2 ≠ 39 := by
    intro h
    have h8 := hb84
    rw [h] at h8; cases h8
   obtain ⟨k1, k2⟩ := login_done (us := p.us) (user := user) (pw := pw) (other := other) (by simpa using hb71) h39
   rw [k2] at hb116
   rcases k1 with k1 | k1 <;> rw [k1] at hb116 <;> exact absurd hb116 (by decide)
  have hc116 := hb116; try simp only [Gk.cs0] at hc116
  refine .skip (.region (.run 3 rfl ⟨⟨by omega, by omega⟩, trivial⟩ (.nil ?_)))
  refine ⟨((loginW p.us p.ps (loginW p.us p.ps ω x user pw).2 x user other).2, i + 1), ⟨rfl, rfl, rfl, rfl, rfl, rfl, rfl, trivial⟩, ⟨by (try dsimp only); omega, (loginW_ok (loginW_ok hω _ _ _) _ _ _), ((((hS.pick 3 rfl).pick 1 rfl).pick 3 rfl).drop (k := 3) rfl)⟩, by (try dsimp only); omega⟩
 have hc58 := hb58; try simp only [Gk.cs0] at hc58
 refine .exit (.seq (.region (.run 2 rfl trivial (.nil (.ret (ret1 Tryz.results8 rfl ?_))))))
 exact ⟨_, rfl, rfl, J, hJ, ((hS.drop (k := 0) rfl).drop (k := 0) rfl).drop (k := 0) rfl⟩
end Go.Proofs.YtadhiihnnkcagaaGreatDoor
namespace Gk
set_option linter.unusedVariables false
set_option linter.unusedSimpArgs false
open Go Go.RowKit Go.WideShapes Go.ChangeShapes
section
variable {H : Type} {enc : TypeId × Value → H}
def WitT (enc : TypeId × Value → H) (a : Assume) (C : Checked) (os : Os) (f : FuncId) (fn : Func) (s : ChangeSpec) (conds : List PathCond) (apart : Bool) (X : World → Array Value → Prop) : Prop :=
  ∃ (w : World) (tape : Tape) (i : Input), w.os = os ∧ (w.forCall tape i).Shaped C.prog ∧ i.vars = [] ∧ Input.okWide C.prog (w.forCall tape i) .any w.heap.size f i ∧
   ((s.pre enc C.prog fn conds apart (w.forCall tape i).memory i.args ∧ X (w.forCall tape i).memory i.args) ∧ sizedMet enc C.prog fn (OpenSpec.ofChange s) apart (w.forCall tape i).memory i.args) ∧ a.holds C.prog (lone (Frame.enter C.prog f i.args .normal) [] (w.forCall tape i))
theorem returns_and_shaped {a : Assume} {C : Checked} {os : Os} {f : FuncId} {fn : Func} {s : ChangeSpec} {conds : List PathCond} {apart fresh handsOn again : Bool} {X : World → Array Value → Prop}
  (hX : ∀ (w w' : World) (args : Array Value), w.heap = w'.heap → X w args → X w' args)
  (own : ownKnob C.prog.godebug = none) (started : os.Started) (noInit : C.prog.inits.idxOf? f = none) (hfn : C.prog.funcs[f]? = some fn)
  (witness : WitT enc a C os f fn s conds apart X)
  (contract : ∀ (W : World) (base : Nat) (args : Array Value) (ds gs : List (DataW H)) (before : List MemPlace),
   (∀ (j : Nat) t v, fn.params[j]? = some t → args[j]? = some v → Value.okWide C.prog W .any base t v) →
   DataW.Whole enc C.prog fn.params.toList s.vars apart W args.toList ds gs before → X W args → W.ShapedOpen C.prog →
   Calls C.prog f args W fun e W' => ∃ v, e = .returned v ∧ s.post enc C.prog fn apart fresh handsOn again W args v W') :
  ReturnsInHanded a C os f .any (fun w args => (s.pre enc C.prog fn conds apart w args ∧ X w args) ∧ sizedMet enc C.prog fn (OpenSpec.ofChange s) apart w args) (s.post enc C.prog fn apart fresh handsOn again) := by
 refine returnsInHanded_of_calls own started noInit witness ?_
 intro w tape i _ hsh _ hok hpre _
 obtain ⟨_, _, _, fn', hfn', _, _, _, _, hval⟩ := hok
 have e : fn' = fn := Option.some.inj (hfn'.symm.trans hfn)
 subst e
 obtain ⟨⟨⟨ds, gs, before, hw, hc⟩, hx⟩, hz⟩ := hpre
 have hw' := DataW.Whole.of_heap (w' := w.forCall tape i) (by rfl) hw
 refine (contract (w.forCall tape i) w.heap.size i.args ds gs before hval hw' (hX _ _ _ (by rfl) hx) hsh).mono fun e W' ⟨v, he, hp⟩ => ?_
 subst he
 exact ChangeSpec.post_blind hp
theorem returns_and_shapedW {a : Assume} {C : Checked} {os : Os} {f : FuncId} {fn : Func} {s : ChangeSpec} {conds : List PathCond} {apart fresh handsOn again : Bool} {X : World → Array Value → Prop}
  (hX : ∀ (w w' : World) (args : Array Value), w.heap = w'.heap → X w args → X w' args)
  (own : ownKnob C.prog.godebug = none) (started : os.Started) (noInit : C.prog.inits.idxOf? f = none) (hfn : C.prog.funcs[f]? = some fn)
  (witness : WitT enc a C os f fn s conds apart X)
  (contract : ∀ (W : World) (base : Nat) (args : Array Value) (ds gs : List (DataW H)) (before : List MemPlace),
   (∀ (j : Nat) t v, fn.params[j]? = some t → args[j]? = some v → Value.okWide C.prog W .any base t v) →
   DataW.Whole enc C.prog fn.params.toList s.vars apart W args.toList ds gs before → X W args → W.ShapedOpen C.prog → (DataW.weightsEach C.prog (fn.params.toList ++ s.plain.varTypes C.prog) (ds ++ gs)).all (· ≤ reachBytes) = true →
   Calls C.prog f args W fun e W' => ∃ v, e = .returned v ∧ s.post enc C.prog fn apart fresh handsOn again W args v W') :
  ReturnsInHanded a C os f .any (fun w args => (s.pre enc C.prog fn conds apart w args ∧ X w args) ∧ sizedMet enc C.prog fn (OpenSpec.ofChange s) apart w args) (s.post enc C.prog fn apart fresh handsOn again) := by
 refine returnsInHanded_of_calls own started noInit witness ?_
 intro w tape i _ hsh _ hok hpre _
 obtain ⟨_, _, _, fn', hfn', _, _, _, _, hval⟩ := hok
 have e : fn' = fn := Option.some.inj (hfn'.symm.trans hfn)
 subst e
 obtain ⟨⟨⟨ds, gs, before, hw, hc⟩, hx⟩, hz⟩ := hpre
 have hw' := DataW.Whole.of_heap (w' := w.forCall tape i) (by rfl) hw
 refine (contract (w.forCall tape i) w.heap.size i.args ds gs before hval hw' (hX _ _ _ (by rfl) hx) hsh (hz.weights hw)).mono fun e W' ⟨v, he, hp⟩ => ?_
 subst he
 exact ChangeSpec.post_blind hp
end
section
variable {P : Program} {W : World}
theorem tabIs_of_reads {name : String} {k : IntKind} {zs : List Int} {g : Nat} {t e : TypeId} {n : Nat}
  (hg : P.globalNamed name = some g) (hty : (P.globals[g]?).map (·.type) = some t) (ht : P.underlying t = some (.array n e)) (he : P.underlying e = some (.int k)) (hce : P.cellsOf e = 1) (hct : P.cellsOf t = n)
  (h : Lib.VarReads P W name (Lib.tabData k zs)) : Lib.TabIs P W name k zs := by
 obtain ⟨g', t', cs, fuel, p, hg', ht', hvar, hd⟩ := h
 obtain rfl := Option.some.inj (hg.symm.trans hg')
 obtain rfl := Option.some.inj (hty.symm.trans ht')
 unfold Lib.TabIs
 rw [hvar, ← Lib.cells_of_tab ht he hce hct hd]
theorem tab_at {name : String} {k : IntKind} {zs : List Int} {g : Nat} (hg : P.globalNamed name = some g) (h : Lib.TabIs P W name k zs) (h0 : 0 < zs.length) : At (im0 W) (ad g 0) (zs.map fun z => .int k z) := by
 refine at_im0 (by rw [List.length_map]; exact h0) fun j v hj => ?_
 rw [List.getElem?_map] at hj
 cases hz : zs[j]? with
 | none => rw [hz] at hj; cases hj
 | some z =>
  rw [hz] at hj
  have hjl := (List.getElem?_eq_some_iff.1 hz).1
  have hc := h.cell hg j hjl
  rw [add_ad, Nat.zero_add, hc, List.getD_eq_getElem?_getD, hz, ← hj]
  rfl
variable {B w : World} {As : List Assn}
theorem block_sat {b : Nat} {o : Obj} (h : W.heap[b]? = some o) (hS : Sat B w (im0 W) As) : w.heap[b]? = some o := by
 obtain ⟨_, _, hg⟩ := hS
 exact hg.imm b o h
theorem tab_sat {name : String} {k : IntKind} {zs : List Int} (h : Lib.TabIs P W name k zs) (hS : Sat B w (im0 W) As) : Lib.TabIs P w name k zs := by
 unfold Lib.TabIs World.var? at h ⊢
 cases hg : P.globalNamed name with
 | none => rw [hg] at h; cases h
 | some g =>
  rw [hg] at h
  simp only [Option.bind_some] at h ⊢
  cases hb : W.heap[g]? with
  | none => rw [hb] at h; cases h
  | some o =>
   rw [block_sat hb hS]
   rw [hb] at h
   exact h
theorem cell_sat {a : Addr} {v : Value} (h : W.cell? a = some v) (hS : Sat B w (im0 W) As) : w.cell? a = some v := by
 unfold World.cell? at h ⊢
 cases hb : W.heap[a.block]? with
 | none => rw [hb] at h; cases h
 | some o => rw [block_sat hb hS]; rw [hb] at h; exact h
end
end Gk
namespace Go.Proofs.YtadhiihnnkcagaaGreatDoor
open Gk Pc
set_option linter.unusedVariables false
theorem digits_tab : Rows.laid_matricula_pct_digits (H := Unit) = Lib.tabData .u8 (HIGH.map fun c => (c.toNat : Int)) := by kernel_rfl
theorem pow_tab : Rows.laid_internal_strconv_uint64pow10 (H := Unit) = Lib.tabData .u64 Lib.pow10Tab := by kernel_rfl
def textData {H : Type} (zs : List (List UInt8)) : DataW H := .agg (zs.map fun z => .lit (.string z))
theorem pre_tab : Rows.laid_matricula_ticket_prefixes (H := Unit) = textData PREV := by kernel_rfl
theorem cells_of_texts {H : Type} {enc : TypeId × Value → H} {P : Program} {w : World} {base : Nat} {sp : Nat → Bool} {held : Bool} {fuel : Nat} {t e : TypeId} {n : Nat} {cs : List Value} {zs : List (List UInt8)} {p : List MemPlace}
  (ht : P.underlying t = some (.array n e)) (he : P.underlying e = some .string) (hce : P.cellsOf e = 1) (hct : P.cellsOf t = n)
  (h : DataW.trod enc P w base sp held fuel t cs = some (textData zs, p)) : cs = zs.map S := by
 cases fuel with
 | zero => simp [DataW.trod] at h
 | succ fuel =>
  simp only [DataW.trod, ht, hce, hct, Nat.mul_one] at h
  split at h
  ·rename_i hl
   obtain ⟨xs, hm, hx⟩ := Option.map_eq_some_iff.1 h
   have hxs : xs.map (·.1) = zs.map fun z => (DataW.lit (.string z) : DataW H) := by
    have := congrArg Prod.fst hx
    simpa [textData] using this
   have hxl : xs.length = n := by simpa using Lib.mapM_length hm
   have hzl : zs.length = n := by
    have := congrArg List.length hxs
    simp at this
    omega
   apply List.ext_getElem?
   intro i
   by_cases hi : i < n
   ·obtain ⟨b, hb, hf⟩ := Lib.mapM_at hm i i (by simp [hi])
    obtain ⟨z, hc, rfl, _⟩ := DataW.trod_string he hf
    have h1 : cs[i]? = some (.string z) := by
     have := congrArg (·[0]?) hc
     simpa [List.getElem?_take, List.getElem?_drop] using this
    have h2 : (xs.map (·.1))[i]? = some (DataW.lit (.string z.data.toList) : DataW H) := by simp [hb]
    rw [hxs] at h2
    simp only [List.getElem?_map, Option.map_eq_some_iff, DataW.lit.injEq, Lit.string.injEq] at h2
    obtain ⟨z', hz', e'⟩ := h2
    rw [h1, List.getElem?_map, hz', e']
    rfl
   ·rw [List.getElem?_eq_none (by omega), List.getElem?_eq_none (by simp; omega)]
  ·cases h
theorem pre_at {W : World} (h : Lib.VarReads Tryz.prog W "matricula/ticket.prefixes" Rows.laid_matricula_ticket_prefixes) : PreAt (im0 W) := by
 rw [pre_tab] at h
 obtain ⟨g', t', cs, fuel, p, hg', ht', hvar, hd⟩ := h
 obtain rfl := Option.some.inj ((show Tryz.prog.globalNamed "matricula/ticket.prefixes" = some 0 by kernel_rfl).symm.trans hg')
 obtain rfl := Option.some.inj ((show (Tryz.prog.globals[0]?).map (·.type) = some 208 by kernel_rfl).symm.trans ht')
 have hcs := cells_of_texts Tryz.underlying208 Tryz.underlying9 (by kernel_rfl) (by kernel_rfl) hd
 refine at_im0 (by decide) fun j v hj => ?_
 have h2 := World.var?_cell hg' hvar j
 rw [add_ad, Nat.zero_add]
 rw [← Array.getElem?_toList, hcs, hj] at h2
 exact h2
theorem known_of {W : World} (h1 : Lib.VarReads Tryz.prog W "matricula/pct.digits" Rows.laid_matricula_pct_digits) (h2 : Lib.VarReads Tryz.prog W "internal/strconv.uint64pow10" Rows.laid_internal_strconv_uint64pow10) (h3 : Lib.VarReads Tryz.prog W "matricula/ticket.prefixes" Rows.laid_matricula_ticket_prefixes) (hsh : W.ShapedOpen Tryz.prog) : Known (im0 W) ∧ PreAt (im0 W) := by
 refine ⟨?_, pre_at h3⟩
 rw [digits_tab] at h1
 rw [pow_tab] at h2
 have t1 := tabIs_of_reads (g := 3) (by kernel_rfl) (by kernel_rfl) Tryz.underlying279 Tryz.underlying5 (by kernel_rfl) (by kernel_rfl) h1
 have t2 := tabIs_of_reads (g := 4) (by kernel_rfl) (by kernel_rfl) Tryz.underlying296 Tryz.underlying118 (by kernel_rfl) (by kernel_rfl) h2
 refine ⟨tab_at (g := 3) (by kernel_rfl) t1 (by decide), fun B w As hS => tab_sat t2 hS, fun B w As hS => ?_⟩
 obtain ⟨m, hm⟩ := Go.Proofs.cell_of_shapedOpen_int (g := 2) (t := 3) (zero := #[.int .i64 0]) (k := .i64) hsh (by decide +kernel) (by kernel_rfl) (by kernel_rfl) (by kernel_rfl) (by kernel_rfl) Tryz.underlying3
 exact ⟨m, cell_sat hm hS⟩
end Go.Proofs.YtadhiihnnkcagaaGreatDoor
namespace Go.Proofs.YtadhiihnnkcagaaGreatDoor
open Gk Ul Pc Tk Tr Go.RowKit Go.WideShapes Go.ChangeShapes
set_option linter.unusedVariables false
set_option linter.unusedSimpArgs false
def akFit (q : Ak) : Prop := q.service.length ≤ maxLen ∧ q.cookie.length ≤ maxLen
set_option maxRecDepth 20000 in
theorem open_ask {H : Type} {enc : TypeId × Value → H} {W : World} {spare : Nat → Bool} {held : Bool} {fuel : Nat} {cs : List Value} {x : DataW H × List MemPlace} (h : DataW.trod enc Tryz.prog W 0 spare held fuel 95 cs = some x) : ∃ z : Ak, cs = akCells z ∧ akFit z := by
 obtain ⟨xs, n, _, _, hcl, hxl, hf⟩ := DataW.trod_struct Tryz.underlying95 h
 rw [show Tryz.prog.cellsOf 95 = 6 from by kernel_rfl] at hcl
 obtain ⟨y0, hy0⟩ : ∃ y, DataW.trod enc Tryz.prog W 0 spare held n 9 ((cs.drop 0).take (Tryz.prog.cellsOf 9)) = some y := ⟨_, (hf 0 _ rfl).trans (List.getElem?_eq_getElem (by rw [hxl]; decide))⟩
 rw [show Tryz.prog.cellsOf 9 = 1 from by kernel_rfl] at hy0
 obtain ⟨y1, hy1⟩ : ∃ y, DataW.trod enc Tryz.prog W 0 spare held n 9 ((cs.drop 1).take (Tryz.prog.cellsOf 9)) = some y := ⟨_, (hf 1 _ rfl).trans (List.getElem?_eq_getElem (by rw [hxl]; decide))⟩
 rw [show Tryz.prog.cellsOf 9 = 1 from by kernel_rfl] at hy1
 obtain ⟨y2, hy2⟩ : ∃ y, DataW.trod enc Tryz.prog W 0 spare held n 4 ((cs.drop 2).take (Tryz.prog.cellsOf 4)) = some y := ⟨_, (hf 2 _ rfl).trans (List.getElem?_eq_getElem (by rw [hxl]; decide))⟩
 rw [show Tryz.prog.cellsOf 4 = 1 from by kernel_rfl] at hy2
 obtain ⟨y3, hy3⟩ : ∃ y, DataW.trod enc Tryz.prog W 0 spare held n 4 ((cs.drop 3).take (Tryz.prog.cellsOf 4)) = some y := ⟨_, (hf 3 _ rfl).trans (List.getElem?_eq_getElem (by rw [hxl]; decide))⟩
 rw [show Tryz.prog.cellsOf 4 = 1 from by kernel_rfl] at hy3
 obtain ⟨y4, hy4⟩ : ∃ y, DataW.trod enc Tryz.prog W 0 spare held n 4 ((cs.drop 4).take (Tryz.prog.cellsOf 4)) = some y := ⟨_, (hf 4 _ rfl).trans (List.getElem?_eq_getElem (by rw [hxl]; decide))⟩
 rw [show Tryz.prog.cellsOf 4 = 1 from by kernel_rfl] at hy4
 obtain ⟨y5, hy5⟩ : ∃ y, DataW.trod enc Tryz.prog W 0 spare held n 4 ((cs.drop 5).take (Tryz.prog.cellsOf 4)) = some y := ⟨_, (hf 5 _ rfl).trans (List.getElem?_eq_getElem (by rw [hxl]; decide))⟩
 rw [show Tryz.prog.cellsOf 4 = 1 from by kernel_rfl] at hy5
 obtain ⟨v0, v1, v2, v3, v4, v5, rfl⟩ : ∃ v0 v1 v2 v3 v4 v5, cs = [v0, v1, v2, v3, v4, v5] := by
  match cs, hcl with
  | [v0, v1, v2, v3, v4, v5], _ => exact ⟨v0, v1, v2, v3, v4, v5, rfl⟩
 simp only [List.drop_succ_cons, List.drop_zero, List.take_succ_cons, List.take_zero] at hy0 hy1 hy2 hy3 hy4 hy5
 obtain ⟨z0, e0, _, w0⟩ := DataW.trod_string Tryz.underlying9 hy0
 obtain ⟨z1, e1, _, w1⟩ := DataW.trod_string Tryz.underlying9 hy1
 obtain ⟨z2, e2, _⟩ := DataW.trod_bool Tryz.underlying4 hy2
 obtain ⟨z3, e3, _⟩ := DataW.trod_bool Tryz.underlying4 hy3
 obtain ⟨z4, e4, _⟩ := DataW.trod_bool Tryz.underlying4 hy4
 obtain ⟨z5, e5, _⟩ := DataW.trod_bool Tryz.underlying4 hy5
 simp only [List.cons.injEq, and_true] at e0 e1 e2 e3 e4 e5
 subst e0 e1 e2 e3 e4 e5
 exact ⟨⟨z0.data.toList, z1.data.toList, z2, z3, z4, z5⟩, rfl, ⟨w0, w1⟩⟩
def wCells (d : Nat) : List Value := [U64 (d : Nat)]
theorem rowsW64 (l : List Nat) : rowsC wCells l = l.map fun d => U64 (d : Nat) := by
 unfold rowsC
 induction l with
 | nil => rfl
 | cons x l ih => rw [List.map_cons, List.flatten_cons, ih]; rfl
theorem open_word {H : Type} {enc : TypeId × Value → H} {W : World} {spare : Nat → Bool} {held : Bool} {fuel : Nat} {cs : List Value} {x : DataW H × List MemPlace} (h : DataW.trod enc Tryz.prog W 0 spare held fuel 118 cs = some x) : ∃ z : Nat, cs = wCells z ∧ z < 18446744073709551616 := by
 obtain ⟨z, e, _, w⟩ := DataW.trod_int Tryz.underlying118 h
 have w2 := w
 simp only [Lit.wf, Bool.and_eq_true, decide_eq_true_eq] at w2
 have h0 : (0 : Int) ≤ z := w2.1
 have h9 : z ≤ 18446744073709551615 := w2.2
 refine ⟨z.toNat, ?_, by omega⟩
 rw [e, wCells, Int.toNat_of_nonneg h0]
set_option maxRecDepth 20000 in
theorem open_op {H : Type} {enc : TypeId × Value → H} {W : World} {spare : Nat → Bool} {held : Bool} {fuel : Nat} {cs : List Value} {x : DataW H × List MemPlace} (h : DataW.trod enc Tryz.prog W 0 spare held fuel 97 cs = some x) : ∃ o : Op, OpAt (im0 W) o cs ∧ o.fits := by
 obtain ⟨xs, n, _, _, hcl, hxl, hf⟩ := DataW.trod_struct Tryz.underlying97 h
 rw [show Tryz.prog.cellsOf 97 = 23 from by kernel_rfl] at hcl
 obtain ⟨y0, hy0⟩ : ∃ y, DataW.trod enc Tryz.prog W 0 spare held n 3 ((cs.drop 0).take (Tryz.prog.cellsOf 3)) = some y := ⟨_, (hf 0 _ rfl).trans (List.getElem?_eq_getElem (by rw [hxl]; decide))⟩
 rw [show Tryz.prog.cellsOf 3 = 1 from by kernel_rfl] at hy0
 obtain ⟨y1, hy1⟩ : ∃ y, DataW.trod enc Tryz.prog W 0 spare held n 3 ((cs.drop 1).take (Tryz.prog.cellsOf 3)) = some y := ⟨_, (hf 1 _ rfl).trans (List.getElem?_eq_getElem (by rw [hxl]; decide))⟩
 rw [show Tryz.prog.cellsOf 3 = 1 from by kernel_rfl] at hy1
 obtain ⟨y2, hy2⟩ : ∃ y, DataW.trod enc Tryz.prog W 0 spare held n 81 ((cs.drop 2).take (Tryz.prog.cellsOf 81)) = some y := ⟨_, (hf 2 _ rfl).trans (List.getElem?_eq_getElem (by rw [hxl]; decide))⟩
 rw [show Tryz.prog.cellsOf 81 = 1 from by kernel_rfl] at hy2
 obtain ⟨y3, hy3⟩ : ∃ y, DataW.trod enc Tryz.prog W 0 spare held n 3 ((cs.drop 3).take (Tryz.prog.cellsOf 3)) = some y := ⟨_, (hf 3 _ rfl).trans (List.getElem?_eq_getElem (by rw [hxl]; decide))⟩
 rw [show Tryz.prog.cellsOf 3 = 1 from by kernel_rfl] at hy3
 obtain ⟨y4, hy4⟩ : ∃ y, DataW.trod enc Tryz.prog W 0 spare held n 9 ((cs.drop 4).take (Tryz.prog.cellsOf 9)) = some y := ⟨_, (hf 4 _ rfl).trans (List.getElem?_eq_getElem (by rw [hxl]; decide))⟩
 rw [show Tryz.prog.cellsOf 9 = 1 from by kernel_rfl] at hy4
 obtain ⟨y5, hy5⟩ : ∃ y, DataW.trod enc Tryz.prog W 0 spare held n 9 ((cs.drop 5).take (Tryz.prog.cellsOf 9)) = some y := ⟨_, (hf 5 _ rfl).trans (List.getElem?_eq_getElem (by rw [hxl]; decide))⟩
 rw [show Tryz.prog.cellsOf 9 = 1 from by kernel_rfl] at hy5
 obtain ⟨y6, hy6⟩ : ∃ y, DataW.trod enc Tryz.prog W 0 spare held n 4 ((cs.drop 6).take (Tryz.prog.cellsOf 4)) = some y := ⟨_, (hf 6 _ rfl).trans (List.getElem?_eq_getElem (by rw [hxl]; decide))⟩
 rw [show Tryz.prog.cellsOf 4 = 1 from by kernel_rfl] at hy6
 obtain ⟨y7, hy7⟩ : ∃ y, DataW.trod enc Tryz.prog W 0 spare held n 45 ((cs.drop 7).take (Tryz.prog.cellsOf 45)) = some y := ⟨_, (hf 7 _ rfl).trans (List.getElem?_eq_getElem (by rw [hxl]; decide))⟩
 rw [show Tryz.prog.cellsOf 45 = 10 from by kernel_rfl] at hy7
 obtain ⟨y8, hy8⟩ : ∃ y, DataW.trod enc Tryz.prog W 0 spare held n 95 ((cs.drop 17).take (Tryz.prog.cellsOf 95)) = some y := ⟨_, (hf 8 _ rfl).trans (List.getElem?_eq_getElem (by rw [hxl]; decide))⟩
 rw [show Tryz.prog.cellsOf 95 = 6 from by kernel_rfl] at hy8
 obtain ⟨v0, v1, v2, v3, v4, v5, v6, v7, v8, v9, v10, v11, v12, v13, v14, v15, v16, v17, v18, v19, v20, v21, v22, rfl⟩ : ∃ v0 v1 v2 v3 v4 v5 v6 v7 v8 v9 v10 v11 v12 v13 v14 v15 v16 v17 v18 v19 v20 v21 v22, cs = [v0, v1, v2, v3, v4, v5, v6, v7, v8, v9, v10, v11, v12, v13, v14, v15, v16, v17, v18, v19, v20, v21, v22] := by
  match cs, hcl with
  | [v0, v1, v2, v3, v4, v5, v6, v7, v8, v9, v10, v11, v12, v13, v14, v15, v16, v17, v18, v19, v20, v21, v22], _ => exact ⟨v0, v1, v2, v3, v4, v5, v6, v7, v8, v9, v10, v11, v12, v13, v14, v15, v16, v17, v18, v19, v20, v21, v22, rfl⟩
 simp only [List.drop_succ_cons, List.drop_zero, List.take_succ_cons, List.take_zero] at hy0 hy1 hy2 hy3 hy4 hy5 hy6 hy7 hy8
 obtain ⟨z0, e0, _, _⟩ := DataW.trod_int Tryz.underlying3 hy0
 obtain ⟨z1, e1, _, _⟩ := DataW.trod_int Tryz.underlying3 hy1
 obtain ⟨a, c, l, e2, h1, h2, h3, h4⟩ := open_flat (cells := wCells) (c := 1) (fit := fun z => z < 18446744073709551616) Tryz.underlying81 (by kernel_rfl) (by decide) (fun n cs y h => open_word h) hy2
 obtain ⟨z3, e3, _, _⟩ := DataW.trod_int Tryz.underlying3 hy3
 obtain ⟨z4, e4, _, w4⟩ := DataW.trod_string Tryz.underlying9 hy4
 obtain ⟨z5, e5, _, w5⟩ := DataW.trod_string Tryz.underlying9 hy5
 obtain ⟨z6, e6, _⟩ := DataW.trod_bool Tryz.underlying4 hy6
 obtain ⟨r, e7, _⟩ := open_rec hy7
 obtain ⟨q, e8, _⟩ := open_ask hy8
 unfold recCells at e7
 unfold akCells at e8
 simp only [List.cons.injEq, and_true] at e0 e1 e2 e3 e4 e5 e6 e7 e8
 subst e0 e1 e2 e3 e4 e5 e6
 obtain ⟨rfl, rfl, rfl, rfl, rfl, rfl, rfl, rfl, rfl, rfl⟩ := e7
 obtain ⟨rfl, rfl, rfl, rfl, rfl, rfl⟩ := e8
 exact ⟨⟨z0, z1, l, z3, z4.data.toList, z5.data.toList, z6, r, q⟩, ⟨a, c, rfl, h1, h2, by rw [← rowsW64]; exact h3⟩, ⟨h4, w4, w5⟩⟩
set_option maxRecDepth 20000 in
theorem open_ops {H : Type} {enc : TypeId × Value → H} {W : World} {spare : Nat → Bool} {held : Bool} {fuel : Nat} {cs : List Value} {x : DataW H × List MemPlace} (h : DataW.trod enc Tryz.prog W 0 spare held fuel 88 cs = some x) : ∃ (a : Option Addr) (cap : Nat) (l : List Op), cs = [.slice a l.length cap] ∧ l.length ≤ cap ∧ cap ≤ maxLen ∧ OpsAt (im0 W) a l ∧ ∀ o ∈ l, o.fits := by
 obtain ⟨a, cap, L, n, rfl, h1, h2, h3, h4, h5⟩ := open_rows (c := 23) Tryz.underlying88 (by kernel_rfl) (by decide) h
 have key : ∀ L : List (List Value), (∀ l ∈ L, ∃ y, DataW.trod enc Tryz.prog W 0 spare held n 97 l = some y) → ∃ l : List Op, L.length = l.length ∧ ∀ (i : Nat) (u : Op), l[i]? = some u → u.fits ∧ ∃ c, L[i]? = some c ∧ OpAt (im0 W) u c := by
  intro L
  induction L with
  | nil => intro _; exact ⟨[], rfl, fun i s h => by simp at h⟩
  | cons c L ih =>
   intro h
   obtain ⟨y, hy⟩ := h c (by simp)
   obtain ⟨s, hs, hf⟩ := open_op hy
   obtain ⟨l, e1, e2⟩ := ih (fun c hc => h c (by simp [hc]))
   refine ⟨s :: l, by simp [e1], fun i u hu => ?_⟩
   cases i with
   | zero => simp at hu; subst hu; exact ⟨hf, c, rfl, hs⟩
   | succ i => simpa using e2 i u (by simpa using hu)
 obtain ⟨l, e1, e2⟩ := key L h5
 refine ⟨a, cap, l, by rw [e1], by rw [← e1]; exact h1, h2, ⟨L, e1, h3, by rw [← e1]; exact h4, fun i u hu => (e2 i u hu).2⟩, fun u hu => ?_⟩
 obtain ⟨i, hi⟩ := List.mem_iff_getElem?.1 hu
 exact (e2 i u hi).1
theorem slice_weight {P : Program} {H : Type} {enc : TypeId × Value → H} {W : World} {spare : Nat → Bool} {held : Bool} {fuel : Nat} {t e : TypeId} {a : Option Addr} {len cap : Nat} {x : DataW H × List MemPlace} (ht : P.underlying t = some (.slice e)) (h : DataW.trod enc P W 0 spare held fuel t [.slice a len cap] = some x) (hw : (x.1.weights P t).all (· ≤ reachBytes) = true) : len * P.bytesOf e ≤ reachBytes := by
 rcases DataW.trod_slice ht h with ⟨e1, _⟩ | ⟨a, len', cap', elems, rest, n, _, e1, rfl, _, _, _, hlen, _⟩
 ·cases e1; rw [Nat.zero_mul]; exact Nat.zero_le _
 ·cases e1
  simp only [DataW.weights, ht, List.all_cons, Bool.and_eq_true, decide_eq_true_eq, List.length_map] at hw
  exact Nat.le_trans (Nat.mul_le_mul_right _ (by omega)) hw.1
end Go.Proofs.YtadhiihnnkcagaaGreatDoor
namespace Go.Proofs.YtadhiihnnkcagaaGreatDoor
open Gk Ul Pc Tk Tr
set_option linter.unusedVariables false
set_option linter.unusedSimpArgs false
theorem RecordsR_any (a b : Option Addr) (ca cb : Nat) (la lb : List Rec) (hla : la.length ≤ 9223372036854775807) (B w : World) (I : Im) (hA : RS I a 10 la.length (rowsC recCells la)) (hB : RS I b 10 lb.length (rowsC recCells lb)) (As : List Assn) (hS : Sat B w I As) :
  Calls Tryz.prog 28 [.slice a la.length ca, .slice b lb.length cb].toArray w (Ret fun v w' => v = .bool (decide (la = lb)) ∧ Sat B w' I As) := by
 refine calls Tryz.func28 rfl Tryz.ntmps28 rfl (.seq (.region (.run 1 rfl trivial (.nil (.seq (.seq (.region (.run 5 rfl ⟨⟨_, Tryz.underlying35⟩, ⟨_, Tryz.underlying35⟩, trivial⟩ (.nil ?_)))))))))
 refine WC.cond rfl (fun hb10 => ?_) (fun hb10 => ?_)
 ·
  have hc10 := hb10; try simp only [Gk.cs0] at hc10
  refine .seq (.region (.run 1 rfl trivial (.nil (.ret (ret1 Tryz.results28 rfl ?_)))))
  refine ⟨_, rfl, congrArg Value.bool (decide_eq_false fun e => ?_).symm, hS⟩
  subst e
  simp at hb10
 have hc10 := hb10; try simp only [Gk.cs0] at hc10
 refine .skip (.seq (.seq (.region (.run 1 rfl trivial (.nil (.block (.loop (σ := Nat) (fun i => [(0, .slice a la.length ca), (1, .slice b lb.length cb), (5, I64 (i : Nat))]) (fun i w => i ≤ la.length ∧ (∀ (j : Nat), j < i → la[j]? = lb[j]?) ∧ Sat B w I As) (fun i => la.length - i) 0 ⟨rfl, rfl, rfl, trivial⟩ ⟨Nat.zero_le _, fun _ h => absurd h (by omega), hS⟩ ?_)))))))
 rintro i w ⟨hi, hsm, hS⟩
 change WC _ _ _ _ [(0, .slice a la.length ca), (1, .slice b lb.length cb), (5, I64 (i : Nat))] w
 refine .seq (.seq (.region (.run 4 rfl ⟨⟨_, Tryz.underlying35⟩, trivial⟩ (.nil ?_))))
 refine WC.cond rfl (fun hb14 => ?_) (fun hb14 => ?_)
 ·
  have hc14 := hb14; try simp only [Gk.cs0] at hc14
  refine .skip (.seq (.block (.seq ?_)))
  obtain ⟨x, hx0⟩ : ∃ x, la[i]? = some x := ⟨_, List.getElem?_eq_getElem (by omega)⟩
  obtain ⟨y, hy0⟩ : ∃ y, lb[i]? = some y := ⟨_, List.getElem?_eq_getElem (by omega)⟩
  obtain ⟨p, hp9, hx⟩ := rs_at (cells := recCells) (s := 10) (fun _ => rfl) hA hx0
  obtain ⟨p2, hp8, hy⟩ := rs_at (cells := recCells) (s := 10) (fun _ => rfl) hB hy0
  subst hp9
  subst hp8
  refine .quiet (by kernel_rfl) (by kernel_rfl) hS (.val (fun w hS => (.move (.of rfl))) rfl (.val (fun w hS => (.move (.of rfl))) rfl ?_))
  refine WQ.val (fun w hS => (by first | exact .indexAddr (.of rfl) (.of rfl) (by omega) (by omega) Tryz.underlying35 Tryz.sizeOf45 | exact .indexAddrI (.of rfl) (.of rfl) (by omega) (by omega) Tryz.underlying35 Tryz.sizeOf45)) rfl ?_
  refine .val (fun w hS => .ldsI (.of rfl) hS hx Tryz.isAgg45 Tryz.sizeOf45 rfl (fun _ _ h => h)) rfl (.val (fun w hS => (.move (.of rfl))) rfl (.val (fun w hS => (.move (.of rfl))) rfl ?_))
  refine WQ.val (fun w hS => (by first | exact .indexAddr (.of rfl) (.of rfl) (by omega) (by omega) Tryz.underlying35 Tryz.sizeOf45 | exact .indexAddrI (.of rfl) (.of rfl) (by omega) (by omega) Tryz.underlying35 Tryz.sizeOf45)) rfl ?_
  refine .val (fun w hS => .ldsI (.of rfl) hS hy Tryz.isAgg45 Tryz.sizeOf45 rfl (fun _ _ h => h)) rfl (.val (fun w hS => Ex.neRec (r := x) (s := y) (.of rfl) (.of rfl)) rfl (.nil ?_))
  clear hS; intro w hS
  refine WC.cond rfl (fun hb25 => ?_) (fun hb25 => ?_)
  ·
   have hc25 := hb25; try simp only [Gk.cs0] at hc25
   refine .seq (.region (.run 1 rfl trivial (.nil (.ret (ret1 Tryz.results28 rfl ?_)))))
   refine ⟨_, rfl, congrArg Value.bool (decide_eq_false fun e => ?_).symm, hS⟩
   subst e
   rw [hx0] at hy0
   cases hy0
   simp at hb25
  have hc25 := hb25; try simp only [Gk.cs0] at hc25
  refine .skip (.region (.run 3 rfl ⟨⟨by omega, by omega⟩, trivial⟩ (.nil ?_)))
  refine ⟨i + 1, ⟨rfl, rfl, rfl, trivial⟩, ⟨by (try dsimp only); omega, fun j hj => ?_, hS⟩, by (try dsimp only); omega⟩
  rcases Nat.lt_or_ge j i with h1 | h1
  ·exact hsm j h1
  ·have e : j = i := by omega
   subst e
   rw [hx0, hy0, show x = y by simpa using hb25]
 have hc14 := hb14; try simp only [Gk.cs0] at hc14
 refine .exit (.seq (.region (.run 1 rfl trivial (.nil (.ret (ret1 Tryz.results28 rfl ?_))))))
 refine ⟨_, rfl, congrArg Value.bool (decide_eq_true ?_).symm, hS⟩
 refine List.ext_getElem? fun j => ?_
 rcases Nat.lt_or_ge j i with h1 | h1
 ·exact hsm j h1
 ·rw [List.getElem?_eq_none (by omega), List.getElem?_eq_none (by omega)]
end Go.Proofs.YtadhiihnnkcagaaGreatDoor
