/- Part 7 of what the proof stands on: W21t, W18x, W21u, W21v, W21w, W21x, Op21, W20a, W20b, W20c, W20d, W20e, W20g, Uid, Pw. -/
import Derived.Test.YtadhiihnnkcagaaGreatDoorM2PF
import Derived.KernelRfl
import Derived.Laws.StructEq
import Derived.OpenShut
namespace Go.Proofs.YtadhiihnnkcagaaGreatDoor
open Gk Ul Pc Tk Tr
set_option linter.unusedVariables false
set_option linter.unusedSimpArgs false
theorem Ex.sub3U {P : Program} {n : Nat} {L : Env} {w : World} {d : Option Nat} {ty t : TypeId} {pos : String} {af : Array Edge} {g : Option (Nat × Bool)} {x y z : Operand} {l : List UInt8} {i j : Int} (hx : Ev n L x (S l)) (hy : Ev n L y (U64 i)) (hz : Ev n L z (U64 j)) (h0 : 0 ≤ i) (h1 : i ≤ j) (h2 : j ≤ (l.length : Int)) (hT : P.underlying t = some .string) :
  Ex P n L w ⟨d, .slice t x (some y) (some z) none, ty, pos, af, g⟩ (S ((l.drop i.toNat).take (j.toNat - i.toNat))) w := fun a ha => by
 have h := run_slice_string (P := P) w t ⟨l.toArray⟩ .u64 .u64 i j hT h0 h1 h2
 rw [sub_str] at h
 simp [execOp, hx a ha, hy a ha, hz a ha, run_sliceAt_string w t _ _ _ _ hT, h]
def bigP (y : Pr) : Bool := decide ((80 : Int) < (y.1.length : Int)) || decide ((80 : Int) < (y.2.length : Int))
def bigU (u : Us) : Bool := (decide ((20 : Int) < (u.attrs.length : Int)) || decide ((80 : Int) < (u.name.length : Int))) || decide ((80 : Int) < (u.pw.length : Int))
def fewU1 (u : Us) : Bool := !bigU u && u.attrs.all fun y => !bigP y
def fewU (l : List Us) : Bool := l.all fewU1 && decide ((l.length : Int) ≤ 20)
def fewC (c : Cf) : Bool := few c.svs && fewU c.us
theorem rs_at {α : Type} {cells : α → List Value} {s : Nat} (hc : ∀ x, (cells x).length = s) {I : Im} {a : Option Addr} {l : List α} (hR : RS I a s l.length (rowsC cells l)) {i : Nat} {x : α} (hx : l[i]? = some x) : ∃ q, a = some q ∧ At I (q.add (i * s)) (cells x) := by
 obtain ⟨q, rfl, hq⟩ := hR.2 (by have := (List.getElem?_eq_some_iff.1 hx).1; omega)
 refine ⟨q, rfl, ?_⟩
 have h3 := at_take (hq.add (i * s)) s
 rw [rowsC, flat_piece (l.map cells) (fun c h => by obtain ⟨y, _, rfl⟩ := List.mem_map.1 h; exact hc y) i (cells x) (by rw [List.getElem?_map, hx]; rfl)] at h3
 exact h3
theorem fewU_any (a : Option Addr) (cap : Nat) (l : List Us) (hln : l.length ≤ 9223372036854775807) (hfit : ∀ u ∈ l, u.fits) (B w : World) (I : Im) (hU : UsrsAt I a l) (As : List Assn) (hS : Sat B w I As) :
  Calls Tryz.prog 108 [.slice a l.length cap].toArray w (Ret fun v w' => v = .bool (fewU l) ∧ Sat B w' I As) := by
 refine calls Tryz.func108 rfl Tryz.ntmps108 rfl (.seq (.region (.run 1 rfl trivial (.nil (.seq (.seq (.region (.run 1 rfl trivial (.nil (.block (.loop (σ := Nat) (fun i => [(0, .slice a l.length cap), (3, I64 (i : Nat))]) (fun i w => i ≤ l.length ∧ (∀ (j : Nat) u, j < i → l[j]? = some u → fewU1 u = true) ∧ Sat B w I As) (fun i => l.length - i) 0 ⟨rfl, rfl, trivial⟩ ⟨Nat.zero_le _, fun _ _ h => absurd h (by omega), hS⟩ ?_)))))))))))
 rintro i w ⟨hi, hno, hS⟩
 change WC _ _ _ _ [(0, .slice a l.length cap), (3, I64 (i : Nat))] w
 refine .seq (.seq (.region (.run 4 rfl ⟨⟨_, Tryz.underlying28⟩, trivial⟩ (.nil ?_))))
 refine WC.cond rfl (fun hb8 => ?_) (fun hb8 => ?_)
 ·
  have hc8 := hb8; try simp only [Gk.cs0] at hc8
  refine .skip (.seq (.block (.seq (.seq ?_))))
  obtain ⟨u, hu⟩ : ∃ u, l[i]? = some u := ⟨_, List.getElem?_eq_getElem (by omega)⟩
  obtain ⟨p, ra, rc, hap, hx, hrc, hRR⟩ := hU i u hu
  have hfu := (hfit u (List.mem_of_getElem? hu)).attrs.1
  subst hap
  unfold usCells at hx
  refine .region (.run 2 rfl trivial ?_)
  first | refine WL.val (.indexAddr (.of rfl) (.of rfl) (by omega) (by omega) Tryz.underlying28 Tryz.sizeOf67) rfl ?_ | refine WL.val (.indexAddrI (.of rfl) (.of rfl) (by omega) (by omega) Tryz.underlying28 Tryz.sizeOf67) rfl ?_
  first | refine WL.val (.fieldAddr 2 (.of rfl) Tryz.underlying67 rfl rfl Tryz.sizeOf54 rfl) rfl ?_ | refine WL.val (.fieldAddrI 2 (.of rfl) Tryz.underlying67 rfl rfl Tryz.sizeOf54 rfl) rfl ?_
  first | refine WL.val (.ldI (.of rfl) hS (At.add hx _) Tryz.isAgg54 rfl) rfl ?_ | refine WL.val (.ldI (.of rfl) hS (At.add hy _) Tryz.isAgg54 rfl) rfl ?_
  refine .run 3 rfl ⟨⟨_, Tryz.underlying54⟩, trivial⟩ (.gval rfl rfl (fun hg1 => (.move (.of rfl))) rfl (.gval rfl rfl (fun hg1 => (.move (.of rfl))) rfl ?_))
  refine WL.gval rfl rfl (fun hg1 => (by first | exact .indexAddr (.gd hg1 rfl) (.gd hg1 rfl) (by (try simp only [Gk.cs0] at hg1); omega) (by (try simp only [Gk.cs0] at hg1); omega) Tryz.underlying28 Tryz.sizeOf67 | exact .indexAddrI (.gd hg1 rfl) (.gd hg1 rfl) (by (try simp only [Gk.cs0] at hg1); omega) (by (try simp only [Gk.cs0] at hg1); omega) Tryz.underlying28 Tryz.sizeOf67)) rfl ?_
  refine WL.gval rfl rfl (fun hg1 => (by first | exact .fieldAddr 0 (.gd hg1 rfl) Tryz.underlying67 rfl rfl Tryz.sizeOf9 rfl | exact .fieldAddrI 0 (.gd hg1 rfl) Tryz.underlying67 rfl rfl Tryz.sizeOf9 rfl)) rfl ?_
  refine WL.gval rfl rfl (fun hg1 => (by first | exact (.ldI (.gd hg1 rfl) hS (At.add hx _) Tryz.isAgg9 rfl) | exact (.ldI (.gd hg1 rfl) hS (At.add hy _) Tryz.isAgg9 rfl))) rfl ?_
  refine .gval rfl rfl (fun hg1 => (.len (.gd hg1 rfl) Tryz.underlying9)) rfl (.gval rfl rfl (fun hg1 => (.gtr (.gd hg1 rfl) (.of rfl))) rfl (.val (.por (.of rfl) (.of rfl) (.of rfl)) rfl (.run 1 rfl trivial (.gval rfl rfl (fun hg1 => (.move (.of rfl))) rfl (.gval rfl rfl (fun hg1 => (.move (.of rfl))) rfl ?_)))))
  refine WL.gval rfl rfl (fun hg1 => (by first | exact .indexAddr (.gd hg1 rfl) (.gd hg1 rfl) (by (try simp only [Gk.cs0] at hg1); omega) (by (try simp only [Gk.cs0] at hg1); omega) Tryz.underlying28 Tryz.sizeOf67 | exact .indexAddrI (.gd hg1 rfl) (.gd hg1 rfl) (by (try simp only [Gk.cs0] at hg1); omega) (by (try simp only [Gk.cs0] at hg1); omega) Tryz.underlying28 Tryz.sizeOf67)) rfl ?_
  refine WL.gval rfl rfl (fun hg1 => (by first | exact .fieldAddr 1 (.gd hg1 rfl) Tryz.underlying67 rfl rfl Tryz.sizeOf9 rfl | exact .fieldAddrI 1 (.gd hg1 rfl) Tryz.underlying67 rfl rfl Tryz.sizeOf9 rfl)) rfl ?_
  refine WL.gval rfl rfl (fun hg1 => (by first | exact (.ldI (.gd hg1 rfl) hS (At.add hx _) Tryz.isAgg9 rfl) | exact (.ldI (.gd hg1 rfl) hS (At.add hy _) Tryz.isAgg9 rfl))) rfl ?_
  refine .gval rfl rfl (fun hg1 => (.len (.gd hg1 rfl) Tryz.underlying9)) rfl (.gval rfl rfl (fun hg1 => (.gtr (.gd hg1 rfl) (.of rfl))) rfl (.val (.por (.of rfl) (.of rfl) (.of rfl)) rfl (.nil ?_)))
  refine WC.cond rfl (fun hb35 => ?_) (fun hb35 => ?_)
  ·
   have hc35 := hb35; try simp only [Gk.cs0] at hc35
   refine .seq (.region (.run 1 rfl trivial (.nil (.ret (ret1 Tryz.results108 rfl ?_)))))
   refine ⟨_, rfl, congrArg Value.bool ?_, hS⟩
   have : l.all fewU1 = false := List.all_eq_false.2 ⟨u, List.mem_of_getElem? hu, by
    rw [fewU1, show bigU u = true from hb35, Bool.not_true, Bool.false_and]; decide⟩
   rw [fewU, this]; rfl
  have hc35 := hb35; try simp only [Gk.cs0] at hc35
  refine .skip (.seq (.region (.run 1 rfl trivial (.nil (.block (.loop (σ := Nat) (fun k => [(0, .slice (some p) l.length cap), (3, I64 (i : Nat)), (4, I64 (k : Nat))]) (fun k w => k ≤ u.attrs.length ∧ (∀ (j : Nat) y, j < k → u.attrs[j]? = some y → bigP y = false) ∧ Sat B w I As) (fun k => u.attrs.length - k) 0 ⟨rfl, rfl, rfl, trivial⟩ ⟨Nat.zero_le _, fun _ _ h => absurd h (by omega), hS⟩ ?_))))))
  rintro k w ⟨hk, hny, hS⟩
  change WC _ _ _ _ [(0, .slice (some p) l.length cap), (3, I64 (i : Nat)), (4, I64 (k : Nat))] w
  refine .seq (.seq (.region (.run 3 rfl trivial ?_)))
  first | refine WL.val (.indexAddr (.of rfl) (.of rfl) (by omega) (by omega) Tryz.underlying28 Tryz.sizeOf67) rfl ?_ | refine WL.val (.indexAddrI (.of rfl) (.of rfl) (by omega) (by omega) Tryz.underlying28 Tryz.sizeOf67) rfl ?_
  first | refine WL.val (.fieldAddr 2 (.of rfl) Tryz.underlying67 rfl rfl Tryz.sizeOf54 rfl) rfl ?_ | refine WL.val (.fieldAddrI 2 (.of rfl) Tryz.underlying67 rfl rfl Tryz.sizeOf54 rfl) rfl ?_
  first | refine WL.val (.ldI (.of rfl) hS (At.add hx _) Tryz.isAgg54 rfl) rfl ?_ | refine WL.val (.ldI (.of rfl) hS (At.add hy _) Tryz.isAgg54 rfl) rfl ?_
  refine .run 2 rfl ⟨⟨_, Tryz.underlying54⟩, trivial⟩ (.nil ?_)
  refine WC.cond rfl (fun hb43 => ?_) (fun hb43 => ?_)
  ·
   have hc43 := hb43; try simp only [Gk.cs0] at hc43
   refine .skip (.seq (.block (.seq ?_)))
   obtain ⟨y, hy0⟩ : ∃ y, u.attrs[k]? = some y := ⟨_, List.getElem?_eq_getElem (by omega)⟩
   obtain ⟨q, hq9, hy⟩ := rs_at (cells := prCells) (s := 2) (fun _ => rfl) hRR hy0
   subst hq9
   unfold prCells at hy
   refine .region (.run 2 rfl trivial ?_)
   first | refine WL.val (.indexAddr (.of rfl) (.of rfl) (by omega) (by omega) Tryz.underlying28 Tryz.sizeOf67) rfl ?_ | refine WL.val (.indexAddrI (.of rfl) (.of rfl) (by omega) (by omega) Tryz.underlying28 Tryz.sizeOf67) rfl ?_
   first | refine WL.val (.fieldAddr 2 (.of rfl) Tryz.underlying67 rfl rfl Tryz.sizeOf54 rfl) rfl ?_ | refine WL.val (.fieldAddrI 2 (.of rfl) Tryz.underlying67 rfl rfl Tryz.sizeOf54 rfl) rfl ?_
   first | refine WL.val (.ldI (.of rfl) hS (At.add hx _) Tryz.isAgg54 rfl) rfl ?_ | refine WL.val (.ldI (.of rfl) hS (At.add hy _) Tryz.isAgg54 rfl) rfl ?_
   refine .run 1 rfl trivial ?_
   first | refine WL.val (.indexAddr (.of rfl) (.of rfl) (by omega) (by omega) Tryz.underlying54 Tryz.sizeOf69) rfl ?_ | refine WL.val (.indexAddrI (.of rfl) (.of rfl) (by omega) (by omega) Tryz.underlying54 Tryz.sizeOf69) rfl ?_
   first | refine WL.val (.fieldAddr 0 (.of rfl) Tryz.underlying69 rfl rfl Tryz.sizeOf9 rfl) rfl ?_ | refine WL.val (.fieldAddrI 0 (.of rfl) Tryz.underlying69 rfl rfl Tryz.sizeOf9 rfl) rfl ?_
   first | refine WL.val (.ldI (.of rfl) hS (At.add hx _) Tryz.isAgg9 rfl) rfl ?_ | refine WL.val (.ldI (.of rfl) hS (At.add hy _) Tryz.isAgg9 rfl) rfl ?_
   refine .run 3 rfl ⟨Tryz.underlying9, trivial⟩ (.gval rfl rfl (fun hg1 => (.move (.of rfl))) rfl (.gval rfl rfl (fun hg1 => (.move (.of rfl))) rfl ?_))
   refine WL.gval rfl rfl (fun hg1 => (by first | exact .indexAddr (.gd hg1 rfl) (.gd hg1 rfl) (by (try simp only [Gk.cs0] at hg1); omega) (by (try simp only [Gk.cs0] at hg1); omega) Tryz.underlying28 Tryz.sizeOf67 | exact .indexAddrI (.gd hg1 rfl) (.gd hg1 rfl) (by (try simp only [Gk.cs0] at hg1); omega) (by (try simp only [Gk.cs0] at hg1); omega) Tryz.underlying28 Tryz.sizeOf67)) rfl ?_
   refine WL.gval rfl rfl (fun hg1 => (by first | exact .fieldAddr 2 (.gd hg1 rfl) Tryz.underlying67 rfl rfl Tryz.sizeOf54 rfl | exact .fieldAddrI 2 (.gd hg1 rfl) Tryz.underlying67 rfl rfl Tryz.sizeOf54 rfl)) rfl ?_
   refine WL.gval rfl rfl (fun hg1 => (by first | exact (.ldI (.gd hg1 rfl) hS (At.add hx _) Tryz.isAgg54 rfl) | exact (.ldI (.gd hg1 rfl) hS (At.add hy _) Tryz.isAgg54 rfl))) rfl ?_
   refine .gval rfl rfl (fun hg1 => (.move (.of rfl))) rfl ?_
   refine WL.gval rfl rfl (fun hg1 => (by first | exact .indexAddr (.gd hg1 rfl) (.gd hg1 rfl) (by (try simp only [Gk.cs0] at hg1); omega) (by (try simp only [Gk.cs0] at hg1); omega) Tryz.underlying54 Tryz.sizeOf69 | exact .indexAddrI (.gd hg1 rfl) (.gd hg1 rfl) (by (try simp only [Gk.cs0] at hg1); omega) (by (try simp only [Gk.cs0] at hg1); omega) Tryz.underlying54 Tryz.sizeOf69)) rfl ?_
   refine WL.gval rfl rfl (fun hg1 => (by first | exact .fieldAddr 1 (.gd hg1 rfl) Tryz.underlying69 rfl rfl Tryz.sizeOf9 rfl | exact .fieldAddrI 1 (.gd hg1 rfl) Tryz.underlying69 rfl rfl Tryz.sizeOf9 rfl)) rfl ?_
   refine WL.gval rfl rfl (fun hg1 => (by first | exact (.ldI (.gd hg1 rfl) hS (At.add hx _) Tryz.isAgg9 rfl) | exact (.ldI (.gd hg1 rfl) hS (At.add hy _) Tryz.isAgg9 rfl))) rfl ?_
   refine .gval rfl rfl (fun hg1 => (.len (.gd hg1 rfl) Tryz.underlying9)) rfl (.gval rfl rfl (fun hg1 => (.gtr (.gd hg1 rfl) (.of rfl))) rfl (.val (.por (.of rfl) (.of rfl) (.of rfl)) rfl (.nil ?_)))
   refine WC.cond rfl (fun hb69 => ?_) (fun hb69 => ?_)
   ·
    have hc69 := hb69; try simp only [Gk.cs0] at hc69
    refine .seq (.region (.run 1 rfl trivial (.nil (.ret (ret1 Tryz.results108 rfl ?_)))))
    refine ⟨_, rfl, congrArg Value.bool ?_, hS⟩
    have : l.all fewU1 = false := List.all_eq_false.2 ⟨u, List.mem_of_getElem? hu, by
     have : u.attrs.all (fun y => !bigP y) = false := List.all_eq_false.2 ⟨y, List.mem_of_getElem? hy0, by
      rw [show bigP y = true from hb69]; decide⟩
     rw [fewU1, this, Bool.and_false]; decide⟩
    rw [fewU, this]; rfl
   have hc69 := hb69; try simp only [Gk.cs0] at hc69
   refine .skip (.region (.run 3 rfl ⟨⟨by omega, by omega⟩, trivial⟩ (.nil ?_)))
   refine ⟨k + 1, ⟨rfl, rfl, rfl, trivial⟩, ⟨by (try dsimp only); omega, fun j t hj ht => ?_, hS⟩, by (try dsimp only); omega⟩
   rcases Nat.lt_or_ge j k with h1 | h1
   ·exact hny j t h1 ht
   ·have e : j = k := by omega
    subst e
    rw [hy0] at ht; cases ht
    exact hb69
  have hc43 := hb43; try simp only [Gk.cs0] at hc43
  refine .exit (.region (.run 3 rfl ⟨⟨by omega, by omega⟩, trivial⟩ (.nil ?_)))
  refine ⟨i + 1, ⟨rfl, rfl, trivial⟩, ⟨by (try dsimp only); omega, fun j t hj ht => ?_, hS⟩, by (try dsimp only); omega⟩
  rcases Nat.lt_or_ge j i with h1 | h1
  ·exact hno j t h1 ht
  ·have e : j = i := by omega
   subst e
   rw [hu] at ht; cases ht
   have e1 : bigU u = false := hb35
   rw [fewU1, e1, Bool.not_false, Bool.true_and, List.all_eq_true]
   intro y hy
   obtain ⟨q, hq⟩ := List.mem_iff_getElem?.1 hy
   have := (List.getElem?_eq_some_iff.1 hq).1
   rw [hny q y (by omega) hq]; rfl
 have hc8 := hb8; try simp only [Gk.cs0] at hc8
 refine .exit (.seq (.region (.run 4 rfl ⟨⟨_, Tryz.underlying28⟩, trivial⟩ (.nil (.ret (ret1 Tryz.results108 rfl ?_))))))
 refine ⟨_, rfl, congrArg Value.bool ?_, hS⟩
 have : l.all fewU1 = true := by
  rw [List.all_eq_true]
  intro u hu
  obtain ⟨q, hq⟩ := List.mem_iff_getElem?.1 hu
  have := (List.getElem?_eq_some_iff.1 hq).1
  exact hno q u (by omega) hq
 rw [fewU, this, Bool.true_and]
set_option maxRecDepth 20000 in
theorem fewC_any (c : Cf) (a : Option Addr) (cap : Nat) (ua : Option Addr) (ucap : Nat) (hcap : c.svs.length ≤ cap) (hcm : cap ≤ maxLen) (hun : c.us.length ≤ 9223372036854775807) (hfit : ∀ u ∈ c.us, u.fits) (B w : World) (I : Im) (hl : SvsAt I a c.svs) (hU : UsrsAt I ua c.us) (As : List Assn) (hS : Sat B w I As) :
  Calls Tryz.prog 60 [.agg (cfCells c a cap ua ucap).toArray].toArray w (Ret fun v w' => v = .bool (fewC c) ∧ Sat B w' I As) := by
 refine calls Tryz.func60 rfl Tryz.ntmps60 rfl (.seq (.region (.boxA (cs := [_, _, _, _, _, _, _, _, _, _, _, _, _, _, _, _, _, _, _, _, _, _, _, _, _, _, _, _]) hS (.of rfl) rfl ?_)))
 clear hS; intro b1 w hS
 refine .run 1 rfl trivial (.nil (.seq (.region ?_)))
 first | refine WL.val (.fieldAddr 0 (.of rfl) Tryz.underlying34 rfl rfl Tryz.sizeOf27 rfl) rfl ?_ | refine WL.val (.fieldAddrI 0 (.of rfl) Tryz.underlying34 rfl rfl Tryz.sizeOf27 rfl) rfl ?_
 first | refine WL.val (.ld (.of rfl) hS (k := 0) rfl Tryz.isAgg27 rfl) rfl ?_ | refine WL.val (.ld (.of rfl) hS (k := 1) rfl Tryz.isAgg27 rfl) rfl ?_
 refine .call Tryz.func107 rfl (evs_cons (.of rfl) evs_nil) rfl (Few_any a cap c.svs hcap hcm B _ I hl _ hS) ?_
 clear hS
 rintro _ w ⟨rfl, hS⟩
 refine .run 1 rfl trivial (.nil (.seq (.region ?_)))
 first | refine WL.val (.fieldAddr 1 (.of rfl) Tryz.underlying34 rfl rfl Tryz.sizeOf28 rfl) rfl ?_ | refine WL.val (.fieldAddrI 1 (.of rfl) Tryz.underlying34 rfl rfl Tryz.sizeOf28 rfl) rfl ?_
 first | refine WL.val (.ld (.of rfl) hS (k := 0) rfl Tryz.isAgg28 rfl) rfl ?_ | refine WL.val (.ld (.of rfl) hS (k := 1) rfl Tryz.isAgg28 rfl) rfl ?_
 refine .call Tryz.func108 rfl (evs_cons (.of rfl) evs_nil) rfl (fewU_any ua ucap c.us hun hfit B _ I hU _ hS) ?_
 clear hS
 rintro _ w ⟨rfl, hS⟩
 refine .run 1 rfl trivial (.nil (.seq (.region (.run 2 rfl trivial (.gval rfl rfl (fun hg1 => (.move (.of rfl))) rfl (.val (.pand (.of rfl) (.of rfl) (.of rfl)) rfl (.run 1 rfl trivial (.nil (.ret (ret1 Tryz.results60 rfl ?_))))))))))
 exact ⟨_, rfl, rfl, hS.drop (k := 0) rfl⟩
theorem refPrefix_any (k : Int) (B w : World) (I : Im) (As : List Assn) (hS : Sat B w I As) :
  Calls Tryz.prog 97 [I64 k].toArray w (Ret fun v w' => v = S (preI k) ∧ Sat B w' I As) := by
 refine calls Tryz.func97 rfl Tryz.ntmps97 rfl (.seq (.region (.run 1 rfl trivial (.nil (.seq (.seq (.region (.run 1 rfl trivial (.nil (.block (.seq (.region (.run 2 rfl trivial (.nil ?_))))))))))))))
 refine WC.cond rfl (fun hb4 => ?_) (fun hb4 => ?_)
 ·
  have hc4 := hb4; try simp only [Gk.cs0] at hc4
  refine .seq (.region (.run 1 rfl trivial (.nil (.ret (ret1 Tryz.results97 rfl ?_)))))
  refine ⟨_, rfl, congrArg S ?_, hS⟩
  simp only [beq_iff_eq, beq_eq_false_iff_ne] at *
  first | subst_vars; rfl | (rw [preI, if_pos (by omega)])
 have hc4 := hb4; try simp only [Gk.cs0] at hc4
 refine .seq (.region (.run 2 rfl trivial (.nil ?_)))
 refine WC.cond rfl (fun hb6 => ?_) (fun hb6 => ?_)
 ·
  have hc6 := hb6; try simp only [Gk.cs0] at hc6
  refine .seq (.region (.run 1 rfl trivial (.nil (.ret (ret1 Tryz.results97 rfl ?_)))))
  refine ⟨_, rfl, congrArg S ?_, hS⟩
  simp only [beq_iff_eq, beq_eq_false_iff_ne] at *
  first | subst_vars; rfl | (rw [preI, if_pos (by omega)])
 have hc6 := hb6; try simp only [Gk.cs0] at hc6
 refine .seq (.region (.run 2 rfl trivial (.nil ?_)))
 refine WC.cond rfl (fun hb8 => ?_) (fun hb8 => ?_)
 ·
  have hc8 := hb8; try simp only [Gk.cs0] at hc8
  refine .seq (.region (.run 1 rfl trivial (.nil (.ret (ret1 Tryz.results97 rfl ?_)))))
  refine ⟨_, rfl, congrArg S ?_, hS⟩
  simp only [beq_iff_eq, beq_eq_false_iff_ne] at *
  first | subst_vars; rfl | (rw [preI, if_pos (by omega)])
 have hc8 := hb8; try simp only [Gk.cs0] at hc8
 refine .seq (.region (.run 2 rfl trivial (.nil ?_)))
 refine WC.cond rfl (fun hb10 => ?_) (fun hb10 => ?_)
 ·
  have hc10 := hb10; try simp only [Gk.cs0] at hc10
  refine .seq (.region (.run 1 rfl trivial (.nil (.ret (ret1 Tryz.results97 rfl ?_)))))
  refine ⟨_, rfl, congrArg S ?_, hS⟩
  simp only [beq_iff_eq, beq_eq_false_iff_ne] at *
  first | subst_vars; rfl | (rw [preI, if_pos (by omega)])
 have hc10 := hb10; try simp only [Gk.cs0] at hc10
 refine .seq (.region (.run 2 rfl trivial (.nil ?_)))
 refine WC.cond rfl (fun hb12 => ?_) (fun hb12 => ?_)
 ·
  have hc12 := hb12; try simp only [Gk.cs0] at hc12
  refine .seq (.region (.run 1 rfl trivial (.nil (.ret (ret1 Tryz.results97 rfl ?_)))))
  refine ⟨_, rfl, congrArg S ?_, hS⟩
  simp only [beq_iff_eq, beq_eq_false_iff_ne] at *
  first | subst_vars; rfl | (rw [preI, if_pos (by omega)])
 have hc12 := hb12; try simp only [Gk.cs0] at hc12
 refine .seq (.region (.run 2 rfl trivial (.nil ?_)))
 refine WC.cond rfl (fun hb14 => ?_) (fun hb14 => ?_)
 ·
  have hc14 := hb14; try simp only [Gk.cs0] at hc14
  refine .seq (.region (.run 1 rfl trivial (.nil (.ret (ret1 Tryz.results97 rfl ?_)))))
  refine ⟨_, rfl, congrArg S ?_, hS⟩
  simp only [beq_iff_eq, beq_eq_false_iff_ne] at *
  first | subst_vars; rfl | (rw [preI, if_pos (by omega)])
 have hc14 := hb14; try simp only [Gk.cs0] at hc14
 refine .skip (.seq (.region (.run 1 rfl trivial (.nil (.ret (ret1 Tryz.results97 rfl ?_))))))
 refine ⟨_, rfl, congrArg S ?_, hS⟩
 simp only [beq_iff_eq, beq_eq_false_iff_ne] at *
 first | subst_vars; rfl | (rw [preI, if_pos (by omega)])
theorem hex_take {n : Nat} (h : n < 16) : (HEXD.drop n).take 1 = [dg n] := (by decide : ∀ n : Fin 16, (HEXD.drop n.val).take 1 = [dg n.val]) ⟨n, h⟩
theorem refName_any (kind : Int) (d : Nat) (hd : d < 18446744073709551616) (B w : World) (I : Im) (As : List Assn) (hS : Sat B w I As) :
  Calls Tryz.prog 56 [I64 kind, U64 (d : Nat)].toArray w (Ret fun v w' => v = (if preI kind = [] then .tuple #[S [], I64 8] else .tuple #[S (preI kind ++ 45 :: digs 16 d), I64 0]) ∧ Sat B w' I As) := by
 refine calls Tryz.func56 rfl Tryz.ntmps56 rfl (.seq (.region (.run 2 rfl trivial (.nil (.seq (.region (.run 1 rfl trivial (.call Tryz.func97 rfl (evs_cons (.of rfl) evs_nil) rfl (refPrefix_any kind B _ I _ hS) ?_))))))))
 clear hS
 rintro _ w ⟨rfl, hS⟩
 refine .run 1 rfl trivial (.nil (.seq (.seq (.region (.run 2 rfl trivial (.nil ?_))))))
 refine WC.cond rfl (fun hb13 => ?_) (fun hb13 => ?_)
 ·
  have hc13 := hb13; try simp only [Gk.cs0] at hc13
  refine .seq (.region (.run 2 rfl trivial (.nil (.ret (ret2 Tryz.results56 rfl rfl ?_)))))
  exact ⟨_, rfl, by rw [if_pos (by simpa using hb13)], hS⟩
 have hc13 := hb13; try simp only [Gk.cs0] at hc13
 refine .skip (.seq (.region (.run 1 rfl trivial (.nil (.seq (.region (.run 1 rfl trivial (.nil (.seq (.seq (.region (.run 1 rfl trivial (.nil (.block (.loop (σ := Nat × Nat) (fun ⟨i, e⟩ => [(1, U64 (e : Nat)), (6, S (preI kind)), (7, S HEXD), (8, S (digs i d)), (9, I64 (i : Nat))]) (fun ⟨i, e⟩ w => i ≤ 16 ∧ e = d / 16 ^ i ∧ Sat B w I As) (fun ⟨i, e⟩ => 16 - i) (0, d) ⟨rfl, rfl, rfl, rfl, rfl, trivial⟩ ⟨Nat.zero_le _, by simp, hS⟩ ?_)))))))))))))))
 rintro ⟨i, e⟩ w ⟨hi, he, hS⟩
 change WC _ _ _ _ [(1, U64 (e : Nat)), (6, S (preI kind)), (7, S HEXD), (8, S (digs i d)), (9, I64 (i : Nat))] w
 refine .seq (.seq (.region (.run 2 rfl trivial (.nil ?_))))
 refine WC.cond rfl (fun hb15 => ?_) (fun hb15 => ?_)
 ·
  have hc15 := hb15; try simp only [Gk.cs0] at hc15
  refine .skip (.seq (.block (.seq ?_)))
  have hed : e < 18446744073709551616 := by rw [he]; exact Nat.lt_of_le_of_lt (Nat.div_le_self _ _) hd
  have hdl := digs_len i d
  have hm16 := Nat.mod_lt e (show 0 < 16 by decide)
  have hcast : ((e : Nat) : Int) % 16 = ((e % 16 : Nat) : Int) := by omega
  have htk := hex_take hm16
  have hsl : (HEXD.drop ((e : Int) % 16).toNat).take (((e : Int) % 16 + 1).toNat - ((e : Int) % 16).toNat) = [dg (e % 16)] := by
   rw [hcast, Int.toNat_natCast, show (((e % 16 : Nat) : Int) + 1).toNat - e % 16 = 1 by omega]; exact htk
  have hcons : [dg (e % 16)] ++ digs i d = digs (i + 1) d := by rw [digs_cons, he]; rfl
  have hquo : ((e : Nat) : Int) / 16 = ((e / 16 : Nat) : Int) := by omega
  have hee : e / 16 = d / 16 ^ (i + 1) := by rw [he, Nat.div_div_eq_div_mul, Nat.pow_succ]
  refine .region (.run 2 rfl trivial (.val (.rem (.of rfl) (.of rfl) (by omega) (by omega)) rfl (.run 1 rfl trivial (.val (.rem (.of rfl) (.of rfl) (by omega) (by omega)) rfl ?_))))
  first | refine WL.val (.addx (.of rfl) (.of rfl) (by rw [IntKind.wrap_u64]; omega)) rfl ?_ | refine WL.val (.addw (.of rfl) (.of rfl)) rfl ?_
  refine WL.val (Ex.sub3U (.of rfl) (.of rfl) (.of rfl) (by omega) (by omega) (by show _ ≤ (16 : Int); omega) Tryz.underlying9) rfl ?_
  rw [hsl]
  refine .run 1 rfl trivial ?_
  refine WL.val (.cat (.of rfl) (.of rfl) (by (try simp only [List.length_append, List.length_cons, List.length_nil]); omega)) rfl ?_
  rw [hcons]
  refine .run 1 rfl trivial (.nil (.region (.run 1 rfl trivial ?_)))
  refine WL.val (.quo (.of rfl) (.of rfl) (by omega) (by omega) (by rw [IntKind.wrap_u64]; omega)) rfl ?_
  rw [hquo]
  refine .run 1 rfl trivial (.nil (.region (.run 3 rfl ⟨⟨by omega, by omega⟩, trivial⟩ (.nil ?_))))
  refine ⟨(i + 1, e / 16), ⟨rfl, rfl, rfl, rfl, rfl, trivial⟩, ⟨by (try dsimp only); omega, hee, hS⟩, by (try dsimp only); omega⟩
 have hc15 := hb15; try simp only [Gk.cs0] at hc15
 refine .exit (.seq ?_)
 have hpl := preI_le kind
 have hdl := digs_len i d
 refine .region ?_
 refine WL.run 6 rfl ⟨by (try simp only [List.length_append, List.length_cons, List.length_nil]); omega, by (try simp only [List.length_append, List.length_cons, List.length_nil]); omega, trivial⟩ ?_
 refine .nil (.ret (ret2 Tryz.results56 rfl rfl ?_))
 have e16 : i = 16 := by omega
 subst e16
 refine ⟨_, rfl, by rw [if_neg (by simpa using hb13), List.append_assoc]; rfl, hS⟩
end Go.Proofs.YtadhiihnnkcagaaGreatDoor
namespace Go.Proofs.YtadhiihnnkcagaaGreatDoor
open Gk Pat
set_option linter.unusedVariables false
set_option linter.unusedSimpArgs false
theorem few_facts {l : List Sv} (h : few l = true) : l.length ≤ 20 ∧ ∀ s ∈ l, s.rel.length ≤ 20 := by
 unfold few at h
 simp only [Bool.and_eq_true, decide_eq_true_eq] at h
 refine ⟨by omega, fun s hs => ?_⟩
 have := List.all_eq_true.1 h.1 s hs
 unfold few1 at this
 simp only [Bool.not_eq_true', Bool.or_eq_false_iff, decide_eq_false_iff_not] at this
 omega
theorem fits_ord {l : List Sv} (h : ∀ s ∈ l, s.fits) : ∀ v ∈ ords l, v < 18446744073709551616 := fun v hv => by
 obtain ⟨s, hs, rfl⟩ := List.mem_map.1 hv
 exact (h s hs).ord
theorem fits_fit {l : List Sv} (h : ∀ s ∈ l, s.fits) (hr : ∀ s ∈ l, s.rel.length ≤ 20) : ∀ s ∈ l, s.urls.length ≤ 9223372036854775807 ∧ s.calls.length ≤ 9223372036854775807 ∧ s.rel.length ≤ 1000000 := fun s hs => by
 have h1 := (h s hs).urls
 have h2 := (h s hs).calls
 have h3 := hr s hs
 unfold maxLen at h1 h2
 exact ⟨by omega, by omega, by omega⟩
end Go.Proofs.YtadhiihnnkcagaaGreatDoor
namespace Go.Proofs.YtadhiihnnkcagaaGreatDoor
open Gk Ul Pc Tk Tr
set_option linter.unusedVariables false
set_option linter.unusedSimpArgs false
structure CfAt (I : Im) (c : Cf) (a : Option Addr) (cap : Nat) (ua : Option Addr) (ucap : Nat) : Prop where
 svs : SvsAt I a c.svs
 us : UsrsAt I ua c.us
 cap : c.svs.length ≤ cap ∧ cap ≤ maxLen
 un : c.us.length ≤ 9223372036854775807
 sfit : ∀ s ∈ c.svs, s.fits
 ufit : ∀ u ∈ c.us, u.fits
theorem CfAt.mono {I J : Im} {c : Cf} {a ua : Option Addr} {cap ucap : Nat} (h : CfAt I c a cap ua ucap) (hl : Le I J) : CfAt J c a cap ua ucap := ⟨h.svs.mono hl, h.us.mono hl, h.cap, h.un, h.sfit, h.ufit⟩
theorem fewC_fits {I : Im} {c : Cf} {a ua : Option Addr} {cap ucap : Nat} (h : CfAt I c a cap ua ucap) (hf : fewC c = true) : c.fits := by
 unfold fewC at hf
 simp only [Bool.and_eq_true] at hf
 have h1 := few_facts hf.1
 refine ⟨by omega, fits_ord h.sfit, fits_fit h.sfit h1.2, h.un, h.ufit⟩
end Go.Proofs.YtadhiihnnkcagaaGreatDoor
namespace Go.Proofs.YtadhiihnnkcagaaGreatDoor
open Gk Ul Pc Tk Tr
set_option linter.unusedVariables false
set_option linter.unusedSimpArgs false
def AWS : Sv := ⟨0, 0, [104, 116, 116, 112, 58, 47, 47, 97, 47, 42, 42], true, false, false, [], []⟩
def AWUs : Us := ⟨[117], [112], []⟩
def AWC : Cf := ⟨[AWS], [AWUs], fun _ => 0, 9, 0, 0, 0, 0⟩
theorem awc_new : newE AWC = 0 := by kernel_rfl
theorem awc_ord : Srt.Ord (kx (ords [AWS])) 1 [0] := ⟨by decide +kernel, by decide +kernel⟩
theorem awc_fits : AWC.fits := ⟨by decide, by decide +kernel, by decide +kernel, by decide, fun u hu => by
 rw [show AWC.us = [AWUs] from rfl, List.mem_singleton] at hu; subst hu
 exact ⟨by decide, by decide, by decide, fun p hp => by simp [AWUs] at hp⟩⟩
theorem awc_cfat {J : Im} {s u : Nat} {E F : TypeId} (h1 : J s = some (cellsO [I64 0, F64 0, S AWS.urls, .bool true, .bool false, .bool false, S [], .slice none 0 0] E)) (h2 : J u = some (cellsO [S AWUs.name, S AWUs.pw, .slice none 0 0] F)) : SvsAt J (some (ad s 0)) [AWS] ∧ UsrsAt J (some (ad u 0)) [AWUs] := by
 constructor
 ·intro i t ht
  match i, ht with
  | 0, ht => cases ht; exact ⟨_, none, 0, rfl, at_frozen h1, Nat.le_refl _, RS.nil _ _⟩
  | i + 1, ht => simp at ht
 ·intro i t ht
  match i, ht with
  | 0, ht => cases ht; exact ⟨_, none, 0, rfl, at_frozen h2, Nat.le_refl _, RS.nil _ _⟩
  | i + 1, ht => simp at ht
end Go.Proofs.YtadhiihnnkcagaaGreatDoor
namespace Go.Proofs.YtadhiihnnkcagaaGreatDoor
open Gk Ul Pc Tk Tr
set_option linter.unusedVariables false
set_option linter.unusedSimpArgs false
theorem rec_in {α : Type} [BEq α] [LawfulBEq α] {l : List α} {s : α} : l.contains s = true ↔ s ∈ l := by simp
def tCells (s : List UInt8) : List Value := [S s]
theorem rowsT (l : List (List UInt8)) : rowsC tCells l = l.map S := by
 unfold rowsC
 induction l with
 | nil => rfl
 | cons x l ih => rw [List.map_cons, List.flatten_cons, ih]; rfl
theorem In_any (a : Option Addr) (c : Nat) (l : List (List UInt8)) (hl : l.length ≤ 9223372036854775807) (s : List UInt8) (B w : World) (I : Im) (As : List Assn) (hE : ∀ w, Sat B w I As → RowsW w tCells 1 a l) (hS : Sat B w I As) :
  Calls Tryz.prog 19 [.slice a l.length c, S s].toArray w (Ret fun v w' => v = .bool (l.contains s) ∧ Sat B w' I As) := by
 refine calls Tryz.func19 rfl Tryz.ntmps19 rfl (.seq (.region (.run 1 rfl trivial (.nil (.seq (.seq (.region (.run 1 rfl trivial (.nil (.block (.loop (σ := Nat) (fun i => [(0, .slice a l.length c), (1, S s), (5, I64 (i : Nat))]) (fun i w => i ≤ l.length ∧ (∀ (j : Nat) x, j < i → l[j]? = some x → x ≠ s) ∧ Sat B w I As) (fun i => l.length - i) 0 ⟨rfl, rfl, rfl, trivial⟩ ⟨Nat.zero_le _, fun _ _ h => absurd h (by omega), hS⟩ ?_)))))))))))
 rintro i w ⟨hi, hno, hS⟩
 change WC _ _ _ _ [(0, .slice a l.length c), (1, S s), (5, I64 (i : Nat))] w
 refine .seq (.seq (.region (.run 4 rfl ⟨⟨_, Tryz.underlying41⟩, trivial⟩ (.nil ?_))))
 refine WC.cond rfl (fun hb9 => ?_) (fun hb9 => ?_)
 ·
  have hc9 := hb9; try simp only [Gk.cs0] at hc9
  refine .skip (.seq (.block (.seq ?_)))
  obtain ⟨x, hx⟩ : ∃ x, l[i]? = some x := ⟨_, List.getElem?_eq_getElem (by omega)⟩
  obtain ⟨p, rfl, hA⟩ := hE w hS i x hx
  have hc0 := hA 0 _ rfl
  refine .region (.run 2 rfl trivial ?_)
  first | refine WL.val (.indexAddr (.of rfl) (.of rfl) (by omega) (by omega) Tryz.underlying41 Tryz.sizeOf9) rfl ?_ | refine WL.val (.indexAddrI (.of rfl) (.of rfl) (by omega) (by omega) Tryz.underlying41 Tryz.sizeOf9) rfl ?_
  refine .val (v := S x) (.ld1 (.of rfl) (by simpa [Addr.add_add] using hc0) Tryz.isAgg9) rfl (.run 2 rfl trivial (.nil ?_))
  refine WC.cond rfl (fun hb17 => ?_) (fun hb17 => ?_)
  ·
   have hc17 := hb17; try simp only [Gk.cs0] at hc17
   refine .seq (.region (.run 1 rfl trivial (.nil (.ret (ret1 Tryz.results19 rfl ?_)))))
   refine ⟨_, rfl, congrArg Value.bool (rec_in.2 ?_).symm, hS⟩
   have e : x = s := by simpa using hb17
   subst e
   exact List.mem_of_getElem? hx
  have hc17 := hb17; try simp only [Gk.cs0] at hc17
  refine .skip (.region (.run 3 rfl ⟨⟨by omega, by omega⟩, trivial⟩ (.nil ?_)))
  refine ⟨i + 1, ⟨rfl, rfl, rfl, trivial⟩, ⟨by (try dsimp only); omega, fun j y hj hy => ?_, hS⟩, by (try dsimp only); omega⟩
  rcases Nat.lt_or_ge j i with h1 | h1
  ·exact hno j y h1 hy
  ·have e : j = i := by omega
   subst e
   rw [hx] at hy; cases hy
   simpa using hb17
 have hc9 := hb9; try simp only [Gk.cs0] at hc9
 refine .exit (.seq (.region (.run 1 rfl trivial (.nil (.ret (ret1 Tryz.results19 rfl ?_))))))
 refine ⟨_, rfl, congrArg Value.bool (Bool.eq_false_iff.2 fun h => ?_).symm, hS⟩
 obtain ⟨j, hj⟩ := List.mem_iff_getElem?.1 (rec_in.1 h)
 have := (List.getElem?_eq_some_iff.1 hj).1
 exact hno j s (by omega) hj rfl
end Go.Proofs.YtadhiihnnkcagaaGreatDoor
namespace Go.Proofs.YtadhiihnnkcagaaGreatDoor
open Gk Ul Pc Tk Tr
set_option linter.unusedVariables false
set_option linter.unusedSimpArgs false
theorem getD_put {l : List Rec} {r : Rec} (h : putE l r = 0) (name : List UInt8) : getD (put l r) name = if name = r.name then r else getD l name := by
 obtain ⟨_, j, t, h1, h2, h3, _, _⟩ := put_ok h
 have hp : put l r = l.set j r := by rw [put, if_pos h, h1, Int.toNat_natCast]
 have hj := (List.getElem?_eq_some_iff.1 h2).1
 have ha : at0 (l.set j r) name = at0 l name := atN_set name l j 0 t h2 h3
 rw [hp]
 rcases Tr.get_at (l.set j r) name with ⟨a1, a2⟩ | ⟨i, u, a1, a2, a3, a4⟩
 ·rcases Tr.get_at l name with ⟨b1, b2⟩ | ⟨k, v, b1, _⟩
  ·rw [if_neg (by intro e; subst e; omega), getD, getD, a2, b2]
  ·omega
 ·rcases Tr.get_at l name with ⟨b1, _⟩ | ⟨k, v, b1, b2, b3, b4⟩
  ·omega
  ·have e : k = i := by omega
   subst e
   by_cases hk : k = j
   ·subst hk
    rw [List.getElem?_set_self hj] at a2
    cases a2
    rw [if_pos a3.symm, getD, a4]; rfl
   ·rw [List.getElem?_set_ne (Ne.symm hk), b2] at a2
    cases a2
    rw [if_neg (by intro e; subst e; omega), getD, getD, a4, b4]
theorem right_touch {r : Rec} (h : rightR r = true) {now : Int} (hn : now ≤ 1099511627776) : rightR (touchR r now) = true := by
 unfold rightR at h ⊢
 unfold touchR
 simp only [Bool.and_eq_true, decide_eq_true_eq] at h ⊢
 obtain ⟨⟨⟨h1, h2⟩, h3⟩, h4⟩ := h
 exact ⟨⟨⟨h1, by omega⟩, h3⟩, h4⟩
end Go.Proofs.YtadhiihnnkcagaaGreatDoor
namespace Go.Proofs.YtadhiihnnkcagaaGreatDoor
open Gk Ul Pc Tk Tr Go.RowKit Go.WideShapes Go.ChangeShapes
set_option linter.unusedVariables false
set_option linter.unusedSimpArgs false
set_option maxRecDepth 100000
theorem open_pair {H : Type} {enc : TypeId × Value → H} {W : World} {spare : Nat → Bool} {held : Bool} {fuel : Nat} {cs : List Value} {x : DataW H × List MemPlace} (h : DataW.trod enc Tryz.prog W 0 spare held fuel 69 cs = some x) : ∃ z : Pr, cs = prCells z ∧ fitsP z := by
 obtain ⟨xs, n, _, _, hcl, hxl, hf⟩ := DataW.trod_struct Tryz.underlying69 h
 rw [show Tryz.prog.cellsOf 69 = 2 from by kernel_rfl] at hcl
 obtain ⟨y0, hy0⟩ : ∃ y, DataW.trod enc Tryz.prog W 0 spare held n 9 ((cs.drop 0).take (Tryz.prog.cellsOf 9)) = some y := ⟨_, (hf 0 _ rfl).trans (List.getElem?_eq_getElem (by rw [hxl]; decide))⟩
 rw [show Tryz.prog.cellsOf 9 = 1 from by kernel_rfl] at hy0
 obtain ⟨y1, hy1⟩ : ∃ y, DataW.trod enc Tryz.prog W 0 spare held n 9 ((cs.drop 1).take (Tryz.prog.cellsOf 9)) = some y := ⟨_, (hf 1 _ rfl).trans (List.getElem?_eq_getElem (by rw [hxl]; decide))⟩
 rw [show Tryz.prog.cellsOf 9 = 1 from by kernel_rfl] at hy1
 obtain ⟨v0, v1, rfl⟩ : ∃ v0 v1, cs = [v0, v1] := by
  match cs, hcl with
  | [v0, v1], _ => exact ⟨v0, v1, rfl⟩
 simp only [List.drop_succ_cons, List.drop_zero, List.take_succ_cons, List.take_zero] at hy0 hy1
 obtain ⟨z0, e0, _, w0⟩ := DataW.trod_string Tryz.underlying9 hy0
 obtain ⟨z1, e1, _, w1⟩ := DataW.trod_string Tryz.underlying9 hy1
 simp only [List.cons.injEq, and_true] at e0 e1
 subst e0 e1
 exact ⟨(z0.data.toList, z1.data.toList), rfl, ⟨w0, w1⟩⟩
def recFit (r : Rec) : Prop := r.name.length ≤ maxLen ∧ r.parent.length ≤ maxLen ∧ r.user.length ≤ maxLen ∧ r.service.length ≤ maxLen ∧ r.url.length ≤ maxLen
theorem open_rec {H : Type} {enc : TypeId × Value → H} {W : World} {spare : Nat → Bool} {held : Bool} {fuel : Nat} {cs : List Value} {x : DataW H × List MemPlace} (h : DataW.trod enc Tryz.prog W 0 spare held fuel 45 cs = some x) : ∃ z : Rec, cs = recCells z ∧ recFit z := by
 obtain ⟨xs, n, _, _, hcl, hxl, hf⟩ := DataW.trod_struct Tryz.underlying45 h
 rw [show Tryz.prog.cellsOf 45 = 10 from by kernel_rfl] at hcl
 obtain ⟨y0, hy0⟩ : ∃ y, DataW.trod enc Tryz.prog W 0 spare held n 3 ((cs.drop 0).take (Tryz.prog.cellsOf 3)) = some y := ⟨_, (hf 0 _ rfl).trans (List.getElem?_eq_getElem (by rw [hxl]; decide))⟩
 rw [show Tryz.prog.cellsOf 3 = 1 from by kernel_rfl] at hy0
 obtain ⟨y1, hy1⟩ : ∃ y, DataW.trod enc Tryz.prog W 0 spare held n 9 ((cs.drop 1).take (Tryz.prog.cellsOf 9)) = some y := ⟨_, (hf 1 _ rfl).trans (List.getElem?_eq_getElem (by rw [hxl]; decide))⟩
 rw [show Tryz.prog.cellsOf 9 = 1 from by kernel_rfl] at hy1
 obtain ⟨y2, hy2⟩ : ∃ y, DataW.trod enc Tryz.prog W 0 spare held n 9 ((cs.drop 2).take (Tryz.prog.cellsOf 9)) = some y := ⟨_, (hf 2 _ rfl).trans (List.getElem?_eq_getElem (by rw [hxl]; decide))⟩
 rw [show Tryz.prog.cellsOf 9 = 1 from by kernel_rfl] at hy2
 obtain ⟨y3, hy3⟩ : ∃ y, DataW.trod enc Tryz.prog W 0 spare held n 9 ((cs.drop 3).take (Tryz.prog.cellsOf 9)) = some y := ⟨_, (hf 3 _ rfl).trans (List.getElem?_eq_getElem (by rw [hxl]; decide))⟩
 rw [show Tryz.prog.cellsOf 9 = 1 from by kernel_rfl] at hy3
 obtain ⟨y4, hy4⟩ : ∃ y, DataW.trod enc Tryz.prog W 0 spare held n 9 ((cs.drop 4).take (Tryz.prog.cellsOf 9)) = some y := ⟨_, (hf 4 _ rfl).trans (List.getElem?_eq_getElem (by rw [hxl]; decide))⟩
 rw [show Tryz.prog.cellsOf 9 = 1 from by kernel_rfl] at hy4
 obtain ⟨y5, hy5⟩ : ∃ y, DataW.trod enc Tryz.prog W 0 spare held n 9 ((cs.drop 5).take (Tryz.prog.cellsOf 9)) = some y := ⟨_, (hf 5 _ rfl).trans (List.getElem?_eq_getElem (by rw [hxl]; decide))⟩
 rw [show Tryz.prog.cellsOf 9 = 1 from by kernel_rfl] at hy5
 obtain ⟨y6, hy6⟩ : ∃ y, DataW.trod enc Tryz.prog W 0 spare held n 3 ((cs.drop 6).take (Tryz.prog.cellsOf 3)) = some y := ⟨_, (hf 6 _ rfl).trans (List.getElem?_eq_getElem (by rw [hxl]; decide))⟩
 rw [show Tryz.prog.cellsOf 3 = 1 from by kernel_rfl] at hy6
 obtain ⟨y7, hy7⟩ : ∃ y, DataW.trod enc Tryz.prog W 0 spare held n 3 ((cs.drop 7).take (Tryz.prog.cellsOf 3)) = some y := ⟨_, (hf 7 _ rfl).trans (List.getElem?_eq_getElem (by rw [hxl]; decide))⟩
 rw [show Tryz.prog.cellsOf 3 = 1 from by kernel_rfl] at hy7
 obtain ⟨y8, hy8⟩ : ∃ y, DataW.trod enc Tryz.prog W 0 spare held n 3 ((cs.drop 8).take (Tryz.prog.cellsOf 3)) = some y := ⟨_, (hf 8 _ rfl).trans (List.getElem?_eq_getElem (by rw [hxl]; decide))⟩
 rw [show Tryz.prog.cellsOf 3 = 1 from by kernel_rfl] at hy8
 obtain ⟨y9, hy9⟩ : ∃ y, DataW.trod enc Tryz.prog W 0 spare held n 4 ((cs.drop 9).take (Tryz.prog.cellsOf 4)) = some y := ⟨_, (hf 9 _ rfl).trans (List.getElem?_eq_getElem (by rw [hxl]; decide))⟩
 rw [show Tryz.prog.cellsOf 4 = 1 from by kernel_rfl] at hy9
 obtain ⟨v0, v1, v2, v3, v4, v5, v6, v7, v8, v9, rfl⟩ : ∃ v0 v1 v2 v3 v4 v5 v6 v7 v8 v9, cs = [v0, v1, v2, v3, v4, v5, v6, v7, v8, v9] := by
  match cs, hcl with
  | [v0, v1, v2, v3, v4, v5, v6, v7, v8, v9], _ => exact ⟨v0, v1, v2, v3, v4, v5, v6, v7, v8, v9, rfl⟩
 simp only [List.drop_succ_cons, List.drop_zero, List.take_succ_cons, List.take_zero] at hy0 hy1 hy2 hy3 hy4 hy5 hy6 hy7 hy8 hy9
 obtain ⟨z0, e0, _, w0⟩ := DataW.trod_int Tryz.underlying3 hy0
 obtain ⟨z1, e1, _, w1⟩ := DataW.trod_string Tryz.underlying9 hy1
 obtain ⟨z2, e2, _, w2⟩ := DataW.trod_string Tryz.underlying9 hy2
 obtain ⟨z3, e3, _, w3⟩ := DataW.trod_string Tryz.underlying9 hy3
 obtain ⟨z4, e4, _, w4⟩ := DataW.trod_string Tryz.underlying9 hy4
 obtain ⟨z5, e5, _, w5⟩ := DataW.trod_string Tryz.underlying9 hy5
 obtain ⟨z6, e6, _, w6⟩ := DataW.trod_int Tryz.underlying3 hy6
 obtain ⟨z7, e7, _, w7⟩ := DataW.trod_int Tryz.underlying3 hy7
 obtain ⟨z8, e8, _, w8⟩ := DataW.trod_int Tryz.underlying3 hy8
 obtain ⟨z9, e9, _⟩ := DataW.trod_bool Tryz.underlying4 hy9
 simp only [List.cons.injEq, and_true] at e0 e1 e2 e3 e4 e5 e6 e7 e8 e9
 subst e0 e1 e2 e3 e4 e5 e6 e7 e8 e9
 exact ⟨⟨z0, z1.data.toList, z2.data.toList, z3.data.toList, z4.data.toList, z5.data.toList, z6, z7, z8, z9⟩, rfl, ⟨w1, w2, w3, w4, w5⟩⟩
theorem open_flat {α : Type} {cells : α → List Value} {c : Nat} {fit : α → Prop} {t e : TypeId} {H : Type} {enc : TypeId × Value → H} {W : World} {spare : Nat → Bool} {held : Bool} {fuel : Nat} {cs : List Value} {x : DataW H × List MemPlace} (ht : Tryz.prog.underlying t = some (.slice e)) (hc : Tryz.prog.cellsOf e = c) (hc0 : 0 < c)
  (one : ∀ n cs y, DataW.trod enc Tryz.prog W 0 spare held n e cs = some y → ∃ z : α, cs = cells z ∧ fit z) (h : DataW.trod enc Tryz.prog W 0 spare held fuel t cs = some x) :
  ∃ (a : Option Addr) (cap : Nat) (l : List α), cs = [.slice a l.length cap] ∧ l.length ≤ cap ∧ cap ≤ maxLen ∧ RS (im0 W) a c l.length (rowsC cells l) ∧ ∀ z ∈ l, fit z := by
 obtain ⟨a, cap, L, n, rfl, h1, h2, h3, h4, h5⟩ := open_rows ht hc hc0 h
 have key : ∀ L : List (List Value), (∀ l ∈ L, ∃ y, DataW.trod enc Tryz.prog W 0 spare held n e l = some y) → ∃ l : List α, L = l.map cells ∧ ∀ z ∈ l, fit z := by
  intro L
  induction L with
  | nil => intro _; exact ⟨[], rfl, fun z h => by simp at h⟩
  | cons c L ih =>
   intro h
   obtain ⟨y, hy⟩ := h c (by simp)
   obtain ⟨z, rfl, hf⟩ := one n c y hy
   obtain ⟨l, rfl, e2⟩ := ih (fun c hc => h c (by simp [hc]))
   exact ⟨z :: l, rfl, fun u hu => by
    rcases List.mem_cons.1 hu with e | hu
    ·subst e; exact hf
    ·exact e2 u hu⟩
 obtain ⟨l, rfl, hfit⟩ := key L h5
 rw [List.length_map] at h1 h4
 exact ⟨a, cap, l, by rw [List.length_map], h1, h2, h4, hfit⟩
theorem open_usr {H : Type} {enc : TypeId × Value → H} {W : World} {spare : Nat → Bool} {held : Bool} {fuel : Nat} {cs : List Value} {x : DataW H × List MemPlace} (h : DataW.trod enc Tryz.prog W 0 spare held fuel 67 cs = some x) : ∃ u : Us, UsAt (im0 W) u cs ∧ u.fits := by
 obtain ⟨xs, n, _, _, hcl, hxl, hf⟩ := DataW.trod_struct Tryz.underlying67 h
 rw [show Tryz.prog.cellsOf 67 = 3 from by kernel_rfl] at hcl
 obtain ⟨y0, hy0⟩ : ∃ y, DataW.trod enc Tryz.prog W 0 spare held n 9 ((cs.drop 0).take (Tryz.prog.cellsOf 9)) = some y := ⟨_, (hf 0 _ rfl).trans (List.getElem?_eq_getElem (by rw [hxl]; decide))⟩
 rw [show Tryz.prog.cellsOf 9 = 1 from by kernel_rfl] at hy0
 obtain ⟨y1, hy1⟩ : ∃ y, DataW.trod enc Tryz.prog W 0 spare held n 9 ((cs.drop 1).take (Tryz.prog.cellsOf 9)) = some y := ⟨_, (hf 1 _ rfl).trans (List.getElem?_eq_getElem (by rw [hxl]; decide))⟩
 rw [show Tryz.prog.cellsOf 9 = 1 from by kernel_rfl] at hy1
 obtain ⟨y2, hy2⟩ : ∃ y, DataW.trod enc Tryz.prog W 0 spare held n 54 ((cs.drop 2).take (Tryz.prog.cellsOf 54)) = some y := ⟨_, (hf 2 _ rfl).trans (List.getElem?_eq_getElem (by rw [hxl]; decide))⟩
 rw [show Tryz.prog.cellsOf 54 = 1 from by kernel_rfl] at hy2
 obtain ⟨v0, v1, v2, rfl⟩ : ∃ v0 v1 v2, cs = [v0, v1, v2] := by
  match cs, hcl with
  | [v0, v1, v2], _ => exact ⟨v0, v1, v2, rfl⟩
 simp only [List.drop_succ_cons, List.drop_zero, List.take_succ_cons, List.take_zero] at hy0 hy1 hy2
 obtain ⟨z0, e0, _, w0⟩ := DataW.trod_string Tryz.underlying9 hy0
 obtain ⟨z1, e1, _, w1⟩ := DataW.trod_string Tryz.underlying9 hy1
 obtain ⟨a, c, l, e2, h1, h2, h3, h4⟩ := open_flat (cells := prCells) (c := 2) (fit := fitsP) Tryz.underlying54 (by kernel_rfl) (by decide) (fun n cs y h => open_pair h) hy2
 simp only [List.cons.injEq, and_true] at e0 e1 e2
 subst e0 e1 e2
 exact ⟨⟨z0.data.toList, z1.data.toList, l⟩, ⟨a, c, rfl, h1, h3⟩, ⟨w0, w1, Nat.le_trans h1 h2, h4⟩⟩
theorem open_usrs {H : Type} {enc : TypeId × Value → H} {W : World} {spare : Nat → Bool} {held : Bool} {fuel : Nat} {cs : List Value} {x : DataW H × List MemPlace} (h : DataW.trod enc Tryz.prog W 0 spare held fuel 28 cs = some x) : ∃ (a : Option Addr) (cap : Nat) (l : List Us), cs = [.slice a l.length cap] ∧ l.length ≤ cap ∧ cap ≤ maxLen ∧ UsrsAt (im0 W) a l ∧ ∀ u ∈ l, u.fits := by
 obtain ⟨a, cap, L, n, rfl, h1, h2, h3, h4, h5⟩ := open_rows (c := 3) Tryz.underlying28 (by kernel_rfl) (by decide) h
 have key : ∀ L : List (List Value), (∀ l ∈ L, ∃ y, DataW.trod enc Tryz.prog W 0 spare held n 67 l = some y) → ∃ l : List Us, L.length = l.length ∧ ∀ (i : Nat) (u : Us), l[i]? = some u → u.fits ∧ ∃ c, L[i]? = some c ∧ UsAt (im0 W) u c := by
  intro L
  induction L with
  | nil => intro _; exact ⟨[], rfl, fun i s h => by simp at h⟩
  | cons c L ih =>
   intro h
   obtain ⟨y, hy⟩ := h c (by simp)
   obtain ⟨s, hs, hf⟩ := open_usr hy
   obtain ⟨l, e1, e2⟩ := ih (fun c hc => h c (by simp [hc]))
   refine ⟨s :: l, by simp [e1], fun i u hu => ?_⟩
   cases i with
   | zero => simp at hu; subst hu; exact ⟨hf, c, rfl, hs⟩
   | succ i => simpa using e2 i u (by simpa using hu)
 obtain ⟨l, e1, e2⟩ := key L h5
 refine ⟨a, cap, l, by rw [e1], by rw [← e1]; exact h1, h2, fun i u hu => ?_, fun u hu => ?_⟩
 ·obtain ⟨_, c, hc, ra, rc, rfl, h6, h7⟩ := e2 i u hu
  obtain ⟨p, rfl, hp⟩ := h4.2 (by have := (List.getElem?_eq_some_iff.1 hc).1; omega)
  have h8 := at_take (hp.add (i * 3)) 3
  rw [flat_piece L h3 i _ hc] at h8
  exact ⟨p, ra, rc, rfl, h8, h6, h7⟩
 ·obtain ⟨i, hi⟩ := List.mem_iff_getElem?.1 hu
  exact (e2 i u hi).1
theorem open_arr {H : Type} {enc : TypeId × Value → H} {W : World} {spare : Nat → Bool} {held : Bool} {fuel : Nat} {cs : List Value} {x : DataW H × List MemPlace} (h : DataW.trod enc Tryz.prog W 0 spare held fuel 29 cs = some x) : ∃ l : List Int, l.length = 7 ∧ cs = l.map I64 := by
 obtain ⟨xs, n, _, _, hcl, hxl, hf⟩ := DataW.trod_array Tryz.underlying29 h
 rw [show Tryz.prog.cellsOf 29 = 7 from by kernel_rfl] at hcl
 rw [show Tryz.prog.cellsOf 3 = 1 from by kernel_rfl] at hf
 have each : ∀ v ∈ cs, ∃ z : Int, v = I64 z := by
  intro v hv
  obtain ⟨i, hi⟩ := List.mem_iff_getElem?.1 hv
  have hil := (List.getElem?_eq_some_iff.1 hi).1
  obtain ⟨y, hy⟩ : ∃ y, xs[i]? = some y := ⟨_, List.getElem?_eq_getElem (by omega)⟩
  have h2 := (hf i (by omega)).trans hy
  obtain ⟨z, e, _⟩ := DataW.trod_int Tryz.underlying3 h2
  rw [Nat.mul_one, List.drop_eq_getElem_cons hil, List.take_succ_cons, List.take_zero, (List.getElem?_eq_some_iff.1 hi).2] at e
  exact ⟨z, (List.cons.inj e).1⟩
 have key : ∀ cs : List Value, (∀ v ∈ cs, ∃ z : Int, v = I64 z) → ∃ l : List Int, cs = l.map I64 := by
  intro cs
  induction cs with
  | nil => intro _; exact ⟨[], rfl⟩
  | cons v r ih =>
   intro h
   obtain ⟨z, rfl⟩ := h v (by simp)
   obtain ⟨l, rfl⟩ := ih (fun v hv => h v (by simp [hv]))
   exact ⟨z :: l, rfl⟩
 obtain ⟨l, rfl⟩ := key cs each
 exact ⟨l, by simpa using hcl, rfl⟩
theorem psL_of {L : List Int} (h : L.length = 21) : psL (fun i => L.getD i 0) = L := by
 match L, h with
 | [a0, a1, a2, a3, a4, a5, a6, a7, a8, a9, a10, a11, a12, a13, a14, a15, a16, a17, a18, a19, a20], _ => rfl
theorem open_pol {H : Type} {enc : TypeId × Value → H} {W : World} {spare : Nat → Bool} {held : Bool} {fuel : Nat} {cs : List Value} {x : DataW H × List MemPlace} (h : DataW.trod enc Tryz.prog W 0 spare held fuel 31 cs = some x) : ∃ p : Nat → Int, cs = (psL p).map I64 := by
 obtain ⟨xs, n, _, _, hcl, hxl, hf⟩ := DataW.trod_struct Tryz.underlying31 h
 rw [show Tryz.prog.cellsOf 31 = 21 from by kernel_rfl] at hcl
 obtain ⟨y0, hy0⟩ : ∃ y, DataW.trod enc Tryz.prog W 0 spare held n 29 ((cs.drop 0).take (Tryz.prog.cellsOf 29)) = some y := ⟨_, (hf 0 _ rfl).trans (List.getElem?_eq_getElem (by rw [hxl]; decide))⟩
 rw [show Tryz.prog.cellsOf 29 = 7 from by kernel_rfl] at hy0
 obtain ⟨y1, hy1⟩ : ∃ y, DataW.trod enc Tryz.prog W 0 spare held n 29 ((cs.drop 7).take (Tryz.prog.cellsOf 29)) = some y := ⟨_, (hf 1 _ rfl).trans (List.getElem?_eq_getElem (by rw [hxl]; decide))⟩
 rw [show Tryz.prog.cellsOf 29 = 7 from by kernel_rfl] at hy1
 obtain ⟨y2, hy2⟩ : ∃ y, DataW.trod enc Tryz.prog W 0 spare held n 29 ((cs.drop 14).take (Tryz.prog.cellsOf 29)) = some y := ⟨_, (hf 2 _ rfl).trans (List.getElem?_eq_getElem (by rw [hxl]; decide))⟩
 rw [show Tryz.prog.cellsOf 29 = 7 from by kernel_rfl] at hy2
 obtain ⟨v0, v1, v2, v3, v4, v5, v6, v7, v8, v9, v10, v11, v12, v13, v14, v15, v16, v17, v18, v19, v20, rfl⟩ : ∃ v0 v1 v2 v3 v4 v5 v6 v7 v8 v9 v10 v11 v12 v13 v14 v15 v16 v17 v18 v19 v20, cs = [v0, v1, v2, v3, v4, v5, v6, v7, v8, v9, v10, v11, v12, v13, v14, v15, v16, v17, v18, v19, v20] := by
  match cs, hcl with
  | [v0, v1, v2, v3, v4, v5, v6, v7, v8, v9, v10, v11, v12, v13, v14, v15, v16, v17, v18, v19, v20], _ => exact ⟨v0, v1, v2, v3, v4, v5, v6, v7, v8, v9, v10, v11, v12, v13, v14, v15, v16, v17, v18, v19, v20, rfl⟩
 simp only [List.drop_succ_cons, List.drop_zero, List.take_succ_cons, List.take_zero] at hy0 hy1 hy2
 obtain ⟨l0, h0, e0⟩ := open_arr hy0
 obtain ⟨l1, h1, e1⟩ := open_arr hy1
 obtain ⟨l2, h2, e2⟩ := open_arr hy2
 refine ⟨fun i => (l0 ++ (l1 ++ l2)).getD i 0, ?_⟩
 rw [psL_of (by simp only [List.length_append]; omega), List.map_append, List.map_append, ← e0, ← e1, ← e2]
 rfl
theorem open_cfg {H : Type} {enc : TypeId × Value → H} {W : World} {spare : Nat → Bool} {held : Bool} {fuel : Nat} {cs : List Value} {x : DataW H × List MemPlace} (h : DataW.trod enc Tryz.prog W 0 spare held fuel 34 cs = some x) : ∃ (c : Cf) (a : Option Addr) (cap : Nat) (ua : Option Addr) (ucap : Nat), cs = cfCells c a cap ua ucap ∧ CfAt (im0 W) c a cap ua ucap := by
 obtain ⟨xs, n, _, _, hcl, hxl, hf⟩ := DataW.trod_struct Tryz.underlying34 h
 rw [show Tryz.prog.cellsOf 34 = 28 from by kernel_rfl] at hcl
 obtain ⟨y0, hy0⟩ : ∃ y, DataW.trod enc Tryz.prog W 0 spare held n 27 ((cs.drop 0).take (Tryz.prog.cellsOf 27)) = some y := ⟨_, (hf 0 _ rfl).trans (List.getElem?_eq_getElem (by rw [hxl]; decide))⟩
 rw [show Tryz.prog.cellsOf 27 = 1 from by kernel_rfl] at hy0
 obtain ⟨y1, hy1⟩ : ∃ y, DataW.trod enc Tryz.prog W 0 spare held n 28 ((cs.drop 1).take (Tryz.prog.cellsOf 28)) = some y := ⟨_, (hf 1 _ rfl).trans (List.getElem?_eq_getElem (by rw [hxl]; decide))⟩
 rw [show Tryz.prog.cellsOf 28 = 1 from by kernel_rfl] at hy1
 obtain ⟨y2, hy2⟩ : ∃ y, DataW.trod enc Tryz.prog W 0 spare held n 31 ((cs.drop 2).take (Tryz.prog.cellsOf 31)) = some y := ⟨_, (hf 2 _ rfl).trans (List.getElem?_eq_getElem (by rw [hxl]; decide))⟩
 rw [show Tryz.prog.cellsOf 31 = 21 from by kernel_rfl] at hy2
 obtain ⟨y3, hy3⟩ : ∃ y, DataW.trod enc Tryz.prog W 0 spare held n 3 ((cs.drop 23).take (Tryz.prog.cellsOf 3)) = some y := ⟨_, (hf 3 _ rfl).trans (List.getElem?_eq_getElem (by rw [hxl]; decide))⟩
 rw [show Tryz.prog.cellsOf 3 = 1 from by kernel_rfl] at hy3
 obtain ⟨y4, hy4⟩ : ∃ y, DataW.trod enc Tryz.prog W 0 spare held n 32 ((cs.drop 24).take (Tryz.prog.cellsOf 32)) = some y := ⟨_, (hf 4 _ rfl).trans (List.getElem?_eq_getElem (by rw [hxl]; decide))⟩
 rw [show Tryz.prog.cellsOf 32 = 1 from by kernel_rfl] at hy4
 obtain ⟨y5, hy5⟩ : ∃ y, DataW.trod enc Tryz.prog W 0 spare held n 32 ((cs.drop 25).take (Tryz.prog.cellsOf 32)) = some y := ⟨_, (hf 5 _ rfl).trans (List.getElem?_eq_getElem (by rw [hxl]; decide))⟩
 rw [show Tryz.prog.cellsOf 32 = 1 from by kernel_rfl] at hy5
 obtain ⟨y6, hy6⟩ : ∃ y, DataW.trod enc Tryz.prog W 0 spare held n 32 ((cs.drop 26).take (Tryz.prog.cellsOf 32)) = some y := ⟨_, (hf 6 _ rfl).trans (List.getElem?_eq_getElem (by rw [hxl]; decide))⟩
 rw [show Tryz.prog.cellsOf 32 = 1 from by kernel_rfl] at hy6
 obtain ⟨y7, hy7⟩ : ∃ y, DataW.trod enc Tryz.prog W 0 spare held n 3 ((cs.drop 27).take (Tryz.prog.cellsOf 3)) = some y := ⟨_, (hf 7 _ rfl).trans (List.getElem?_eq_getElem (by rw [hxl]; decide))⟩
 rw [show Tryz.prog.cellsOf 3 = 1 from by kernel_rfl] at hy7
 obtain ⟨v0, v1, v2, v3, v4, v5, v6, v7, v8, v9, v10, v11, v12, v13, v14, v15, v16, v17, v18, v19, v20, v21, v22, v23, v24, v25, v26, v27, rfl⟩ : ∃ v0 v1 v2 v3 v4 v5 v6 v7 v8 v9 v10 v11 v12 v13 v14 v15 v16 v17 v18 v19 v20 v21 v22 v23 v24 v25 v26 v27, cs = [v0, v1, v2, v3, v4, v5, v6, v7, v8, v9, v10, v11, v12, v13, v14, v15, v16, v17, v18, v19, v20, v21, v22, v23, v24, v25, v26, v27] := by
  match cs, hcl with
  | [v0, v1, v2, v3, v4, v5, v6, v7, v8, v9, v10, v11, v12, v13, v14, v15, v16, v17, v18, v19, v20, v21, v22, v23, v24, v25, v26, v27], _ => exact ⟨v0, v1, v2, v3, v4, v5, v6, v7, v8, v9, v10, v11, v12, v13, v14, v15, v16, v17, v18, v19, v20, v21, v22, v23, v24, v25, v26, v27, rfl⟩
 simp only [List.drop_succ_cons, List.drop_zero, List.take_succ_cons, List.take_zero] at hy0 hy1 hy2 hy3 hy4 hy5 hy6 hy7
 obtain ⟨a, cap, L, l, e0, h1, h2, h3, h4, h5, h6⟩ := open_svcs hy0
 obtain ⟨ua, ucap, us, e1, h7, h8, h9, h10⟩ := open_usrs hy1
 obtain ⟨ps, e2⟩ := open_pol hy2
 obtain ⟨z3, e3, _⟩ := DataW.trod_int Tryz.underlying3 hy3
 obtain ⟨z4, e4, _⟩ := trod_float_ Tryz.underlying32 hy4
 obtain ⟨z5, e5, _⟩ := trod_float_ Tryz.underlying32 hy5
 obtain ⟨z6, e6, _⟩ := trod_float_ Tryz.underlying32 hy6
 obtain ⟨z7, e7, _⟩ := DataW.trod_int Tryz.underlying3 hy7
 simp only [List.cons.injEq, and_true] at e0 e1 e3 e4 e5 e6 e7
 subst e0 e1 e3 e4 e5 e6 e7
 refine ⟨⟨l, us, ps, z3, z4, z5, z6, z7⟩, a, cap, ua, ucap, ?_, svs_of h4 h5 (fun i s hs => (h6 i s hs).2), h9, ⟨by rw [← h3]; exact h1, h2⟩, Nat.le_trans h7 h8, fun s hs => ?_, h10⟩
 ·show _ = Value.slice a l.length cap :: Value.slice ua us.length ucap :: ((psL ps).map I64 ++ _)
  rw [← e2, ← h3]; rfl
 ·obtain ⟨i, hi⟩ := List.mem_iff_getElem?.1 hs
  exact (h6 i s hi).1
end Go.Proofs.YtadhiihnnkcagaaGreatDoor
namespace Go.Proofs.YtadhiihnnkcagaaGreatDoor
open Gk Ul Pc Tk Tr
set_option linter.unusedVariables false
set_option linter.unusedSimpArgs false
structure Op where
 act : Int
 n : Int
 d : List Nat
 a : Int
 b : List UInt8
 c : List UInt8
 f : Bool
 r : Rec
 q : Ak
def opCells (o : Op) (da : Option Addr) (dc : Nat) : List Value := [I64 o.act, I64 o.n, .slice da o.d.length dc, I64 o.a, S o.b, S o.c, .bool o.f, I64 o.r.kind, S o.r.name, S o.r.parent, S o.r.user, S o.r.service, S o.r.url, I64 o.r.made, I64 o.r.used, I64 o.r.uses, .bool o.r.fresh, S o.q.service, S o.q.cookie, .bool o.q.has, .bool o.q.renew, .bool o.q.gateway, .bool o.q.warn]
def OpAt (I : Im) (o : Op) (cs : List Value) : Prop := ∃ da dc, cs = opCells o da dc ∧ o.d.length ≤ dc ∧ dc ≤ maxLen ∧ RS I da 1 o.d.length (o.d.map fun d => U64 (d : Nat))
def OpsAt (I : Im) (a : Option Addr) (l : List Op) : Prop := ∃ L : List (List Value), L.length = l.length ∧ (∀ c ∈ L, c.length = 23) ∧ RS I a 23 l.length L.flatten ∧ ∀ (i : Nat) (o : Op), l[i]? = some o → ∃ cs, L[i]? = some cs ∧ OpAt I o cs
theorem OpAt.mono {I J : Im} {o : Op} {cs : List Value} (h : OpAt I o cs) (hl : Le I J) : OpAt J o cs := by
 obtain ⟨da, dc, e, h1, h2, h3⟩ := h
 exact ⟨da, dc, e, h1, h2, h3.mono hl⟩
theorem OpsAt.mono {I J : Im} {a : Option Addr} {l : List Op} (h : OpsAt I a l) (hl : Le I J) : OpsAt J a l := by
 obtain ⟨L, h1, h2, h3, h4⟩ := h
 exact ⟨L, h1, h2, h3.mono hl, fun i o ho => by
  obtain ⟨cs, h5, h6⟩ := h4 i o ho
  exact ⟨cs, h5, h6.mono hl⟩⟩
theorem OpsAt.at {I : Im} {a : Option Addr} {l : List Op} (h : OpsAt I a l) (i : Nat) (u : Op) (hu : l[i]? = some u) : ∃ p cs, a = some p ∧ At I (p.add (i * 23)) cs ∧ OpAt I u cs := by
 obtain ⟨L, h1, h2, h3, h4⟩ := h
 obtain ⟨cs, h5, h6⟩ := h4 i u hu
 obtain ⟨p, rfl, hp⟩ := h3.2 (by have := (List.getElem?_eq_some_iff.1 hu).1; omega)
 refine ⟨p, cs, rfl, ?_, h6⟩
 have h8 := at_take (hp.add (i * 23)) 23
 rw [flat_piece L h2 i _ h5] at h8
 exact h8
structure Op.fits (o : Op) : Prop where
 d : ∀ x ∈ o.d, x < 18446744073709551616
 b : o.b.length ≤ maxLen
 c : o.c.length ≤ maxLen
def bigO (o : Op) : Bool := ((((((decide ((10 : Int) < (o.d.length : Int)) || decide ((120 : Int) < (o.b.length : Int))) || decide ((80 : Int) < (o.c.length : Int))) || decide ((120 : Int) < (o.q.service.length : Int))) || decide ((60 : Int) < (o.r.parent.length : Int))) || decide ((60 : Int) < (o.r.user.length : Int))) || decide ((120 : Int) < (o.r.service.length : Int))) || decide ((120 : Int) < (o.r.url.length : Int))
def few20 (c : Cf) (l : List Op) : Bool := (l.all fun o => !bigO o) && (fewC c && decide ((l.length : Int) ≤ 40))
def toldN (names : List (List UInt8)) (at9 : Int) : List UInt8 := if (decide (at9 < 0) || decide ((names.length : Int) ≤ at9)) = true then [] else (names[names.length - 1 - at9.toNat]?).getD []
def feedW (ω : Wd) (d : List Nat) : Wd := { ω with D := ω.D ++ d }
def LTr : Rec := ⟨6, [], [], [], [], [], 0, 0, 0, false⟩
def actW (lo : List Sv) (us : List Us) (ps : Nat → Int) (ω : Wd) (names : List (List UInt8)) (o : Op) : (List UInt8 × Nat) × Wd :=
 if o.act = 1 then (([], 0), feedW ω o.d)
 else if o.act = 2 then (([], 0), tick ω o.n)
 else if o.act = 3 then mkW ω LTr
 else if o.act = 4 then loginW us ps ω (toldN names o.a) o.b o.c
 else if o.act = 5 then (((grantW lo ps ω (toldN names o.a) o.b o.f).1.1.1, (grantW lo ps ω (toldN names o.a) o.b o.f).1.2), (grantW lo ps ω (toldN names o.a) o.b o.f).2)
 else (([], 0), ω)
def addN (names : List (List UInt8)) (a : List UInt8) : List (List UInt8) := if (a != []) = true then names ++ [a] else names
def stepW (lo : List Sv) (us : List Us) (ps : Nat → Int) (s : Wd × List (List UInt8)) (o : Op) : Wd × List (List UInt8) := ((actW lo us ps s.1 s.2 o).2, addN s.2 (actW lo us ps s.1 s.2 o).1.1)
theorem feedW_ok {ω : Wd} (h : WdOk ω) {d : List Nat} (hd : ∀ x ∈ d, x < 18446744073709551616) : WdOk (feedW ω d) := ⟨h.len, h.wf, fun x hx => by
 rcases List.mem_append.1 hx with h1 | h1
 ·exact h.D x h1
 ·exact hd x h1, h.now, h.room⟩
theorem mkW_nlen {ω : Wd} {r : Rec} : (mkW ω r).1.1.length ≤ 60 := by
 unfold mkW
 split
 ·exact Nat.zero_le _
 ·dsimp only
  split
  ·exact Nat.zero_le _
  ·have := nextT_len (pr := fun s => (get ω.l s).isSome) (kind := r.kind) (D := ω.D)
   show (mkN ω r).1.1.length ≤ 60
   unfold mkN; omega
theorem mkW_D {ω : Wd} {r : Rec} : (mkW ω r).2.D.length ≤ ω.D.length := by
 have h : (mkN ω r).2.length ≤ ω.D.length := by
  unfold mkN nextT
  split
  ·exact Nat.le_refl _
  ·cases ω.D with
   | nil => exact Nat.le_refl _
   | cons d D => dsimp only; split <;> simp
 unfold mkW
 split
 ·exact h
 ·exact h
theorem loginW_nlen {us : List Us} {ps : Nat → Int} {ω : Wd} {lt user pw : List UInt8} : (loginW us ps ω lt user pw).1.1.length ≤ 60 := by
 unfold loginW
 split
 ·exact Nat.zero_le _
 ·split
  ·exact Nat.zero_le _
  ·exact mkW_nlen
theorem loginW_D {us : List Us} {ps : Nat → Int} {ω : Wd} {lt user pw : List UInt8} : (loginW us ps ω lt user pw).2.D.length ≤ ω.D.length := by
 unfold loginW
 split
 ·exact Nat.le_refl _
 ·split
  ·exact Nat.le_refl _
  ·dsimp only
   split
   ·exact mkW_D
   ·exact mkW_D
theorem grantW_nlen {lo : List Sv} {ps : Nat → Int} {ω : Wd} {t s : List UInt8} {f : Bool} : (grantW lo ps ω t s f).1.1.1.length ≤ 60 := by
 unfold grantW
 split
 ·exact Nat.zero_le _
 ·split
  ·exact Nat.zero_le _
  ·split
   ·exact Nat.zero_le _
   ·split
    ·exact Nat.zero_le _
    ·exact mkW_nlen
theorem grantW_D {lo : List Sv} {ps : Nat → Int} {ω : Wd} {t s : List UInt8} {f : Bool} : (grantW lo ps ω t s f).2.D.length ≤ ω.D.length := by
 unfold grantW
 split
 ·exact Nat.le_refl _
 ·split
  ·exact Nat.le_refl _
  ·split
   ·exact Nat.le_refl _
   ·split
    ·exact mkW_D
    ·exact mkW_D
structure WkOk (i : Nat) (s : Wd × List (List UInt8)) : Prop where
 ok : WdOk s.1
 nm : ∀ t ∈ s.2, t.length ≤ 60
 nl : s.2.length ≤ i
 dl : s.1.D.length ≤ 10 * i
theorem actW_nlen {lo : List Sv} {us : List Us} {ps : Nat → Int} {ω : Wd} {ns : List (List UInt8)} {o : Op} : (actW lo us ps ω ns o).1.1.length ≤ 60 := by
 unfold actW
 split
 ·exact Nat.zero_le _
 ·split
  ·exact Nat.zero_le _
  ·split
   ·exact mkW_nlen
   ·split
    ·exact loginW_nlen
    ·split
     ·exact grantW_nlen
     ·exact Nat.zero_le _
theorem actW_ok {lo : List Sv} {us : List Us} {ps : Nat → Int} {ω : Wd} {ns : List (List UInt8)} {o : Op} (h : WdOk ω) (hd : ∀ x ∈ o.d, x < 18446744073709551616) : WdOk (actW lo us ps ω ns o).2 := by
 unfold actW
 split
 ·exact feedW_ok h hd
 ·split
  ·exact tick_ok h _
  ·split
   ·exact mkW_ok h _
   ·split
    ·exact loginW_ok h _ _ _
    ·split
     ·exact grantW_ok h _ _ _
     ·exact h
theorem actW_D {lo : List Sv} {us : List Us} {ps : Nat → Int} {ω : Wd} {ns : List (List UInt8)} {o : Op} (hb : o.d.length ≤ 10) : (actW lo us ps ω ns o).2.D.length ≤ ω.D.length + 10 := by
 unfold actW
 split
 ·show (ω.D ++ o.d).length ≤ _
  rw [List.length_append]; omega
 ·split
  ·show ω.D.length ≤ _; omega
  ·split
   ·exact Nat.le_trans mkW_D (Nat.le_add_right _ _)
   ·split
    ·exact Nat.le_trans loginW_D (Nat.le_add_right _ _)
    ·split
     ·exact Nat.le_trans grantW_D (Nat.le_add_right _ _)
     ·show ω.D.length ≤ _; omega
theorem stepW_ok {lo : List Sv} {us : List Us} {ps : Nat → Int} {i : Nat} {s : Wd × List (List UInt8)} {o : Op} (h : WkOk i s) (hd : ∀ x ∈ o.d, x < 18446744073709551616) (hb : o.d.length ≤ 10) : WkOk (i + 1) (stepW lo us ps s o) := by
 refine ⟨actW_ok h.ok hd, fun t ht => ?_, ?_, ?_⟩
 ·change t ∈ addN _ _ at ht
  unfold addN at ht
  split at ht
  ·rcases List.mem_append.1 ht with h1 | h1
   ·exact h.nm t h1
   ·rw [List.mem_singleton.1 h1]; exact actW_nlen
  ·exact h.nm t ht
 ·show (addN _ _).length ≤ _
  have := h.nl
  unfold addN
  split
  ·rw [List.length_append, List.length_cons, List.length_nil]; omega
  ·omega
 ·have := actW_D (lo := lo) (us := us) (ps := ps) (ω := s.1) (ns := s.2) hb
  have := h.dl
  show (actW lo us ps s.1 s.2 o).2.D.length ≤ _
  omega
theorem toldN_len {ns : List (List UInt8)} (h : ∀ t ∈ ns, t.length ≤ 60) (a : Int) : (toldN ns a).length ≤ 60 := by
 unfold toldN
 split
 ·decide
 ·cases e : ns[ns.length - 1 - a.toNat]? with
  | none => decide
  | some t => exact h t (List.mem_of_getElem? e)
theorem few20_facts {c : Cf} {l : List Op} (h : few20 c l = true) : fewC c = true ∧ l.length ≤ 40 ∧ ∀ o ∈ l, o.d.length ≤ 10 ∧ o.b.length ≤ 120 ∧ o.c.length ≤ 80 ∧ o.q.service.length ≤ 120 ∧ o.r.parent.length ≤ 60 ∧ o.r.user.length ≤ 60 ∧ o.r.service.length ≤ 120 ∧ o.r.url.length ≤ 120 := by
 unfold few20 at h
 simp only [Bool.and_eq_true, decide_eq_true_eq] at h
 refine ⟨h.2.1, by omega, fun o ho => ?_⟩
 have := List.all_eq_true.1 h.1 o ho
 simp [bigO] at this
 omega
theorem few20_any (c : Cf) (a : Option Addr) (cap : Nat) (ua : Option Addr) (ucap : Nat) (oa : Option Addr) (oc : Nat) (l : List Op) (hol : l.length ≤ 9223372036854775807) (B w : World) (I : Im) (hC : CfAt I c a cap ua ucap) (hO : OpsAt I oa l) (As : List Assn) (hS : Sat B w I As) :
  Calls Tryz.prog 35 [.agg (cfCells c a cap ua ucap).toArray, .slice oa l.length oc].toArray w (Ret fun v w' => v = .bool (few20 c l) ∧ Sat B w' I As) := by
 refine calls Tryz.func35 rfl Tryz.ntmps35 rfl (.seq (.region (.boxA (cs := cfCells c a cap ua ucap) hS (.of rfl) rfl ?_)))
 clear hS; intro b2 w hS
 refine .run 1 rfl trivial (.nil (.seq (.seq (.region (.run 1 rfl trivial (.nil (.block (.loop (σ := Nat) (fun i => [(1, .slice oa l.length oc), (2, ptr b2 0), (5, I64 (i : Nat))]) (fun i w => i ≤ l.length ∧ (∀ (j : Nat) o, j < i → l[j]? = some o → bigO o = false) ∧ Sat B w I (blk b2 (cfCells c a cap ua ucap) 34 :: As)) (fun i => l.length - i) 0 ⟨rfl, rfl, rfl, trivial⟩ ⟨Nat.zero_le _, fun _ _ h => absurd h (by omega), hS⟩ ?_))))))))
 rintro i w ⟨hi, hno, hS⟩
 change WC _ _ _ _ [(1, .slice oa l.length oc), (2, ptr b2 0), (5, I64 (i : Nat))] w
 refine .seq (.seq (.region (.run 4 rfl ⟨⟨_, Tryz.underlying88⟩, trivial⟩ (.nil ?_))))
 refine WC.cond rfl (fun hb10 => ?_) (fun hb10 => ?_)
 ·
  have hc10 := hb10; try simp only [Gk.cs0] at hc10
  refine .skip (.seq (.block (.seq ?_)))
  obtain ⟨o, ho⟩ : ∃ o, l[i]? = some o := ⟨_, List.getElem?_eq_getElem (by omega)⟩
  obtain ⟨p, cs, hp9, hx, da, dc, rfl, hdc, hdm, hd⟩ := hO.at i o ho
  subst hp9
  unfold opCells at hx
  refine .region (.run 2 rfl trivial ?_)
  first | refine WL.val (.indexAddr (.of rfl) (.of rfl) (by omega) (by omega) Tryz.underlying88 Tryz.sizeOf97) rfl ?_ | refine WL.val (.indexAddrI (.of rfl) (.of rfl) (by omega) (by omega) Tryz.underlying88 Tryz.sizeOf97) rfl ?_
  first | refine WL.val (.fieldAddr 2 (.of rfl) Tryz.underlying97 rfl rfl Tryz.sizeOf81 rfl) rfl ?_ | refine WL.val (.fieldAddrI 2 (.of rfl) Tryz.underlying97 rfl rfl Tryz.sizeOf81 rfl) rfl ?_
  first | refine WL.val (.ld (.of rfl) hS (k := 0) rfl Tryz.isAgg81 rfl) rfl ?_ | refine WL.val (.ldI (.of rfl) hS (At.add hx _) Tryz.isAgg81 rfl) rfl ?_
  refine .run 3 rfl ⟨⟨_, Tryz.underlying81⟩, trivial⟩ (.gval rfl rfl (fun hg1 => (.move (.of rfl))) rfl (.gval rfl rfl (fun hg1 => (.move (.of rfl))) rfl ?_))
  refine WL.gval rfl rfl (fun hg1 => (by first | exact .indexAddr (.gd hg1 rfl) (.gd hg1 rfl) (by (try simp only [Gk.cs0] at hg1); omega) (by (try simp only [Gk.cs0] at hg1); omega) Tryz.underlying88 Tryz.sizeOf97 | exact .indexAddrI (.gd hg1 rfl) (.gd hg1 rfl) (by (try simp only [Gk.cs0] at hg1); omega) (by (try simp only [Gk.cs0] at hg1); omega) Tryz.underlying88 Tryz.sizeOf97)) rfl ?_
  refine WL.gval rfl rfl (fun hg1 => (by first | exact .fieldAddr 4 (.gd hg1 rfl) Tryz.underlying97 rfl rfl Tryz.sizeOf9 rfl | exact .fieldAddrI 4 (.gd hg1 rfl) Tryz.underlying97 rfl rfl Tryz.sizeOf9 rfl)) rfl ?_
  refine WL.gval rfl rfl (fun hg1 => (by first | exact (.ld (.gd hg1 rfl) hS (k := 0) rfl Tryz.isAgg9 rfl) | exact (.ldI (.gd hg1 rfl) hS (At.add hx _) Tryz.isAgg9 rfl))) rfl ?_
  refine .gval rfl rfl (fun hg1 => (.len (.gd hg1 rfl) Tryz.underlying9)) rfl (.gval rfl rfl (fun hg1 => (.gtr (.gd hg1 rfl) (.of rfl))) rfl (.val (.por (.of rfl) (.of rfl) (.of rfl)) rfl (.run 1 rfl trivial (.gval rfl rfl (fun hg1 => (.move (.of rfl))) rfl (.gval rfl rfl (fun hg1 => (.move (.of rfl))) rfl ?_)))))
  refine WL.gval rfl rfl (fun hg1 => (by first | exact .indexAddr (.gd hg1 rfl) (.gd hg1 rfl) (by (try simp only [Gk.cs0] at hg1); omega) (by (try simp only [Gk.cs0] at hg1); omega) Tryz.underlying88 Tryz.sizeOf97 | exact .indexAddrI (.gd hg1 rfl) (.gd hg1 rfl) (by (try simp only [Gk.cs0] at hg1); omega) (by (try simp only [Gk.cs0] at hg1); omega) Tryz.underlying88 Tryz.sizeOf97)) rfl ?_
  refine WL.gval rfl rfl (fun hg1 => (by first | exact .fieldAddr 5 (.gd hg1 rfl) Tryz.underlying97 rfl rfl Tryz.sizeOf9 rfl | exact .fieldAddrI 5 (.gd hg1 rfl) Tryz.underlying97 rfl rfl Tryz.sizeOf9 rfl)) rfl ?_
  refine WL.gval rfl rfl (fun hg1 => (by first | exact (.ld (.gd hg1 rfl) hS (k := 0) rfl Tryz.isAgg9 rfl) | exact (.ldI (.gd hg1 rfl) hS (At.add hx _) Tryz.isAgg9 rfl))) rfl ?_
  refine .gval rfl rfl (fun hg1 => (.len (.gd hg1 rfl) Tryz.underlying9)) rfl (.gval rfl rfl (fun hg1 => (.gtr (.gd hg1 rfl) (.of rfl))) rfl (.val (.por (.of rfl) (.of rfl) (.of rfl)) rfl (.run 1 rfl trivial (.gval rfl rfl (fun hg1 => (.move (.of rfl))) rfl (.gval rfl rfl (fun hg1 => (.move (.of rfl))) rfl ?_)))))
  refine WL.gval rfl rfl (fun hg1 => (by first | exact .indexAddr (.gd hg1 rfl) (.gd hg1 rfl) (by (try simp only [Gk.cs0] at hg1); omega) (by (try simp only [Gk.cs0] at hg1); omega) Tryz.underlying88 Tryz.sizeOf97 | exact .indexAddrI (.gd hg1 rfl) (.gd hg1 rfl) (by (try simp only [Gk.cs0] at hg1); omega) (by (try simp only [Gk.cs0] at hg1); omega) Tryz.underlying88 Tryz.sizeOf97)) rfl ?_
  refine WL.gval rfl rfl (fun hg1 => (by first | exact .fieldAddr 17 (.gd hg1 rfl) Tryz.underlying97 rfl rfl Tryz.sizeOf95 rfl | exact .fieldAddrI 17 (.gd hg1 rfl) Tryz.underlying97 rfl rfl Tryz.sizeOf95 rfl)) rfl ?_
  refine WL.gval rfl rfl (fun hg1 => (by first | exact .fieldAddr 0 (.gd hg1 rfl) Tryz.underlying95 rfl rfl Tryz.sizeOf9 rfl | exact .fieldAddrI 0 (.gd hg1 rfl) Tryz.underlying95 rfl rfl Tryz.sizeOf9 rfl)) rfl ?_
  refine WL.gval rfl rfl (fun hg1 => (by first | exact (.ld (.gd hg1 rfl) hS (k := 0) rfl Tryz.isAgg9 rfl) | exact (.ldI (.gd hg1 rfl) hS (At.add hx 17) Tryz.isAgg9 rfl))) rfl ?_
  refine .gval rfl rfl (fun hg1 => (.len (.gd hg1 rfl) Tryz.underlying9)) rfl (.gval rfl rfl (fun hg1 => (.gtr (.gd hg1 rfl) (.of rfl))) rfl (.val (.por (.of rfl) (.of rfl) (.of rfl)) rfl (.run 1 rfl trivial (.gval rfl rfl (fun hg1 => (.move (.of rfl))) rfl (.gval rfl rfl (fun hg1 => (.move (.of rfl))) rfl ?_)))))
  refine WL.gval rfl rfl (fun hg1 => (by first | exact .indexAddr (.gd hg1 rfl) (.gd hg1 rfl) (by (try simp only [Gk.cs0] at hg1); omega) (by (try simp only [Gk.cs0] at hg1); omega) Tryz.underlying88 Tryz.sizeOf97 | exact .indexAddrI (.gd hg1 rfl) (.gd hg1 rfl) (by (try simp only [Gk.cs0] at hg1); omega) (by (try simp only [Gk.cs0] at hg1); omega) Tryz.underlying88 Tryz.sizeOf97)) rfl ?_
  refine WL.gval rfl rfl (fun hg1 => (by first | exact .fieldAddr 7 (.gd hg1 rfl) Tryz.underlying97 rfl rfl Tryz.sizeOf45 rfl | exact .fieldAddrI 7 (.gd hg1 rfl) Tryz.underlying97 rfl rfl Tryz.sizeOf45 rfl)) rfl ?_
  refine WL.gval rfl rfl (fun hg1 => (by first | exact .fieldAddr 2 (.gd hg1 rfl) Tryz.underlying45 rfl rfl Tryz.sizeOf9 rfl | exact .fieldAddrI 2 (.gd hg1 rfl) Tryz.underlying45 rfl rfl Tryz.sizeOf9 rfl)) rfl ?_
  refine WL.gval rfl rfl (fun hg1 => (by first | exact (.ld (.gd hg1 rfl) hS (k := 0) rfl Tryz.isAgg9 rfl) | exact (.ldI (.gd hg1 rfl) hS (At.add hx 9) Tryz.isAgg9 rfl))) rfl ?_
  refine .gval rfl rfl (fun hg1 => (.len (.gd hg1 rfl) Tryz.underlying9)) rfl (.gval rfl rfl (fun hg1 => (.gtr (.gd hg1 rfl) (.of rfl))) rfl (.val (.por (.of rfl) (.of rfl) (.of rfl)) rfl (.run 1 rfl trivial (.gval rfl rfl (fun hg1 => (.move (.of rfl))) rfl (.gval rfl rfl (fun hg1 => (.move (.of rfl))) rfl ?_)))))
  refine WL.gval rfl rfl (fun hg1 => (by first | exact .indexAddr (.gd hg1 rfl) (.gd hg1 rfl) (by (try simp only [Gk.cs0] at hg1); omega) (by (try simp only [Gk.cs0] at hg1); omega) Tryz.underlying88 Tryz.sizeOf97 | exact .indexAddrI (.gd hg1 rfl) (.gd hg1 rfl) (by (try simp only [Gk.cs0] at hg1); omega) (by (try simp only [Gk.cs0] at hg1); omega) Tryz.underlying88 Tryz.sizeOf97)) rfl ?_
  refine WL.gval rfl rfl (fun hg1 => (by first | exact .fieldAddr 7 (.gd hg1 rfl) Tryz.underlying97 rfl rfl Tryz.sizeOf45 rfl | exact .fieldAddrI 7 (.gd hg1 rfl) Tryz.underlying97 rfl rfl Tryz.sizeOf45 rfl)) rfl ?_
  refine WL.gval rfl rfl (fun hg1 => (by first | exact .fieldAddr 3 (.gd hg1 rfl) Tryz.underlying45 rfl rfl Tryz.sizeOf9 rfl | exact .fieldAddrI 3 (.gd hg1 rfl) Tryz.underlying45 rfl rfl Tryz.sizeOf9 rfl)) rfl ?_
  refine WL.gval rfl rfl (fun hg1 => (by first | exact (.ld (.gd hg1 rfl) hS (k := 0) rfl Tryz.isAgg9 rfl) | exact (.ldI (.gd hg1 rfl) hS (At.add hx 10) Tryz.isAgg9 rfl))) rfl ?_
  refine .gval rfl rfl (fun hg1 => (.len (.gd hg1 rfl) Tryz.underlying9)) rfl (.gval rfl rfl (fun hg1 => (.gtr (.gd hg1 rfl) (.of rfl))) rfl (.val (.por (.of rfl) (.of rfl) (.of rfl)) rfl (.run 1 rfl trivial (.gval rfl rfl (fun hg1 => (.move (.of rfl))) rfl (.gval rfl rfl (fun hg1 => (.move (.of rfl))) rfl ?_)))))
  refine WL.gval rfl rfl (fun hg1 => (by first | exact .indexAddr (.gd hg1 rfl) (.gd hg1 rfl) (by (try simp only [Gk.cs0] at hg1); omega) (by (try simp only [Gk.cs0] at hg1); omega) Tryz.underlying88 Tryz.sizeOf97 | exact .indexAddrI (.gd hg1 rfl) (.gd hg1 rfl) (by (try simp only [Gk.cs0] at hg1); omega) (by (try simp only [Gk.cs0] at hg1); omega) Tryz.underlying88 Tryz.sizeOf97)) rfl ?_
  refine WL.gval rfl rfl (fun hg1 => (by first | exact .fieldAddr 7 (.gd hg1 rfl) Tryz.underlying97 rfl rfl Tryz.sizeOf45 rfl | exact .fieldAddrI 7 (.gd hg1 rfl) Tryz.underlying97 rfl rfl Tryz.sizeOf45 rfl)) rfl ?_
  refine WL.gval rfl rfl (fun hg1 => (by first | exact .fieldAddr 4 (.gd hg1 rfl) Tryz.underlying45 rfl rfl Tryz.sizeOf9 rfl | exact .fieldAddrI 4 (.gd hg1 rfl) Tryz.underlying45 rfl rfl Tryz.sizeOf9 rfl)) rfl ?_
  refine WL.gval rfl rfl (fun hg1 => (by first | exact (.ld (.gd hg1 rfl) hS (k := 0) rfl Tryz.isAgg9 rfl) | exact (.ldI (.gd hg1 rfl) hS (At.add hx 11) Tryz.isAgg9 rfl))) rfl ?_
  refine .gval rfl rfl (fun hg1 => (.len (.gd hg1 rfl) Tryz.underlying9)) rfl (.gval rfl rfl (fun hg1 => (.gtr (.gd hg1 rfl) (.of rfl))) rfl (.val (.por (.of rfl) (.of rfl) (.of rfl)) rfl (.run 1 rfl trivial (.gval rfl rfl (fun hg1 => (.move (.of rfl))) rfl (.gval rfl rfl (fun hg1 => (.move (.of rfl))) rfl ?_)))))
  refine WL.gval rfl rfl (fun hg1 => (by first | exact .indexAddr (.gd hg1 rfl) (.gd hg1 rfl) (by (try simp only [Gk.cs0] at hg1); omega) (by (try simp only [Gk.cs0] at hg1); omega) Tryz.underlying88 Tryz.sizeOf97 | exact .indexAddrI (.gd hg1 rfl) (.gd hg1 rfl) (by (try simp only [Gk.cs0] at hg1); omega) (by (try simp only [Gk.cs0] at hg1); omega) Tryz.underlying88 Tryz.sizeOf97)) rfl ?_
  refine WL.gval rfl rfl (fun hg1 => (by first | exact .fieldAddr 7 (.gd hg1 rfl) Tryz.underlying97 rfl rfl Tryz.sizeOf45 rfl | exact .fieldAddrI 7 (.gd hg1 rfl) Tryz.underlying97 rfl rfl Tryz.sizeOf45 rfl)) rfl ?_
  refine WL.gval rfl rfl (fun hg1 => (by first | exact .fieldAddr 5 (.gd hg1 rfl) Tryz.underlying45 rfl rfl Tryz.sizeOf9 rfl | exact .fieldAddrI 5 (.gd hg1 rfl) Tryz.underlying45 rfl rfl Tryz.sizeOf9 rfl)) rfl ?_
  refine WL.gval rfl rfl (fun hg1 => (by first | exact (.ld (.gd hg1 rfl) hS (k := 0) rfl Tryz.isAgg9 rfl) | exact (.ldI (.gd hg1 rfl) hS (At.add hx 12) Tryz.isAgg9 rfl))) rfl ?_
  refine .gval rfl rfl (fun hg1 => (.len (.gd hg1 rfl) Tryz.underlying9)) rfl (.gval rfl rfl (fun hg1 => (.gtr (.gd hg1 rfl) (.of rfl))) rfl (.val (.por (.of rfl) (.of rfl) (.of rfl)) rfl (.nil ?_)))
  refine WC.cond rfl (fun hb87 => ?_) (fun hb87 => ?_)
  ·
   have hc87 := hb87; try simp only [Gk.cs0] at hc87
   refine .seq (.region (.run 1 rfl trivial (.nil (.ret (ret1 Tryz.results35 rfl ?_)))))
   refine ⟨_, rfl, congrArg Value.bool ?_, hS.drop (k := 0) rfl⟩
   have : (l.all fun o => !bigO o) = false := List.all_eq_false.2 ⟨o, List.mem_of_getElem? ho, by rw [show bigO o = true from hb87]; decide⟩
   rw [few20, this]; rfl
  have hc87 := hb87; try simp only [Gk.cs0] at hc87
  refine .skip (.region (.run 3 rfl ⟨⟨by omega, by omega⟩, trivial⟩ (.nil ?_)))
  refine ⟨i + 1, ⟨rfl, rfl, rfl, trivial⟩, ⟨by (try dsimp only); omega, fun j t hj ht => ?_, hS⟩, by (try dsimp only); omega⟩
  rcases Nat.lt_or_ge j i with h1 | h1
  ·exact hno j t h1 ht
  ·have e : j = i := by omega
   subst e
   rw [ho] at ht; cases ht
   exact hb87
 have hc10 := hb10; try simp only [Gk.cs0] at hc10
 refine .exit (.seq (.region ?_))
 refine WL.val (.lds (vs := cfCells c a cap ua ucap) (.of rfl) hS (k := 0) rfl Tryz.isAgg34 Tryz.sizeOf34 rfl (fun j v hj => by rw [Nat.zero_add]; exact hj)) rfl ?_
 refine .call Tryz.func60 rfl (evs_cons (.of rfl) evs_nil) rfl (fewC_any c a cap ua ucap hC.cap.1 hC.cap.2 hC.un hC.ufit B _ I hC.svs hC.us _ hS) ?_
 clear hS
 rintro _ w ⟨rfl, hS⟩
 refine .run 1 rfl trivial (.nil (.seq (.region (.run 2 rfl trivial (.gval rfl rfl (fun hg1 => (.move (.of rfl))) rfl (.gval rfl rfl (fun hg1 => (.lenSlice (.gd hg1 rfl) Tryz.underlying88)) rfl (.gval rfl rfl (fun hg1 => (.leq (.gd hg1 rfl) (.of rfl))) rfl (.val (.pand (.of rfl) (.of rfl) (.of rfl)) rfl (.run 1 rfl trivial (.nil (.ret (ret1 Tryz.results35 rfl ?_))))))))))))
 refine ⟨_, rfl, congrArg Value.bool ?_, hS.drop (k := 0) rfl⟩
 have : (l.all fun o => !bigO o) = true := by
  rw [List.all_eq_true]
  intro q hq
  obtain ⟨j, hj⟩ := List.mem_iff_getElem?.1 hq
  have := (List.getElem?_eq_some_iff.1 hj).1
  rw [hno j q (by omega) hj]; rfl
 rw [few20, this]; rfl
theorem toldN_any (a : Option Addr) (c : Nat) (l : List (List UInt8)) (hl : l.length ≤ 9223372036854775807) (at9 : Int) (B w : World) (I : Im) (As : List Assn) (hE : ∀ w, Sat B w I As → RowsW w tCells 1 a l) (hS : Sat B w I As) :
  Calls Tryz.prog 38 [.slice a l.length c, I64 at9].toArray w (Ret fun v w' => v = S (toldN l at9) ∧ Sat B w' I As) := by
 refine calls Tryz.func38 rfl Tryz.ntmps38 rfl (.seq (.region (.run 1 rfl trivial (.nil (.seq (.seq (.region (.run 3 rfl trivial (.gval rfl rfl (fun hg1 => (.move (.of rfl))) rfl (.gval rfl rfl (fun hg1 => (.move (.of rfl))) rfl (.gval rfl rfl (fun hg1 => (.lenSlice (.gd hg1 rfl) Tryz.underlying41)) rfl (.gval rfl rfl (fun hg1 => (.geq (.gd hg1 rfl) (.gd hg1 rfl))) rfl (.val (.por (.of rfl) (.of rfl) (.of rfl)) rfl (.nil ?_))))))))))))))
 refine WC.cond rfl (fun hb12 => ?_) (fun hb12 => ?_)
 ·
  have hc12 := hb12; try simp only [Gk.cs0] at hc12
  refine .seq (.region (.run 1 rfl trivial (.nil (.ret (ret1 Tryz.results38 rfl ?_)))))
  exact ⟨_, rfl, congrArg S (by rw [toldN, if_pos (by simpa using hb12)]), hS⟩
 have hc12 := hb12; try simp only [Gk.cs0] at hc12
 refine .skip (.seq ?_)
 have hc12 := hb12
 simp only [Bool.or_eq_false_iff, decide_eq_false_iff_not] at hc12
 obtain ⟨k, hk⟩ : ∃ k, k = l.length - 1 - at9.toNat := ⟨_, rfl⟩
 obtain ⟨x, hx⟩ : ∃ x, l[k]? = some x := ⟨_, List.getElem?_eq_getElem (by omega)⟩
 obtain ⟨p, rfl, hA⟩ := hE w hS k x hx
 have hc0 := hA 0 _ rfl
 refine .region (.run 5 rfl ⟨⟨_, Tryz.underlying41⟩, ⟨by omega, by omega⟩, trivial⟩ (.val (.sub (.of rfl) (.of rfl) ⟨by omega, by omega⟩) rfl ?_))
 rw [show ((l.length : Nat) : Int) - 1 - at9 = ((k : Nat) : Int) by omega]
 first | refine WL.val (.indexAddr (.of rfl) (.of rfl) (by omega) (by omega) Tryz.underlying41 Tryz.sizeOf9) rfl ?_ | refine WL.val (.indexAddrI (.of rfl) (.of rfl) (by omega) (by omega) Tryz.underlying41 Tryz.sizeOf9) rfl ?_
 refine .val (v := S x) (.ld1 (.of rfl) (by simpa [Addr.add_add] using hc0) Tryz.isAgg9) rfl (.run 1 rfl trivial (.nil (.ret (ret1 Tryz.results38 rfl ?_))))
 exact ⟨_, rfl, congrArg S (by rw [toldN, if_neg (by simpa using hb12), ← hk, hx]; rfl), hS⟩
end Go.Proofs.YtadhiihnnkcagaaGreatDoor
namespace Go.Proofs.YtadhiihnnkcagaaGreatDoor
open Gk Ul Pc Tk Tr
set_option linter.unusedVariables false
set_option linter.unusedSimpArgs false
theorem w0_wk (c : Cf) : WkOk 0 (w0 c, []) := ⟨w0_ok c, fun t h => by simp at h, Nat.le_refl _, Nat.le_refl _⟩
end Go.Proofs.YtadhiihnnkcagaaGreatDoor
namespace Go.Proofs.YtadhiihnnkcagaaGreatDoor
open Gk Ul Pc Tk Tr
set_option linter.unusedVariables false
set_option linter.unusedSimpArgs false
theorem bld34_C : Bld Tryz.prog 34 [(0, 1), (1, 1), (2, 21), (23, 1), (24, 1), (25, 1), (26, 1), (27, 1)] [.slice none 0 0, .slice none 0 0, .int .i64 0, .int .i64 0, .int .i64 0, .int .i64 0, .int .i64 0, .int .i64 0, .int .i64 0, .int .i64 0, .int .i64 0, .int .i64 0, .int .i64 0, .int .i64 0, .int .i64 0, .int .i64 0, .int .i64 0, .int .i64 0, .int .i64 0, .int .i64 0, .int .i64 0, .int .i64 0, .int .i64 0, .int .i64 0, .float .f64 0, .float .f64 0, .float .f64 0, .int .i64 0] := bld_of Tryz.underlying34 Tryz.zeroValue34 (fun w => by simp [go_sem])
theorem bld67_C : Bld Tryz.prog 67 [(0, 1), (1, 1), (2, 1)] [S [], S [], .slice none 0 0] := bld_of Tryz.underlying67 Tryz.zeroValue67 (fun w => by simp [go_sem])
theorem bld95_C : Bld Tryz.prog 95 [(0, 1), (1, 1), (2, 1), (3, 1), (4, 1), (5, 1)] [S [], S [], .bool false, .bool false, .bool false, .bool false] := bld_of Tryz.underlying95 Tryz.zeroValue95 (fun w => by simp [go_sem])
theorem bld101_C : Bld Tryz.prog 101 [(0, 1), (1, 1), (2, 1), (3, 1), (4, 1), (5, 1), (6, 1), (7, 1)] [.int .i64 0, .float .f64 0, S [], .bool false, .bool false, .bool false, S [], .slice none 0 0] := bld_of Tryz.underlying101 Tryz.zeroValue101 (fun w => by simp [go_sem])
theorem config20_any (B w : World) (I : Im) (As : List Assn) (hS : Sat B w I As) :
  Calls Tryz.prog 83 [].toArray w (Ret fun v w' => ∃ J s u, Le I J ∧ v = .agg (cfCells AWC (some (ad s 0)) 1 (some (ad u 0)) 1).toArray ∧ SvsAt J (some (ad s 0)) [AWS] ∧ UsrsAt J (some (ad u 0)) [AWUs] ∧ Sat B w' J As) := by
 refine calls Tryz.func83 rfl Tryz.ntmps83 rfl (.seq (.region (.allocA (cs := [_, _, _, _, _, _, _, _, _, _, _, _, _, _, _, _, _, _, _, _, _, _, _, _, _, _, _, _]) hS Tryz.zeroValue34 rfl ?_)))
 clear hS; intro b0 w hS
 refine .nil (.seq (.region (.val (.build (cs := [_, _, _, _, _, _, _, _]) (parts_cons (.of rfl) (parts_cons (.of rfl) parts_nil)) bld101_C rfl) rfl (.buildSlice (cs := [_, _, _, _, _, _, _, _]) hS (parts_cons (.of rfl) parts_nil) Tryz.underlying27 Tryz.sizeOf101 Tryz.zeroValue101 rfl rfl rfl rfl ?_))))
 clear hS; intro b2 w hS
 refine .val (.build (cs := [_, _, _]) (parts_cons (.of rfl) (parts_cons (.of rfl) parts_nil)) bld67_C rfl) rfl (.buildSlice (cs := [_, _, _]) hS (parts_cons (.of rfl) parts_nil) Tryz.underlying28 Tryz.sizeOf67 Tryz.zeroValue67 rfl rfl rfl rfl ?_)
 clear hS; intro b4 w hS
 refine .val (.build (cs := [_, _, _, _, _, _, _, _, _, _, _, _, _, _, _, _, _, _, _, _, _, _, _, _, _, _, _, _]) (parts_cons (.of rfl) (parts_cons (.of rfl) (parts_cons (.of rfl) parts_nil))) bld34_C rfl) rfl ?_
 first | refine WL.stA hS (k := 0) rfl (.of rfl) (.of rfl) rfl Tryz.sizeOf34 rfl (by simp) ?_ | refine WL.stA hS (k := 1) rfl (.of rfl) (.of rfl) rfl Tryz.sizeOf34 rfl (by simp) ?_ | refine WL.stA hS (k := 2) rfl (.of rfl) (.of rfl) rfl Tryz.sizeOf34 rfl (by simp) ?_
 clear hS; intro w hS; try dsimp only [List.set] at hS
 try simp only [List.take_zero, List.nil_append, List.append_nil, List.drop_succ_cons, List.drop_zero, List.drop_nil, Nat.zero_add] at hS
 refine .nil (.ret ?_)
 first | refine ret1c (b := _) (cs := [_, _, _, _, _, _, _, _, _, _, _, _, _, _, _, _, _, _, _, _, _, _, _, _, _, _, _, _]) Tryz.results83 hS (k := 0) rfl Tryz.isAgg34 Tryz.sizeOf34 rfl rfl ?_ | refine ret1c (b := _) (cs := [_, _, _, _, _, _, _, _, _, _, _, _, _, _, _, _, _, _, _, _, _, _, _, _, _, _, _, _]) Tryz.results83 hS (k := 1) rfl Tryz.isAgg34 Tryz.sizeOf34 rfl rfl ?_ | refine ret1c (b := _) (cs := [_, _, _, _, _, _, _, _, _, _, _, _, _, _, _, _, _, _, _, _, _, _, _, _, _, _, _, _]) Tryz.results83 hS (k := 2) rfl Tryz.isAgg34 Tryz.sizeOf34 rfl rfl ?_
 obtain ⟨J1, hJ1, hb4, hS⟩ := hS.freeze (k := 0) rfl
 obtain ⟨J2, hJ2, hb2, hS⟩ := hS.freeze (k := 0) rfl
 try dsimp only [List.eraseIdx] at hS
 have hcf := awc_cfat (J := J2) hb2 (hJ2 _ _ hb4)
 exact ⟨_, rfl, J2, b2, b4, hJ1.trans hJ2, rfl, hcf.1, hcf.2, hS.drop (k := 0) rfl⟩
set_option maxRecDepth 20000 in
theorem awake20_any (B w : World) (I : Im) (hK : Known I) (hP : PreAt I) (As : List Assn) (hS : Sat B w I As) :
  Calls Tryz.prog 34 [].toArray w (Ret fun v w' => v = .bool true ∧ Sat B w' I As) := by
 refine calls Tryz.func34 rfl Tryz.ntmps34 rfl (.seq (.region (.run 1 rfl trivial (.nil (.seq (.region (.call Tryz.func83 rfl evs_nil rfl (config20_any B _ I _ hS) ?_)))))))
 clear hS
 rintro _ w ⟨J1, sb, ub, hJ1, rfl, hs1, hu1, hS⟩
 refine .call Tryz.func41 rfl (evs_cons (.of rfl) evs_nil) rfl (grantNew_any AWC awc_fits (some (ad sb 0)) 1 (some (ad ub 0)) 1 B _ J1 (hK.mono hJ1) (hP.mono hJ1) hs1 hu1 _ hS) ?_
 clear hS
 rintro v w ⟨J, hJ, hcase⟩
 obtain ⟨_, p, D, hD, hlo, hus, hps, rfl, hI, hS⟩ := hcase.resolve_left (fun h => h.1 awc_new)
 obtain rfl : D = [0] := hD.unique awc_ord
 have hlo : p.lo = [AWS] := hlo
 have hus : p.us = [AWUs] := hus
 have hps : p.ps = fun _ => 0 := hps
 refine .run 5 rfl trivial (.nil (.seq (.seq ?_)))
 obtain ⟨⟨a, c, ma, mc⟩, hS⟩ := Sat.unbox hS
 replace hS : Sat B _ _ (blk p.wb (wdC p (w0 AWC)) 52 :: blk p.tb [I64 (w0 AWC).room, .slice a (w0 AWC).l.length c] 127 :: Vec 45 10 (.slice a (w0 AWC).l.length c) (w0 AWC).l.length (rowsR (w0 AWC).l) :: blk p.mb [.slice ma (w0 AWC).D.length mc] 168 :: VecO 118 (.slice ma (w0 AWC).D.length mc) ((w0 AWC).D.map fun d => U64 (d : Nat)) :: _) := hS
 refine .region (.run 1 rfl trivial (.val (.eqp (.of rfl) (.of rfl) Tryz.underlying39) rfl (.run 1 rfl trivial (.gval rfl rfl (fun hg1 => (.move (.of rfl))) rfl (.gval rfl rfl (fun hg1 => (.neq (.gd hg1 rfl) (.of rfl))) rfl (.val (.por (.of rfl) (.of rfl) (.of rfl)) rfl (.run 1 rfl trivial (.gval rfl rfl (fun hg1 => (.move (.of rfl))) rfl (.gval rfl rfl (fun hg1 => (.nilCheck (.gd hg1 rfl))) rfl ?_)))))))))
 refine WL.gval rfl rfl (fun hg1 => (by first | exact .fieldAddr 1 (.gd hg1 rfl) Tryz.underlying52 rfl rfl Tryz.sizeOf48 rfl | exact .fieldAddrI 1 (.gd hg1 rfl) Tryz.underlying52 rfl rfl Tryz.sizeOf48 rfl)) rfl ?_
 refine WL.gval rfl rfl (fun hg1 => (by first | exact (.ld (.gd hg1 rfl) hS (k := 0) rfl Tryz.isAgg48 rfl) | exact (.ld (.gd hg1 rfl) hS (k := 1) rfl Tryz.isAgg48 rfl) | exact (.ld (.gd hg1 rfl) hS (k := 2) rfl Tryz.isAgg48 rfl) | exact (.ld (.gd hg1 rfl) hS (k := 3) rfl Tryz.isAgg48 rfl) | exact (.ld (.gd hg1 rfl) hS (k := 4) rfl Tryz.isAgg48 rfl))) rfl ?_
 refine .gval rfl rfl (fun hg1 => (.eqp (.gd hg1 rfl) (.of rfl) Tryz.underlying48)) rfl (.val (.por (.of rfl) (.of rfl) (.of rfl)) rfl (.run 1 rfl trivial (.gval rfl rfl (fun hg1 => (.move (.of rfl))) rfl (.gval rfl rfl (fun hg1 => (.nilCheck (.gd hg1 rfl))) rfl ?_))))
 refine WL.gval rfl rfl (fun hg1 => (by first | exact .fieldAddr 0 (.gd hg1 rfl) Tryz.underlying52 rfl rfl Tryz.sizeOf47 rfl | exact .fieldAddrI 0 (.gd hg1 rfl) Tryz.underlying52 rfl rfl Tryz.sizeOf47 rfl)) rfl ?_
 refine WL.gval rfl rfl (fun hg1 => (by first | exact (.ld (.gd hg1 rfl) hS (k := 0) rfl Tryz.isAgg47 rfl) | exact (.ld (.gd hg1 rfl) hS (k := 1) rfl Tryz.isAgg47 rfl) | exact (.ld (.gd hg1 rfl) hS (k := 2) rfl Tryz.isAgg47 rfl) | exact (.ld (.gd hg1 rfl) hS (k := 3) rfl Tryz.isAgg47 rfl) | exact (.ld (.gd hg1 rfl) hS (k := 4) rfl Tryz.isAgg47 rfl))) rfl ?_
 refine .gval rfl rfl (fun hg1 => (.eqp (.gd hg1 rfl) (.of rfl) Tryz.underlying47)) rfl (.val (.por (.of rfl) (.of rfl) (.of rfl)) rfl (.nil (.condF (rfl) (.skip (.seq (.region (.run 2 rfl trivial ?_)))))))
 first | refine WL.val (.fieldAddr 1 (.of rfl) Tryz.underlying52 rfl rfl Tryz.sizeOf48 rfl) rfl ?_ | refine WL.val (.fieldAddrI 1 (.of rfl) Tryz.underlying52 rfl rfl Tryz.sizeOf48 rfl) rfl ?_
 first | refine WL.val (.ld (.of rfl) hS (k := 0) rfl Tryz.isAgg48 rfl) rfl ?_ | refine WL.val (.ld (.of rfl) hS (k := 1) rfl Tryz.isAgg48 rfl) rfl ?_ | refine WL.val (.ld (.of rfl) hS (k := 2) rfl Tryz.isAgg48 rfl) rfl ?_ | refine WL.val (.ld (.of rfl) hS (k := 3) rfl Tryz.isAgg48 rfl) rfl ?_ | refine WL.val (.ld (.of rfl) hS (k := 4) rfl Tryz.isAgg48 rfl) rfl ?_
 refine .buildSlice (cs := [_, _, _]) hS (parts_cons (.of rfl) (parts_cons (.of rfl) (parts_cons (.of rfl) parts_nil))) Tryz.underlying81 Tryz.sizeOf118 Tryz.zeroValue118 rfl rfl rfl rfl ?_
 clear hS; intro b41 w hS
 obtain ⟨J2, hJ2, hb41, hS⟩ := hS.freeze (k := 0) rfl
 try dsimp only [List.eraseIdx] at hS
 refine .call Tryz.func42 rfl (evs_cons (.of rfl) (evs_cons (.of rfl) evs_nil)) rfl (Feed_any p.mb ma mc [] (by decide) (some (ad b41 0)) 3 [1, 2, 3] (by decide) B _ J2 ⟨rfl, fun _ => ⟨_, rfl, at_frozen hb41⟩⟩ _ ((hS.pick 4 rfl).pick 4 rfl)) ?_
 clear hS
 rintro _ w ⟨rfl, ma2, mc2, hS⟩
 try dsimp only [List.eraseIdx] at hS
 refine .nil (.seq ?_)
 replace hS := Sat.box (T := wdT p (feedW (w0 AWC) [1, 2, 3])) (a, c, ma2, mc2) (((((hS.pick 1 rfl).pick 1 rfl).pick 4 rfl).pick 4 rfl).pick 4 rfl)
 try dsimp only [List.eraseIdx] at hS
 refine .region (.run 1 rfl trivial (.call Tryz.func43 rfl (evs_cons (.of rfl) evs_nil) rfl (LoginTicket_any p (feedW (w0 AWC) [1, 2, 3]) (feedW_ok (w0_ok AWC) (by decide) : WdOk (feedW (w0 AWC) [1, 2, 3])) B _ J2 (hI.mono hJ2) _ hS) ?_))
 clear hS
 rintro _ w ⟨rfl, hS⟩
 try dsimp only [List.eraseIdx] at hS
 refine .run 5 rfl trivial (.nil (.seq (.region (.run 2 rfl trivial (.call Tryz.func37 rfl (evs_cons (.of rfl) (evs_cons (.of rfl) (evs_cons (.of rfl) (evs_cons (.of rfl) evs_nil)))) rfl (Login_any (mkW (feedW (w0 AWC) [1, 2, 3]) LTr).1.1 [117] [112] (by decide) p (mkW (feedW (w0 AWC) [1, 2, 3]) LTr).2 (mkW_ok (feedW_ok (w0_ok AWC) (by decide) : WdOk (feedW (w0 AWC) [1, 2, 3])) _) B _ J2 (hI.mono hJ2) _ hS) ?_)))))
 clear hS
 rintro _ w ⟨rfl, hS⟩
 try dsimp only [List.eraseIdx] at hS
 refine .run 5 rfl trivial (.nil (.seq (.region (.run 2 rfl trivial (.call Tryz.func45 rfl (evs_cons (.of rfl) (evs_cons (.of rfl) (evs_cons (.of rfl) (evs_cons (.of rfl) evs_nil)))) rfl (Grant_any (loginW p.us p.ps (mkW (feedW (w0 AWC) [1, 2, 3]) LTr).2 (mkW (feedW (w0 AWC) [1, 2, 3]) LTr).1.1 [117] [112]).1.1 [104, 116, 116, 112, 58, 47, 47, 65, 47, 120] false (Nat.le_trans loginW_nlen (by decide)) (by decide) p (loginW p.us p.ps (mkW (feedW (w0 AWC) [1, 2, 3]) LTr).2 (mkW (feedW (w0 AWC) [1, 2, 3]) LTr).1.1 [117] [112]).2 (loginW_ok (mkW_ok (feedW_ok (w0_ok AWC) (by decide) : WdOk (feedW (w0 AWC) [1, 2, 3])) _) _ _ _) B _ J2 (hI.mono hJ2) _ hS) ?_)))))
 clear hS
 rintro _ w ⟨rfl, hS⟩
 try dsimp only [List.eraseIdx] at hS
 refine .run 7 rfl trivial (.nil (.seq (.region (.call Tryz.func56 rfl (evs_cons (.of rfl) (evs_cons (.of rfl) evs_nil)) rfl (refName_any 2 3 (by decide) B _ J2 _ hS) ?_))))
 clear hS
 rintro v w ⟨hv9, hS⟩
 rw [if_neg (by decide)] at hv9
 subst hv9
 refine .run 5 rfl trivial (.nil (.seq (.region (.run 3 rfl trivial (.gval rfl rfl (fun hg1 => (.move (.of rfl))) rfl (.gval rfl rfl (fun hg1 => (.eql (.gd hg1 rfl) (.of rfl))) rfl (.val (.pand (.of rfl) (.of rfl) (.of rfl)) rfl (.run 1 rfl trivial (.gval rfl rfl (fun hg1 => (.move (.of rfl))) rfl (.gval rfl rfl (fun hg1 => (.eql (.gd hg1 rfl) (.of rfl))) rfl (.val (.pand (.of rfl) (.of rfl) (.of rfl)) rfl (.run 1 rfl trivial (.gval rfl rfl (fun hg1 => (.move (.of rfl))) rfl (.gval rfl rfl (fun hg1 => (.move (.of rfl))) rfl (.gval rfl rfl (fun hg1 => (.eqs (.gd hg1 rfl) (.gd hg1 rfl))) rfl (.val (.pand (.of rfl) (.of rfl) (.of rfl)) rfl (.run 1 rfl trivial (.gval rfl rfl (fun hg1 => (.move (.of rfl))) rfl (.gval rfl rfl (fun hg1 => (.eqs (.gd hg1 rfl) (.of rfl))) rfl (.val (.pand (.of rfl) (.of rfl) (.of rfl)) rfl (.run 1 rfl trivial (.gval rfl rfl (fun hg1 => (.move (.of rfl))) rfl (.gval rfl rfl (fun hg1 => (.move (.of rfl))) rfl (.gval rfl rfl (fun hg1 => (.build (cs := [_, _, _, _, _, _]) (parts_cons (.gd hg1 rfl) parts_nil) bld95_C rfl)) rfl (.gcall (T := fun w => Sat B w J2 _) rfl rfl rfl Tryz.func39 rfl (fun hg1 => (evs_cons (.gd hg1 rfl) (evs_cons (.gd hg1 rfl) evs_nil))) rfl (fun hg1 => Choose_any ⟨[], (loginW p.us p.ps (mkW (feedW (w0 AWC) [1, 2, 3]) LTr).2 (mkW (feedW (w0 AWC) [1, 2, 3]) LTr).1.1 [117] [112]).1.1, false, false, false, false⟩ (Nat.zero_le _) p (grantW p.lo p.ps (loginW p.us p.ps (mkW (feedW (w0 AWC) [1, 2, 3]) LTr).2 (mkW (feedW (w0 AWC) [1, 2, 3]) LTr).1.1 [117] [112]).2 (loginW p.us p.ps (mkW (feedW (w0 AWC) [1, 2, 3]) LTr).2 (mkW (feedW (w0 AWC) [1, 2, 3]) LTr).1.1 [117] [112]).1.1 [104, 116, 116, 112, 58, 47, 47, 65, 47, 120] false).2 (grantW_ok (loginW_ok (mkW_ok (feedW_ok (w0_ok AWC) (by decide) : WdOk (feedW (w0 AWC) [1, 2, 3])) _) _ _ _) _ _ _) B _ J2 (hI.mono hJ2) _ hS) hS ?_)))))))))))))))))))))))))
 clear hS; rintro w hS
 refine .gval rfl rfl (fun hg1 => (.eql (.gd hg1 rfl) (.of rfl))) rfl (.val (.pand (.of rfl) (.of rfl) (.of rfl)) rfl (.run 1 rfl trivial (.nil (.ret (ret1 Tryz.results34 rfl ?_)))))
 refine ⟨_, rfl, ?_, (hS.drop (k := 0) rfl).weaken (hJ1.trans (hJ.trans hJ2))⟩
 refine congrArg Value.bool ?_
 rw [hlo, hus, hps]
 kernel_rfl
end Go.Proofs.YtadhiihnnkcagaaGreatDoor
namespace Go.Proofs.YtadhiihnnkcagaaGreatDoor
open Gk Ul Pc Tk Tr
set_option linter.unusedVariables false
set_option linter.unusedSimpArgs false
theorem getD_none {l : List Rec} {n : List UInt8} (h : get l n = none) : getD l n = r0 := by rw [getD, h]; rfl
theorem mkW_err {ω : Wd} {r : Rec} (h : (mkW ω r).1.2 ≠ 0) : (mkW ω r).2.l = ω.l ∧ (mkW ω r).2.now = ω.now ∧ (mkW ω r).1.2 = 39 ∧ (mkW ω r).1.1 = [] := by
 unfold mkW at h ⊢
 split
 ·exact ⟨rfl, rfl, rfl, rfl⟩
 ·rename_i h1
  rw [if_neg h1] at h
  dsimp only at h ⊢
  split
  ·rename_i h2
   exact ⟨by rw [add, if_neg h2], rfl, rfl, rfl⟩
  ·rename_i h2
   rw [if_neg h2] at h
   exact absurd rfl h
theorem mkW_now {ω : Wd} {r : Rec} : (mkW ω r).2.now = ω.now := by
 unfold mkW
 split
 ·rfl
 ·rfl
theorem mkW_okay {ω : Wd} {r : Rec} (h : (mkW ω r).1.2 = 0) : addE ω.room ω.l (mkR ω r) = 0 ∧ (mkW ω r).2.l = ω.l ++ [mkR ω r] ∧ (mkW ω r).1.1 = (mkR ω r).name ∧ (mkW ω r).2.D.length + 1 = ω.D.length := by
 unfold mkW at h ⊢
 split
 ·rename_i h1
  rw [if_pos h1] at h; cases h
 ·rename_i h1
  rw [if_neg h1] at h
  dsimp only at h ⊢
  split
  ·rename_i h2
   rw [if_pos h2] at h; cases h
  ·rename_i h2
   have h3 : addE ω.room ω.l (mkR ω r) = 0 := Decidable.not_not.1 h2
   refine ⟨h3, by rw [add, if_pos h3], rfl, ?_⟩
   show (mkN ω r).2.length + 1 = _
   have h4 : (mkN ω r).1.2 = 0 := Decidable.not_not.1 h1
   unfold mkN nextT at h4 ⊢
   split
   ·rename_i h5; rw [if_pos h5] at h4; cases h4
   ·rename_i h5; rw [if_neg h5] at h4
    cases hD : ω.D with
    | nil => rw [hD] at h4; cases h4
    | cons d D => dsimp only; split <;> simp
end Go.Proofs.YtadhiihnnkcagaaGreatDoor
namespace Go.Proofs.YtadhiihnnkcagaaGreatDoor
open Gk Ul Pc Tk Tr
set_option linter.unusedVariables false
set_option linter.unusedSimpArgs false
theorem find_first {α : Type} {pr : α → Bool} : ∀ {l : List α} {i : Nat} {u : α}, l[i]? = some u → pr u = true → (∀ (j : Nat) s, j < i → l[j]? = some s → pr s = false) → l.find? pr = some u
 | [], i, u, h, _, _ => by simp at h
 | x :: l, 0, u, h, hp, _ => by simp at h; subst h; rw [List.find?_cons, hp]
 | x :: l, i + 1, u, h, hp, hno => by
  rw [List.find?_cons, hno 0 x (by omega) rfl]
  exact find_first (by simpa using h) hp fun j s hj hs => hno (j + 1) s (by omega) (by simpa using hs)
theorem refUAt_any (a : Option Addr) (cap : Nat) (l : List Us) (hln : l.length ≤ 9223372036854775807) (name : List UInt8) (B w : World) (I : Im) (hU : UsrsAt I a l) (As : List Assn) (hS : Sat B w I As) :
  Calls Tryz.prog 94 [.slice a l.length cap, S name].toArray w (Ret fun v w' => ∃ k : Int, v = I64 k ∧ ((k = -1 ∧ l.find? (fun t => t.name == name) = none) ∨ ∃ (i : Nat) (u : Us), k = (i : Int) ∧ l[i]? = some u ∧ l.find? (fun t => t.name == name) = some u) ∧ Sat B w' I As) := by
 refine calls Tryz.func94 rfl Tryz.ntmps94 rfl (.seq (.region (.run 1 rfl trivial (.nil (.seq (.seq (.region (.run 1 rfl trivial (.nil (.block (.loop (σ := Nat) (fun i => [(0, .slice a l.length cap), (1, S name), (5, I64 (i : Nat))]) (fun i w => i ≤ l.length ∧ (∀ (j : Nat) u, j < i → l[j]? = some u → (u.name == name) = false) ∧ Sat B w I As) (fun i => l.length - i) 0 ⟨rfl, rfl, rfl, trivial⟩ ⟨Nat.zero_le _, fun _ _ h => absurd h (by omega), hS⟩ ?_)))))))))))
 rintro i w ⟨hi, hno, hS⟩
 change WC _ _ _ _ [(0, .slice a l.length cap), (1, S name), (5, I64 (i : Nat))] w
 refine .seq (.seq (.region (.run 4 rfl ⟨⟨_, Tryz.underlying28⟩, trivial⟩ (.nil ?_))))
 refine WC.cond rfl (fun hb9 => ?_) (fun hb9 => ?_)
 ·
  have hc9 := hb9; try simp only [Gk.cs0] at hc9
  refine .skip (.seq (.block (.seq ?_)))
  obtain ⟨u, hu⟩ : ∃ u, l[i]? = some u := ⟨_, List.getElem?_eq_getElem (by omega)⟩
  obtain ⟨p, ra, rc, hap, hx, hrc, hRR⟩ := hU i u hu
  subst hap
  unfold usCells at hx
  refine .region (.run 2 rfl trivial ?_)
  first | refine WL.val (.indexAddr (.of rfl) (.of rfl) (by omega) (by omega) Tryz.underlying28 Tryz.sizeOf67) rfl ?_ | refine WL.val (.indexAddrI (.of rfl) (.of rfl) (by omega) (by omega) Tryz.underlying28 Tryz.sizeOf67) rfl ?_
  first | refine WL.val (.fieldAddr 0 (.of rfl) Tryz.underlying67 rfl rfl Tryz.sizeOf9 rfl) rfl ?_ | refine WL.val (.fieldAddrI 0 (.of rfl) Tryz.underlying67 rfl rfl Tryz.sizeOf9 rfl) rfl ?_
  refine .val (.ldI (.of rfl) hS (At.add hx _) Tryz.isAgg9 rfl) rfl (.run 2 rfl trivial (.nil ?_))
  refine WC.cond rfl (fun hb18 => ?_) (fun hb18 => ?_)
  ·
   have hc18 := hb18; try simp only [Gk.cs0] at hc18
   refine .seq (.region (.run 2 rfl trivial (.nil (.ret (ret1 Tryz.results94 rfl ?_)))))
   exact ⟨_, rfl, _, rfl, .inr ⟨i, u, rfl, hu, find_first hu hb18 hno⟩, hS⟩
  have hc18 := hb18; try simp only [Gk.cs0] at hc18
  refine .skip (.region (.run 3 rfl ⟨⟨by omega, by omega⟩, trivial⟩ (.nil ?_)))
  refine ⟨i + 1, ⟨rfl, rfl, rfl, trivial⟩, ⟨by (try dsimp only); omega, fun j t hj ht => ?_, hS⟩, by (try dsimp only); omega⟩
  rcases Nat.lt_or_ge j i with h1 | h1
  ·exact hno j t h1 ht
  ·have e : j = i := by omega
   subst e
   rw [hu] at ht; cases ht
   exact hb18
 have hc9 := hb9; try simp only [Gk.cs0] at hc9
 refine .exit (.seq (.region (.run 1 rfl trivial (.nil (.ret (ret1 Tryz.results94 rfl ?_))))))
 refine ⟨_, rfl, _, rfl, .inl ⟨rfl, ?_⟩, hS⟩
 rw [List.find?_eq_none]
 intro u hu
 obtain ⟨q, hq⟩ := List.mem_iff_getElem?.1 hu
 have := (List.getElem?_eq_some_iff.1 hq).1
 rw [hno q u (by omega) hq]; decide
theorem refUCheck_any (a : Option Addr) (cap : Nat) (l : List Us) (hln : l.length ≤ 9223372036854775807) (name pw : List UInt8) (B w : World) (I : Im) (hU : UsrsAt I a l) (As : List Assn) (hS : Sat B w I As) :
  Calls Tryz.prog 44 [.slice a l.length cap, S name, S pw].toArray w (Ret fun v w' => v = .bool (checkU l name pw) ∧ Sat B w' I As) := by
 refine calls Tryz.func44 rfl Tryz.ntmps44 rfl (.seq (.region (.run 1 rfl trivial (.nil (.seq (.region (.run 2 rfl trivial (.call Tryz.func94 rfl (evs_cons (.of rfl) (evs_cons (.of rfl) evs_nil)) rfl (refUAt_any a cap l hln name B _ I hU _ hS) ?_))))))))
 clear hS
 rintro _ w ⟨k, rfl, hk, hS⟩
 refine .run 1 rfl trivial (.nil (.seq (.region ?_)))
 rcases hk with ⟨rfl, hf⟩ | ⟨i, u, rfl, hu, hf⟩
 ·
  refine .val (.move (.of rfl)) rfl (.run 2 rfl trivial (.gval rfl rfl (fun hg1 => (.move (.of rfl))) rfl (.gval rfl rfl (fun hg1 => (.move (.of rfl))) rfl (.gval (v := .pointer none) rfl rfl (fun hg1 => absurd hg1 (by decide)) rfl (.gval (v := .pointer none) rfl rfl (fun hg1 => absurd hg1 (by decide)) rfl (.gval (v := S []) rfl rfl (fun hg1 => absurd hg1 (by decide)) rfl (.gval rfl rfl (fun hg1 => (.move (.of rfl))) rfl (.gval rfl rfl (fun hg1 => (.eqs (.gd hg1 rfl) (.gd hg1 rfl))) rfl (.val (.pand (.of rfl) (.of rfl) (.of rfl)) rfl (.run 1 rfl trivial (.nil (.ret (ret1 Tryz.results44 rfl ?_)))))))))))))
  refine ⟨_, rfl, congrArg Value.bool ?_, hS⟩
  rw [checkU, hf]
  first | rfl | simp
 have hil := (List.getElem?_eq_some_iff.1 hu).1
 obtain ⟨p, ra, rc, hap, hx, hrc, hRR⟩ := hU i u hu
 subst hap
 unfold usCells at hx
 refine .val (.move (.of rfl)) rfl (.run 2 rfl trivial (.gval rfl rfl (fun hg1 => (.move (.of rfl))) rfl (.gval rfl rfl (fun hg1 => (.move (.of rfl))) rfl ?_)))
 refine WL.gval rfl rfl (fun hg1 => (by first | exact .indexAddr (.gd hg1 rfl) (.gd hg1 rfl) (by (try simp only [Gk.cs0] at hg1); omega) (by (try simp only [Gk.cs0] at hg1); omega) Tryz.underlying28 Tryz.sizeOf67 | exact .indexAddrI (.gd hg1 rfl) (.gd hg1 rfl) (by (try simp only [Gk.cs0] at hg1); omega) (by (try simp only [Gk.cs0] at hg1); omega) Tryz.underlying28 Tryz.sizeOf67)) rfl ?_
 refine WL.gval rfl rfl (fun hg1 => (by first | exact .fieldAddr 1 (.gd hg1 rfl) Tryz.underlying67 rfl rfl Tryz.sizeOf9 rfl | exact .fieldAddrI 1 (.gd hg1 rfl) Tryz.underlying67 rfl rfl Tryz.sizeOf9 rfl)) rfl ?_
 refine .gval rfl rfl (fun hg1 => (.ldI (.gd hg1 rfl) hS (At.add hx _) Tryz.isAgg9 rfl)) rfl (.gval rfl rfl (fun hg1 => (.move (.of rfl))) rfl (.gval rfl rfl (fun hg1 => (.eqs (.gd hg1 rfl) (.gd hg1 rfl))) rfl (.val (.pand (.of rfl) (.of rfl) (.of rfl)) rfl (.run 1 rfl trivial (.nil (.ret (ret1 Tryz.results44 rfl ?_)))))))
 refine ⟨_, rfl, congrArg Value.bool ?_, hS⟩
 rw [checkU, hf]
 first | rfl | simp
end Go.Proofs.YtadhiihnnkcagaaGreatDoor
namespace Go.Proofs.YtadhiihnnkcagaaGreatDoor
open Gk Ul Pc Tk Tr
set_option linter.unusedVariables false
set_option linter.unusedSimpArgs false
theorem alive_case (ps : Nat → Int) (ω : Wd) (t : List UInt8) (k : Int) : aliveW ps ω t k = (r0, false) ∨ (aliveW ps ω t k = (getD ω.l t, true) ∧ (getD ω.l t).kind = k) := by
 unfold aliveW
 split
 ·exact .inl rfl
 ·rename_i h
  simp only [Bool.or_eq_true, not_or, bne_iff_ne, ne_eq, Decidable.not_not] at h
  exact .inr ⟨rfl, h.1⟩
theorem getD_append {l : List Rec} {n : List UInt8} {r : Rec} (h : get l n = some (getD l n)) : getD (l ++ [r]) n = getD l n := by
 have : get (l ++ [r]) n = get l n := by
  unfold Tr.get at h ⊢
  rw [List.find?_append, h]; rfl
 rw [getD, this, getD]
end Go.Proofs.YtadhiihnnkcagaaGreatDoor
namespace Ul
open Pc Gk
set_option linter.unusedVariables false
set_option linter.unusedSimpArgs false
theorem told_app {r t : List UInt8} {v : UInt8} (h : told r = some v) : told (r ++ t) = some v := by
 match r, h with
 | a :: b :: _, h => exact h
 | [_], h => simp [told] at h
 | [], h => simp [told] at h
theorem norm_app : ∀ (n : Nat) (a b a' : List UInt8), a.length ≤ n → norm a = some a' → norm (a ++ b) = (norm b).map (a' ++ ·) := by
 intro n
 induction n with
 | zero =>
  intro a b a' hn h
  have := List.eq_nil_of_length_eq_zero (Nat.le_zero.1 hn)
  subst this
  rw [norm_nil] at h; injection h with h; subst h
  rw [List.nil_append]
  cases hb : norm b <;> simp
 | succ n ih =>
  intro a b a' hn h
  cases a with
  | nil =>
   rw [norm_nil] at h; injection h with h; subst h
   cases hb : norm b <;> simp [hb]
  | cons c r =>
   simp only [List.length_cons] at hn
   rw [norm_cons] at h
   rw [List.cons_append, norm_cons]
   by_cases hc : c = 37
   ·rw [if_pos hc] at h ⊢
    cases ht : told r with
    | none => rw [ht] at h; cases h
    | some v =>
     rw [ht] at h
     rw [told_app ht]
     simp only at h ⊢
     have hl := told_len ht
     obtain ⟨u, hu, rfl⟩ := Option.map_eq_some_iff.1 h
     rw [List.drop_append_of_le_length hl, ih (r.drop 2) b u (by rw [List.length_drop]; omega) hu, Option.map_map]
     congr 1
     funext x
     simp
   ·rw [if_neg hc] at h ⊢
    obtain ⟨u, hu, rfl⟩ := Option.map_eq_some_iff.1 h
    rw [ih r b u (by omega) hu, Option.map_map]
    rfl
def Fix (s : List UInt8) : Prop := norm s = some s
theorem Fix.nil : Fix [] := norm_nil
theorem Fix.app {a b : List UInt8} (h : Fix a) (k : Fix b) : Fix (a ++ b) := by
 unfold Fix at *
 rw [norm_app a.length a b a (Nat.le_refl _) h, k]; rfl
theorem Fix.cons {c : UInt8} {b : List UInt8} (h : c ≠ 37) (k : Fix b) : Fix (c :: b) := by
 unfold Fix at *
 rw [norm_cons, if_neg h, k]; rfl
theorem pct_back (v : UInt8) (u : List UInt8) : told (hexd (v.toNat / 16) :: hexd (v.toNat % 16) :: u) = some v := by
 have := all_bytes (p := fun v => decide (0 ≤ hexv (hexd (v.toNat / 16))) && decide (0 ≤ hexv (hexd (v.toNat % 16))) && (byteOf (hexd (v.toNat / 16)) (hexd (v.toNat % 16)) == v)) (by decide +kernel) v
 simp only [Bool.and_eq_true, decide_eq_true_eq, beq_iff_eq] at this
 show (if hexv (hexd (v.toNat / 16)) < 0 ∨ hexv (hexd (v.toNat % 16)) < 0 then none else some (byteOf (hexd (v.toNat / 16)) (hexd (v.toNat % 16)))) = some v
 rw [if_neg (by omega), this.2]
theorem plain_not37 {v : UInt8} (h : plain v = true) : v ≠ 37 := fun e => by subst e; revert h; decide
theorem fix_one (v : UInt8) : Fix (one v) := by
 unfold one
 by_cases h : plain v = true
 ·rw [if_pos h]; exact Fix.cons (plain_not37 h) Fix.nil
 ·rw [if_neg h]
  unfold Fix pctB
  rw [norm_cons, if_pos rfl, pct_back]
  simp only [List.drop_succ_cons, List.drop_zero, norm_nil, Option.map_some, List.append_nil]
  unfold one
  rw [if_neg h]; rfl
theorem norm_fix : ∀ (n : Nat) (s t : List UInt8), s.length ≤ n → norm s = some t → Fix t := by
 intro n
 induction n with
 | zero =>
  intro s t hn h
  have := List.eq_nil_of_length_eq_zero (Nat.le_zero.1 hn)
  subst this
  rw [norm_nil] at h; injection h with h; subst h; exact Fix.nil
 | succ n ih =>
  intro s t hn h
  cases s with
  | nil => rw [norm_nil] at h; injection h with h; subst h; exact Fix.nil
  | cons c r =>
   simp only [List.length_cons] at hn
   rw [norm_cons] at h
   by_cases hc : c = 37
   ·rw [if_pos hc] at h
    cases ht : told r with
    | none => rw [ht] at h; cases h
    | some v =>
     rw [ht] at h
     simp only at h
     obtain ⟨u, hu, rfl⟩ := Option.map_eq_some_iff.1 h
     exact (fix_one v).app (ih _ u (by rw [List.length_drop]; omega) hu)
   ·rw [if_neg hc] at h
    obtain ⟨u, hu, rfl⟩ := Option.map_eq_some_iff.1 h
    exact Fix.cons hc (ih r u (by omega) hu)
theorem fix_split : ∀ (n : Nat) (a b : List UInt8), a.length ≤ n → Fix (a ++ 47 :: b) → Fix a ∧ Fix b := by
 intro n
 induction n with
 | zero =>
  intro a b hn h
  have := List.eq_nil_of_length_eq_zero (Nat.le_zero.1 hn)
  subst this
  refine ⟨Fix.nil, ?_⟩
  unfold Fix at h ⊢
  rw [List.nil_append, norm_cons, if_neg (by decide)] at h
  obtain ⟨u, hu, e⟩ := Option.map_eq_some_iff.1 h
  injection e with _ e
  rw [hu, e]
 | succ n ih =>
  intro a b hn h
  cases a with
  | nil => exact ih [] b (by simp) h
  | cons c r =>
   simp only [List.length_cons] at hn
   unfold Fix at h
   rw [List.cons_append, norm_cons] at h
   by_cases hc : c = 37
   ·subst hc
    rw [if_pos rfl] at h
    match r, hn, h with
    | [], _, h =>
     exfalso
     cases b with
     | nil => simp [told] at h
     | cons x b => simp [told, show hexv 47 = -1 from by decide] at h
    | [x], _, h =>
     exfalso
     simp [told, show hexv 47 = -1 from by decide] at h
    | x :: y :: r, hn, h =>
     cases ht : told ((x :: y :: r) ++ 47 :: b) with
     | none => rw [ht] at h; cases h
     | some v =>
      rw [ht] at h
      simp only [List.cons_append, List.drop_succ_cons, List.drop_zero] at h
      obtain ⟨u, hu, e⟩ := Option.map_eq_some_iff.1 h
      by_cases hp : plain v = true
      ·exfalso
       unfold one at e
       rw [if_pos hp] at e
       injection e with e _
       exact plain_not37 hp e
      ·unfold one at e
       rw [if_neg hp] at e
       simp only [pctB, List.cons_append, List.nil_append, List.cons.injEq, true_and] at e
       obtain ⟨e1, e2, e3⟩ := e
       subst e3
       obtain ⟨h1, h2⟩ := ih r b (by simp only [List.length_cons] at hn; omega) hu
       refine ⟨?_, h2⟩
       have := (fix_one v).app h1
       unfold one at this
       rw [if_neg hp] at this
       simp only [pctB, e1, e2, List.cons_append, List.nil_append] at this
       exact this
   ·rw [if_neg hc] at h
    obtain ⟨u, hu, e⟩ := Option.map_eq_some_iff.1 h
    injection e with _ e
    subst e
    obtain ⟨h1, h2⟩ := ih r b (by omega) hu
    exact ⟨Fix.cons hc h1, h2⟩
theorem spl_cons (s : List UInt8) : (∀ x ∈ s, x ≠ 47) ∧ spl s = [s] ∨ ∃ a b, s = a ++ 47 :: b ∧ (∀ x ∈ a, x ≠ 47) ∧ spl s = a :: spl b := by
 induction s with
 | nil => exact .inl ⟨fun x h => by simp at h, rfl⟩
 | cons c r ih =>
  by_cases hc : c = 47
  ·subst hc
   exact .inr ⟨[], r, rfl, fun x h => by simp at h, by rw [spl, if_pos rfl]⟩
  ·rcases ih with ⟨h1, h2⟩ | ⟨a, b, rfl, h1, h2⟩
   ·have h3 : ∀ x ∈ c :: r, x ≠ 47 := fun x hx => by
     rcases List.mem_cons.1 hx with e | e
     ·subst e; exact hc
     ·exact h1 x e
    exact .inl ⟨h3, spl_none _ h3⟩
   ·have h3 : ∀ x ∈ c :: a, x ≠ 47 := fun x hx => by
     rcases List.mem_cons.1 hx with e | e
     ·subst e; exact hc
     ·exact h1 x e
    exact .inr ⟨c :: a, b, rfl, h3, spl_hit (c :: a) b h3⟩
structure Piece (p : UInt8 → Bool) (x : List UInt8) : Prop where
 fix : Fix x
 no : ∀ c ∈ x, c ≠ 47
 all : x.all p = true
theorem spl_piece {p : UInt8 → Bool} : ∀ (n : Nat) (s : List UInt8), s.length ≤ n → Fix s → s.all p = true → ∀ x ∈ spl s, Piece p x := by
 intro n
 induction n with
 | zero =>
  intro s hn h hp x hx
  have := List.eq_nil_of_length_eq_zero (Nat.le_zero.1 hn)
  subst this
  simp [spl] at hx
  subst hx
  exact ⟨Fix.nil, fun c h => by simp at h, rfl⟩
 | succ n ih =>
  intro s hn h hp x hx
  rcases spl_cons s with ⟨h1, h2⟩ | ⟨a, b, rfl, h1, h2⟩
  ·rw [h2] at hx
   simp at hx
   subst hx
   exact ⟨h, h1, hp⟩
  ·rw [h2] at hx
   obtain ⟨f1, f2⟩ := fix_split a.length a b (Nat.le_refl _) h
   rw [List.all_append, Bool.and_eq_true, List.all_cons, Bool.and_eq_true] at hp
   rcases List.mem_cons.1 hx with e | e
   ·subst e; exact ⟨f1, h1, hp.1⟩
   ·refine ih b ?_ f2 hp.2.2 x e
    simp only [List.length_append, List.length_cons] at hn; omega
theorem keep_sub {Q : List UInt8 → Prop} : ∀ (l k : List (List UInt8)), (∀ x ∈ l, Q x) → (∀ x ∈ k, Q x ∧ isDot x = false) → ∀ x ∈ l.foldl keep k, Q x ∧ isDot x = false
 | [], k, _, hk, x, hx => hk x hx
 | a :: l, k, hl, hk, x, hx => by
  rw [List.foldl_cons] at hx
  refine keep_sub l (keep k a) (fun x hx => hl x (by simp [hx])) (fun y hy => ?_) x hx
  unfold keep at hy
  split at hy
  ·exact hk y hy
  ·rename_i h1
   split at hy
   ·exact hk y (List.dropLast_subset _ hy)
   ·rename_i h2
    rcases List.mem_append.1 hy with e | e
    ·exact hk y e
    ·simp at e
     subst e
     refine ⟨hl _ (by simp), ?_⟩
     unfold isDot
     simp [h1, h2]
theorem keep_all : ∀ (l k : List (List UInt8)), (∀ x ∈ l, isDot x = false) → l.foldl keep k = k ++ l
 | [], k, _ => by simp
 | a :: l, k, h => by
  have ha := h a (by simp)
  unfold isDot at ha
  simp only [Bool.or_eq_false_iff, beq_eq_false_iff_ne] at ha
  rw [List.foldl_cons, keep_all l _ (fun x hx => h x (by simp [hx])), keep, if_neg ha.1, if_neg ha.2, List.append_assoc]
  rfl
theorem slashed_spl : ∀ (k : List (List UInt8)) (e : List UInt8), (∀ x ∈ k, ∀ c ∈ x, c ≠ 47) → (∀ c ∈ e, c ≠ 47) → slashed k ++ 47 :: e = 47 :: ((k.map (· ++ [47])).flatten ++ e) ∧ spl ((k.map (· ++ [47])).flatten ++ e) = k ++ [e]
 | [], e, _, he => ⟨by simp [slashed], by simpa using spl_none e he⟩
 | a :: k, e, hk, he => by
  obtain ⟨h1, h2⟩ := slashed_spl k e (fun x hx => hk x (by simp [hx])) he
  refine ⟨?_, ?_⟩
  ·have : slashed (a :: k) = 47 :: a ++ slashed k := by simp [slashed]
   rw [this, List.append_assoc, h1]
   simp
  ·rw [List.map_cons, List.flatten_cons, List.append_assoc, List.append_assoc, List.cons_append, List.nil_append, spl_hit a _ (hk a (by simp)), h2]
   rfl
theorem dots_slashed (k : List (List UInt8)) (e : List UInt8) (hk : ∀ x ∈ k, ∀ c ∈ x, c ≠ 47) (he : ∀ c ∈ e, c ≠ 47) (hkd : ∀ x ∈ k, isDot x = false) (hed : isDot e = false) : dots (slashed k ++ 47 :: e) = slashed k ++ 47 :: e := by
 obtain ⟨h1, h2⟩ := slashed_spl k e hk he
 have h3 : ∀ x ∈ k ++ [e], isDot x = false := fun x hx => by
  rcases List.mem_append.1 hx with h | h
  ·exact hkd x h
  ·simp at h; subst h; exact hed
 rw [h1, dots, if_pos rfl, h2, keep_all _ _ h3, List.nil_append, ← h1, slashed_app]
 have : ((k ++ [e]).getLastD []) = e := by simp [List.getLastD_eq_getLast?]
 rw [this, hed]
 simp
theorem slashed_all {p : UInt8 → Bool} (h47 : p 47 = true) : ∀ (k : List (List UInt8)), (∀ x ∈ k, x.all p = true) → (slashed k).all p = true
 | [], _ => rfl
 | a :: k, h => by
  have : slashed (a :: k) = 47 :: a ++ slashed k := by simp [slashed]
  rw [this, List.all_append, List.all_cons, h47, h a (by simp), slashed_all h47 k (fun x hx => h x (by simp [hx]))]
  rfl
theorem slashed_fix : ∀ (k : List (List UInt8)), (∀ x ∈ k, Fix x) → Fix (slashed k)
 | [], _ => Fix.nil
 | a :: k, h => by
  have : slashed (a :: k) = 47 :: a ++ slashed k := by simp [slashed]
  rw [this]
  exact (Fix.cons (by decide) (h a (by simp))).app (slashed_fix k (fun x hx => h x (by simp [hx])))
theorem dots_good {p : UInt8 → Bool} (h47 : p 47 = true) {s : List UInt8} (hf : Fix s) (hp : s.all p = true) (h0 : s.head? = some 47) : dots (dots s) = dots s ∧ Fix (dots s) ∧ (dots s).all p = true ∧ (dots s).head? = some 47 := by
 cases s with
 | nil => cases h0
 | cons c r =>
  simp at h0
  subst h0
  have hfr : Fix r := (fix_split 0 [] r (Nat.le_refl _) hf).2
  rw [List.all_cons, Bool.and_eq_true] at hp
  have hpc := spl_piece r.length r (Nat.le_refl _) hfr hp.2
  have hk := keep_sub (Q := Piece p) (spl r) [] hpc (fun x h => by simp at h)
  rw [show dots (47 :: r) = slashed ((spl r).foldl keep []) ++ (if isDot ((spl r).getLastD []) || ((spl r).foldl keep []).length == 0 then [47] else []) from by rw [dots, if_pos rfl]]
  generalize (spl r).foldl keep [] = k at hk ⊢
  have noe : ∀ c ∈ ([] : List UInt8), c ≠ 47 := fun c h => by simp at h
  have hsf := slashed_fix k (fun x hx => (hk x hx).1.fix)
  have hsa := slashed_all h47 k (fun x hx => (hk x hx).1.all)
  split
  ·refine ⟨dots_slashed k [] (fun x hx => (hk x hx).1.no) noe (fun x hx => (hk x hx).2) rfl, hsf.app (Fix.cons (by decide) Fix.nil), ?_, ?_⟩
   ·rw [List.all_append, hsa, List.all_cons, h47]; rfl
   ·cases k with
    | nil => rfl
    | cons a k => rfl
  ·rename_i hc
   simp only [Bool.or_eq_true, not_or, beq_iff_eq] at hc
   rw [List.append_nil]
   obtain ⟨k', e, rfl⟩ : ∃ k' e, k = k' ++ [e] := ⟨k.dropLast, k.getLast (fun h => hc.2 (by rw [h]; rfl)), (List.dropLast_concat_getLast _).symm⟩
   have he := hk e (by simp)
   refine ⟨?_, hsf, hsa, ?_⟩
   ·rw [slashed_app]
    exact dots_slashed k' e (fun x hx => (hk x (by simp [hx])).1.no) he.1.no (fun x hx => (hk x (by simp [hx])).2) he.2
   ·cases k' with
    | nil => rfl
    | cons a k' => rfl
theorem one_all {p : UInt8 → Bool} (hp : ∀ v, plain v = true → p v = true) (h37 : p 37 = true) (v : UInt8) : (one v).all p = true := by
 unfold one
 by_cases h : plain v = true
 ·rw [if_pos h, List.all_cons, hp v h]; rfl
 ·have hx := all_bytes (p := fun v => plain (hexd (v.toNat / 16)) && plain (hexd (v.toNat % 16))) (by decide +kernel) v
  rw [Bool.and_eq_true] at hx
  rw [if_neg h, pctB, List.all_cons, h37, List.all_cons, hp _ hx.1, List.all_cons, hp _ hx.2]
  rfl
theorem norm_all {p : UInt8 → Bool} (hp : ∀ v, plain v = true → p v = true) (h37 : p 37 = true) : ∀ (n : Nat) (s t : List UInt8), s.length ≤ n → s.all p = true → norm s = some t → t.all p = true := by
 intro n
 induction n with
 | zero =>
  intro s t hn hs h
  have := List.eq_nil_of_length_eq_zero (Nat.le_zero.1 hn)
  subst this
  rw [norm_nil] at h; injection h with h; subst h; rfl
 | succ n ih =>
  intro s t hn hs h
  cases s with
  | nil => rw [norm_nil] at h; injection h with h; subst h; rfl
  | cons c r =>
   simp only [List.length_cons] at hn
   rw [List.all_cons, Bool.and_eq_true] at hs
   rw [norm_cons] at h
   by_cases hc : c = 37
   ·rw [if_pos hc] at h
    cases ht : told r with
    | none => rw [ht] at h; cases h
    | some v =>
     rw [ht] at h
     simp only at h
     obtain ⟨u, hu, rfl⟩ := Option.map_eq_some_iff.1 h
     rw [List.all_append, one_all hp h37 v, ih _ u (by rw [List.length_drop]; omega) (List.all_eq_true.2 fun x hx => List.all_eq_true.1 hs.2 x (List.mem_of_mem_drop hx)) hu]
     rfl
   ·rw [if_neg hc] at h
    obtain ⟨u, hu, rfl⟩ := Option.map_eq_some_iff.1 h
    rw [List.all_cons, hs.1, ih r u (by omega) hs.2 hu]; rfl
def standQ (c : UInt8) : Bool := standB c && c != 63
theorem plain_stand (v : UInt8) (h : plain v = true) : standQ v = true := by
 have := all_bytes (p := fun v => !plain v || standQ v) (by decide +kernel) v
 simp only [h, Bool.not_true, Bool.false_or] at this
 exact this
theorem standQ_stand {s : List UInt8} (h : s.all standQ = true) : s.all standB = true := by
 rw [List.all_eq_true] at h ⊢
 intro x hx
 have := h x hx
 unfold standQ at this
 rw [Bool.and_eq_true] at this
 exact this.1
theorem upto_stop {ats a b : List UInt8} (ha : ∀ c ∈ a, ats.contains c = false) (hb : ∀ c, b.head? = some c → ats.contains c = true) : upto ats (a ++ b) = a ∧ from_ ats (a ++ b) = b := by
 induction a with
 | nil =>
  cases b with
  | nil => exact ⟨rfl, rfl⟩
  | cons c b =>
   have := hb c rfl
   unfold upto from_
   rw [List.nil_append, List.takeWhile_cons, List.dropWhile_cons, this]
   exact ⟨rfl, rfl⟩
 | cons c a ih =>
  have h1 := ha c (by simp)
  obtain ⟨h2, h3⟩ := ih (fun x hx => ha x (by simp [hx]))
  simp only [upto, from_] at h2 h3 ⊢
  rw [List.cons_append, List.takeWhile_cons, List.dropWhile_cons, h1]
  exact ⟨congrArg (c :: ·) h2, h3⟩
theorem mem_tw {p : UInt8 → Bool} : ∀ {l : List UInt8} {x : UInt8}, x ∈ l.takeWhile p → p x = true
 | [], _, h => by simp at h
 | a :: l, x, h => by
  rw [List.takeWhile_cons] at h
  split at h
  ·rename_i ha
   rcases List.mem_cons.1 h with e | e
   ·subst e; exact ha
   ·exact mem_tw e
  ·simp at h
theorem lo_lo (c : UInt8) : lo (lo c) = lo c := eq_of_beq (all_bytes (p := fun c => lo (lo c) == lo c) (by decide +kernel) c)
theorem low_low (s : List UInt8) : low (low s) = low s := by
 unfold low
 rw [List.map_map]
 exact List.map_congr_left fun c _ => lo_lo c
theorem val_digits : ∀ (n : Nat), val (Go.Lib.decDigits n) = n ∧ (Go.Lib.decDigits n).all digB = true ∧ (0 < n → (Go.Lib.decDigits n).head? ≠ some 48) ∧ Go.Lib.decDigits n ≠ [] := by
 have dig : ∀ d, d < 10 → (UInt8.ofNat (48 + d)).toNat = 48 + d ∧ digB (UInt8.ofNat (48 + d)) = true := fun d hd => by
  have h := (by decide : ∀ d : Fin 10, (UInt8.ofNat (48 + d.val)).toNat = 48 + d.val ∧ digB (UInt8.ofNat (48 + d.val)) = true) ⟨d, hd⟩
  exact h
 intro n
 induction n using Nat.strongRecOn with
 | _ n ih =>
  rw [Go.Lib.decDigits]
  by_cases h : n < 10
  ·rw [dif_pos h]
   obtain ⟨h1, h2⟩ := dig n h
   refine ⟨?_, ?_, fun h0 => ?_, by simp⟩
   ·simp only [val, List.foldl_cons, List.foldl_nil, h1]; omega
   ·rw [List.all_cons, h2]; rfl
   ·simp only [List.head?_cons, Option.some.injEq, ne_eq]
    intro e
    rw [e] at h1
    have : (48 : UInt8).toNat = 48 := rfl
    omega
  ·rw [dif_neg h]
   obtain ⟨h1, h2⟩ := dig (n % 10) (by omega)
   obtain ⟨i1, i2, i3, i4⟩ := ih (n / 10) (by omega)
   refine ⟨?_, ?_, fun _ => ?_, by simp⟩
   ·rw [val_app, i1, h1]; omega
   ·rw [List.all_append, i2, List.all_cons, h2]; rfl
   ·rw [List.head?_append]
    cases hd : (Go.Lib.decDigits (n / 10)).head? with
    | none => exact absurd (List.head?_eq_none_iff.1 hd) i4
    | some x =>
     have := i3 (by omega)
     rw [hd] at this
     exact this
structure Good (u : U) : Prop where
 sch : u.sch = http ∨ u.sch = https
 host : hostOk u.host = true ∧ low u.host = u.host
 port : u.port ≤ 65535 ∧ u.port ≠ ownP u.sch
 path : dots u.path = u.path ∧ Fix u.path ∧ u.path.all standQ = true ∧ u.path.head? = some 47
 query : Fix u.query ∧ u.query.all standB = true ∧ (u.ask = false → u.query = [])
theorem tail_good {sch host : List UInt8} {port : Nat} {r : List UInt8} (h1 : sch = http ∨ sch = https) (h2 : hostOk host = true ∧ low host = host) (h3 : port ≤ 65535 ∧ port ≠ ownP sch) (hr : ∀ c, r.head? = some c → c = 47 ∨ c = 63 ∨ c = 35) (h : (tailU sch host port r).2 = 0) : Good (tailU sch host port r).1 := by
 unfold tailU at h ⊢
 cases hp : partU (upto [63] r) with
 | none => rw [hp] at h; cases h
 | some p =>
  rw [hp] at h
  cases hq : partU ((from_ [63] r).drop 1) with
  | none => rw [hq] at h; cases h
  | some q =>
   simp only
   have hps : (upto [63] r).all standB = true ∧ norm (upto [63] r) = some p := by
    unfold partU at hp
    split at hp
    ·rename_i e; exact ⟨e, hp⟩
    ·cases hp
   have hqs : ((from_ [63] r).drop 1).all standB = true ∧ norm ((from_ [63] r).drop 1) = some q := by
    unfold partU at hq
    split at hq
    ·rename_i e; exact ⟨e, hq⟩
    ·cases hq
   have hus : (upto [63] r).all standQ = true := by
    rw [List.all_eq_true]
    intro x hx
    unfold standQ
    rw [List.all_eq_true.1 hps.1 x hx, Bool.true_and, bne_iff_ne]
    intro e
    subst e
    unfold upto at hx
    have := mem_tw hx
    simp at this
   have hpf : Fix p := norm_fix _ _ _ (Nat.le_refl _) hps.2
   have hpa : p.all standQ = true := norm_all plain_stand (by decide) _ _ _ (Nat.le_refl _) hus hps.2
   have hqf : Fix q := norm_fix _ _ _ (Nat.le_refl _) hqs.2
   have hqa : q.all standB = true := norm_all (fun v hv => by have := plain_stand v hv; unfold standQ at this; rw [Bool.and_eq_true] at this; exact this.1) (by decide) _ _ _ (Nat.le_refl _) hqs.1 hqs.2
   refine ⟨h1, h2, h3, ?_, hqf, hqa, fun ha => ?_⟩
   ·show dots (if p = [] then [47] else dots p) = _ ∧ Fix (if p = [] then [47] else dots p) ∧ (if p = [] then [47] else dots p).all standQ = true ∧ (if p = [] then [47] else dots p).head? = some 47
    by_cases e : p = []
    ·rw [if_pos e]
     exact ⟨(by decide : dots [47] = [47]), Fix.cons (by decide) Fix.nil, (by decide : ([47] : List UInt8).all standQ = true), rfl⟩
    ·rw [if_neg e]
     refine dots_good (by decide) hpf hpa ?_
     -- the path's first byte
     cases hu : upto [63] r with
     | nil =>
      rw [hu, norm_nil] at hps
      exact absurd (Option.some.inj hps.2).symm e
     | cons c s =>
      rw [hu] at hps
      have hc : r.head? = some c := by
       have := upto_from [63] r
       rw [hu] at this
       rw [← this]; rfl
      have hc2 := List.all_eq_true.1 hus c (by rw [hu]; simp)
      rcases hr c hc with e1 | e1 | e1
      ·subst e1
       have h4 := hps.2
       rw [norm_cons, if_neg (by decide)] at h4
       obtain ⟨u, _, rfl⟩ := Option.map_eq_some_iff.1 h4
       rfl
      ·subst e1; exact absurd hc2 (by decide)
      ·subst e1; exact absurd hc2 (by decide)
   ·have hf : from_ [63] r = [] := by simpa using ha
    rw [hf, List.drop_nil, norm_nil] at hqs
    exact (Option.some.inj hqs.2).symm
theorem from_head {ats s : List UInt8} {c : UInt8} (h : (from_ ats s).head? = some c) : ats.contains c = true := by
 unfold from_ at h
 have := List.head?_dropWhile_not (fun c => !ats.contains c) s
 rw [h] at this
 simpa using this
theorem pU_good {s : List UInt8} (h : (pU s).2 = 0) : Good (pU s).1 := by
 unfold pU at h ⊢
 by_cases h1 : 2000 < s.length
 ·rw [if_pos h1] at h; cases h
 ·rw [if_neg h1] at h ⊢
  cases hs : schemeOf s with
  | none => rw [hs] at h; cases h
  | some x =>
   obtain ⟨sch, r⟩ := x
   rw [hs] at h
   have hsch : sch = http ∨ sch = https := by
    unfold schemeOf at hs
    split at hs
    ·injection hs with hs; injection hs with e1 _; exact .inl e1.symm
    ·split at hs
     ·injection hs with hs; injection hs with e1 _; exact .inr e1.symm
     ·cases hs
   simp only at h ⊢
   by_cases hh : hostOk (hostOf r) = true
   ·rw [if_pos hh] at h ⊢
    have hho : hostOk (hostOf r) = true ∧ low (hostOf r) = hostOf r := ⟨hh, low_low _⟩
    have own0 : ownP sch ≠ 0 := by unfold ownP; split <;> decide
    unfold behind at h ⊢
    by_cases ht : (from_ [47, 63, 35, 58] r).take 1 = [58]
    ·rw [if_pos ht] at h ⊢
     by_cases hp : portOk (upto [47, 63, 35] ((from_ [47, 63, 35, 58] r).drop 1)) = true
     ·rw [if_pos hp] at h ⊢
      refine tail_good hsch hho ⟨port_le hp, ?_⟩ (fun c hc => ?_) h
      ·unfold portV
       split
       ·exact fun e => own0 e.symm
       ·rename_i e; exact e
      ·have := from_head hc
       simpa using this
     ·rw [if_neg hp] at h; cases h
    ·rw [if_neg ht] at h ⊢
     refine tail_good hsch hho ⟨by decide, fun e => own0 e.symm⟩ (fun c hc => ?_) h
     have := from_head hc
     have h58 : c ≠ 58 := fun e => by
      subst e
      cases hx : from_ [47, 63, 35, 58] r with
      | nil => rw [hx] at hc; cases hc
      | cons a b => rw [hx] at hc ht; simp at hc; subst hc; exact ht rfl
     simp only [List.contains_cons, List.contains_nil, Bool.or_eq_true, beq_iff_eq, Bool.or_false] at this
     rcases this with e | e | e | e
     ·exact .inl e
     ·exact .inr (.inl e)
     ·exact .inr (.inr e)
     ·exact absurd e h58
   ·rw [if_neg hh] at h; cases h
theorem tail_back {u : U} (hu : Good u) : tailU u.sch u.host u.port (u.path ++ (if u.ask then 63 :: u.query else [])) = (u, 0) := by
 obtain ⟨h1, h2, h3, ⟨p1, p2, p3, p4⟩, q1, q2, q3⟩ := hu
 have hn : ∀ c ∈ u.path, ([63] : List UInt8).contains c = false := fun c hc => by
  have := List.all_eq_true.1 p3 c hc
  unfold standQ at this
  simp only [Bool.and_eq_true, bne_iff_ne] at this
  simp [this.2]
 have hst := upto_stop (ats := [63]) (a := u.path) (b := if u.ask then 63 :: u.query else []) hn (fun c hc => by
  cases ha : u.ask with
  | true => rw [ha] at hc; simp at hc; subst hc; rfl
  | false => rw [ha] at hc; simp at hc)
 have hp : partU u.path = some u.path := by unfold partU; rw [if_pos (standQ_stand p3)]; exact p2
 have hne : u.path ≠ [] := fun e => by rw [e] at p4; cases p4
 unfold tailU
 rw [hst.1, hst.2, hp]
 simp only
 have hq : partU ((if u.ask = true then 63 :: u.query else []).drop 1) = some u.query := by
  cases ha : u.ask with
  | true =>
   rw [if_pos rfl, List.drop_succ_cons, List.drop_zero]
   unfold partU; rw [if_pos q2]; exact q1
  | false =>
   rw [if_neg (by decide), q3 ha]; rfl
 rw [hq]
 simp only
 rw [if_neg hne, p1]
 have : (!(if u.ask = true then 63 :: u.query else []).isEmpty) = u.ask := by cases u.ask <;> rfl
 rw [this]
theorem strU_back {u : U} (hu : Good u) (hl : (strU u).length ≤ 2000) : pU (strU u) = (u, 0) := by
 have hu' := hu
 obtain ⟨h1, ⟨ho, hlow⟩, h3, ⟨p1, p2, p3, p4⟩, q1, q2, q3⟩ := hu'
 have hhost : ∀ c ∈ u.host, hostB c = true := by
  unfold hostOk at ho
  rw [Bool.and_eq_true] at ho
  exact fun c hc => List.all_eq_true.1 ho.2 c hc
 have hb : ∀ c, hostB c = true → ([47, 63, 35, 58] : List UInt8).contains c = false := fun c hc => by
  have := all_bytes (p := fun c => !hostB c || !([47, 63, 35, 58] : List UInt8).contains c) (by decide +kernel) c
  rw [hc] at this
  simpa using this
 have hlen : ¬ 2000 < (strU u).length := by omega
 have hse : schemeOf (strU u) = some (u.sch, u.host ++ ((if u.port = 0 then [] else 58 :: Go.Lib.decDigits u.port) ++ (u.path ++ (if u.ask then 63 :: u.query else [])))) := by
  have e : strU u = u.sch ++ ([58, 47, 47] ++ (u.host ++ ((if u.port = 0 then [] else 58 :: Go.Lib.decDigits u.port) ++ (u.path ++ (if u.ask then 63 :: u.query else []))))) := by
   unfold strU origin
   simp only [List.append_assoc]
  rw [e]
  generalize u.host ++ ((if u.port = 0 then [] else 58 :: Go.Lib.decDigits u.port) ++ (u.path ++ (if u.ask then 63 :: u.query else []))) = R
  unfold schemeOf
  rcases h1 with h1 | h1
  ·rw [h1]
   have h7 : low (List.take 7 (http ++ ([58, 47, 47] ++ R))) = [104, 116, 116, 112, 58, 47, 47] := rfl
   simp only [h7, if_true]
   rfl
  ·rw [h1]
   have h7 : low (List.take 7 (https ++ ([58, 47, 47] ++ R))) = [104, 116, 116, 112, 115, 58, 47] := rfl
   have h8 : low (List.take 8 (https ++ ([58, 47, 47] ++ R))) = [104, 116, 116, 112, 115, 58, 47, 47] := rfl
   have hne : ¬ ([104, 116, 116, 112, 115, 58, 47] : List UInt8) = [104, 116, 116, 112, 58, 47, 47] := by decide
   simp only [h7, h8, hne, if_true, if_false]
   rfl
 obtain ⟨ps, hps⟩ : ∃ ps, u.path = 47 :: ps := by
  cases hp : u.path with
  | nil => rw [hp] at p4; cases p4
  | cons c ps => rw [hp] at p4; simp at p4; subst p4; exact ⟨ps, rfl⟩
 have hst := upto_stop (ats := [47, 63, 35, 58]) (a := u.host) (b := (if u.port = 0 then [] else 58 :: Go.Lib.decDigits u.port) ++ (u.path ++ (if u.ask then 63 :: u.query else []))) (fun c hc => hb c (hhost c hc)) (fun c hc => by
  by_cases h0 : u.port = 0
  ·rw [if_pos h0, hps] at hc; simp at hc; subst hc; rfl
  ·rw [if_neg h0] at hc; simp at hc; subst hc; rfl)
 have hho : hostOf (u.host ++ ((if u.port = 0 then [] else 58 :: Go.Lib.decDigits u.port) ++ (u.path ++ (if u.ask then 63 :: u.query else [])))) = u.host := by
  unfold hostOf
  rw [hst.1, hlow]
 unfold pU
 rw [if_neg hlen, hse]
 simp only
 rw [hho, if_pos ho, hst.2]
 unfold behind
 by_cases h0 : u.port = 0
 ·rw [if_pos h0, List.nil_append, if_neg (by rw [hps]; simp)]
  have := tail_back hu
  rw [h0] at this
  exact this
 ·rw [if_neg h0]
  obtain ⟨v1, v2, v3, v4⟩ := val_digits u.port
  have hd : ∀ c ∈ Go.Lib.decDigits u.port, ([47, 63, 35] : List UInt8).contains c = false := fun c hc => by
   have h5 := List.all_eq_true.1 v2 c hc
   have := all_bytes (p := fun c => !digB c || !([47, 63, 35] : List UInt8).contains c) (by decide +kernel) c
   rw [h5] at this
   simpa using this
  have hst2 := upto_stop (ats := [47, 63, 35]) (a := Go.Lib.decDigits u.port) (b := u.path ++ (if u.ask then 63 :: u.query else [])) hd (fun c hc => by rw [hps] at hc; simp at hc; subst hc; rfl)
  rw [if_pos (by simp), List.cons_append, List.drop_succ_cons, List.drop_zero, hst2.1, hst2.2]
  have hpk : portOk (Go.Lib.decDigits u.port) = true := by
   unfold portOk
   rw [v1, v2]
   have : ((Go.Lib.decDigits u.port).headD 0 == 48) = false := by
    have h6 := v3 (by omega)
    cases hx : Go.Lib.decDigits u.port with
    | nil => exact absurd hx v4
    | cons a b => rw [hx] at h6; simpa using h6
   rw [this]
   simp only [Bool.not_false, Bool.and_true, Bool.true_and, Bool.and_eq_true, decide_eq_true_eq]
   exact ⟨by omega, h3.1⟩
  rw [if_pos hpk]
  have hpv : portV (Go.Lib.decDigits u.port) u.sch = u.port := by
   unfold portV
   rw [v1, if_neg h3.2]
  rw [hpv]
  exact tail_back hu
theorem nU_idem {s : List UInt8} (h : (nU s).2 = 0) (hl : (nU s).1.length ≤ 2000) : nU (nU s).1 = nU s := by
 have h1 : (pU s).2 = 0 := by
  unfold nU at h
  by_cases h1 : (pU s).2 = 0
  ·exact h1
  ·rw [if_neg h1] at h; exact absurd h h1
 have e : nU s = (strU (pU s).1, 0) := by unfold nU; rw [if_pos h1]
 rw [e] at hl ⊢
 have hb := strU_back (pU_good h1) hl
 unfold nU
 rw [hb]
 rfl
end Ul
namespace Go.Proofs.YtadhiihnnkcagaaGreatDoor
open Gk Ul Pc Tk Tr
set_option linter.unusedVariables false
set_option linter.unusedSimpArgs false
theorem findR_idem {lo : List Sv} {s : List UInt8} (h : (findR lo s).2.2 = 0) : findR lo (findR lo s).2.1 = findR lo s := by
 have key : (Ul.nU s).2 = 0 ∧ (Ul.nU s).1.length ≤ 100 ∧ ∃ t, lo.find? (fun t => (Pat.mtch t.urls (Ul.nU s).1).1) = some t := by
  unfold findR at h
  split at h
  ·rename_i h1; exact absurd h h1
  ·rename_i h1
   split at h
   ·cases h
   ·rename_i h2
    split at h
    ·cases h
    ·rename_i t ht; exact ⟨Decidable.not_not.1 h1, by omega, t, ht⟩
 obtain ⟨h1, h2, t, ht⟩ := key
 have e : findR lo s = (t, (Ul.nU s).1, 0) := by
  unfold findR
  rw [if_neg (by rw [h1]; decide), if_neg (by omega), ht]
 rw [e]
 dsimp only
 have e2 := Ul.nU_idem h1 (by omega)
 unfold findR
 rw [e2, if_neg (by rw [h1]; decide), if_neg (by omega), ht]
def pwR (lo : List Sv) (l : List Rec) (users : List (List UInt8)) (r : Rec) : Prop := (r.kind = 1 → r.user ∈ users) ∧ (r.kind = 2 → (getD l r.parent).kind = 1 ∧ (getD l r.parent).user = r.user ∧ (findR lo r.service).2.2 = 0 ∧ (findR lo r.service).2.1 = r.service ∧ (r.fresh = false → (findR lo r.service).1.login = true))
def PwOk (lo : List Sv) (l : List Rec) (users : List (List UInt8)) : Prop := ∀ r ∈ l, pwR lo l users r
theorem get_kind {l : List Rec} {n : List UInt8} {k : Int} (h : (getD l n).kind = k) (h0 : k ≠ 0) : get l n = some (getD l n) := by
 cases e : get l n with
 | none => rw [getD_none e] at h; exact absurd h.symm h0
 | some x => rw [getD, e]; rfl
theorem PwOk.more {lo : List Sv} {l : List Rec} {us vs : List (List UInt8)} (h : PwOk lo l us) (hs : ∀ x ∈ us, x ∈ vs) : PwOk lo l vs := fun r hr => ⟨fun hk => hs _ ((h r hr).1 hk), (h r hr).2⟩
theorem PwOk.snoc {lo : List Sv} {l : List Rec} {us : List (List UInt8)} {r : Rec} (h : PwOk lo l us) (hr : pwR lo l us r) : PwOk lo (l ++ [r]) us := by
 have key : ∀ x, pwR lo l us x → pwR lo (l ++ [r]) us x := fun x hx => ⟨hx.1, fun hk => by
  obtain ⟨h1, h2, h3⟩ := hx.2 hk
  rw [getD_append (get_kind h1 (by decide))]
  exact ⟨h1, h2, h3⟩⟩
 intro x hx
 rcases List.mem_append.1 hx with h1 | h1
 ·exact key x (h x h1)
 ·rw [List.mem_singleton.1 h1]; exact key r hr
theorem PwOk.mk {lo : List Sv} {ω : Wd} {us : List (List UInt8)} {r : Rec} (h : PwOk lo ω.l us) (hr : pwR lo ω.l us r) : PwOk lo (mkW ω r).2.l us := by
 by_cases e : (mkW ω r).1.2 = 0
 ·rw [(mkW_okay e).2.1]; exact h.snoc hr
 ·rw [(mkW_err e).1]; exact h
theorem PwOk.drop {lo : List Sv} {l : List Rec} {us : List (List UInt8)} (hw : Wf l) (h : PwOk lo l us) (n : List UInt8) : PwOk lo (drop l n) us := by
 intro r hr
 have hr2 : r ∈ l ∧ (!(below l n).contains r.name) = true := List.mem_filter.1 hr
 refine ⟨(h r hr2.1).1, fun hk => ?_⟩
 obtain ⟨h1, h2, h3⟩ := (h r hr2.1).2 hk
 have hg := get_kind h1 (by decide)
 have h0 : r.parent ≠ [] := fun e => by
  rw [e] at hg
  rcases Tr.get_at l [] with ⟨_, h4⟩ | ⟨j, t, _, h5, h6, _⟩
  ·rw [h4] at hg; cases hg
  ·exact right_name (hw.right t (List.mem_of_getElem? h5)) h6
 have hn : (below l n).contains r.parent = false := by
  cases hc : (below l n).contains r.parent with
  | false => rfl
  | true =>
   obtain ⟨i, hi⟩ := List.mem_iff_getElem?.1 hr2.1
   have := below_up hw (name := n) hi h0 (by simpa using hc)
   have h7 := hr2.2
   simp [this] at h7
 have e : getD (Tr.drop l n) r.parent = getD l r.parent := by rw [getD, get_drop, hn, getD]; rfl
 rw [e]
 exact ⟨h1, h2, h3⟩
theorem PwOk.put {lo : List Sv} {l : List Rec} {us : List (List UInt8)} {t : Rec} (hp : putE l t = 0) (h : PwOk lo l us) (hs : (getD l t.name).kind = t.kind ∧ (getD l t.name).user = t.user) (ht : pwR lo l us t) : PwOk lo (Tr.put l t) us := by
 have key : ∀ x, pwR lo l us x → pwR lo (Tr.put l t) us x := fun x hx => ⟨hx.1, fun hk => by
  obtain ⟨h1, h2, h3⟩ := hx.2 hk
  rw [getD_put hp]
  split
  ·rename_i e
   rw [e] at h1 h2
   exact ⟨by rw [← hs.1]; exact h1, by rw [← hs.2]; exact h2, h3⟩
  ·exact ⟨h1, h2, h3⟩⟩
 intro x hx
 have : x = t ∨ x ∈ l := by
  unfold Tr.put at hx
  rw [if_pos hp] at hx
  rcases List.mem_or_eq_of_mem_set hx with h1 | h1
  ·exact .inr h1
  ·exact .inl h1
 rcases this with e | e
 ·subst e; exact key x ht
 ·exact key x (h x e)
theorem pw_login {lo : List Sv} {us : List Us} {ps : Nat → Int} {ω : Wd} (hω : WdOk ω) {vs : List (List UInt8)} (h : PwOk lo ω.l vs) (lt user pw : List UInt8) : PwOk lo (loginW us ps ω lt user pw).2.l (if (loginW us ps ω lt user pw).1.2 = 0 then vs ++ [user] else vs) := by
 unfold loginW
 split
 ·exact h
 ·split
  ·exact h.drop hω.wf lt
  ·dsimp only
   by_cases e : (mkW ω ⟨1, [], [], user, [], [], 0, 0, 0, true⟩).1.2 = 0
   ·rw [if_pos e, if_pos e]
    refine PwOk.drop (mkW_ok hω _).wf ?_ lt
    exact (h.more fun x hx => List.mem_append_left _ hx).mk ⟨fun _ => by simp, fun hk => absurd (show (1 : Int) = 2 from hk) (by decide)⟩
   ·rw [if_neg e, if_neg e, (mkW_err e).1]; exact h
theorem pw_grant {lo : List Sv} {ps : Nat → Int} {ω : Wd} (hω : WdOk ω) {vs : List (List UInt8)} (h : PwOk lo ω.l vs) (t s : List UInt8) (f : Bool) : PwOk lo (grantW lo ps ω t s f).2.l vs := by
 unfold grantW
 split
 ·exact h
 ·rename_i h1
  split
  ·exact h
  ·rename_i h2
   split
   ·exact h
   ·rename_i h3
    split
    ·rename_i h4; rw [(mkW_err h4).1]; exact h
    ·rename_i h4
     obtain ⟨m1, m2, m3, m4⟩ := mkW_okay (Decidable.not_not.1 h4)
     have hal : aliveW ps ω t 1 = (getD ω.l t, true) ∧ (getD ω.l t).kind = 1 := by
      rcases alive_case ps ω t 1 with e | e
      ·rw [e] at h1; exact absurd rfl h1
      ·exact e
     obtain ⟨g1, g2, g3⟩ : get ω.l t = some (getD ω.l t) ∧ rightR (getD ω.l t) = true ∧ (getD ω.l t).name = t := by
      rcases getD_case hω.wf t with ⟨_, e⟩ | e
      ·have := hal.2
       rw [e] at this
       have h0 : (r0.kind : Int) = 0 := rfl
       omega
      ·exact e
     have hid := findR_idem (lo := lo) (s := s) (Decidable.not_not.1 h2)
     have hst : pwR lo ω.l vs (grantR lo ps ω t s f) := ⟨fun hk => absurd (show (2 : Int) = 1 from hk) (by decide), fun _ => by
      show (getD ω.l t).kind = 1 ∧ (getD ω.l t).user = (aliveW ps ω t 1).1.user ∧ (findR lo (findR lo s).2.1).2.2 = 0 ∧ (findR lo (findR lo s).2.1).2.1 = (findR lo s).2.1 ∧ (f = false → (findR lo (findR lo s).2.1).1.login = true)
      rw [hal.1, hid]
      exact ⟨hal.2, rfl, Decidable.not_not.1 h2, rfl, fun hf => by
       rw [hf] at h3
       simpa using h3⟩⟩
     have hnow : (mkW ω (grantR lo ps ω t s f)).2.now = ω.now := mkW_now
     show PwOk lo (put (mkW ω (grantR lo ps ω t s f)).2.l (touchR (aliveW ps ω t 1).1 (mkW ω (grantR lo ps ω t s f)).2.now)) vs
     rw [hnow, hal.1]
     have hgd : getD (mkW ω (grantR lo ps ω t s f)).2.l t = getD ω.l t := by rw [m2]; exact getD_append g1
     have hput : putE (mkW ω (grantR lo ps ω t s f)).2.l (touchR (getD ω.l t) ω.now) = 0 := by
      have hr := right_touch g2 hω.now.2
      have hg : get (mkW ω (grantR lo ps ω t s f)).2.l t = some (getD ω.l t) := by
       have := get_kind (l := (mkW ω (grantR lo ps ω t s f)).2.l) (n := t) (k := 1) (by rw [hgd]; exact hal.2) (by decide)
       rw [this, hgd]
      rw [putE, if_neg (by rw [hr]; decide), show (touchR (getD ω.l t) ω.now).name = t from g3, hg]
      exact if_neg (fun hh => hh rfl)
     refine PwOk.put hput (h.mk hst) ?_ ⟨fun _ => ?_, fun hk => ?_⟩
     ·rw [show (touchR (getD ω.l t) ω.now).name = t from g3, hgd]; exact ⟨rfl, rfl⟩
     ·have hm : getD ω.l t ∈ ω.l := by
       rcases Tr.get_at ω.l t with ⟨_, e⟩ | ⟨j, x, _, hx, _, e⟩
       ·rw [e] at g1; cases g1
       ·rw [e] at g1
        have := Option.some.inj g1
        rw [← this]; exact List.mem_of_getElem? hx
      exact (h _ hm).1 hal.2
     ·exfalso
      have hk2 : (getD ω.l t).kind = 2 := hk
      rw [hal.2] at hk2
      exact absurd hk2 (by decide)
theorem pw_step {lo : List Sv} {us : List Us} {ps : Nat → Int} {ω : Wd} (hω : WdOk ω) {vs : List (List UInt8)} (h : PwOk lo ω.l vs) (ns : List (List UInt8)) (o : Op) : PwOk lo (actW lo us ps ω ns o).2.l (if o.act = 4 ∧ (actW lo us ps ω ns o).1.2 = 0 then vs ++ [o.b] else vs) := by
 unfold actW
 split
 ·rename_i e; rw [if_neg (by omega)]; exact h
 ·split
  ·rename_i e; rw [if_neg (by omega)]; exact h
  ·split
   ·rename_i e; rw [if_neg (by omega)]; exact h.mk ⟨fun hk => absurd hk (by decide), fun hk => absurd hk (by decide)⟩
   ·split
    ·rename_i e
     have := pw_login (us := us) (ps := ps) hω h (toldN ns o.a) o.b o.c
     simp only [e, true_and]
     exact this
    ·rename_i e4
     split
     ·rw [if_neg (by omega)]; exact pw_grant hω h _ _ _
     ·rw [if_neg (by omega)]; exact h
theorem mkW_name {ω : Wd} {r : Rec} : (mkW ω r).1.1 ≠ [] ↔ (mkW ω r).1.2 = 0 := by
 constructor
 ·intro h
  refine Decidable.byContradiction fun e => h (mkW_err e).2.2.2
 ·intro h
  obtain ⟨h1, _, h3, _⟩ := mkW_okay h
  rw [h3]
  exact right_name (add_ok h1).1
theorem login_name {us : List Us} {ps : Nat → Int} {ω : Wd} {lt user pw : List UInt8} : (loginW us ps ω lt user pw).1.1 ≠ [] ↔ (loginW us ps ω lt user pw).1.2 = 0 := by
 unfold loginW
 split
 ·simp
 ·split
  ·simp
  ·exact mkW_name
theorem grant_name {lo : List Sv} {ps : Nat → Int} {ω : Wd} {t s : List UInt8} {f : Bool} : (grantW lo ps ω t s f).1.1.1 ≠ [] ↔ (grantW lo ps ω t s f).1.2 = 0 := by
 unfold grantW
 split
 ·simp
 ·split
  ·simp
  ·split
   ·simp
   ·split
    ·rename_i h; simp [h]
    ·rename_i h
     have := (mkW_name (ω := ω) (r := grantR lo ps ω t s f)).2 (Decidable.not_not.1 h)
     simp [this]
theorem act_name {lo : List Sv} {us : List Us} {ps : Nat → Int} {ω : Wd} {ns : List (List UInt8)} {o : Op} : (actW lo us ps ω ns o).1.1 ≠ [] ↔ ((actW lo us ps ω ns o).1.2 = 0 ∧ 3 ≤ o.act ∧ o.act ≤ 5) := by
 unfold actW
 split
 ·simp; omega
 ·split
  ·simp; omega
  ·split
   ·rename_i e; rw [mkW_name]; constructor <;> intro h <;> first | exact ⟨h, by omega, by omega⟩ | exact h.1
   ·split
    ·rename_i e; rw [login_name]; constructor <;> intro h <;> first | exact ⟨h, by omega, by omega⟩ | exact h.1
    ·split
     ·rename_i e; rw [grant_name]; constructor <;> intro h <;> first | exact ⟨h, by omega, by omega⟩ | exact h.1
     ·simp; omega
theorem login_right {us : List Us} {ps : Nat → Int} {ω : Wd} {lt user pw : List UInt8} : ((loginW us ps ω lt user pw).1.2 = 0 → checkU us user pw = true) ∧ ((loginW us ps ω lt user pw).1.2 = 37 → checkU us user pw = false) := by
 unfold loginW
 split
 ·exact ⟨fun h => absurd (show (38 : Nat) = 0 from h) (by decide), fun h => absurd (show (38 : Nat) = 37 from h) (by decide)⟩
 ·split
  ·rename_i h; exact ⟨fun h => absurd (show (37 : Nat) = 0 from h) (by decide), fun _ => by simpa using h⟩
  ·rename_i h
   refine ⟨fun _ => by simpa using h, fun h2 => ?_⟩
   dsimp only at h2
   rcases Decidable.em ((mkW ω ⟨1, [], [], user, [], [], 0, 0, 0, true⟩).1.2 = 0) with e | e
   ·rw [e] at h2; cases h2
   ·rw [(mkW_err e).2.2.1] at h2; cases h2
end Go.Proofs.YtadhiihnnkcagaaGreatDoor
