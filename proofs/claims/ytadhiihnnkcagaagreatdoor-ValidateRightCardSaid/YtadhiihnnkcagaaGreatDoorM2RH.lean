/- Part 8 of what the proof stands on: W21z, GkK, Kn2. -/
import Derived.Test.YtadhiihnnkcagaaGreatDoorM2RG
import Derived.Lib.LaidTab
import Derived.Lib.LaidU8
import Derived.Lay
import Derived.Shelf.Vars
import Derived.HandedShaped
import Derived.MakeChecks
import Derived.Test.YtadhiihnnkcagaaGreatDoorRows
import Derived.KernelRfl
namespace Go.Proofs.YtadhiihnnkcagaaGreatDoor
open Gk Ul Pc Tk Tr
set_option linter.unusedVariables false
set_option linter.unusedSimpArgs false
theorem bld56_z : Bld Tryz.prog 56 [(0, 1), (1, 1), (2, 1), (3, 1)] [S [], .slice none 0 0, .slice none 0 0, S []] := bld_of Tryz.underlying56 Tryz.zeroValue56 (fun w => by simp [go_sem])
theorem pair_equal (p q : Pr) (w : World) : (Op.equalIn 10000 69 (.agg (prCells p).toArray) (.agg (prCells q).toArray)).run Tryz.prog w = .ok (decide (p = q)) w := by
 have hS : Tryz.prog.underlying 69 = some (.struct (Tryz.prog.fieldsOf 69)) := by kernel_rfl
 have hp : Tryz.prog.stoodInHeld 69 = false := by kernel_rfl
 have us := Tryz.underlying9
 have as9 := Tryz.isAgg9
 rw [show (10000 : Nat) = 9999 + 1 from rfl, run_equalIn_agg w 9999 69 _ _ hS hp]
 simp only [Program.fieldsOf, Tryz.underlying69]
 obtain ⟨a, b⟩ := p
 obtain ⟨c, d⟩ := q
 unfold prCells
 go_simp
 repeat' split
 all_goals simp_all
theorem Ex.eqPr {n : Nat} {L : Env} {w : World} {d : Option Nat} {ty t' : TypeId} {pos : String} {af : Array Edge} {g : Option (Nat × Bool)} {x y : Operand} {r s : Pr} (hx : Ev n L x (.agg (prCells r).toArray)) (hy : Ev n L y (.agg (prCells s).toArray)) : Ex Tryz.prog n L w ⟨d, .binOp .eql 69 x y t', ty, pos, af, g⟩ (.bool (decide (r = s))) w :=
 ex_bin hx hy (fun p q => run_eqGuard_agg w _ _ _ _ _ _ (by kernel_rfl)) (by rw [run_eql_struct, pair_equal]; rfl)
theorem Ex.nePr {n : Nat} {L : Env} {w : World} {d : Option Nat} {ty t' : TypeId} {pos : String} {af : Array Edge} {g : Option (Nat × Bool)} {x y : Operand} {r s : Pr} (hx : Ev n L x (.agg (prCells r).toArray)) (hy : Ev n L y (.agg (prCells s).toArray)) : Ex Tryz.prog n L w ⟨d, .binOp .neq 69 x y t', ty, pos, af, g⟩ (.bool (!decide (r = s))) w :=
 ex_bin hx hy (fun p q => run_eqGuard_agg w _ _ _ _ _ _ (by kernel_rfl)) (by rw [run_neq_struct, pair_equal]; rfl)
theorem PairsR_any (a b : Option Addr) (ca cb : Nat) (la lb : List Pr) (hla : la.length ≤ 9223372036854775807) (B w : World) (I : Im) (hA : RS I a 2 la.length (rowsC prCells la)) (hB : RS I b 2 lb.length (rowsC prCells lb)) (As : List Assn) (hS : Sat B w I As) :
  Calls Tryz.prog 66 [.slice a la.length ca, .slice b lb.length cb].toArray w (Ret fun v w' => v = .bool (decide (la = lb)) ∧ Sat B w' I As) := by
 refine calls Tryz.func66 rfl Tryz.ntmps66 rfl (.seq (.region (.run 1 rfl trivial (.nil (.seq (.seq (.region (.run 5 rfl ⟨⟨_, Tryz.underlying54⟩, ⟨_, Tryz.underlying54⟩, trivial⟩ (.nil ?_)))))))))
 refine WC.cond rfl (fun hb10 => ?_) (fun hb10 => ?_)
 ·
  have hc10 := hb10; try simp only [Gk.cs0] at hc10
  refine .seq (.region (.run 1 rfl trivial (.nil (.ret (ret1 Tryz.results66 rfl ?_)))))
  refine ⟨_, rfl, congrArg Value.bool (decide_eq_false fun e => ?_).symm, hS⟩
  subst e
  simp at hb10
 have hc10 := hb10; try simp only [Gk.cs0] at hc10
 refine .skip (.seq (.seq (.region (.run 1 rfl trivial (.nil (.block (.loop (σ := Nat) (fun i => [(0, .slice a la.length ca), (1, .slice b lb.length cb), (5, I64 (i : Nat))]) (fun i w => i ≤ la.length ∧ (∀ (j : Nat), j < i → la[j]? = lb[j]?) ∧ Sat B w I As) (fun i => la.length - i) 0 ⟨rfl, rfl, rfl, trivial⟩ ⟨Nat.zero_le _, fun _ h => absurd h (by omega), hS⟩ ?_)))))))
 rintro i w ⟨hi, hsm, hS⟩
 change WC _ _ _ _ [(0, .slice a la.length ca), (1, .slice b lb.length cb), (5, I64 (i : Nat))] w
 refine .seq (.seq (.region (.run 4 rfl ⟨⟨_, Tryz.underlying54⟩, trivial⟩ (.nil ?_))))
 refine WC.cond rfl (fun hb14 => ?_) (fun hb14 => ?_)
 ·
  have hc14 := hb14; try simp only [Gk.cs0] at hc14
  refine .skip (.seq (.block (.seq ?_)))
  obtain ⟨x, hx0⟩ : ∃ x, la[i]? = some x := ⟨_, List.getElem?_eq_getElem (by omega)⟩
  obtain ⟨y, hy0⟩ : ∃ y, lb[i]? = some y := ⟨_, List.getElem?_eq_getElem (by omega)⟩
  obtain ⟨p, hp9, hx⟩ := rs_at (cells := prCells) (s := 2) (fun _ => rfl) hA hx0
  obtain ⟨p2, hp8, hy⟩ := rs_at (cells := prCells) (s := 2) (fun _ => rfl) hB hy0
  subst hp9
  subst hp8
  refine .quiet (by kernel_rfl) (by kernel_rfl) hS (.val (fun w hS => (.move (.of rfl))) rfl (.val (fun w hS => (.move (.of rfl))) rfl ?_))
  refine WQ.val (fun w hS => (by first | exact .indexAddr (.of rfl) (.of rfl) (by omega) (by omega) Tryz.underlying54 Tryz.sizeOf69 | exact .indexAddrI (.of rfl) (.of rfl) (by omega) (by omega) Tryz.underlying54 Tryz.sizeOf69)) rfl ?_
  refine .val (fun w hS => .ldsI (.of rfl) hS hx Tryz.isAgg69 Tryz.sizeOf69 rfl (fun _ _ h => h)) rfl (.val (fun w hS => (.move (.of rfl))) rfl (.val (fun w hS => (.move (.of rfl))) rfl ?_))
  refine WQ.val (fun w hS => (by first | exact .indexAddr (.of rfl) (.of rfl) (by omega) (by omega) Tryz.underlying54 Tryz.sizeOf69 | exact .indexAddrI (.of rfl) (.of rfl) (by omega) (by omega) Tryz.underlying54 Tryz.sizeOf69)) rfl ?_
  refine .val (fun w hS => .ldsI (.of rfl) hS hy Tryz.isAgg69 Tryz.sizeOf69 rfl (fun _ _ h => h)) rfl (.val (fun w hS => Ex.nePr (r := x) (s := y) (.of rfl) (.of rfl)) rfl (.nil ?_))
  clear hS; intro w hS
  refine WC.cond rfl (fun hb25 => ?_) (fun hb25 => ?_)
  ·
   have hc25 := hb25; try simp only [Gk.cs0] at hc25
   refine .seq (.region (.run 1 rfl trivial (.nil (.ret (ret1 Tryz.results66 rfl ?_)))))
   refine ⟨_, rfl, congrArg Value.bool (decide_eq_false fun e => ?_).symm, hS⟩
   subst e
   rw [hx0] at hy0
   cases hy0
   simp at hb25
  have hc25 := hb25; try simp only [Gk.cs0] at hc25
  refine .skip (.region (.run 3 rfl ⟨⟨by omega, by omega⟩, trivial⟩ (.nil ?_)))
  refine ⟨i + 1, ⟨rfl, rfl, rfl, trivial⟩, ⟨by (try dsimp only); omega, fun j hj => ?_, hS⟩, by (try dsimp only); omega⟩
  rcases Nat.lt_or_ge j i with h1 | h1
  ·exact hsm j h1
  ·have e : j = i := by omega
   subst e
   rw [hx0, hy0, show x = y by simpa using hb25]
 have hc14 := hb14; try simp only [Gk.cs0] at hc14
 refine .exit (.seq (.region (.run 1 rfl trivial (.nil (.ret (ret1 Tryz.results66 rfl ?_))))))
 refine ⟨_, rfl, congrArg Value.bool (decide_eq_true ?_).symm, hS⟩
 refine List.ext_getElem? fun j => ?_
 rcases Nat.lt_or_ge j i with h1 | h1
 ·exact hsm j h1
 ·rw [List.getElem?_eq_none (by omega), List.getElem?_eq_none (by omega)]
def sameX (x y : Sx) : Bool := ((x.user == y.user && x.iou == y.iou) && decide (x.attrs = y.attrs)) && decide (x.proxies = y.proxies)
theorem sameX_refl (x : Sx) : sameX x x = true := by simp [sameX]
theorem SameX_any (x y : Sx) (ka1 pa1 ka2 pa2 : Option Addr) (kc1 pc1 kc2 pc2 : Nat) (hxl : x.attrs.length ≤ 9223372036854775807 ∧ x.proxies.length ≤ 140737488355328) (B w : World) (I : Im) (hka1 : x.attrs.length ≤ kc1) (hRa1 : RS I ka1 2 x.attrs.length (rowsC prCells x.attrs)) (hpa1 : x.proxies.length ≤ pc1) (hRp1 : RS I pa1 1 x.proxies.length (x.proxies.map S)) (hka2 : y.attrs.length ≤ kc2) (hRa2 : RS I ka2 2 y.attrs.length (rowsC prCells y.attrs)) (hpa2 : y.proxies.length ≤ pc2) (hRp2 : RS I pa2 1 y.proxies.length (y.proxies.map S)) (As : List Assn) (hS : Sat B w I As) :
  Calls Tryz.prog 22 [.agg (List.toArray [S x.user, .slice ka1 x.attrs.length kc1, .slice pa1 x.proxies.length pc1, S x.iou]), .agg (List.toArray [S y.user, .slice ka2 y.attrs.length kc2, .slice pa2 y.proxies.length pc2, S y.iou])].toArray w (Ret fun v w' => v = .bool (sameX x y) ∧ Sat B w' I As) := by
 refine calls Tryz.func22 rfl Tryz.ntmps22 rfl (.seq (.region (.boxA (cs := [_, _, _, _]) hS (.of rfl) rfl ?_)))
 clear hS; intro b2 w hS
 refine .boxA (cs := [_, _, _, _]) hS (.of rfl) rfl ?_
 clear hS; intro b3 w hS
 refine .run 1 rfl trivial (.nil (.seq (.region ?_)))
 first | refine WL.val (.fieldAddr 0 (.of rfl) Tryz.underlying56 rfl rfl Tryz.sizeOf9 rfl) rfl ?_ | refine WL.val (.fieldAddrI 0 (.of rfl) Tryz.underlying56 rfl rfl Tryz.sizeOf9 rfl) rfl ?_
 first | refine WL.val (.ld (.of rfl) hS (k := 0) rfl Tryz.isAgg9 rfl) rfl ?_ | refine WL.val (.ld (.of rfl) hS (k := 1) rfl Tryz.isAgg9 rfl) rfl ?_ | refine WL.val (.ld (.of rfl) hS (k := 2) rfl Tryz.isAgg9 rfl) rfl ?_ | refine WL.val (.ld (.of rfl) hS (k := 3) rfl Tryz.isAgg9 rfl) rfl ?_
 first | refine WL.val (.fieldAddr 0 (.of rfl) Tryz.underlying56 rfl rfl Tryz.sizeOf9 rfl) rfl ?_ | refine WL.val (.fieldAddrI 0 (.of rfl) Tryz.underlying56 rfl rfl Tryz.sizeOf9 rfl) rfl ?_
 first | refine WL.val (.ld (.of rfl) hS (k := 0) rfl Tryz.isAgg9 rfl) rfl ?_ | refine WL.val (.ld (.of rfl) hS (k := 1) rfl Tryz.isAgg9 rfl) rfl ?_ | refine WL.val (.ld (.of rfl) hS (k := 2) rfl Tryz.isAgg9 rfl) rfl ?_ | refine WL.val (.ld (.of rfl) hS (k := 3) rfl Tryz.isAgg9 rfl) rfl ?_
 refine .run 2 rfl trivial ?_
 refine WL.gval rfl rfl (fun hg1 => (by first | exact .fieldAddr 3 (.of rfl) Tryz.underlying56 rfl rfl Tryz.sizeOf9 rfl | exact .fieldAddrI 3 (.of rfl) Tryz.underlying56 rfl rfl Tryz.sizeOf9 rfl)) rfl ?_
 refine WL.gval rfl rfl (fun hg1 => (by first | exact (.ld (.gd hg1 rfl) hS (k := 0) rfl Tryz.isAgg9 rfl) | exact (.ld (.gd hg1 rfl) hS (k := 1) rfl Tryz.isAgg9 rfl) | exact (.ld (.gd hg1 rfl) hS (k := 2) rfl Tryz.isAgg9 rfl) | exact (.ld (.gd hg1 rfl) hS (k := 3) rfl Tryz.isAgg9 rfl))) rfl ?_
 refine WL.gval rfl rfl (fun hg1 => (by first | exact .fieldAddr 3 (.of rfl) Tryz.underlying56 rfl rfl Tryz.sizeOf9 rfl | exact .fieldAddrI 3 (.of rfl) Tryz.underlying56 rfl rfl Tryz.sizeOf9 rfl)) rfl ?_
 refine WL.gval rfl rfl (fun hg1 => (by first | exact (.ld (.gd hg1 rfl) hS (k := 0) rfl Tryz.isAgg9 rfl) | exact (.ld (.gd hg1 rfl) hS (k := 1) rfl Tryz.isAgg9 rfl) | exact (.ld (.gd hg1 rfl) hS (k := 2) rfl Tryz.isAgg9 rfl) | exact (.ld (.gd hg1 rfl) hS (k := 3) rfl Tryz.isAgg9 rfl))) rfl ?_
 refine .gval rfl rfl (fun hg1 => (.eqs (.gd hg1 rfl) (.gd hg1 rfl))) rfl (.val (.pand (.of rfl) (.of rfl) (.of rfl)) rfl (.run 1 rfl trivial ?_))
 refine WL.gval rfl rfl (fun hg1 => (by first | exact .fieldAddr 1 (.of rfl) Tryz.underlying56 rfl rfl Tryz.sizeOf54 rfl | exact .fieldAddrI 1 (.of rfl) Tryz.underlying56 rfl rfl Tryz.sizeOf54 rfl)) rfl ?_
 refine WL.gval rfl rfl (fun hg1 => (by first | exact (.ld (.gd hg1 rfl) hS (k := 0) rfl Tryz.isAgg54 rfl) | exact (.ld (.gd hg1 rfl) hS (k := 1) rfl Tryz.isAgg54 rfl) | exact (.ld (.gd hg1 rfl) hS (k := 2) rfl Tryz.isAgg54 rfl) | exact (.ld (.gd hg1 rfl) hS (k := 3) rfl Tryz.isAgg54 rfl))) rfl ?_
 refine WL.gval rfl rfl (fun hg1 => (by first | exact .fieldAddr 1 (.of rfl) Tryz.underlying56 rfl rfl Tryz.sizeOf54 rfl | exact .fieldAddrI 1 (.of rfl) Tryz.underlying56 rfl rfl Tryz.sizeOf54 rfl)) rfl ?_
 refine WL.gval rfl rfl (fun hg1 => (by first | exact (.ld (.gd hg1 rfl) hS (k := 0) rfl Tryz.isAgg54 rfl) | exact (.ld (.gd hg1 rfl) hS (k := 1) rfl Tryz.isAgg54 rfl) | exact (.ld (.gd hg1 rfl) hS (k := 2) rfl Tryz.isAgg54 rfl) | exact (.ld (.gd hg1 rfl) hS (k := 3) rfl Tryz.isAgg54 rfl))) rfl ?_
 refine .gcall (T := fun w => Sat B w I (blk b3 [S y.user, .slice ka2 y.attrs.length kc2, .slice pa2 y.proxies.length pc2, S y.iou] 56 :: blk b2 [S x.user, .slice ka1 x.attrs.length kc1, .slice pa1 x.proxies.length pc1, S x.iou] 56 :: As)) rfl rfl rfl Tryz.func66 rfl (fun hg1 => (evs_cons (.gd hg1 rfl) (evs_cons (.gd hg1 rfl) evs_nil))) rfl (fun hg1 => PairsR_any ka1 ka2 kc1 kc2 x.attrs y.attrs hxl.1 B _ I hRa1 hRa2 _ hS) hS ?_
 clear hS; rintro w hS
 refine .val (.pand (.of rfl) (.of rfl) (.of rfl)) rfl (.run 1 rfl trivial ?_)
 refine WL.gval rfl rfl (fun hg1 => (by first | exact .fieldAddr 2 (.of rfl) Tryz.underlying56 rfl rfl Tryz.sizeOf41 rfl | exact .fieldAddrI 2 (.of rfl) Tryz.underlying56 rfl rfl Tryz.sizeOf41 rfl)) rfl ?_
 refine WL.gval rfl rfl (fun hg1 => (by first | exact (.ld (.gd hg1 rfl) hS (k := 0) rfl Tryz.isAgg41 rfl) | exact (.ld (.gd hg1 rfl) hS (k := 1) rfl Tryz.isAgg41 rfl) | exact (.ld (.gd hg1 rfl) hS (k := 2) rfl Tryz.isAgg41 rfl) | exact (.ld (.gd hg1 rfl) hS (k := 3) rfl Tryz.isAgg41 rfl))) rfl ?_
 refine WL.gval rfl rfl (fun hg1 => (by first | exact .fieldAddr 2 (.of rfl) Tryz.underlying56 rfl rfl Tryz.sizeOf41 rfl | exact .fieldAddrI 2 (.of rfl) Tryz.underlying56 rfl rfl Tryz.sizeOf41 rfl)) rfl ?_
 refine WL.gval rfl rfl (fun hg1 => (by first | exact (.ld (.gd hg1 rfl) hS (k := 0) rfl Tryz.isAgg41 rfl) | exact (.ld (.gd hg1 rfl) hS (k := 1) rfl Tryz.isAgg41 rfl) | exact (.ld (.gd hg1 rfl) hS (k := 2) rfl Tryz.isAgg41 rfl) | exact (.ld (.gd hg1 rfl) hS (k := 3) rfl Tryz.isAgg41 rfl))) rfl ?_
 refine .gcall (T := fun w => Sat B w I (blk b3 [S y.user, .slice ka2 y.attrs.length kc2, .slice pa2 y.proxies.length pc2, S y.iou] 56 :: blk b2 [S x.user, .slice ka1 x.attrs.length kc1, .slice pa1 x.proxies.length pc1, S x.iou] 56 :: As)) rfl rfl rfl Tryz.func30 rfl (fun hg1 => (evs_cons (.gd hg1 rfl) (evs_cons (.gd hg1 rfl) evs_nil))) rfl (fun hg1 => Texts_any pa1 pa2 pc1 pc2 x.proxies y.proxies hpa1 hpa2 hxl.2 B _ I hRp1 hRp2 _ hS) hS ?_
 clear hS; rintro w hS
 refine .val (.pand (.of rfl) (.of rfl) (.of rfl)) rfl (.run 1 rfl trivial (.nil (.ret (ret1 Tryz.results22 rfl ?_))))
 exact ⟨_, rfl, rfl, (hS.drop (k := 0) rfl).drop (k := 0) rfl⟩
theorem parse_isT {r : Rec} (h : rightR r = true) : kindT r.name = r.kind := by
 unfold rightR at h
 simp only [Bool.and_eq_true] at h
 have h1 := h.1.2
 unfold isT at h1
 unfold kindT
 cases hp : parseT r.name with
 | none => rw [hp] at h1; cases h1
 | some x => rw [hp] at h1; simpa using h1
theorem parent_kind {r : Rec} (h : rightR r = true) : (r.parent = [] ∧ comes r.kind 0 = true) ∨ (r.parent ≠ [] ∧ comes r.kind (kindT r.parent) = true) := by
 unfold rightR at h
 simp only [Bool.and_eq_true] at h
 have h2 := h.2
 unfold parentOk at h2
 split at h2
 ·rename_i e; exact .inl ⟨e, h2⟩
 ·rename_i e
  refine .inr ⟨e, ?_⟩
  unfold kindT
  cases hp : parseT r.parent with
  | none => rw [hp] at h2; cases h2
  | some x => rw [hp] at h2; exact h2
theorem st_proxies {l : List Rec} (hw : Wf l) {name : List UInt8} (hg : get l name = some (getD l name)) (hk : (getD l name).kind = 2) : proxiesT l name = [] := by
 rcases Tr.get_at l name with ⟨_, h⟩ | ⟨j, r, h1, h2, h3, h4⟩
 ·rw [h] at hg; cases hg
 ·have e : getD l name = r := by rw [getD, h4]; rfl
  rw [e] at hk
  have hr := hw.right r (List.mem_of_getElem? h2)
  unfold proxiesT path
  rw [h1, pathI_at hw h2, List.filter_cons, if_neg (by rw [hk]; decide)]
  rcases parent_kind hr with ⟨e1, _⟩ | ⟨e1, e2⟩
  ·have : at0 l r.parent = -1 := by
    rcases at_case l r.parent with ⟨h5, _⟩ | ⟨i, t, h5, h6, h7, _⟩
    ·exact h5
    ·exact absurd (h7.trans e1) (right_name (hw.right t (List.mem_of_getElem? h6)))
   rw [this, pathI_neg l (by decide)]; rfl
  ·rcases at_case l r.parent with ⟨h5, _⟩ | ⟨i, t, h5, h6, h7, _⟩
   ·rw [h5, pathI_neg l (by decide)]; rfl
   ·have ht := hw.right t (List.mem_of_getElem? h6)
    have hk1 : t.kind = 1 := by
     rw [← h7, parse_isT ht, hk] at e2
     simp [comes] at e2
     exact e2
    rw [h5, pathI_at hw h6, List.filter_cons, if_neg (by rw [hk1]; decide)]
    have hp0 : t.parent = [] := by
     rcases parent_kind ht with ⟨e3, _⟩ | ⟨_, e4⟩
     ·exact e3
     ·rw [hk1] at e4
      have hz : kindT t.parent = 0 := by simpa [comes] using e4
      exfalso
      unfold kindT at hz
      cases hp : parseT t.parent with
      | none =>
       have h9 := parent_kind ht
       unfold rightR at ht
       simp only [Bool.and_eq_true] at ht
       have h10 := ht.2
       unfold parentOk at h10
       split at h10
       ·rename_i hne _ ; exact hne (by assumption)
       ·rw [hp] at h10; cases h10
      | some x =>
       rw [hp] at hz
       have := (parse_some (k := x.1) (d := x.2) hp).1
       simp at hz; omega
    have : at0 l t.parent = -1 := by
     rcases at_case l t.parent with ⟨h8, _⟩ | ⟨i2, t2, h8, h9, h10, _⟩
     ·exact h8
     ·exact absurd (h10.trans hp0) (right_name (hw.right t2 (List.mem_of_getElem? h9)))
    rw [this, pathI_neg l (by decide)]; rfl
theorem alive_of {ps : Nat → Int} {ω : Wd} {t : List UInt8} {k : Int} (hk : (getD ω.l t).kind = k) (ha : aliveT (psL ps) ω.l t ω.now = true) : aliveW ps ω t k = (getD ω.l t, true) := by
 unfold aliveW
 rw [if_neg]
 rw [hk, ha]; simp
theorem alive_not {ps : Nat → Int} {ω : Wd} {t : List UInt8} {k : Int} (hk : (getD ω.l t).kind ≠ k) : aliveW ps ω t k = (r0, false) := by
 unfold aliveW
 rw [if_pos]
 simp [hk]
theorem right_facts {lo : List Sv} {us : List Us} {ps : Nat → Int} {ω : Wd} (hω : WdOk ω) {q : Qr} (h : checkE ps ω q = 0) :
  (get ω.l q.ticket).isSome = true ∧ (getD ω.l q.ticket).uses = 0 ∧ (Ul.nU q.service).2 = 0 ∧ (Ul.nU q.service).1 = (getD ω.l q.ticket).service ∧ (checkW lo us ps ω q).user = (getD ω.l q.ticket).user ∧ (checkW lo us ps ω q).iou = [] ∧ (q.renew && !(getD ω.l q.ticket).fresh) = false ∧
  ((aliveW ps ω q.ticket 2 = (getD ω.l q.ticket, true) ∧ aliveW ps ω q.ticket 3 = (r0, false) ∧ (checkW lo us ps ω q).proxies = []) ∨ (aliveW ps ω q.ticket 2 = (r0, false) ∧ aliveW ps ω q.ticket 3 = (getD ω.l q.ticket, true) ∧ q.proxies = true)) ∧
  (∀ y ∈ (checkW lo us ps ω q).attrs, ∃ u ∈ us, u.name = (checkW lo us ps ω q).user ∧ y ∈ u.attrs) := by
 have hu0 := check_use h
 have hX : checkW lo us ps ω q = ⟨(useW ps ω q).1.1.user, attrsU us (useW ps ω q).1.1.user (findR lo (useW ps ω q).1.1.service).1.rel, proxiesT (useW ps ω q).2.l (useW ps ω q).1.1.name, []⟩ := if_neg (by rw [h]; decide)
 rcases use_case (ps := ps) hω q with ⟨h1, _⟩ | ⟨_, h2, h3, h4, h5, h6, h7, h8, h9, h10, h11, _⟩
 ·exact absurd hu0 h1
 ·unfold checkE at h
  rw [if_neg (by rw [hu0]; decide)] at h
  split at h
  ·cases h
  ·rename_i hc1
   split at h
   ·cases h
   ·rename_i hc2
    rw [h3] at hc1 hc2
    simp only [Bool.or_eq_true, not_or, bne_iff_ne, ne_eq, Decidable.not_not, Bool.not_eq_true', Bool.not_eq_false, beq_iff_eq] at hc1
    refine ⟨by rw [h2]; rfl, h4, by omega, hc1.2, by rw [hX, h3], by rw [hX], by simpa using hc2, ?_, ?_⟩
    ·rcases h11 with e | ⟨e, e2⟩
     ·refine .inl ⟨alive_of (by rw [h9, e]) h10, alive_not (by rw [h9, e]; decide), ?_⟩
      rw [hX, h3, h5]
      have hω2 := useW_ok (ps := ps) hω q
      have hg : getD (useW ps ω q).2.l q.ticket = touchR (getD ω.l q.ticket) ω.now := by
       rw [h7, show (putW ω (touchR (getD ω.l q.ticket) ω.now)).l = put ω.l (touchR (getD ω.l q.ticket) ω.now) from rfl, getD_put h8, if_pos (show q.ticket = (touchR (getD ω.l q.ticket) ω.now).name from h5.symm)]
      refine st_proxies hω2.wf ?_ (by rw [hg]; show (getD ω.l q.ticket).kind = 2; rw [h9, e])
      rcases getD_case hω2.wf q.ticket with ⟨_, e3⟩ | ⟨e3, _⟩
      ·rw [hg] at e3
       have e4 := congrArg Rec.kind e3
       have e5 : (touchR (getD ω.l q.ticket) ω.now).kind = 2 := by show (getD ω.l q.ticket).kind = 2; rw [h9, e]
       rw [e5] at e4; cases e4
      ·exact e3
     ·exact .inr ⟨alive_not (by rw [h9, e]; decide), alive_of (by rw [h9, e]) h10, e2⟩
    ·intro y hy
     rw [hX] at hy ⊢
     unfold attrsU at hy
     obtain ⟨x, _, hy2⟩ := List.mem_flatMap.1 hy
     have hy3 := (List.mem_filter.1 hy2).1
     unfold atU at hy3
     split at hy3
     ·rename_i u hu
      exact ⟨u, List.mem_of_find?_eq_some hu, by have := List.find?_some hu; simpa using this, hy3⟩
     ·simp at hy3
theorem checkW_len {lo : List Sv} {us : List Us} {ps : Nat → Int} {ω : Wd} (hω : WdOk ω) (ha : ∀ u ∈ us, u.attrs.length ≤ 8) (hr : ∀ s ∈ lo, s.rel.length ≤ 1000000) (q : Qr) : (checkW lo us ps ω q).attrs.length ≤ 8000000 ∧ (checkW lo us ps ω q).proxies.length ≤ 64 := by
 unfold checkW
 split
 ·decide
 ·have h1 := attrs_take (rel := (findR lo (useW ps ω q).1.1.service).1.rel) (atU_le ha (useW ps ω q).1.1.user)
  have h2 : (findR lo (useW ps ω q).1.1.service).1.rel.length ≤ 1000000 := by
   rcases findR_mem lo (useW ps ω q).1.1.service with e | e
   ·rw [e]; decide
   ·exact hr _ e
  refine ⟨by show (attrsU _ _ _).length ≤ _; unfold attrsU; omega, ?_⟩
  show (proxiesT _ _).length ≤ 64
  have hω2 := useW_ok (ps := ps) hω q
  unfold proxiesT
  rw [List.length_map]
  exact Nat.le_trans (List.length_filter_le _ _) (Nat.le_trans (path_le hω2.wf _) hω2.len)
def hitU (X : List UInt8) (y : Pr) (u : Us) (z : Pr) : Bool := (u.name == X) && decide (z = y)
theorem any_take {α : Type} (f : α → Bool) {l : List α} {i : Nat} {x : α} (h : l[i]? = some x) : (l.take (i + 1)).any f = ((l.take i).any f || f x) := by
 rw [List.take_add_one, h, List.any_append]; simp
set_option maxRecDepth 20000 in
set_option maxHeartbeats 1600000 in
theorem ValidateRight_any (c : Cf) (a : Option Addr) (cap : Nat) (ua : Option Addr) (ucap : Nat) (la : Option Addr) (lc : Nat) (l : List Rec) (hll : l.length ≤ 9223372036854775807) (q : Qr) (hqf0 : qrFit q) (now : Int) (B w : World) (I : Im) (hK : Known I) (hP : PreAt I) (hC : CfAt I c a cap ua ucap) (hR : RS I la 10 l.length (rowsC recCells l)) (As : List Assn) (hS : Sat B w I As) :
  Calls Tryz.prog 5 [.agg (cfCells c a cap ua ucap).toArray, .slice la l.length lc, I64 now, .agg (qrCells q).toArray].toArray w (Ret fun v w' => v = .bool true ∧ ∃ J, Le I J ∧ Sat B w' J As) := by
 refine calls Tryz.func5 rfl Tryz.ntmps5 rfl (.seq (.region (.boxA (cs := cfCells c a cap ua ucap) hS (.of rfl) rfl ?_)))
 clear hS; intro b4 w hS
 refine .boxA (cs := [S q.ticket, S q.service, .bool q.renew, .bool q.proxies]) hS (.of rfl) rfl ?_
 clear hS; intro b7 w hS
 refine .run 1 rfl trivial (.nil (.seq (.region (.call Tryz.func13 rfl evs_nil rfl (awake21_any B _ I hK hP _ hS) ?_))))
 clear hS
 rintro _ w ⟨rfl, hS⟩
 refine .run 1 rfl trivial (.nil (.seq (.region ?_)))
 refine WL.val (.lds (vs := cfCells c a cap ua ucap) (.of rfl) hS (k := 1) rfl Tryz.isAgg34 Tryz.sizeOf34 rfl (fun j v hj => by rw [Nat.zero_add]; exact hj)) rfl ?_
 refine .run 1 rfl trivial ?_
 first | refine WL.val (.ldsW (cs := [_, _, _, _]) (.of rfl) hS (k := 0) rfl Tryz.isAgg43 Tryz.sizeOf43 rfl) rfl ?_ | refine WL.val (.lds (vs := [_, _, _, _]) (.of rfl) hS (k := 0) rfl Tryz.isAgg43 Tryz.sizeOf43 rfl (fun _ _ h => h)) rfl ?_ | refine WL.val (.ldsW (cs := [_, _, _, _]) (.of rfl) hS (k := 1) rfl Tryz.isAgg43 Tryz.sizeOf43 rfl) rfl ?_ | refine WL.val (.lds (vs := [_, _, _, _]) (.of rfl) hS (k := 1) rfl Tryz.isAgg43 Tryz.sizeOf43 rfl (fun _ _ h => h)) rfl ?_ | refine WL.val (.ldsI (.of rfl) hS hxu Tryz.isAgg43 Tryz.sizeOf43 rfl (fun _ _ h => h)) rfl ?_ | refine WL.val (.ldsI (.of rfl) hS (At.add hxu _) Tryz.isAgg43 Tryz.sizeOf43 rfl (fun _ _ h => h)) rfl ?_ | refine WL.val (.ldsI (.of rfl) hS hxz Tryz.isAgg43 Tryz.sizeOf43 rfl (fun _ _ h => h)) rfl ?_ | refine WL.val (.ldsI (.of rfl) hS (At.add hxz _) Tryz.isAgg43 Tryz.sizeOf43 rfl (fun _ _ h => h)) rfl ?_ | refine WL.val (.ldsI (.of rfl) hS hxy Tryz.isAgg43 Tryz.sizeOf43 rfl (fun _ _ h => h)) rfl ?_ | refine WL.val (.ldsI (.of rfl) hS (At.add hxy _) Tryz.isAgg43 Tryz.sizeOf43 rfl (fun _ _ h => h)) rfl ?_
 refine .buildSlice (cs := [S q.ticket, S q.service, .bool q.renew, .bool q.proxies]) hS (parts_cons (.of rfl) parts_nil) Tryz.underlying36 Tryz.sizeOf43 Tryz.zeroValue43 rfl rfl rfl rfl ?_
 clear hS; intro b30 w hS
 obtain ⟨J1, hJ1, hb30, hS⟩ := hS.freeze (k := 0) rfl
 try dsimp only [List.eraseIdx] at hS
 have hQ1 : RS J1 (some (ad b30 0)) 4 [q].length (rowsC qrCells [q]) := ⟨rfl, fun _ => ⟨_, rfl, at_frozen hb30⟩⟩
 refine .call Tryz.func15 rfl (evs_cons (.of rfl) (evs_cons (.of rfl) (evs_cons (.of rfl) evs_nil))) rfl (few21_any c a cap ua ucap la lc l hll (some (ad b30 0)) 1 [q] (show (1 : Nat) ≤ 9223372036854775807 by decide) B _ J1 (hC.mono hJ1) (hR.mono hJ1) hQ1 _ hS) ?_
 clear hS
 rintro _ w ⟨rfl, hS⟩
 refine .run 1 rfl trivial (.nil (.seq (.seq (.region (.run 2 rfl trivial (.nil ?_))))))
 refine WC.cond rfl (fun hb33 => ?_) (fun hb33 => ?_)
 ·
  have hc33 := hb33; try simp only [Gk.cs0] at hc33
  refine .seq (.region (.run 2 rfl trivial (.nil (.ret (ret1 Tryz.results5 rfl ?_)))))
  exact ⟨_, rfl, rfl, J1, hJ1, (hS.drop (k := 0) rfl).drop (k := 0) rfl⟩
 have hc33 := hb33; try simp only [Gk.cs0] at hc33
 refine .skip (.seq ?_)
 have hfw := few21_facts (show few21 c l [q] = true by simpa using hb33)
 have hfw1 := hfw.1
 have hfw2 := hfw.2.1
 refine .region ?_
 refine WL.val (.lds (vs := cfCells c a cap ua ucap) (.of rfl) hS (k := 1) rfl Tryz.isAgg34 Tryz.sizeOf34 rfl (fun j v hj => by rw [Nat.zero_add]; exact hj)) rfl ?_
 refine .run 2 rfl trivial (.call Tryz.func16 rfl (evs_cons (.of rfl) (evs_cons (.of rfl) (evs_cons (.of rfl) evs_nil))) rfl (made21_any c a cap ua ucap (fewC_fits hC hfw1) la lc l hll hfw2 now B _ J1 (hK.mono hJ1) (hP.mono hJ1) (hC.mono hJ1) (hR.mono hJ1) _ hS) ?_)
 clear hS
 rintro _ w ⟨J, pv, hJ, rfl, hcs⟩
 refine .run 1 rfl trivial (.nil (.seq (.seq (.region (.run 1 rfl trivial (.val (.eqp (.of rfl) (.of rfl) Tryz.underlying39) rfl (.nil ?_)))))))
 refine WC.cond rfl (fun hb40 => ?_) (fun hb40 => ?_)
 ·
  have hc40 := hb40; try simp only [Gk.cs0] at hc40
  refine .seq (.region (.run 2 rfl trivial (.nil (.ret (ret1 Tryz.results5 rfl ?_)))))
  rcases hcs with ⟨_, rfl, hS⟩ | ⟨_, p, D, _, _, _, _, h9, _⟩
  ·exact ⟨_, rfl, rfl, J, hJ1.trans hJ, (hS.drop (k := 0) rfl).drop (k := 0) rfl⟩
  ·exfalso; rw [h9] at hb40; cases hb40
 have hc40 := hb40; try simp only [Gk.cs0] at hc40
 refine .skip ?_
 rcases hcs with ⟨_, h9, _⟩ | ⟨hz, p, D, hD, hlo, hus, hps, hpv, hI, hS⟩
 ·exfalso; rw [h9] at hb40; cases hb40
 subst hpv
 have hω0 := madeW_ok c l now
 refine WC.cutS (σ := Nat) (fun b12 => [(4, ptr b4 0), (7, ptr b7 0), (9, .bool true), (11, ptr p.wb 0), (12, ptr b12 0), (13, .bool (get (madeW c l now).l q.ticket).isSome)]) (fun b12 w => Sat B w J (blk b12 (recCells (getD (madeW c l now).l q.ticket)) 45 :: wdA p (madeW c l now) :: blk b7 [S q.ticket, S q.service, .bool q.renew, .bool q.proxies] 43 :: blk b4 (cfCells c a cap ua ucap) 34 :: As)) ?_ ?_
 ·
  obtain ⟨⟨a5, c5, ma5, mc5⟩, hS⟩ := Sat.unbox hS
  replace hS : Sat B _ _ (blk p.wb (wdC p (madeW c l now)) 52 :: blk p.tb [I64 (madeW c l now).room, .slice a5 (madeW c l now).l.length c5] 127 :: Vec 45 10 (.slice a5 (madeW c l now).l.length c5) (madeW c l now).l.length (rowsR (madeW c l now).l) :: blk p.mb [.slice ma5 (madeW c l now).D.length mc5] 168 :: VecO 118 (.slice ma5 (madeW c l now).D.length mc5) ((madeW c l now).D.map fun d => U64 (d : Nat)) :: _) := hS
  have hlen := hω0.len
  refine .drawn (fun w => ∃ R, Sat B w J (blk b7 [S q.ticket, S q.service, .bool q.renew, .bool q.proxies] 43 :: blk p.wb (wdC p (madeW c l now)) 52 :: R)) (fun j => !([].contains j)) (by kernel_rfl) ?_
  replace hS := hS.drew; generalize w.drew = w at hS ⊢
  have hH : ∃ R, Sat B w J (blk b7 [S q.ticket, S q.service, .bool q.renew, .bool q.proxies] 43 :: blk p.wb (wdC p (madeW c l now)) 52 :: R) := ⟨_, ((hS.pick 0 rfl).pick 5 rfl)⟩
  refine .takeP (i := 0) rfl (by kernel_rfl) (by kernel_rfl) (by kernel_rfl) (fun w => (.move (.of rfl))) rfl (.takeP (i := 1) rfl (by kernel_rfl) (by kernel_rfl) (by kernel_rfl) (fun w => (.nilCheck (.of rfl))) rfl ?_)
  refine WD.takeP (i := 2) rfl (by kernel_rfl) (by kernel_rfl) (by kernel_rfl) (fun w => (by first | exact .fieldAddr 0 (.of rfl) Tryz.underlying52 rfl rfl Tryz.sizeOf47 rfl | exact .fieldAddrI 0 (.of rfl) Tryz.underlying52 rfl rfl Tryz.sizeOf47 rfl)) rfl ?_
  refine WD.take (i := 3) rfl (by kernel_rfl) (by kernel_rfl) (by kernel_rfl) (by kernel_rfl) hH (fun w ⟨R, hS⟩ => (by first | exact (.ld (.of rfl) hS (k := 0) rfl Tryz.isAgg47 rfl) | exact (.ld (.of rfl) hS (k := 1) rfl Tryz.isAgg47 rfl) | exact (.ldI (.of rfl) hS (At.add hxu _) Tryz.isAgg47 rfl) | exact (.ldI (.of rfl) hS (At.add hxz _) Tryz.isAgg47 rfl) | exact (.ldI (.of rfl) hS (At.add hxy _) Tryz.isAgg47 rfl))) rfl ?_
  refine WD.takeP (i := 4) rfl (by kernel_rfl) (by kernel_rfl) (by kernel_rfl) (fun w => (by first | exact .fieldAddr 0 (.of rfl) Tryz.underlying43 rfl rfl Tryz.sizeOf9 rfl | exact .fieldAddrI 0 (.of rfl) Tryz.underlying43 rfl rfl Tryz.sizeOf9 rfl)) rfl ?_
  refine WD.take (i := 5) rfl (by kernel_rfl) (by kernel_rfl) (by kernel_rfl) (by kernel_rfl) hH (fun w ⟨R, hS⟩ => (by first | exact (.ld (.of rfl) hS (k := 0) rfl Tryz.isAgg9 rfl) | exact (.ld (.of rfl) hS (k := 1) rfl Tryz.isAgg9 rfl) | exact (.ldI (.of rfl) hS (At.add hxu _) Tryz.isAgg9 rfl) | exact (.ldI (.of rfl) hS (At.add hxz _) Tryz.isAgg9 rfl) | exact (.ldI (.of rfl) hS (At.add hxy _) Tryz.isAgg9 rfl))) rfl ?_
  refine WD.branch [6, 10] (by kernel_rfl) rfl (WO.cons rfl ?_ (WO.cons rfl ?_ (WO.nil)))
  ·
   refine .call Tryz.func17 rfl (evs_cons (.of rfl) (evs_cons (.of rfl) evs_nil)) rfl (Get_any p.tb (madeW c l now).room a5 c5 (madeW c l now).l (by omega) q.ticket B _ J _ ((hS.pick 2 rfl).pick 2 rfl)) ?_
   clear hS
   rintro _ w ⟨rfl, hS⟩
   try dsimp only [List.eraseIdx] at hS
   refine .nil ?_
   clear hH
   have hH : ∃ R, Sat B w J (blk b7 [S q.ticket, S q.service, .bool q.renew, .bool q.proxies] 43 :: blk p.wb (wdC p (madeW c l now)) 52 :: R) := ⟨_, ((hS.pick 2 rfl).pick 5 rfl)⟩
   refine And.intro (by intro _ _; exact hH) ?_
   refine .takeP (i := 7) rfl (by kernel_rfl) (by kernel_rfl) (by kernel_rfl) (fun w => (.move (.of rfl))) rfl (.takeP (i := 8) rfl (by kernel_rfl) (by kernel_rfl) (by kernel_rfl) (fun w => (.extract (.of rfl) rfl)) rfl (.takeP (i := 9) rfl (by kernel_rfl) (by kernel_rfl) (by kernel_rfl) (fun w => (.extract (.of rfl) rfl)) rfl ?_))
   refine WD.branch [10] (by kernel_rfl) rfl (WO.cons rfl ?_ (WO.nil))
   refine .allocA (cs := [_, _, _, _, _, _, _, _, _, _]) hS Tryz.zeroValue45 rfl ?_
   clear hS; intro b12 w hS
   refine .nil ?_
   clear hH
   have hH : ∃ R, Sat B w J (blk b7 [S q.ticket, S q.service, .bool q.renew, .bool q.proxies] 43 :: blk p.wb (wdC p (madeW c l now)) 52 :: R) := ⟨_, ((hS.pick 3 rfl).pick 6 rfl)⟩
   refine And.intro (by intro _ _; exact hH) ?_
   refine WD.branch [11] (by kernel_rfl) rfl (WO.cons rfl ?_ (WO.nil))
   first | refine WL.stA hS (k := 0) rfl (.of rfl) (.of rfl) rfl Tryz.sizeOf45 rfl (by simp) ?_ | refine WL.stA hS (k := 1) rfl (.of rfl) (.of rfl) rfl Tryz.sizeOf45 rfl (by simp) ?_ | refine WL.stA hS (k := 2) rfl (.of rfl) (.of rfl) rfl Tryz.sizeOf45 rfl (by simp) ?_ | refine WL.stA hS (k := 3) rfl (.of rfl) (.of rfl) rfl Tryz.sizeOf45 rfl (by simp) ?_ | refine WL.stA hS (k := 4) rfl (.of rfl) (.of rfl) rfl Tryz.sizeOf45 rfl (by simp) ?_ | refine WL.stA hS (k := 5) rfl (.of rfl) (.of rfl) rfl Tryz.sizeOf45 rfl (by simp) ?_ | refine WL.stA hS (k := 6) rfl (.of rfl) (.of rfl) rfl Tryz.sizeOf45 rfl (by simp) ?_ | refine WL.stA hS (k := 7) rfl (.of rfl) (.of rfl) rfl Tryz.sizeOf45 rfl (by simp) ?_
   clear hS; intro w hS; try dsimp only [List.set] at hS
   try simp only [List.take_zero, List.nil_append, List.append_nil, List.drop_succ_cons, List.drop_zero, List.drop_nil, Nat.zero_add] at hS
   refine .nil ?_
   clear hH
   have hH : ∃ R, Sat B w J (blk b7 [S q.ticket, S q.service, .bool q.renew, .bool q.proxies] 43 :: blk p.wb (wdC p (madeW c l now)) 52 :: R) := ⟨_, ((hS.pick 3 rfl).pick 6 rfl)⟩
   refine And.intro (by intro _ _; exact hH) ?_
   refine .takeP (i := 12) rfl (by kernel_rfl) (by kernel_rfl) (by kernel_rfl) (fun w => (.assign (.of rfl))) rfl (.done (by kernel_rfl) ?_)
   replace hS := Sat.box (T := wdT p (madeW c l now)) (a5, c5, ma5, mc5) (((((hS.pick 5 rfl).pick 5 rfl).pick 4 rfl).pick 4 rfl).pick 5 rfl)
   try dsimp only [List.eraseIdx] at hS
   exact ⟨b12, ⟨rfl, rfl, rfl, rfl, rfl, rfl, trivial⟩, ((((hS.pick 3 rfl).pick 3 rfl).pick 2 rfl).pick 3 rfl)⟩
  ·
   refine .allocA (cs := [_, _, _, _, _, _, _, _, _, _]) hS Tryz.zeroValue45 rfl ?_
   clear hS; intro b12 w hS
   refine .nil ?_
   clear hH
   have hH : ∃ R, Sat B w J (blk b7 [S q.ticket, S q.service, .bool q.renew, .bool q.proxies] 43 :: blk p.wb (wdC p (madeW c l now)) 52 :: R) := ⟨_, ((hS.pick 1 rfl).pick 6 rfl)⟩
   refine And.intro (by intro _ _; exact hH) ?_
   refine WD.branch [6] (by kernel_rfl) rfl (WO.cons rfl ?_ (WO.nil))
   refine .call Tryz.func17 rfl (evs_cons (.of rfl) (evs_cons (.of rfl) evs_nil)) rfl (Get_any p.tb (madeW c l now).room a5 c5 (madeW c l now).l (by omega) q.ticket B _ J _ ((hS.pick 3 rfl).pick 3 rfl)) ?_
   clear hS
   rintro _ w ⟨rfl, hS⟩
   try dsimp only [List.eraseIdx] at hS
   refine .nil ?_
   clear hH
   have hH : ∃ R, Sat B w J (blk b7 [S q.ticket, S q.service, .bool q.renew, .bool q.proxies] 43 :: blk p.wb (wdC p (madeW c l now)) 52 :: R) := ⟨_, ((hS.pick 3 rfl).pick 6 rfl)⟩
   refine And.intro (by intro _ _; exact hH) ?_
   refine .takeP (i := 7) rfl (by kernel_rfl) (by kernel_rfl) (by kernel_rfl) (fun w => (.move (.of rfl))) rfl (.takeP (i := 8) rfl (by kernel_rfl) (by kernel_rfl) (by kernel_rfl) (fun w => (.extract (.of rfl) rfl)) rfl (.takeP (i := 9) rfl (by kernel_rfl) (by kernel_rfl) (by kernel_rfl) (fun w => (.extract (.of rfl) rfl)) rfl ?_))
   refine WD.branch [11] (by kernel_rfl) rfl (WO.cons rfl ?_ (WO.nil))
   first | refine WL.stA hS (k := 0) rfl (.of rfl) (.of rfl) rfl Tryz.sizeOf45 rfl (by simp) ?_ | refine WL.stA hS (k := 1) rfl (.of rfl) (.of rfl) rfl Tryz.sizeOf45 rfl (by simp) ?_ | refine WL.stA hS (k := 2) rfl (.of rfl) (.of rfl) rfl Tryz.sizeOf45 rfl (by simp) ?_ | refine WL.stA hS (k := 3) rfl (.of rfl) (.of rfl) rfl Tryz.sizeOf45 rfl (by simp) ?_ | refine WL.stA hS (k := 4) rfl (.of rfl) (.of rfl) rfl Tryz.sizeOf45 rfl (by simp) ?_ | refine WL.stA hS (k := 5) rfl (.of rfl) (.of rfl) rfl Tryz.sizeOf45 rfl (by simp) ?_ | refine WL.stA hS (k := 6) rfl (.of rfl) (.of rfl) rfl Tryz.sizeOf45 rfl (by simp) ?_ | refine WL.stA hS (k := 7) rfl (.of rfl) (.of rfl) rfl Tryz.sizeOf45 rfl (by simp) ?_
   clear hS; intro w hS; try dsimp only [List.set] at hS
   try simp only [List.take_zero, List.nil_append, List.append_nil, List.drop_succ_cons, List.drop_zero, List.drop_nil, Nat.zero_add] at hS
   refine .nil ?_
   clear hH
   have hH : ∃ R, Sat B w J (blk b7 [S q.ticket, S q.service, .bool q.renew, .bool q.proxies] 43 :: blk p.wb (wdC p (madeW c l now)) 52 :: R) := ⟨_, ((hS.pick 3 rfl).pick 6 rfl)⟩
   refine And.intro (by intro _ _; exact hH) ?_
   refine .takeP (i := 12) rfl (by kernel_rfl) (by kernel_rfl) (by kernel_rfl) (fun w => (.assign (.of rfl))) rfl (.done (by kernel_rfl) ?_)
   replace hS := Sat.box (T := wdT p (madeW c l now)) (a5, c5, ma5, mc5) (((((hS.pick 5 rfl).pick 5 rfl).pick 3 rfl).pick 3 rfl).pick 5 rfl)
   try dsimp only [List.eraseIdx] at hS
   exact ⟨b12, ⟨rfl, rfl, rfl, rfl, rfl, rfl, trivial⟩, ((((hS.pick 3 rfl).pick 3 rfl).pick 2 rfl).pick 3 rfl)⟩
 rintro b12 w hS
 change WC _ _ _ _ [(4, ptr b4 0), (7, ptr b7 0), (9, .bool true), (11, ptr p.wb 0), (12, ptr b12 0), (13, .bool (get (madeW c l now).l q.ticket).isSome)] w
 refine .seq (.region (.run 1 rfl trivial ?_))
 first | refine WL.val (.fieldAddr 0 (.of rfl) Tryz.underlying43 rfl rfl Tryz.sizeOf9 rfl) rfl ?_ | refine WL.val (.fieldAddrI 0 (.of rfl) Tryz.underlying43 rfl rfl Tryz.sizeOf9 rfl) rfl ?_
 first | refine WL.val (.ld (.of rfl) hS (k := 0) rfl Tryz.isAgg9 rfl) rfl ?_ | refine WL.val (.ld (.of rfl) hS (k := 1) rfl Tryz.isAgg9 rfl) rfl ?_ | refine WL.val (.ld (.of rfl) hS (k := 2) rfl Tryz.isAgg9 rfl) rfl ?_ | refine WL.val (.ld (.of rfl) hS (k := 3) rfl Tryz.isAgg9 rfl) rfl ?_ | refine WL.val (.ldI (.of rfl) hS (At.add hxu _) Tryz.isAgg9 rfl) rfl ?_ | refine WL.val (.ldI (.of rfl) hS (At.add hxz _) Tryz.isAgg9 rfl) rfl ?_ | refine WL.val (.ldI (.of rfl) hS (At.add hxy _) Tryz.isAgg9 rfl) rfl ?_
 refine .call Tryz.func21 rfl (evs_cons (.of rfl) (evs_cons (.of rfl) (evs_cons (.of rfl) evs_nil))) rfl (Alive_any q.ticket 2 p _ hω0 B _ J _ (hS.pick 1 rfl)) ?_
 clear hS
 rintro _ w ⟨rfl, hS⟩
 try dsimp only [List.eraseIdx] at hS
 refine .run 3 rfl trivial (.allocA (cs := [_, _, _, _, _, _, _, _, _, _]) hS Tryz.zeroValue45 rfl ?_)
 clear hS; intro b14 w hS
 first | refine WL.stA hS (k := 0) rfl (.of rfl) (.of rfl) rfl Tryz.sizeOf45 rfl (by simp) ?_ | refine WL.stA hS (k := 1) rfl (.of rfl) (.of rfl) rfl Tryz.sizeOf45 rfl (by simp) ?_ | refine WL.stA hS (k := 2) rfl (.of rfl) (.of rfl) rfl Tryz.sizeOf45 rfl (by simp) ?_ | refine WL.stA hS (k := 3) rfl (.of rfl) (.of rfl) rfl Tryz.sizeOf45 rfl (by simp) ?_ | refine WL.stA hS (k := 4) rfl (.of rfl) (.of rfl) rfl Tryz.sizeOf45 rfl (by simp) ?_
 clear hS; intro w hS; try dsimp only [List.set] at hS
 try simp only [List.take_zero, List.nil_append, List.append_nil, List.drop_succ_cons, List.drop_zero, List.drop_nil, Nat.zero_add] at hS
 refine .run 1 rfl trivial (.nil (.seq (.region (.run 1 rfl trivial ?_))))
 first | refine WL.val (.fieldAddr 0 (.of rfl) Tryz.underlying43 rfl rfl Tryz.sizeOf9 rfl) rfl ?_ | refine WL.val (.fieldAddrI 0 (.of rfl) Tryz.underlying43 rfl rfl Tryz.sizeOf9 rfl) rfl ?_
 first | refine WL.val (.ld (.of rfl) hS (k := 0) rfl Tryz.isAgg9 rfl) rfl ?_ | refine WL.val (.ld (.of rfl) hS (k := 1) rfl Tryz.isAgg9 rfl) rfl ?_ | refine WL.val (.ld (.of rfl) hS (k := 2) rfl Tryz.isAgg9 rfl) rfl ?_ | refine WL.val (.ld (.of rfl) hS (k := 3) rfl Tryz.isAgg9 rfl) rfl ?_ | refine WL.val (.ld (.of rfl) hS (k := 4) rfl Tryz.isAgg9 rfl) rfl ?_ | refine WL.val (.ldI (.of rfl) hS (At.add hxu _) Tryz.isAgg9 rfl) rfl ?_ | refine WL.val (.ldI (.of rfl) hS (At.add hxz _) Tryz.isAgg9 rfl) rfl ?_ | refine WL.val (.ldI (.of rfl) hS (At.add hxy _) Tryz.isAgg9 rfl) rfl ?_
 refine .call Tryz.func21 rfl (evs_cons (.of rfl) (evs_cons (.of rfl) (evs_cons (.of rfl) evs_nil))) rfl (Alive_any q.ticket 3 p _ hω0 B _ J _ (hS.pick 1 rfl)) ?_
 clear hS
 rintro _ w ⟨rfl, hS⟩
 try dsimp only [List.eraseIdx] at hS
 refine .run 3 rfl trivial (.allocA (cs := [_, _, _, _, _, _, _, _, _, _]) hS Tryz.zeroValue45 rfl ?_)
 clear hS; intro b16 w hS
 first | refine WL.stA hS (k := 0) rfl (.of rfl) (.of rfl) rfl Tryz.sizeOf45 rfl (by simp) ?_ | refine WL.stA hS (k := 1) rfl (.of rfl) (.of rfl) rfl Tryz.sizeOf45 rfl (by simp) ?_ | refine WL.stA hS (k := 2) rfl (.of rfl) (.of rfl) rfl Tryz.sizeOf45 rfl (by simp) ?_ | refine WL.stA hS (k := 3) rfl (.of rfl) (.of rfl) rfl Tryz.sizeOf45 rfl (by simp) ?_ | refine WL.stA hS (k := 4) rfl (.of rfl) (.of rfl) rfl Tryz.sizeOf45 rfl (by simp) ?_ | refine WL.stA hS (k := 5) rfl (.of rfl) (.of rfl) rfl Tryz.sizeOf45 rfl (by simp) ?_
 clear hS; intro w hS; try dsimp only [List.set] at hS
 try simp only [List.take_zero, List.nil_append, List.append_nil, List.drop_succ_cons, List.drop_zero, List.drop_nil, Nat.zero_add] at hS
 refine .run 1 rfl trivial (.nil (.seq ?_))
 have hqf := hfw.2.2.2.2 q (by simp)
 refine .region (.run 1 rfl trivial ?_)
 first | refine WL.val (.ldsW (cs := [_, _, _, _]) (.of rfl) hS (k := 0) rfl Tryz.isAgg43 Tryz.sizeOf43 rfl) rfl ?_ | refine WL.val (.lds (vs := [_, _, _, _]) (.of rfl) hS (k := 0) rfl Tryz.isAgg43 Tryz.sizeOf43 rfl (fun _ _ h => h)) rfl ?_ | refine WL.val (.ldsW (cs := [_, _, _, _]) (.of rfl) hS (k := 1) rfl Tryz.isAgg43 Tryz.sizeOf43 rfl) rfl ?_ | refine WL.val (.lds (vs := [_, _, _, _]) (.of rfl) hS (k := 1) rfl Tryz.isAgg43 Tryz.sizeOf43 rfl (fun _ _ h => h)) rfl ?_ | refine WL.val (.ldsW (cs := [_, _, _, _]) (.of rfl) hS (k := 2) rfl Tryz.isAgg43 Tryz.sizeOf43 rfl) rfl ?_ | refine WL.val (.lds (vs := [_, _, _, _]) (.of rfl) hS (k := 2) rfl Tryz.isAgg43 Tryz.sizeOf43 rfl (fun _ _ h => h)) rfl ?_ | refine WL.val (.ldsW (cs := [_, _, _, _]) (.of rfl) hS (k := 3) rfl Tryz.isAgg43 Tryz.sizeOf43 rfl) rfl ?_ | refine WL.val (.lds (vs := [_, _, _, _]) (.of rfl) hS (k := 3) rfl Tryz.isAgg43 Tryz.sizeOf43 rfl (fun _ _ h => h)) rfl ?_ | refine WL.val (.ldsW (cs := [_, _, _, _]) (.of rfl) hS (k := 4) rfl Tryz.isAgg43 Tryz.sizeOf43 rfl) rfl ?_ | refine WL.val (.lds (vs := [_, _, _, _]) (.of rfl) hS (k := 4) rfl Tryz.isAgg43 Tryz.sizeOf43 rfl (fun _ _ h => h)) rfl ?_ | refine WL.val (.ldsW (cs := [_, _, _, _]) (.of rfl) hS (k := 5) rfl Tryz.isAgg43 Tryz.sizeOf43 rfl) rfl ?_ | refine WL.val (.lds (vs := [_, _, _, _]) (.of rfl) hS (k := 5) rfl Tryz.isAgg43 Tryz.sizeOf43 rfl (fun _ _ h => h)) rfl ?_ | refine WL.val (.ldsI (.of rfl) hS hxu Tryz.isAgg43 Tryz.sizeOf43 rfl (fun _ _ h => h)) rfl ?_ | refine WL.val (.ldsI (.of rfl) hS (At.add hxu _) Tryz.isAgg43 Tryz.sizeOf43 rfl (fun _ _ h => h)) rfl ?_ | refine WL.val (.ldsI (.of rfl) hS hxz Tryz.isAgg43 Tryz.sizeOf43 rfl (fun _ _ h => h)) rfl ?_ | refine WL.val (.ldsI (.of rfl) hS (At.add hxz _) Tryz.isAgg43 Tryz.sizeOf43 rfl (fun _ _ h => h)) rfl ?_ | refine WL.val (.ldsI (.of rfl) hS hxy Tryz.isAgg43 Tryz.sizeOf43 rfl (fun _ _ h => h)) rfl ?_ | refine WL.val (.ldsI (.of rfl) hS (At.add hxy _) Tryz.isAgg43 Tryz.sizeOf43 rfl (fun _ _ h => h)) rfl ?_
 refine .call Tryz.func18 rfl (evs_cons (.of rfl) (evs_cons (.of rfl) evs_nil)) rfl (vCheck_any q (by omega) (by omega) p _ hω0 B _ J hI _ (hS.pick 1 rfl)) ?_
 clear hS
 rintro _ w ⟨J3, _, hJ3, rfl, ⟨ka, kc, pa, pc, rfl, hka, hRa, hpa, hRp⟩, hS⟩
 try dsimp only [List.eraseIdx] at hS
 generalize hX : checkW p.lo p.us p.ps (madeW c l now) q = X at hka hRa hpa hRp hS ⊢
 refine .run 3 rfl trivial (.allocA (cs := [_, _, _, _]) hS Tryz.zeroValue56 rfl ?_)
 clear hS; intro b18 w hS
 first | refine WL.stA hS (k := 0) rfl (.of rfl) (.of rfl) rfl Tryz.sizeOf56 rfl (by simp) ?_ | refine WL.stA hS (k := 1) rfl (.of rfl) (.of rfl) rfl Tryz.sizeOf56 rfl (by simp) ?_ | refine WL.stA hS (k := 2) rfl (.of rfl) (.of rfl) rfl Tryz.sizeOf56 rfl (by simp) ?_ | refine WL.stA hS (k := 3) rfl (.of rfl) (.of rfl) rfl Tryz.sizeOf56 rfl (by simp) ?_ | refine WL.stA hS (k := 4) rfl (.of rfl) (.of rfl) rfl Tryz.sizeOf56 rfl (by simp) ?_ | refine WL.stA hS (k := 5) rfl (.of rfl) (.of rfl) rfl Tryz.sizeOf56 rfl (by simp) ?_ | refine WL.stA hS (k := 6) rfl (.of rfl) (.of rfl) rfl Tryz.sizeOf56 rfl (by simp) ?_
 clear hS; intro w hS; try dsimp only [List.set] at hS
 try simp only [List.take_zero, List.nil_append, List.append_nil, List.drop_succ_cons, List.drop_zero, List.drop_nil, Nat.zero_add] at hS
 refine .run 1 rfl trivial (.nil (.seq (.seq (.region (.run 2 rfl trivial (.nil ?_))))))
 refine WC.cond rfl (fun hb73 => ?_) (fun hb73 => ?_)
 ·
  have hc73 := hb73; try simp only [Gk.cs0] at hc73
  refine .seq (.region (.run 2 rfl trivial ?_))
  refine WL.gval rfl rfl (fun hg1 => (by first | exact (.ldsW (cs := [_, _, _, _]) (.of rfl) hS (k := 0) rfl Tryz.isAgg56 Tryz.sizeOf56 rfl) | exact (.lds (vs := [_, _, _, _]) (.of rfl) hS (k := 0) rfl Tryz.isAgg56 Tryz.sizeOf56 rfl (fun _ _ h => h)) | exact (.ldsW (cs := [_, _, _, _]) (.of rfl) hS (k := 1) rfl Tryz.isAgg56 Tryz.sizeOf56 rfl) | exact (.lds (vs := [_, _, _, _]) (.of rfl) hS (k := 1) rfl Tryz.isAgg56 Tryz.sizeOf56 rfl (fun _ _ h => h)) | exact (.ldsW (cs := [_, _, _, _]) (.of rfl) hS (k := 2) rfl Tryz.isAgg56 Tryz.sizeOf56 rfl) | exact (.lds (vs := [_, _, _, _]) (.of rfl) hS (k := 2) rfl Tryz.isAgg56 Tryz.sizeOf56 rfl (fun _ _ h => h)) | exact (.ldsW (cs := [_, _, _, _]) (.of rfl) hS (k := 3) rfl Tryz.isAgg56 Tryz.sizeOf56 rfl) | exact (.lds (vs := [_, _, _, _]) (.of rfl) hS (k := 3) rfl Tryz.isAgg56 Tryz.sizeOf56 rfl (fun _ _ h => h)) | exact (.ldsW (cs := [_, _, _, _]) (.of rfl) hS (k := 4) rfl Tryz.isAgg56 Tryz.sizeOf56 rfl) | exact (.lds (vs := [_, _, _, _]) (.of rfl) hS (k := 4) rfl Tryz.isAgg56 Tryz.sizeOf56 rfl (fun _ _ h => h)) | exact (.ldsW (cs := [_, _, _, _]) (.of rfl) hS (k := 5) rfl Tryz.isAgg56 Tryz.sizeOf56 rfl) | exact (.lds (vs := [_, _, _, _]) (.of rfl) hS (k := 5) rfl Tryz.isAgg56 Tryz.sizeOf56 rfl (fun _ _ h => h)) | exact (.ldsW (cs := [_, _, _, _]) (.of rfl) hS (k := 6) rfl Tryz.isAgg56 Tryz.sizeOf56 rfl) | exact (.lds (vs := [_, _, _, _]) (.of rfl) hS (k := 6) rfl Tryz.isAgg56 Tryz.sizeOf56 rfl (fun _ _ h => h)) | exact (.ldsI (.of rfl) hS hxu Tryz.isAgg56 Tryz.sizeOf56 rfl (fun _ _ h => h)) | exact (.ldsI (.of rfl) hS (At.add hxu _) Tryz.isAgg56 Tryz.sizeOf56 rfl (fun _ _ h => h)) | exact (.ldsI (.of rfl) hS hxz Tryz.isAgg56 Tryz.sizeOf56 rfl (fun _ _ h => h)) | exact (.ldsI (.of rfl) hS (At.add hxz _) Tryz.isAgg56 Tryz.sizeOf56 rfl (fun _ _ h => h)) | exact (.ldsI (.of rfl) hS hxy Tryz.isAgg56 Tryz.sizeOf56 rfl (fun _ _ h => h)) | exact (.ldsI (.of rfl) hS (At.add hxy _) Tryz.isAgg56 Tryz.sizeOf56 rfl (fun _ _ h => h)))) rfl ?_
  refine .gval rfl rfl (fun hg1 => (.build (cs := [_, _, _, _]) parts_nil bld56_z rfl)) rfl ?_
  have hne : (checkE p.ps (madeW c l now) q) ≠ 0 := by simpa using hb73
  have hXs : X = sx0 := by rw [← hX]; exact if_pos hne
  subst hXs
  refine .gcall (T := fun w => Sat B w J3 _) rfl rfl rfl Tryz.func22 rfl (fun hg1 => (evs_cons (.gd hg1 rfl) (evs_cons (.gd hg1 rfl) evs_nil))) rfl (fun hg1 => SameX_any sx0 sx0 ka pa none none kc pc 0 0 ⟨by decide, by decide⟩ B _ J3 hka hRa hpa hRp (Nat.le_refl _) (RS.nil _ _) (Nat.le_refl _) (RS.nil _ _) _ hS) hS ?_
  clear hS; rintro w hS
  refine .val (.pand (.of rfl) (.of rfl) (.of rfl)) rfl (.run 1 rfl trivial (.nil (.ret (ret1 Tryz.results5 rfl ?_))))
  exact ⟨_, rfl, congrArg Value.bool (by rw [sameX_refl]; rfl), J3, hJ1.trans (hJ.trans hJ3), (((((((hS.drop (k := 0) rfl).drop (k := 0) rfl).drop (k := 0) rfl).drop (k := 0) rfl).drop (k := 0) rfl).drop (k := 0) rfl).drop (k := 0) rfl)⟩
 have hc73 := hb73; try simp only [Gk.cs0] at hc73
 refine .skip (.seq ?_)
 have hce : (checkE p.ps (madeW c l now) q) = 0 := by simpa using hb73
 obtain ⟨hf1, hf2, hf3, hf4, hf5, hf6, hf7, hf8, hf9⟩ := right_facts (lo := p.lo) (us := p.us) hω0 hce
 rw [hX] at hf5 hf6 hf8 hf9
 have hqf := hfw.2.2.2.2 q (by simp)
 refine .region ?_
 first | refine WL.val (.fieldAddr 1 (.of rfl) Tryz.underlying43 rfl rfl Tryz.sizeOf9 rfl) rfl ?_ | refine WL.val (.fieldAddrI 1 (.of rfl) Tryz.underlying43 rfl rfl Tryz.sizeOf9 rfl) rfl ?_
 first | refine WL.val (.ld (.of rfl) hS (k := 0) rfl Tryz.isAgg9 rfl) rfl ?_ | refine WL.val (.ld (.of rfl) hS (k := 1) rfl Tryz.isAgg9 rfl) rfl ?_ | refine WL.val (.ld (.of rfl) hS (k := 2) rfl Tryz.isAgg9 rfl) rfl ?_ | refine WL.val (.ld (.of rfl) hS (k := 3) rfl Tryz.isAgg9 rfl) rfl ?_ | refine WL.val (.ld (.of rfl) hS (k := 4) rfl Tryz.isAgg9 rfl) rfl ?_ | refine WL.val (.ld (.of rfl) hS (k := 5) rfl Tryz.isAgg9 rfl) rfl ?_ | refine WL.val (.ld (.of rfl) hS (k := 6) rfl Tryz.isAgg9 rfl) rfl ?_ | refine WL.val (.ldI (.of rfl) hS (At.add hxu _) Tryz.isAgg9 rfl) rfl ?_ | refine WL.val (.ldI (.of rfl) hS (At.add hxz _) Tryz.isAgg9 rfl) rfl ?_ | refine WL.val (.ldI (.of rfl) hS (At.add hxy _) Tryz.isAgg9 rfl) rfl ?_
 refine .call Tryz.func23 rfl (evs_cons (.of rfl) evs_nil) rfl (refUNormal_any q.service (by omega) B _ J3 _ hS) ?_
 clear hS
 rintro _ w ⟨rfl, hS⟩
 refine .run 5 rfl trivial (.nil (.seq (.seq (.region (.run 3 rfl trivial (.gval rfl rfl (fun hg1 => (.move (.of rfl))) rfl (.gval rfl rfl (fun hg1 => (.not (.gd hg1 rfl))) rfl (.gval rfl rfl (fun hg1 => (.move (.gd hg1 rfl))) rfl (.gval2 rfl rfl rfl (fun hg1 hg2 => (.move (.of rfl))) rfl (.gval2 rfl rfl rfl (fun hg1 hg2 => (.not (.gd2 hg1 hg2 rfl))) rfl (.gval rfl rfl (fun hg1 => (.pand (.gd hg1 rfl) (.gd hg1 rfl) (.of rfl))) rfl (.val (.por (.of rfl) (.of rfl) (.of rfl)) rfl (.run 1 rfl trivial (.gval rfl rfl (fun hg1 => (.move (.of rfl))) rfl (.gval rfl rfl (fun hg1 => (.move (.gd hg1 rfl))) rfl ?_)))))))))))))))
 refine WL.gval2 rfl rfl rfl (fun hg1 hg2 => .lds (vs := recCells (aliveW p.ps (madeW c l now) q.ticket 2).1) (.of rfl) hS (k := 3) rfl Tryz.isAgg45 Tryz.sizeOf45 rfl (fun j v hj => by rw [Nat.zero_add]; exact hj)) rfl ?_
 refine WL.gval2 rfl rfl rfl (fun hg1 hg2 => .lds (vs := recCells (getD (madeW c l now).l q.ticket)) (.of rfl) hS (k := 4) rfl Tryz.isAgg45 Tryz.sizeOf45 rfl (fun j v hj => by rw [Nat.zero_add]; exact hj)) rfl ?_
 refine .gval2 rfl rfl rfl (fun hg1 hg2 => (Ex.neRec (.gd2 hg1 hg2 rfl) (.gd2 hg1 hg2 rfl))) rfl (.gval rfl rfl (fun hg1 => (.pand (.gd hg1 rfl) (.gd hg1 rfl) (.of rfl))) rfl (.val (.por (.of rfl) (.of rfl) (.of rfl)) rfl (.run 1 rfl trivial (.gval rfl rfl (fun hg1 => (.move (.of rfl))) rfl (.gval rfl rfl (fun hg1 => (.move (.gd hg1 rfl))) rfl ?_)))))
 refine WL.gval2 rfl rfl rfl (fun hg1 hg2 => .lds (vs := recCells (aliveW p.ps (madeW c l now) q.ticket 3).1) (.of rfl) hS (k := 2) rfl Tryz.isAgg45 Tryz.sizeOf45 rfl (fun j v hj => by rw [Nat.zero_add]; exact hj)) rfl ?_
 refine WL.gval2 rfl rfl rfl (fun hg1 hg2 => .lds (vs := recCells (getD (madeW c l now).l q.ticket)) (.of rfl) hS (k := 4) rfl Tryz.isAgg45 Tryz.sizeOf45 rfl (fun j v hj => by rw [Nat.zero_add]; exact hj)) rfl ?_
 refine .gval2 rfl rfl rfl (fun hg1 hg2 => (Ex.neRec (.gd2 hg1 hg2 rfl) (.gd2 hg1 hg2 rfl))) rfl (.gval rfl rfl (fun hg1 => (.pand (.gd hg1 rfl) (.gd hg1 rfl) (.of rfl))) rfl (.val (.por (.of rfl) (.of rfl) (.of rfl)) rfl (.run 1 rfl trivial (.gval rfl rfl (fun hg1 => (.move (.of rfl))) rfl (.gval rfl rfl (fun hg1 => (.neq (.gd hg1 rfl) (.of rfl))) rfl (.val (.por (.of rfl) (.of rfl) (.of rfl)) rfl (.run 1 rfl trivial (.gval rfl rfl (fun hg1 => (.move (.of rfl))) rfl ?_))))))))
 refine WL.gval rfl rfl (fun hg1 => (by first | exact .fieldAddr 4 (.of rfl) Tryz.underlying45 rfl rfl Tryz.sizeOf9 rfl | exact .fieldAddrI 4 (.of rfl) Tryz.underlying45 rfl rfl Tryz.sizeOf9 rfl)) rfl ?_
 refine WL.gval rfl rfl (fun hg1 => (by first | exact (.ld (.gd hg1 rfl) hS (k := 0) rfl Tryz.isAgg9 rfl) | exact (.ld (.gd hg1 rfl) hS (k := 1) rfl Tryz.isAgg9 rfl) | exact (.ld (.gd hg1 rfl) hS (k := 2) rfl Tryz.isAgg9 rfl) | exact (.ld (.gd hg1 rfl) hS (k := 3) rfl Tryz.isAgg9 rfl) | exact (.ld (.gd hg1 rfl) hS (k := 4) rfl Tryz.isAgg9 rfl) | exact (.ld (.gd hg1 rfl) hS (k := 5) rfl Tryz.isAgg9 rfl) | exact (.ld (.gd hg1 rfl) hS (k := 6) rfl Tryz.isAgg9 rfl) | exact (.ldI (.gd hg1 rfl) hS (At.add hxu _) Tryz.isAgg9 rfl) | exact (.ldI (.gd hg1 rfl) hS (At.add hxz _) Tryz.isAgg9 rfl) | exact (.ldI (.gd hg1 rfl) hS (At.add hxy _) Tryz.isAgg9 rfl))) rfl ?_
 refine .gval rfl rfl (fun hg1 => (.nes (.gd hg1 rfl) (.gd hg1 rfl))) rfl (.val (.por (.of rfl) (.of rfl) (.of rfl)) rfl (.run 1 rfl trivial ?_))
 refine WL.gval rfl rfl (fun hg1 => (by first | exact .fieldAddr 0 (.of rfl) Tryz.underlying56 rfl rfl Tryz.sizeOf9 rfl | exact .fieldAddrI 0 (.of rfl) Tryz.underlying56 rfl rfl Tryz.sizeOf9 rfl)) rfl ?_
 refine WL.gval rfl rfl (fun hg1 => (by first | exact (.ld (.gd hg1 rfl) hS (k := 0) rfl Tryz.isAgg9 rfl) | exact (.ld (.gd hg1 rfl) hS (k := 1) rfl Tryz.isAgg9 rfl) | exact (.ld (.gd hg1 rfl) hS (k := 2) rfl Tryz.isAgg9 rfl) | exact (.ld (.gd hg1 rfl) hS (k := 3) rfl Tryz.isAgg9 rfl) | exact (.ld (.gd hg1 rfl) hS (k := 4) rfl Tryz.isAgg9 rfl) | exact (.ld (.gd hg1 rfl) hS (k := 5) rfl Tryz.isAgg9 rfl) | exact (.ld (.gd hg1 rfl) hS (k := 6) rfl Tryz.isAgg9 rfl) | exact (.ldI (.gd hg1 rfl) hS (At.add hxu _) Tryz.isAgg9 rfl) | exact (.ldI (.gd hg1 rfl) hS (At.add hxz _) Tryz.isAgg9 rfl) | exact (.ldI (.gd hg1 rfl) hS (At.add hxy _) Tryz.isAgg9 rfl))) rfl ?_
 refine WL.gval rfl rfl (fun hg1 => (by first | exact .fieldAddr 3 (.of rfl) Tryz.underlying45 rfl rfl Tryz.sizeOf9 rfl | exact .fieldAddrI 3 (.of rfl) Tryz.underlying45 rfl rfl Tryz.sizeOf9 rfl)) rfl ?_
 refine WL.gval rfl rfl (fun hg1 => (by first | exact (.ld (.gd hg1 rfl) hS (k := 0) rfl Tryz.isAgg9 rfl) | exact (.ld (.gd hg1 rfl) hS (k := 1) rfl Tryz.isAgg9 rfl) | exact (.ld (.gd hg1 rfl) hS (k := 2) rfl Tryz.isAgg9 rfl) | exact (.ld (.gd hg1 rfl) hS (k := 3) rfl Tryz.isAgg9 rfl) | exact (.ld (.gd hg1 rfl) hS (k := 4) rfl Tryz.isAgg9 rfl) | exact (.ld (.gd hg1 rfl) hS (k := 5) rfl Tryz.isAgg9 rfl) | exact (.ld (.gd hg1 rfl) hS (k := 6) rfl Tryz.isAgg9 rfl) | exact (.ldI (.gd hg1 rfl) hS (At.add hxu _) Tryz.isAgg9 rfl) | exact (.ldI (.gd hg1 rfl) hS (At.add hxz _) Tryz.isAgg9 rfl) | exact (.ldI (.gd hg1 rfl) hS (At.add hxy _) Tryz.isAgg9 rfl))) rfl ?_
 refine .gval rfl rfl (fun hg1 => (.nes (.gd hg1 rfl) (.gd hg1 rfl))) rfl (.val (.por (.of rfl) (.of rfl) (.of rfl)) rfl (.run 1 rfl trivial ?_))
 refine WL.gval rfl rfl (fun hg1 => (by first | exact .fieldAddr 3 (.of rfl) Tryz.underlying56 rfl rfl Tryz.sizeOf9 rfl | exact .fieldAddrI 3 (.of rfl) Tryz.underlying56 rfl rfl Tryz.sizeOf9 rfl)) rfl ?_
 refine WL.gval rfl rfl (fun hg1 => (by first | exact (.ld (.gd hg1 rfl) hS (k := 0) rfl Tryz.isAgg9 rfl) | exact (.ld (.gd hg1 rfl) hS (k := 1) rfl Tryz.isAgg9 rfl) | exact (.ld (.gd hg1 rfl) hS (k := 2) rfl Tryz.isAgg9 rfl) | exact (.ld (.gd hg1 rfl) hS (k := 3) rfl Tryz.isAgg9 rfl) | exact (.ld (.gd hg1 rfl) hS (k := 4) rfl Tryz.isAgg9 rfl) | exact (.ld (.gd hg1 rfl) hS (k := 5) rfl Tryz.isAgg9 rfl) | exact (.ld (.gd hg1 rfl) hS (k := 6) rfl Tryz.isAgg9 rfl) | exact (.ldI (.gd hg1 rfl) hS (At.add hxu _) Tryz.isAgg9 rfl) | exact (.ldI (.gd hg1 rfl) hS (At.add hxz _) Tryz.isAgg9 rfl) | exact (.ldI (.gd hg1 rfl) hS (At.add hxy _) Tryz.isAgg9 rfl))) rfl ?_
 refine .gval rfl rfl (fun hg1 => (.nes (.gd hg1 rfl) (.of rfl))) rfl (.val (.por (.of rfl) (.of rfl) (.of rfl)) rfl (.run 1 rfl trivial ?_))
 refine WL.gval rfl rfl (fun hg1 => (by first | exact .fieldAddr 8 (.of rfl) Tryz.underlying45 rfl rfl Tryz.sizeOf3 rfl | exact .fieldAddrI 8 (.of rfl) Tryz.underlying45 rfl rfl Tryz.sizeOf3 rfl)) rfl ?_
 refine WL.gval rfl rfl (fun hg1 => (by first | exact (.ld (.gd hg1 rfl) hS (k := 0) rfl Tryz.isAgg3 rfl) | exact (.ld (.gd hg1 rfl) hS (k := 1) rfl Tryz.isAgg3 rfl) | exact (.ld (.gd hg1 rfl) hS (k := 2) rfl Tryz.isAgg3 rfl) | exact (.ld (.gd hg1 rfl) hS (k := 3) rfl Tryz.isAgg3 rfl) | exact (.ld (.gd hg1 rfl) hS (k := 4) rfl Tryz.isAgg3 rfl) | exact (.ld (.gd hg1 rfl) hS (k := 5) rfl Tryz.isAgg3 rfl) | exact (.ld (.gd hg1 rfl) hS (k := 6) rfl Tryz.isAgg3 rfl) | exact (.ldI (.gd hg1 rfl) hS (At.add hxu _) Tryz.isAgg3 rfl) | exact (.ldI (.gd hg1 rfl) hS (At.add hxz _) Tryz.isAgg3 rfl) | exact (.ldI (.gd hg1 rfl) hS (At.add hxy _) Tryz.isAgg3 rfl))) rfl ?_
 refine .gval rfl rfl (fun hg1 => (.neq (.gd hg1 rfl) (.of rfl))) rfl (.val (.por (.of rfl) (.of rfl) (.of rfl)) rfl (.nil ?_))
 refine WC.cond rfl (fun hb138 => ?_) (fun hb138 => ?_)
 ·
  have hc138 := hb138; try simp only [Gk.cs0] at hc138
  refine .seq (.region (.run 1 rfl trivial (.nil (.ret (ret1 Tryz.results5 rfl ?_)))))
  exfalso
  rcases hf8 with ⟨e1, e2, e3⟩ | ⟨e1, e2, e3⟩
  ·simp [hf1, hf2, hf3, hf4, hf5, hf6, e1, e2] at hb138
  ·simp [hf1, hf2, hf3, hf4, hf5, hf6, e1, e2] at hb138
 have hc138 := hb138; try simp only [Gk.cs0] at hc138
 refine .skip (.seq (.seq (.region (.run 2 rfl trivial ?_))))
 refine WL.gval rfl rfl (fun hg1 => (by first | exact .fieldAddr 3 (.of rfl) Tryz.underlying43 rfl rfl Tryz.sizeOf4 rfl | exact .fieldAddrI 3 (.of rfl) Tryz.underlying43 rfl rfl Tryz.sizeOf4 rfl)) rfl ?_
 refine WL.gval rfl rfl (fun hg1 => (by first | exact (.ld (.gd hg1 rfl) hS (k := 0) rfl Tryz.isAgg4 rfl) | exact (.ld (.gd hg1 rfl) hS (k := 1) rfl Tryz.isAgg4 rfl) | exact (.ld (.gd hg1 rfl) hS (k := 2) rfl Tryz.isAgg4 rfl) | exact (.ld (.gd hg1 rfl) hS (k := 3) rfl Tryz.isAgg4 rfl) | exact (.ld (.gd hg1 rfl) hS (k := 4) rfl Tryz.isAgg4 rfl) | exact (.ld (.gd hg1 rfl) hS (k := 5) rfl Tryz.isAgg4 rfl) | exact (.ld (.gd hg1 rfl) hS (k := 6) rfl Tryz.isAgg4 rfl) | exact (.ldI (.gd hg1 rfl) hS (At.add hxu _) Tryz.isAgg4 rfl) | exact (.ldI (.gd hg1 rfl) hS (At.add hxz _) Tryz.isAgg4 rfl) | exact (.ldI (.gd hg1 rfl) hS (At.add hxy _) Tryz.isAgg4 rfl))) rfl ?_
 refine .gval rfl rfl (fun hg1 => (.not (.gd hg1 rfl))) rfl (.val (.pand (.of rfl) (.of rfl) (.of rfl)) rfl (.run 1 rfl trivial ?_))
 refine WL.gval rfl rfl (fun hg1 => (by first | exact .fieldAddr 2 (.of rfl) Tryz.underlying43 rfl rfl Tryz.sizeOf4 rfl | exact .fieldAddrI 2 (.of rfl) Tryz.underlying43 rfl rfl Tryz.sizeOf4 rfl)) rfl ?_
 refine WL.gval rfl rfl (fun hg1 => (by first | exact (.ld (.gd hg1 rfl) hS (k := 0) rfl Tryz.isAgg4 rfl) | exact (.ld (.gd hg1 rfl) hS (k := 1) rfl Tryz.isAgg4 rfl) | exact (.ld (.gd hg1 rfl) hS (k := 2) rfl Tryz.isAgg4 rfl) | exact (.ld (.gd hg1 rfl) hS (k := 3) rfl Tryz.isAgg4 rfl) | exact (.ld (.gd hg1 rfl) hS (k := 4) rfl Tryz.isAgg4 rfl) | exact (.ld (.gd hg1 rfl) hS (k := 5) rfl Tryz.isAgg4 rfl) | exact (.ld (.gd hg1 rfl) hS (k := 6) rfl Tryz.isAgg4 rfl) | exact (.ldI (.gd hg1 rfl) hS (At.add hxu _) Tryz.isAgg4 rfl) | exact (.ldI (.gd hg1 rfl) hS (At.add hxz _) Tryz.isAgg4 rfl) | exact (.ldI (.gd hg1 rfl) hS (At.add hxy _) Tryz.isAgg4 rfl))) rfl ?_
 refine .gval rfl rfl (fun hg1 => (.move (.gd hg1 rfl))) rfl ?_
 refine WL.gval2 rfl rfl rfl (fun hg1 hg2 => (by first | exact .fieldAddr 9 (.of rfl) Tryz.underlying45 rfl rfl Tryz.sizeOf4 rfl | exact .fieldAddrI 9 (.of rfl) Tryz.underlying45 rfl rfl Tryz.sizeOf4 rfl)) rfl ?_
 refine WL.gval2 rfl rfl rfl (fun hg1 hg2 => (by first | exact (.ld (.gd2 hg1 hg2 rfl) hS (k := 0) rfl Tryz.isAgg4 rfl) | exact (.ld (.gd2 hg1 hg2 rfl) hS (k := 1) rfl Tryz.isAgg4 rfl) | exact (.ld (.gd2 hg1 hg2 rfl) hS (k := 2) rfl Tryz.isAgg4 rfl) | exact (.ld (.gd2 hg1 hg2 rfl) hS (k := 3) rfl Tryz.isAgg4 rfl) | exact (.ld (.gd2 hg1 hg2 rfl) hS (k := 4) rfl Tryz.isAgg4 rfl) | exact (.ld (.gd2 hg1 hg2 rfl) hS (k := 5) rfl Tryz.isAgg4 rfl) | exact (.ld (.gd2 hg1 hg2 rfl) hS (k := 6) rfl Tryz.isAgg4 rfl) | exact (.ldI (.gd2 hg1 hg2 rfl) hS (At.add hxu _) Tryz.isAgg4 rfl) | exact (.ldI (.gd2 hg1 hg2 rfl) hS (At.add hxz _) Tryz.isAgg4 rfl) | exact (.ldI (.gd2 hg1 hg2 rfl) hS (At.add hxy _) Tryz.isAgg4 rfl))) rfl ?_
 refine .gval2 rfl rfl rfl (fun hg1 hg2 => (.not (.gd2 hg1 hg2 rfl))) rfl (.gval rfl rfl (fun hg1 => (.pand (.gd hg1 rfl) (.gd hg1 rfl) (.of rfl))) rfl (.val (.por (.of rfl) (.of rfl) (.of rfl)) rfl (.run 1 rfl trivial (.gval rfl rfl (fun hg1 => (.move (.of rfl))) rfl (.gval rfl rfl (fun hg1 => (.move (.gd hg1 rfl))) rfl ?_)))))
 refine WL.gval2 rfl rfl rfl (fun hg1 hg2 => (by first | exact .fieldAddr 2 (.of rfl) Tryz.underlying56 rfl rfl Tryz.sizeOf41 rfl | exact .fieldAddrI 2 (.of rfl) Tryz.underlying56 rfl rfl Tryz.sizeOf41 rfl)) rfl ?_
 refine WL.gval2 rfl rfl rfl (fun hg1 hg2 => (by first | exact (.ld (.gd2 hg1 hg2 rfl) hS (k := 0) rfl Tryz.isAgg41 rfl) | exact (.ld (.gd2 hg1 hg2 rfl) hS (k := 1) rfl Tryz.isAgg41 rfl) | exact (.ld (.gd2 hg1 hg2 rfl) hS (k := 2) rfl Tryz.isAgg41 rfl) | exact (.ld (.gd2 hg1 hg2 rfl) hS (k := 3) rfl Tryz.isAgg41 rfl) | exact (.ld (.gd2 hg1 hg2 rfl) hS (k := 4) rfl Tryz.isAgg41 rfl) | exact (.ld (.gd2 hg1 hg2 rfl) hS (k := 5) rfl Tryz.isAgg41 rfl) | exact (.ld (.gd2 hg1 hg2 rfl) hS (k := 6) rfl Tryz.isAgg41 rfl) | exact (.ldI (.gd2 hg1 hg2 rfl) hS (At.add hxu _) Tryz.isAgg41 rfl) | exact (.ldI (.gd2 hg1 hg2 rfl) hS (At.add hxz _) Tryz.isAgg41 rfl) | exact (.ldI (.gd2 hg1 hg2 rfl) hS (At.add hxy _) Tryz.isAgg41 rfl))) rfl ?_
 refine .gval2 rfl rfl rfl (fun hg1 hg2 => (.lenSlice (.gd2 hg1 hg2 rfl) Tryz.underlying41)) rfl (.gval2 rfl rfl rfl (fun hg1 hg2 => (.gtr (.gd2 hg1 hg2 rfl) (.of rfl))) rfl (.gval rfl rfl (fun hg1 => (.pand (.gd hg1 rfl) (.gd hg1 rfl) (.of rfl))) rfl (.val (.por (.of rfl) (.of rfl) (.of rfl)) rfl (.nil ?_))))
 refine WC.cond rfl (fun hb162 => ?_) (fun hb162 => ?_)
 ·
  have hc162 := hb162; try simp only [Gk.cs0] at hc162
  refine .seq (.region (.run 1 rfl trivial (.nil (.ret (ret1 Tryz.results5 rfl ?_)))))
  exfalso
  rcases hf8 with ⟨e1, e2, e3⟩ | ⟨e1, e2, e3⟩
  ·have h9 : ((false && !q.proxies || q.renew && !(getD (madeW c l now).l q.ticket).fresh) || (true && decide ((0 : Int) < ((X.proxies.length : Nat) : Int)))) = true := by rw [e1, e2] at hb162; exact hb162
   rw [hf7, e3] at h9; simp at h9
  ·have h9 : ((true && !q.proxies || q.renew && !(getD (madeW c l now).l q.ticket).fresh) || (false && decide ((0 : Int) < ((X.proxies.length : Nat) : Int)))) = true := by rw [e1, e2] at hb162; exact hb162
   rw [hf7, e3] at h9; simp at h9
 have hc162 := hb162; try simp only [Gk.cs0] at hc162
 refine .skip (.seq (.seq (.region (.run 1 rfl trivial (.nil (.block ?_))))))
 replace hS := (((((hS.drop (k := 1) rfl).drop (k := 1) rfl).drop (k := 1) rfl).drop (k := 1) rfl).drop (k := 1) rfl)
 try dsimp only [List.eraseIdx] at hS
 have hUs : UsrsAt J3 ua c.us := ((hC.us.mono hJ1).mono hJ).mono hJ3
 have hun := hC.un
 have hxl := checkW_len (ps := p.ps) hω0 hI.att hI.rel q
 rw [hX] at hxl
 have hxl1 := hxl.1
 refine .loop (σ := Nat) (fun i => [(4, ptr b4 0), (9, .bool true), (18, ptr b18 0), (22, I64 (i : Nat))]) (fun i w => i ≤ X.attrs.length ∧ Sat B w J3 (blk b18 [S X.user, .slice ka X.attrs.length kc, .slice pa X.proxies.length pc, S X.iou] 56 :: blk b4 (cfCells c a cap ua ucap) 34 :: As)) (fun i => X.attrs.length - i) 0 ⟨rfl, rfl, rfl, rfl, trivial⟩ ⟨Nat.zero_le _, hS⟩ ?_
 rintro i w ⟨hi, hS⟩
 change WC _ _ _ _ [(4, ptr b4 0), (9, .bool true), (18, ptr b18 0), (22, I64 (i : Nat))] w
 refine .seq (.seq (.region (.run 1 rfl trivial ?_)))
 first | refine WL.val (.fieldAddr 1 (.of rfl) Tryz.underlying56 rfl rfl Tryz.sizeOf54 rfl) rfl ?_ | refine WL.val (.fieldAddrI 1 (.of rfl) Tryz.underlying56 rfl rfl Tryz.sizeOf54 rfl) rfl ?_
 first | refine WL.val (.ld (.of rfl) hS (k := 0) rfl Tryz.isAgg54 rfl) rfl ?_ | refine WL.val (.ld (.of rfl) hS (k := 1) rfl Tryz.isAgg54 rfl) rfl ?_ | refine WL.val (.ldI (.of rfl) hS (At.add hxu _) Tryz.isAgg54 rfl) rfl ?_ | refine WL.val (.ldI (.of rfl) hS (At.add hxz _) Tryz.isAgg54 rfl) rfl ?_ | refine WL.val (.ldI (.of rfl) hS (At.add hxy _) Tryz.isAgg54 rfl) rfl ?_
 refine .run 2 rfl ⟨⟨_, Tryz.underlying54⟩, trivial⟩ (.nil ?_)
 refine WC.cond rfl (fun hb167 => ?_) (fun hb167 => ?_)
 ·
  have hc167 := hb167; try simp only [Gk.cs0] at hc167
  refine .skip (.seq (.block (.seq (.region (.run 1 rfl trivial (.nil (.seq (.seq ?_))))))))
  obtain ⟨y, hy0⟩ : ∃ y, X.attrs[i]? = some y := ⟨_, List.getElem?_eq_getElem (by omega)⟩
  obtain ⟨yp, hy9, hxy⟩ := rs_at (cells := prCells) (s := 2) (fun _ => rfl) hRa hy0
  unfold prCells at hxy
  refine .region (.run 1 rfl trivial (.nil (.block (.loop (σ := Nat × Bool) (fun ⟨k, own⟩ => [(4, ptr b4 0), (9, .bool true), (18, ptr b18 0), (22, I64 (i : Nat)), (23, .bool own), (24, I64 (k : Nat))]) (fun ⟨k, own⟩ w => k ≤ c.us.length ∧ own = ((c.us.take k).any fun u => u.attrs.any (hitU X.user y u)) ∧ Sat B w J3 (blk b18 [S X.user, .slice ka X.attrs.length kc, .slice pa X.proxies.length pc, S X.iou] 56 :: blk b4 (cfCells c a cap ua ucap) 34 :: As)) (fun ⟨k, own⟩ => c.us.length - k) (0, false) ⟨rfl, rfl, rfl, rfl, rfl, rfl, trivial⟩ ⟨Nat.zero_le _, rfl, hS⟩ ?_))))
  rintro ⟨k, own⟩ w ⟨hk, hown, hS⟩
  change WC _ _ _ _ [(4, ptr b4 0), (9, .bool true), (18, ptr b18 0), (22, I64 (i : Nat)), (23, .bool own), (24, I64 (k : Nat))] w
  refine .seq (.seq (.region (.run 1 rfl trivial ?_)))
  first | refine WL.val (.fieldAddr 1 (.of rfl) Tryz.underlying34 rfl rfl Tryz.sizeOf28 rfl) rfl ?_ | refine WL.val (.fieldAddrI 1 (.of rfl) Tryz.underlying34 rfl rfl Tryz.sizeOf28 rfl) rfl ?_
  first | refine WL.val (.ld (.of rfl) hS (k := 0) rfl Tryz.isAgg28 rfl) rfl ?_ | refine WL.val (.ld (.of rfl) hS (k := 1) rfl Tryz.isAgg28 rfl) rfl ?_ | refine WL.val (.ldI (.of rfl) hS (At.add hxu _) Tryz.isAgg28 rfl) rfl ?_ | refine WL.val (.ldI (.of rfl) hS (At.add hxz _) Tryz.isAgg28 rfl) rfl ?_ | refine WL.val (.ldI (.of rfl) hS (At.add hxy _) Tryz.isAgg28 rfl) rfl ?_
  refine .run 2 rfl ⟨⟨_, Tryz.underlying28⟩, trivial⟩ (.nil ?_)
  refine WC.cond rfl (fun hb174 => ?_) (fun hb174 => ?_)
  ·
   have hc174 := hb174; try simp only [Gk.cs0] at hc174
   refine .skip (.seq (.block (.seq ?_)))
   obtain ⟨u, hu0⟩ : ∃ u, c.us[k]? = some u := ⟨_, List.getElem?_eq_getElem (by omega)⟩
   obtain ⟨up, ura, urc, hu9, hxu, hurc, hRu⟩ := hUs k u hu0
   have hfu := (hC.ufit u (List.mem_of_getElem? hu0)).attrs.1
   subst hu9
   unfold usCells at hxu
   refine .region (.run 1 rfl trivial (.nil (.block (.loop (σ := Nat × Bool) (fun ⟨n, ow2⟩ => [(4, ptr b4 0), (9, .bool true), (18, ptr b18 0), (22, I64 (i : Nat)), (23, .bool ow2), (24, I64 (k : Nat)), (25, I64 (n : Nat))]) (fun ⟨n, ow2⟩ w => n ≤ u.attrs.length ∧ ow2 = (own || (u.attrs.take n).any (hitU X.user y u)) ∧ Sat B w J3 (blk b18 [S X.user, .slice ka X.attrs.length kc, .slice pa X.proxies.length pc, S X.iou] 56 :: blk b4 (cfCells c a cap (some up) ucap) 34 :: As)) (fun ⟨n, ow2⟩ => u.attrs.length - n) (0, own) ⟨rfl, rfl, rfl, rfl, rfl, rfl, rfl, trivial⟩ ⟨Nat.zero_le _, by simp, hS⟩ ?_))))
   rintro ⟨n, ow2⟩ w ⟨hn, hown2, hS⟩
   change WC _ _ _ _ [(4, ptr b4 0), (9, .bool true), (18, ptr b18 0), (22, I64 (i : Nat)), (23, .bool ow2), (24, I64 (k : Nat)), (25, I64 (n : Nat))] w
   refine .seq (.seq (.region (.run 1 rfl trivial ?_)))
   first | refine WL.val (.fieldAddr 1 (.of rfl) Tryz.underlying34 rfl rfl Tryz.sizeOf28 rfl) rfl ?_ | refine WL.val (.fieldAddrI 1 (.of rfl) Tryz.underlying34 rfl rfl Tryz.sizeOf28 rfl) rfl ?_
   first | refine WL.val (.ld (.of rfl) hS (k := 0) rfl Tryz.isAgg28 rfl) rfl ?_ | refine WL.val (.ld (.of rfl) hS (k := 1) rfl Tryz.isAgg28 rfl) rfl ?_ | refine WL.val (.ldI (.of rfl) hS (At.add hxu _) Tryz.isAgg28 rfl) rfl ?_ | refine WL.val (.ldI (.of rfl) hS (At.add hxz _) Tryz.isAgg28 rfl) rfl ?_ | refine WL.val (.ldI (.of rfl) hS (At.add hxy _) Tryz.isAgg28 rfl) rfl ?_
   refine .run 1 rfl trivial ?_
   first | refine WL.val (.indexAddr (.of rfl) (.of rfl) (by omega) (by omega) Tryz.underlying28 Tryz.sizeOf67) rfl ?_ | refine WL.val (.indexAddrI (.of rfl) (.of rfl) (by omega) (by omega) Tryz.underlying28 Tryz.sizeOf67) rfl ?_
   first | refine WL.val (.fieldAddr 2 (.of rfl) Tryz.underlying67 rfl rfl Tryz.sizeOf54 rfl) rfl ?_ | refine WL.val (.fieldAddrI 2 (.of rfl) Tryz.underlying67 rfl rfl Tryz.sizeOf54 rfl) rfl ?_
   first | refine WL.val (.ld (.of rfl) hS (k := 0) rfl Tryz.isAgg54 rfl) rfl ?_ | refine WL.val (.ld (.of rfl) hS (k := 1) rfl Tryz.isAgg54 rfl) rfl ?_ | refine WL.val (.ldI (.of rfl) hS (At.add hxu _) Tryz.isAgg54 rfl) rfl ?_ | refine WL.val (.ldI (.of rfl) hS (At.add hxz _) Tryz.isAgg54 rfl) rfl ?_ | refine WL.val (.ldI (.of rfl) hS (At.add hxy _) Tryz.isAgg54 rfl) rfl ?_
   refine .run 2 rfl ⟨⟨_, Tryz.underlying54⟩, trivial⟩ (.nil ?_)
   refine WC.cond rfl (fun hb185 => ?_) (fun hb185 => ?_)
   ·
    have hc185 := hb185; try simp only [Gk.cs0] at hc185
    refine .skip (.seq (.block ?_))
    obtain ⟨z, hz0⟩ : ∃ z, u.attrs[n]? = some z := ⟨_, List.getElem?_eq_getElem (by omega)⟩
    obtain ⟨zp, hz9, hxz⟩ := rs_at (cells := prCells) (s := 2) (fun _ => rfl) hRu hz0
    subst hz9
    subst hy9
    unfold prCells at hxz
    have hst := any_take (hitU X.user y u) hz0
    refine .quiet (by kernel_rfl) (by kernel_rfl) hS (.val (fun w hS => (.move (.of rfl))) rfl (.val (fun w hS => (.move (.of rfl))) rfl ?_))
    refine WQ.gval rfl rfl rfl (fun hg1 w hS => (by first | exact .fieldAddr 1 (.of rfl) Tryz.underlying34 rfl rfl Tryz.sizeOf28 rfl | exact .fieldAddrI 1 (.of rfl) Tryz.underlying34 rfl rfl Tryz.sizeOf28 rfl)) rfl ?_
    refine WQ.gval rfl rfl rfl (fun hg1 w hS => (by first | exact (.ld (.gd hg1 rfl) hS (k := 0) rfl Tryz.isAgg28 rfl) | exact (.ld (.gd hg1 rfl) hS (k := 1) rfl Tryz.isAgg28 rfl) | exact (.ldI (.gd hg1 rfl) hS (At.add hxu _) Tryz.isAgg28 rfl) | exact (.ldI (.gd hg1 rfl) hS (At.add hxz _) Tryz.isAgg28 rfl) | exact (.ldI (.gd hg1 rfl) hS (At.add hxy _) Tryz.isAgg28 rfl))) rfl ?_
    refine .gval rfl rfl rfl (fun hg1 w hS => (.move (.of rfl))) rfl ?_
    refine WQ.gval rfl rfl rfl (fun hg1 w hS => (by first | exact .indexAddr (.gd hg1 rfl) (.gd hg1 rfl) (by (try simp only [Gk.cs0] at hg1); omega) (by (try simp only [Gk.cs0] at hg1); omega) Tryz.underlying28 Tryz.sizeOf67 | exact .indexAddrI (.gd hg1 rfl) (.gd hg1 rfl) (by (try simp only [Gk.cs0] at hg1); omega) (by (try simp only [Gk.cs0] at hg1); omega) Tryz.underlying28 Tryz.sizeOf67)) rfl ?_
    refine WQ.gval rfl rfl rfl (fun hg1 w hS => (by first | exact .fieldAddr 0 (.gd hg1 rfl) Tryz.underlying67 rfl rfl Tryz.sizeOf9 rfl | exact .fieldAddrI 0 (.gd hg1 rfl) Tryz.underlying67 rfl rfl Tryz.sizeOf9 rfl)) rfl ?_
    refine WQ.gval rfl rfl rfl (fun hg1 w hS => (by first | exact (.ld (.gd hg1 rfl) hS (k := 0) rfl Tryz.isAgg9 rfl) | exact (.ld (.gd hg1 rfl) hS (k := 1) rfl Tryz.isAgg9 rfl) | exact (.ldI (.gd hg1 rfl) hS (At.add hxu _) Tryz.isAgg9 rfl) | exact (.ldI (.gd hg1 rfl) hS (At.add hxz _) Tryz.isAgg9 rfl) | exact (.ldI (.gd hg1 rfl) hS (At.add hxy _) Tryz.isAgg9 rfl))) rfl ?_
    refine WQ.gval rfl rfl rfl (fun hg1 w hS => (by first | exact .fieldAddr 0 (.of rfl) Tryz.underlying56 rfl rfl Tryz.sizeOf9 rfl | exact .fieldAddrI 0 (.of rfl) Tryz.underlying56 rfl rfl Tryz.sizeOf9 rfl)) rfl ?_
    refine WQ.gval rfl rfl rfl (fun hg1 w hS => (by first | exact (.ld (.gd hg1 rfl) hS (k := 0) rfl Tryz.isAgg9 rfl) | exact (.ld (.gd hg1 rfl) hS (k := 1) rfl Tryz.isAgg9 rfl) | exact (.ldI (.gd hg1 rfl) hS (At.add hxu _) Tryz.isAgg9 rfl) | exact (.ldI (.gd hg1 rfl) hS (At.add hxz _) Tryz.isAgg9 rfl) | exact (.ldI (.gd hg1 rfl) hS (At.add hxy _) Tryz.isAgg9 rfl))) rfl ?_
    refine .gval rfl rfl rfl (fun hg1 w hS => (.eqs (.gd hg1 rfl) (.gd hg1 rfl))) rfl (.gval rfl rfl rfl (fun hg1 w hS => (.move (.gd hg1 rfl))) rfl ?_)
    refine WQ.gval2 rfl rfl rfl (fun hg1 hg2 w hS => (by first | exact .fieldAddr 1 (.of rfl) Tryz.underlying34 rfl rfl Tryz.sizeOf28 rfl | exact .fieldAddrI 1 (.of rfl) Tryz.underlying34 rfl rfl Tryz.sizeOf28 rfl)) rfl ?_
    refine WQ.gval2 rfl rfl rfl (fun hg1 hg2 w hS => (by first | exact (.ld (.gd2 hg1 hg2 rfl) hS (k := 0) rfl Tryz.isAgg28 rfl) | exact (.ld (.gd2 hg1 hg2 rfl) hS (k := 1) rfl Tryz.isAgg28 rfl) | exact (.ldI (.gd2 hg1 hg2 rfl) hS (At.add hxu _) Tryz.isAgg28 rfl) | exact (.ldI (.gd2 hg1 hg2 rfl) hS (At.add hxz _) Tryz.isAgg28 rfl) | exact (.ldI (.gd2 hg1 hg2 rfl) hS (At.add hxy _) Tryz.isAgg28 rfl))) rfl ?_
    refine .gval2 rfl rfl rfl (fun hg1 hg2 w hS => (.move (.of rfl))) rfl ?_
    refine WQ.gval2 rfl rfl rfl (fun hg1 hg2 w hS => (by first | exact .indexAddr (.gd2 hg1 hg2 rfl) (.gd2 hg1 hg2 rfl) (by (try simp only [Gk.cs0] at hg1 hg2); omega) (by (try simp only [Gk.cs0] at hg1 hg2); omega) Tryz.underlying28 Tryz.sizeOf67 | exact .indexAddrI (.gd2 hg1 hg2 rfl) (.gd2 hg1 hg2 rfl) (by (try simp only [Gk.cs0] at hg1 hg2); omega) (by (try simp only [Gk.cs0] at hg1 hg2); omega) Tryz.underlying28 Tryz.sizeOf67)) rfl ?_
    refine WQ.gval2 rfl rfl rfl (fun hg1 hg2 w hS => (by first | exact .fieldAddr 2 (.gd2 hg1 hg2 rfl) Tryz.underlying67 rfl rfl Tryz.sizeOf54 rfl | exact .fieldAddrI 2 (.gd2 hg1 hg2 rfl) Tryz.underlying67 rfl rfl Tryz.sizeOf54 rfl)) rfl ?_
    refine WQ.gval2 rfl rfl rfl (fun hg1 hg2 w hS => (by first | exact (.ld (.gd2 hg1 hg2 rfl) hS (k := 0) rfl Tryz.isAgg54 rfl) | exact (.ld (.gd2 hg1 hg2 rfl) hS (k := 1) rfl Tryz.isAgg54 rfl) | exact (.ldI (.gd2 hg1 hg2 rfl) hS (At.add hxu _) Tryz.isAgg54 rfl) | exact (.ldI (.gd2 hg1 hg2 rfl) hS (At.add hxz _) Tryz.isAgg54 rfl) | exact (.ldI (.gd2 hg1 hg2 rfl) hS (At.add hxy _) Tryz.isAgg54 rfl))) rfl ?_
    refine .gval2 rfl rfl rfl (fun hg1 hg2 w hS => (.move (.of rfl))) rfl ?_
    refine WQ.gval2 rfl rfl rfl (fun hg1 hg2 w hS => (by first | exact .indexAddr (.gd2 hg1 hg2 rfl) (.gd2 hg1 hg2 rfl) (by (try simp only [Gk.cs0] at hg1 hg2); omega) (by (try simp only [Gk.cs0] at hg1 hg2); omega) Tryz.underlying54 Tryz.sizeOf69 | exact .indexAddrI (.gd2 hg1 hg2 rfl) (.gd2 hg1 hg2 rfl) (by (try simp only [Gk.cs0] at hg1 hg2); omega) (by (try simp only [Gk.cs0] at hg1 hg2); omega) Tryz.underlying54 Tryz.sizeOf69)) rfl ?_
    refine WQ.gval2 rfl rfl rfl (fun hg1 hg2 w hS => (by first | exact (.ldsW (cs := [_, _]) (.gd2 hg1 hg2 rfl) hS (k := 0) rfl Tryz.isAgg69 Tryz.sizeOf69 rfl) | exact (.lds (vs := [_, _]) (.gd2 hg1 hg2 rfl) hS (k := 0) rfl Tryz.isAgg69 Tryz.sizeOf69 rfl (fun _ _ h => h)) | exact (.ldsW (cs := [_, _]) (.gd2 hg1 hg2 rfl) hS (k := 1) rfl Tryz.isAgg69 Tryz.sizeOf69 rfl) | exact (.lds (vs := [_, _]) (.gd2 hg1 hg2 rfl) hS (k := 1) rfl Tryz.isAgg69 Tryz.sizeOf69 rfl (fun _ _ h => h)) | exact (.ldsI (.gd2 hg1 hg2 rfl) hS hxu Tryz.isAgg69 Tryz.sizeOf69 rfl (fun _ _ h => h)) | exact (.ldsI (.gd2 hg1 hg2 rfl) hS (At.add hxu _) Tryz.isAgg69 Tryz.sizeOf69 rfl (fun _ _ h => h)) | exact (.ldsI (.gd2 hg1 hg2 rfl) hS hxz Tryz.isAgg69 Tryz.sizeOf69 rfl (fun _ _ h => h)) | exact (.ldsI (.gd2 hg1 hg2 rfl) hS (At.add hxz _) Tryz.isAgg69 Tryz.sizeOf69 rfl (fun _ _ h => h)) | exact (.ldsI (.gd2 hg1 hg2 rfl) hS hxy Tryz.isAgg69 Tryz.sizeOf69 rfl (fun _ _ h => h)) | exact (.ldsI (.gd2 hg1 hg2 rfl) hS (At.add hxy _) Tryz.isAgg69 Tryz.sizeOf69 rfl (fun _ _ h => h)))) rfl ?_
    refine WQ.gval2 rfl rfl rfl (fun hg1 hg2 w hS => (by first | exact .fieldAddr 1 (.of rfl) Tryz.underlying56 rfl rfl Tryz.sizeOf54 rfl | exact .fieldAddrI 1 (.of rfl) Tryz.underlying56 rfl rfl Tryz.sizeOf54 rfl)) rfl ?_
    refine WQ.gval2 rfl rfl rfl (fun hg1 hg2 w hS => (by first | exact (.ld (.gd2 hg1 hg2 rfl) hS (k := 0) rfl Tryz.isAgg54 rfl) | exact (.ld (.gd2 hg1 hg2 rfl) hS (k := 1) rfl Tryz.isAgg54 rfl) | exact (.ldI (.gd2 hg1 hg2 rfl) hS (At.add hxu _) Tryz.isAgg54 rfl) | exact (.ldI (.gd2 hg1 hg2 rfl) hS (At.add hxz _) Tryz.isAgg54 rfl) | exact (.ldI (.gd2 hg1 hg2 rfl) hS (At.add hxy _) Tryz.isAgg54 rfl))) rfl ?_
    refine .gval2 rfl rfl rfl (fun hg1 hg2 w hS => (.move (.of rfl))) rfl ?_
    refine WQ.gval2 rfl rfl rfl (fun hg1 hg2 w hS => (by first | exact .indexAddr (.gd2 hg1 hg2 rfl) (.gd2 hg1 hg2 rfl) (by (try simp only [Gk.cs0] at hg1 hg2); omega) (by (try simp only [Gk.cs0] at hg1 hg2); omega) Tryz.underlying54 Tryz.sizeOf69 | exact .indexAddrI (.gd2 hg1 hg2 rfl) (.gd2 hg1 hg2 rfl) (by (try simp only [Gk.cs0] at hg1 hg2); omega) (by (try simp only [Gk.cs0] at hg1 hg2); omega) Tryz.underlying54 Tryz.sizeOf69)) rfl ?_
    refine WQ.gval2 rfl rfl rfl (fun hg1 hg2 w hS => (by first | exact (.ldsW (cs := [_, _]) (.gd2 hg1 hg2 rfl) hS (k := 0) rfl Tryz.isAgg69 Tryz.sizeOf69 rfl) | exact (.lds (vs := [_, _]) (.gd2 hg1 hg2 rfl) hS (k := 0) rfl Tryz.isAgg69 Tryz.sizeOf69 rfl (fun _ _ h => h)) | exact (.ldsW (cs := [_, _]) (.gd2 hg1 hg2 rfl) hS (k := 1) rfl Tryz.isAgg69 Tryz.sizeOf69 rfl) | exact (.lds (vs := [_, _]) (.gd2 hg1 hg2 rfl) hS (k := 1) rfl Tryz.isAgg69 Tryz.sizeOf69 rfl (fun _ _ h => h)) | exact (.ldsI (.gd2 hg1 hg2 rfl) hS hxu Tryz.isAgg69 Tryz.sizeOf69 rfl (fun _ _ h => h)) | exact (.ldsI (.gd2 hg1 hg2 rfl) hS (At.add hxu _) Tryz.isAgg69 Tryz.sizeOf69 rfl (fun _ _ h => h)) | exact (.ldsI (.gd2 hg1 hg2 rfl) hS hxz Tryz.isAgg69 Tryz.sizeOf69 rfl (fun _ _ h => h)) | exact (.ldsI (.gd2 hg1 hg2 rfl) hS (At.add hxz _) Tryz.isAgg69 Tryz.sizeOf69 rfl (fun _ _ h => h)) | exact (.ldsI (.gd2 hg1 hg2 rfl) hS hxy Tryz.isAgg69 Tryz.sizeOf69 rfl (fun _ _ h => h)) | exact (.ldsI (.gd2 hg1 hg2 rfl) hS (At.add hxy _) Tryz.isAgg69 Tryz.sizeOf69 rfl (fun _ _ h => h)))) rfl ?_
    refine .gval2 rfl rfl rfl (fun hg1 hg2 w hS => Ex.eqPr (r := z) (s := y) (.gd2 hg1 hg2 rfl) (.gd2 hg1 hg2 rfl)) rfl (.gval rfl rfl rfl (fun hg1 w hS => (.pand (.gd hg1 rfl) (.gd hg1 rfl) (.of rfl))) rfl (.val (fun w hS => (.por (.of rfl) (.of rfl) (.of rfl))) rfl (.val (fun w hS => (.assign (.of rfl))) rfl (.nil ?_))))
    clear hS; intro w hS
    refine .region (.run 3 rfl ⟨⟨by omega, by omega⟩, trivial⟩ (.nil ?_))
    refine ⟨(n + 1, _), ⟨rfl, rfl, rfl, rfl, rfl, rfl, rfl, trivial⟩, ⟨by (try dsimp only); omega, ?_, hS⟩, by (try dsimp only); omega⟩
    try dsimp only
    rw [hst, hown2, ← Bool.or_assoc]
    rfl
   have hc185 := hb185; try simp only [Gk.cs0] at hc185
   refine .exit (.region (.run 3 rfl ⟨⟨by omega, by omega⟩, trivial⟩ (.nil ?_)))
   have en : n = u.attrs.length := by omega
   subst en
   refine ⟨(k + 1, ow2), ⟨rfl, rfl, rfl, rfl, rfl, rfl, trivial⟩, ⟨by (try dsimp only); omega, ?_, hS⟩, by (try dsimp only); omega⟩
   show ow2 = _
   rw [hown2, hown, any_take _ hu0, List.take_length]
  have hc174 := hb174; try simp only [Gk.cs0] at hc174
  refine .exit (.seq (.region (.run 2 rfl trivial (.nil ?_))))
  refine WC.cond rfl (fun hb218 => ?_) (fun hb218 => ?_)
  ·
   have hc218 := hb218; try simp only [Gk.cs0] at hc218
   refine .seq (.region (.run 1 rfl trivial (.nil (.ret (ret1 Tryz.results5 rfl ?_)))))
   exfalso
   have ek : k = c.us.length := by omega
   subst ek
   rw [List.take_length] at hown
   have ht : own = true := by
    rw [hown, List.any_eq_true]
    obtain ⟨u, hu, hn, hy⟩ := hf9 y (List.mem_of_getElem? hy0)
    rw [hus] at hu
    exact ⟨u, hu, List.any_eq_true.2 ⟨y, hy, by simp [hitU, hn]⟩⟩
   rw [ht] at hb218; cases hb218
  have hc218 := hb218; try simp only [Gk.cs0] at hc218
  refine .skip (.region (.run 3 rfl ⟨⟨by omega, by omega⟩, trivial⟩ (.nil ?_)))
  refine ⟨i + 1, ⟨rfl, rfl, rfl, rfl, trivial⟩, ⟨by (try dsimp only); omega, hS⟩, by (try dsimp only); omega⟩
 have hc167 := hb167; try simp only [Gk.cs0] at hc167
 refine .exit (.seq (.region (.run 2 rfl trivial (.nil (.ret (ret1 Tryz.results5 rfl ?_))))))
 exact ⟨_, rfl, rfl, J3, hJ1.trans (hJ.trans hJ3), (hS.drop (k := 0) rfl).drop (k := 0) rfl⟩
end Go.Proofs.YtadhiihnnkcagaaGreatDoor
namespace Gk
set_option linter.unusedVariables false
set_option linter.unusedSimpArgs false
open Go Go.RowKit Go.WideShapes Go.ChangeShapes
section
variable {H : Type} {enc : TypeId × Value → H}
def WitT (enc : TypeId × Value → H) (a : Assume) (C : Checked) (os : Os) (f : FuncId) (fn : Func) (s : ChangeSpec) (conds : List PathCond) (apart : Bool) (X : World → Array Value → Prop) : Prop :=
  ∃ (w : World) (tape : Tape) (i : Input), w.os = os ∧ (w.forCall tape i).Shaped C.prog ∧ i.vars = [] ∧ Input.okWide C.prog (w.forCall tape i) .any w.heap.size f i ∧
   ((s.pre enc C.prog fn conds apart (w.forCall tape i).memory i.args ∧ X (w.forCall tape i).memory i.args) ∧ sizedMet enc C.prog fn (OpenSpec.ofChange s) apart (w.forCall tape i).memory i.args) ∧ a.holds C.prog (lone (Frame.enter C.prog f i.args .normal) [] (w.forCall tape i))
theorem returns_and_shaped {a : Assume} {C : Checked} {os : Os} {f : FuncId} {fn : Func} {s : ChangeSpec} {conds : List PathCond} {apart fresh handsOn again : Bool} {X : World → Array Value → Prop}
  (hX : ∀ (w w' : World) (args : Array Value), w.heap = w'.heap → X w args → X w' args)
  (own : ownKnob C.prog.godebug = none) (started : os.Started) (noInit : C.prog.inits.idxOf? f = none) (hfn : C.prog.funcs[f]? = some fn)
  (witness : WitT enc a C os f fn s conds apart X)
  (contract : ∀ (W : World) (base : Nat) (args : Array Value) (ds gs : List (DataW H)) (before : List MemPlace),
   (∀ (j : Nat) t v, fn.params[j]? = some t → args[j]? = some v → Value.okWide C.prog W .any base t v) →
   DataW.Whole enc C.prog fn.params.toList s.vars apart W args.toList ds gs before → X W args → W.ShapedOpen C.prog →
   Calls C.prog f args W fun e W' => ∃ v, e = .returned v ∧ s.post enc C.prog fn apart fresh handsOn again W args v W') :
  ReturnsInHanded a C os f .any (fun w args => (s.pre enc C.prog fn conds apart w args ∧ X w args) ∧ sizedMet enc C.prog fn (OpenSpec.ofChange s) apart w args) (s.post enc C.prog fn apart fresh handsOn again) := by
 refine returnsInHanded_of_calls own started noInit witness ?_
 intro w tape i _ hsh _ hok hpre _
 obtain ⟨_, _, _, fn', hfn', _, _, _, _, hval⟩ := hok
 have e : fn' = fn := Option.some.inj (hfn'.symm.trans hfn)
 subst e
 obtain ⟨⟨⟨ds, gs, before, hw, hc⟩, hx⟩, hz⟩ := hpre
 have hw' := DataW.Whole.of_heap (w' := w.forCall tape i) (by rfl) hw
 refine (contract (w.forCall tape i) w.heap.size i.args ds gs before hval hw' (hX _ _ _ (by rfl) hx) hsh).mono fun e W' ⟨v, he, hp⟩ => ?_
 subst he
 exact ChangeSpec.post_blind hp
end
section
variable {P : Program} {W : World}
theorem tabIs_of_reads {name : String} {k : IntKind} {zs : List Int} {g : Nat} {t e : TypeId} {n : Nat}
  (hg : P.globalNamed name = some g) (hty : (P.globals[g]?).map (·.type) = some t) (ht : P.underlying t = some (.array n e)) (he : P.underlying e = some (.int k)) (hce : P.cellsOf e = 1) (hct : P.cellsOf t = n)
  (h : Lib.VarReads P W name (Lib.tabData k zs)) : Lib.TabIs P W name k zs := by
 obtain ⟨g', t', cs, fuel, p, hg', ht', hvar, hd⟩ := h
 obtain rfl := Option.some.inj (hg.symm.trans hg')
 obtain rfl := Option.some.inj (hty.symm.trans ht')
 unfold Lib.TabIs
 rw [hvar, ← Lib.cells_of_tab ht he hce hct hd]
theorem tab_at {name : String} {k : IntKind} {zs : List Int} {g : Nat} (hg : P.globalNamed name = some g) (h : Lib.TabIs P W name k zs) (h0 : 0 < zs.length) : At (im0 W) (ad g 0) (zs.map fun z => .int k z) := by
 refine at_im0 (by rw [List.length_map]; exact h0) fun j v hj => ?_
 rw [List.getElem?_map] at hj
 cases hz : zs[j]? with
 | none => rw [hz] at hj; cases hj
 | some z =>
  rw [hz] at hj
  have hjl := (List.getElem?_eq_some_iff.1 hz).1
  have hc := h.cell hg j hjl
  rw [add_ad, Nat.zero_add, hc, List.getD_eq_getElem?_getD, hz, ← hj]
  rfl
variable {B w : World} {As : List Assn}
theorem block_sat {b : Nat} {o : Obj} (h : W.heap[b]? = some o) (hS : Sat B w (im0 W) As) : w.heap[b]? = some o := by
 obtain ⟨_, _, hg⟩ := hS
 exact hg.imm b o h
theorem tab_sat {name : String} {k : IntKind} {zs : List Int} (h : Lib.TabIs P W name k zs) (hS : Sat B w (im0 W) As) : Lib.TabIs P w name k zs := by
 unfold Lib.TabIs World.var? at h ⊢
 cases hg : P.globalNamed name with
 | none => rw [hg] at h; cases h
 | some g =>
  rw [hg] at h
  simp only [Option.bind_some] at h ⊢
  cases hb : W.heap[g]? with
  | none => rw [hb] at h; cases h
  | some o =>
   rw [block_sat hb hS]
   rw [hb] at h
   exact h
theorem cell_sat {a : Addr} {v : Value} (h : W.cell? a = some v) (hS : Sat B w (im0 W) As) : w.cell? a = some v := by
 unfold World.cell? at h ⊢
 cases hb : W.heap[a.block]? with
 | none => rw [hb] at h; cases h
 | some o => rw [block_sat hb hS]; rw [hb] at h; exact h
end
end Gk
namespace Go.Proofs.YtadhiihnnkcagaaGreatDoor
open Gk Pc
set_option linter.unusedVariables false
theorem digits_tab : Rows.laid_matricula_pct_digits (H := Unit) = Lib.tabData .u8 (HIGH.map fun c => (c.toNat : Int)) := by kernel_rfl
theorem pow_tab : Rows.laid_internal_strconv_uint64pow10 (H := Unit) = Lib.tabData .u64 Lib.pow10Tab := by kernel_rfl
def textData {H : Type} (zs : List (List UInt8)) : DataW H := .agg (zs.map fun z => .lit (.string z))
theorem pre_tab : Rows.laid_matricula_ticket_prefixes (H := Unit) = textData PREV := by kernel_rfl
theorem cells_of_texts {H : Type} {enc : TypeId × Value → H} {P : Program} {w : World} {base : Nat} {sp : Nat → Bool} {held : Bool} {fuel : Nat} {t e : TypeId} {n : Nat} {cs : List Value} {zs : List (List UInt8)} {p : List MemPlace}
  (ht : P.underlying t = some (.array n e)) (he : P.underlying e = some .string) (hce : P.cellsOf e = 1) (hct : P.cellsOf t = n)
  (h : DataW.trod enc P w base sp held fuel t cs = some (textData zs, p)) : cs = zs.map S := by
 cases fuel with
 | zero => simp [DataW.trod] at h
 | succ fuel =>
  simp only [DataW.trod, ht, hce, hct, Nat.mul_one] at h
  split at h
  ·rename_i hl
   obtain ⟨xs, hm, hx⟩ := Option.map_eq_some_iff.1 h
   have hxs : xs.map (·.1) = zs.map fun z => (DataW.lit (.string z) : DataW H) := by
    have := congrArg Prod.fst hx
    simpa [textData] using this
   have hxl : xs.length = n := by simpa using Lib.mapM_length hm
   have hzl : zs.length = n := by
    have := congrArg List.length hxs
    simp at this
    omega
   apply List.ext_getElem?
   intro i
   by_cases hi : i < n
   ·obtain ⟨b, hb, hf⟩ := Lib.mapM_at hm i i (by simp [hi])
    obtain ⟨z, hc, rfl, _⟩ := DataW.trod_string he hf
    have h1 : cs[i]? = some (.string z) := by
     have := congrArg (·[0]?) hc
     simpa [List.getElem?_take, List.getElem?_drop] using this
    have h2 : (xs.map (·.1))[i]? = some (DataW.lit (.string z.data.toList) : DataW H) := by simp [hb]
    rw [hxs] at h2
    simp only [List.getElem?_map, Option.map_eq_some_iff, DataW.lit.injEq, Lit.string.injEq] at h2
    obtain ⟨z', hz', e'⟩ := h2
    rw [h1, List.getElem?_map, hz', e']
    rfl
   ·rw [List.getElem?_eq_none (by omega), List.getElem?_eq_none (by simp; omega)]
  ·cases h
theorem pre_at {W : World} (h : Lib.VarReads Tryz.prog W "matricula/ticket.prefixes" Rows.laid_matricula_ticket_prefixes) : PreAt (im0 W) := by
 rw [pre_tab] at h
 obtain ⟨g', t', cs, fuel, p, hg', ht', hvar, hd⟩ := h
 obtain rfl := Option.some.inj ((show Tryz.prog.globalNamed "matricula/ticket.prefixes" = some 0 by kernel_rfl).symm.trans hg')
 obtain rfl := Option.some.inj ((show (Tryz.prog.globals[0]?).map (·.type) = some 208 by kernel_rfl).symm.trans ht')
 have hcs := cells_of_texts Tryz.underlying208 Tryz.underlying9 (by kernel_rfl) (by kernel_rfl) hd
 refine at_im0 (by decide) fun j v hj => ?_
 have h2 := World.var?_cell hg' hvar j
 rw [add_ad, Nat.zero_add]
 rw [← Array.getElem?_toList, hcs, hj] at h2
 exact h2
theorem known_of {W : World} (h1 : Lib.VarReads Tryz.prog W "matricula/pct.digits" Rows.laid_matricula_pct_digits) (h2 : Lib.VarReads Tryz.prog W "internal/strconv.uint64pow10" Rows.laid_internal_strconv_uint64pow10) (h3 : Lib.VarReads Tryz.prog W "matricula/ticket.prefixes" Rows.laid_matricula_ticket_prefixes) (hsh : W.ShapedOpen Tryz.prog) : Known (im0 W) ∧ PreAt (im0 W) := by
 refine ⟨?_, pre_at h3⟩
 rw [digits_tab] at h1
 rw [pow_tab] at h2
 have t1 := tabIs_of_reads (g := 3) (by kernel_rfl) (by kernel_rfl) Tryz.underlying279 Tryz.underlying5 (by kernel_rfl) (by kernel_rfl) h1
 have t2 := tabIs_of_reads (g := 4) (by kernel_rfl) (by kernel_rfl) Tryz.underlying296 Tryz.underlying118 (by kernel_rfl) (by kernel_rfl) h2
 refine ⟨tab_at (g := 3) (by kernel_rfl) t1 (by decide), fun B w As hS => tab_sat t2 hS, fun B w As hS => ?_⟩
 obtain ⟨m, hm⟩ := Go.Proofs.cell_of_shapedOpen_int (g := 2) (t := 3) (zero := #[.int .i64 0]) (k := .i64) hsh (by decide +kernel) (by kernel_rfl) (by kernel_rfl) (by kernel_rfl) (by kernel_rfl) Tryz.underlying3
 exact ⟨m, cell_sat hm hS⟩
end Go.Proofs.YtadhiihnnkcagaaGreatDoor
