/- Part 7 of what the proof stands on: W21r, W21s, W21t, W18x, W21u, W21v, W21w, W21x, Op21. -/
import Derived.Test.YtadhiihnnkcagaaGreatDoorM2RF
import Derived.KernelRfl
import Derived.Laws.StructEq
import Derived.OpenShut
namespace Go.Proofs.YtadhiihnnkcagaaGreatDoor
open Gk Ul Pc Tk Tr
set_option linter.unusedVariables false
set_option linter.unusedSimpArgs false
theorem info9_31 : Tryz.prog.info? 9 = some Tryz.t9 := by kernel_rfl
theorem bld45_31 : Bld Tryz.prog 45 [(0, 1), (1, 1), (2, 1), (3, 1), (4, 1), (5, 1), (6, 1), (7, 1), (8, 1), (9, 1)] [.int .i64 0, S [], S [], S [], S [], S [], .int .i64 0, .int .i64 0, .int .i64 0, .bool false] := bld_of Tryz.underlying45 Tryz.zeroValue45 (fun w => by simp [go_sem])
def proxiesT (l : List Rec) (name : List UInt8) : List (List UInt8) := ((path l name).filter fun r => (r.kind : Int) == 4).map Rec.url
theorem Proxies_any (p : Wp) (ω : Wd) (a : Option Addr) (c : Nat) (hlen : ω.l.length ≤ 64) (hwf : Wf ω.l) (name : List UInt8) (B w : World) (I : Im) (As : List Assn) (hS : Sat B w I (blk p.wb (wdC p ω) 52 :: blk p.tb [I64 ω.room, .slice a ω.l.length c] 127 :: Vec 45 10 (.slice a ω.l.length c) ω.l.length (rowsR ω.l) :: As)) :
  Calls Tryz.prog 31 [ptr p.wb 0, S name].toArray w (Ret fun v w' => ∃ J ka kc, v = .slice ka (proxiesT ω.l name).length kc ∧ Le I J ∧ (proxiesT ω.l name).length ≤ kc ∧ RS J ka 1 (proxiesT ω.l name).length ((proxiesT ω.l name).map S) ∧ Sat B w' J (blk p.wb (wdC p ω) 52 :: blk p.tb [I64 ω.room, .slice a ω.l.length c] 127 :: Vec 45 10 (.slice a ω.l.length c) ω.l.length (rowsR ω.l) :: As)) := by
 refine calls Tryz.func31 rfl Tryz.ntmps31 rfl (.seq (.region (.run 1 rfl trivial (.nil (.seq (.region (.run 1 rfl trivial (.nil (.seq (.seq ?_))))))))))
 replace hS := hS.vecNil 9 1
 refine .region (.run 2 rfl trivial ?_)
 first | refine WL.val (.fieldAddr 0 (.of rfl) Tryz.underlying52 rfl rfl Tryz.sizeOf47 rfl) rfl ?_ | refine WL.val (.fieldAddrI 0 (.of rfl) Tryz.underlying52 rfl rfl Tryz.sizeOf47 rfl) rfl ?_
 first | refine WL.val (.ld (.of rfl) hS (k := 0) rfl Tryz.isAgg47 rfl) rfl ?_ | refine WL.val (.ld (.of rfl) hS (k := 1) rfl Tryz.isAgg47 rfl) rfl ?_ | refine WL.val (.ld (.of rfl) hS (k := 2) rfl Tryz.isAgg47 rfl) rfl ?_ | refine WL.val (.ld (.of rfl) hS (k := 3) rfl Tryz.isAgg47 rfl) rfl ?_
 refine .run 1 rfl trivial (.call Tryz.func80 rfl (evs_cons (.of rfl) (evs_cons (.of rfl) evs_nil)) rfl (Path_any p.tb ω.room a c ω.l (by omega) hwf name B _ I _ ((hS.pick 3 rfl).pick 3 rfl)) ?_)
 clear hS
 rintro _ w ⟨J, pa, pc, rfl, hJ, hpc, hRS, hS⟩
 have hpl := path_le hwf name
 replace hS := (hS.pick 3 rfl).pick 3 rfl
 try dsimp only [List.eraseIdx] at hS
 refine .run 2 rfl ⟨⟨_, Tryz.underlying41⟩, trivial⟩ (.nil (.block (.loop (σ := Nat × Value) (fun ⟨i, kv⟩ => [(0, ptr p.wb 0), (5, kv), (15, .slice pa (path ω.l name).length pc), (16, I64 ((path ω.l name).length : Nat)), (17, I64 (i : Nat))]) (fun ⟨i, kv⟩ w => i ≤ (path ω.l name).length ∧ Sat B w J (Vec 9 1 kv ((((path ω.l name).take i).filter fun r => (r.kind : Int) == 4).map Rec.url).length (((((path ω.l name).take i).filter fun r => (r.kind : Int) == 4).map Rec.url).map S) :: blk p.wb (wdC p ω) 52 :: blk p.tb [I64 ω.room, .slice a ω.l.length c] 127 :: Vec 45 10 (.slice a ω.l.length c) ω.l.length (rowsR ω.l) :: As)) (fun ⟨i, kv⟩ => (path ω.l name).length - i) (0, .slice none 0 0) ⟨rfl, rfl, rfl, rfl, rfl, trivial⟩ ⟨Nat.zero_le _, hS⟩ ?_)))
 rintro ⟨i, kv⟩ w ⟨hi, hS⟩
 change WC _ _ _ _ [(0, ptr p.wb 0), (5, kv), (15, .slice pa (path ω.l name).length pc), (16, I64 ((path ω.l name).length : Nat)), (17, I64 (i : Nat))] w
 refine .seq (.region (.run 1 rfl trivial (.nil (.seq ?_))))
 refine WC.cond rfl (fun hb18 => ?_) (fun hb18 => ?_)
 ·
  have hc18 := hb18; try simp only [Gk.cs0] at hc18
  refine .skip (.seq (.block (.seq ?_)))
  obtain ⟨r, hr⟩ : ∃ r, (path ω.l name)[i]? = some r := ⟨_, List.getElem?_eq_getElem (by omega)⟩
  obtain ⟨q, hq⟩ := path_mem (List.mem_of_getElem? hr)
  have hgd : getD ω.l r.name = r := by rw [getD, hwf.get_ hq]; rfl
  obtain ⟨pp, rfl, hA⟩ := hRS.2 (by omega)
  have hnm : ((path ω.l name).map fun r => S r.name)[i]? = some (S r.name) := by rw [List.getElem?_map, hr]; rfl
  have hfl := List.length_filter_le (fun r : Rec => (r.kind : Int) == 4) ((path ω.l name).take i)
  rw [List.length_take] at hfl
  have hol : ((((path ω.l name).take i).filter fun r => (r.kind : Int) == 4).map Rec.url).length = (((path ω.l name).take i).filter fun r => (r.kind : Int) == 4).length := List.length_map _
  have hsn : ((((path ω.l name).take (i + 1)).filter fun r => (r.kind : Int) == 4).map Rec.url) = ((((path ω.l name).take i).filter fun r => (r.kind : Int) == 4).map Rec.url) ++ ([r].filter fun r => (r.kind : Int) == 4).map Rec.url := by rw [List.take_add_one, hr, Option.toList_some, List.filter_append, List.map_append]
  refine .region ?_
  first | refine WL.val (.indexAddr (.of rfl) (.of rfl) (by omega) (by omega) Tryz.underlying41 Tryz.sizeOf9) rfl ?_ | refine WL.val (.indexAddrI (.of rfl) (.of rfl) (by omega) (by omega) Tryz.underlying41 Tryz.sizeOf9) rfl ?_
  refine WL.val (.ld1 (.of rfl) (by have h9 := cell_at hS hA hnm; simpa using h9) Tryz.isAgg9) rfl ?_
  refine .run 1 rfl trivial (.nil (.seq (.region (.run 2 rfl trivial ?_))))
  first | refine WL.val (.fieldAddr 0 (.of rfl) Tryz.underlying52 rfl rfl Tryz.sizeOf47 rfl) rfl ?_ | refine WL.val (.fieldAddrI 0 (.of rfl) Tryz.underlying52 rfl rfl Tryz.sizeOf47 rfl) rfl ?_
  first | refine WL.val (.ld (.of rfl) hS (k := 0) rfl Tryz.isAgg47 rfl) rfl ?_ | refine WL.val (.ld (.of rfl) hS (k := 1) rfl Tryz.isAgg47 rfl) rfl ?_ | refine WL.val (.ld (.of rfl) hS (k := 2) rfl Tryz.isAgg47 rfl) rfl ?_ | refine WL.val (.ld (.of rfl) hS (k := 3) rfl Tryz.isAgg47 rfl) rfl ?_
  refine .run 1 rfl trivial (.call Tryz.func17 rfl (evs_cons (.of rfl) (evs_cons (.of rfl) evs_nil)) rfl (Get_any p.tb ω.room a c ω.l (by omega) r.name B _ J _ ((hS.pick 3 rfl).pick 3 rfl)) ?_)
  clear hS
  rintro _ w ⟨rfl, hS⟩
  try dsimp only [List.eraseIdx] at hS
  rw [hgd]
  refine .run 3 rfl trivial (.allocA (cs := [_, _, _, _, _, _, _, _, _, _]) hS Tryz.zeroValue45 rfl ?_)
  clear hS; intro b8 w hS
  first | refine WL.stA hS (k := 0) rfl (.of rfl) (.of rfl) rfl Tryz.sizeOf45 rfl (by simp) ?_ | refine WL.stA hS (k := 1) rfl (.of rfl) (.of rfl) rfl Tryz.sizeOf45 rfl (by simp) ?_ | refine WL.stA hS (k := 2) rfl (.of rfl) (.of rfl) rfl Tryz.sizeOf45 rfl (by simp) ?_ | refine WL.stA hS (k := 3) rfl (.of rfl) (.of rfl) rfl Tryz.sizeOf45 rfl (by simp) ?_ | refine WL.stA hS (k := 4) rfl (.of rfl) (.of rfl) rfl Tryz.sizeOf45 rfl (by simp) ?_
  clear hS; intro w hS; try dsimp only [List.set] at hS
  try simp only [List.take_zero, List.nil_append, List.append_nil, List.drop_succ_cons, List.drop_zero, List.drop_nil, Nat.zero_add] at hS
  refine .run 1 rfl trivial (.nil (.seq (.region ?_)))
  first | refine WL.val (.fieldAddr 0 (.of rfl) Tryz.underlying45 rfl rfl Tryz.sizeOf3 rfl) rfl ?_ | refine WL.val (.fieldAddrI 0 (.of rfl) Tryz.underlying45 rfl rfl Tryz.sizeOf3 rfl) rfl ?_
  first | refine WL.val (.ld (.of rfl) hS (k := 0) rfl Tryz.isAgg3 rfl) rfl ?_ | refine WL.val (.ld (.of rfl) hS (k := 1) rfl Tryz.isAgg3 rfl) rfl ?_ | refine WL.val (.ld (.of rfl) hS (k := 2) rfl Tryz.isAgg3 rfl) rfl ?_ | refine WL.val (.ld (.of rfl) hS (k := 3) rfl Tryz.isAgg3 rfl) rfl ?_ | refine WL.val (.ld (.of rfl) hS (k := 4) rfl Tryz.isAgg3 rfl) rfl ?_
  refine .run 1 rfl trivial (.nil ?_)
  refine WC.cond rfl (fun hb32 => ?_) (fun hb32 => ?_)
  ·
   have hc32 := hb32; try simp only [Gk.cs0] at hc32
   refine .region (.run 1 rfl trivial ?_)
   first | refine WL.val (.fieldAddr 5 (.of rfl) Tryz.underlying45 rfl rfl Tryz.sizeOf9 rfl) rfl ?_ | refine WL.val (.fieldAddrI 5 (.of rfl) Tryz.underlying45 rfl rfl Tryz.sizeOf9 rfl) rfl ?_
   first | refine WL.val (.ld (.of rfl) hS (k := 0) rfl Tryz.isAgg9 rfl) rfl ?_ | refine WL.val (.ld (.of rfl) hS (k := 1) rfl Tryz.isAgg9 rfl) rfl ?_ | refine WL.val (.ld (.of rfl) hS (k := 2) rfl Tryz.isAgg9 rfl) rfl ?_ | refine WL.val (.ld (.of rfl) hS (k := 3) rfl Tryz.isAgg9 rfl) rfl ?_ | refine WL.val (.ld (.of rfl) hS (k := 4) rfl Tryz.isAgg9 rfl) rfl ?_
   refine .buildSlice (cs := [_]) hS (parts_cons (.of rfl) parts_nil) Tryz.underlying41 Tryz.sizeOf9 Tryz.zeroValue9 rfl rfl rfl rfl ?_
   clear hS; intro b36 w hS
   first | refine WL.append (size := 1) (bytes := 16) hS (.of rfl) (.of rfl) (k := 0) rfl Tryz.underlying41 info9_31 rfl rfl rfl rfl rfl rfl rfl ⟨by omega, by unfold maxLen; omega⟩ rfl ?_ | refine WL.append (size := 1) (bytes := 16) hS (.of rfl) (.of rfl) (k := 1) rfl Tryz.underlying41 info9_31 rfl rfl rfl rfl rfl rfl rfl ⟨by omega, by unfold maxLen; omega⟩ rfl ?_ | refine WL.append (size := 1) (bytes := 16) hS (.of rfl) (.of rfl) (k := 2) rfl Tryz.underlying41 info9_31 rfl rfl rfl rfl rfl rfl rfl ⟨by omega, by unfold maxLen; omega⟩ rfl ?_ | refine WL.append (size := 1) (bytes := 16) hS (.of rfl) (.of rfl) (k := 3) rfl Tryz.underlying41 info9_31 rfl rfl rfl rfl rfl rfl rfl ⟨by omega, by unfold maxLen; omega⟩ rfl ?_ | refine WL.append (size := 1) (bytes := 16) hS (.of rfl) (.of rfl) (k := 4) rfl Tryz.underlying41 info9_31 rfl rfl rfl rfl rfl rfl rfl ⟨by omega, by unfold maxLen; omega⟩ rfl ?_
   clear hS; intro v37 w hS; try dsimp only [List.set] at hS
   first | obtain ⟨a37, c37, rfl, hcap37, _⟩ := hS.vecSlice (k := 0) (v := v37) rfl | obtain ⟨a37, c37, rfl, hcap37, _⟩ := hS.vecSlice (k := 1) (v := v37) rfl | obtain ⟨a37, c37, rfl, hcap37, _⟩ := hS.vecSlice (k := 2) (v := v37) rfl | obtain ⟨a37, c37, rfl, hcap37, _⟩ := hS.vecSlice (k := 3) (v := v37) rfl | obtain ⟨a37, c37, rfl, hcap37, _⟩ := hS.vecSlice (k := 4) (v := v37) rfl
   refine .run 1 rfl trivial (.nil (.region (.run 2 rfl ⟨⟨by omega, by omega⟩, trivial⟩ (.nil ?_))))
   refine ⟨(i + 1, .slice a37 (((((path ω.l name).take i).filter fun r => (r.kind : Int) == 4).map Rec.url).length + 1) c37), ⟨rfl, rfl, rfl, rfl, rfl, trivial⟩, ⟨by (try dsimp only); omega, ?_⟩, by (try dsimp only); omega⟩
   try dsimp only
   rw [hsn, List.filter_cons, if_pos (by simpa using hb32), List.filter_nil, List.map_cons, List.map_nil, List.map_append, show (((((path ω.l name).take i).filter fun r => (r.kind : Int) == 4).map Rec.url) ++ [r.url]).length = ((((path ω.l name).take i).filter fun r => (r.kind : Int) == 4).map Rec.url).length + 1 from List.length_append]
   exact (((((hS.drop (k := 0) rfl).pick 1 rfl).pick 1 rfl).pick 3 rfl).pick 3 rfl)
  have hc32 := hb32; try simp only [Gk.cs0] at hc32
  refine .skip (.region (.run 2 rfl ⟨⟨by omega, by omega⟩, trivial⟩ (.nil ?_)))
  refine ⟨(i + 1, kv), ⟨rfl, rfl, rfl, rfl, rfl, trivial⟩, ⟨by (try dsimp only); omega, ?_⟩, by (try dsimp only); omega⟩
  try dsimp only
  rw [hsn, List.filter_cons, if_neg (by simpa using hb32), List.filter_nil, List.map_nil, List.append_nil]
  exact (((((hS.drop (k := 0) rfl).pick 1 rfl).pick 1 rfl).pick 3 rfl).pick 3 rfl)
 have hc18 := hb18; try simp only [Gk.cs0] at hc18
 refine .exit (.seq (.region (.run 2 rfl trivial (.nil (.ret (ret1 Tryz.results31 rfl ?_))))))
 have hin : i = (path ω.l name).length := by omega
 subst hin
 rw [List.take_length] at hS
 obtain ⟨ka, kc, rfl, hkc, _⟩ := hS.vecSlice (k := 0) rfl
 obtain ⟨J2, hJ2, hR2, hS⟩ := hS.freezeVec (k := 0) rfl
 exact ⟨_, rfl, J2, ka, kc, rfl, hJ.trans hJ2, hkc, hR2, hS⟩
structure Qr where
 ticket : List UInt8
 service : List UInt8
 renew : Bool
 proxies : Bool
def qrCells (q : Qr) : List Value := [S q.ticket, S q.service, .bool q.renew, .bool q.proxies]
def kindT (s : List UInt8) : Int := match parseT s with
 | some (k, _) => (k : Nat)
 | none => 0
def useW (ps : Nat → Int) (ω : Wd) (q : Qr) : (Rec × Nat) × Wd :=
 if (q.ticket == [] || q.service == []) = true then ((r0, 33), ω)
 else if (kindT q.ticket != 2 && kindT q.ticket != 3) = true then ((r0, 30), ω)
 else if (kindT q.ticket == 3 && !q.proxies) = true then ((r0, 32), ω)
 else if (!(aliveW ps ω q.ticket (kindT q.ticket)).2 || decide (0 < (aliveW ps ω q.ticket (kindT q.ticket)).1.uses)) = true then ((r0, 30), ω)
 else (((aliveW ps ω q.ticket (kindT q.ticket)).1, 0), putW ω (touchR (aliveW ps ω q.ticket (kindT q.ticket)).1 ω.now))
theorem useW_ok {ps : Nat → Int} {ω : Wd} (h : WdOk ω) (q : Qr) : WdOk (useW ps ω q).2 := by
 unfold useW
 repeat' split
 all_goals first | exact h | exact putW_ok h _
theorem useW_short {ps : Nat → Int} {ω : Wd} (h : WdOk ω) (q : Qr) : (useW ps ω q).1.1.service.length ≤ 100 := by
 have key : (aliveW ps ω q.ticket (kindT q.ticket)).1.service.length ≤ 100 := by
  unfold aliveW
  split
  ·decide
  ·rcases getD_case h.wf q.ticket with ⟨_, e⟩ | ⟨_, h2, _⟩
   ·rw [e]; decide
   ·unfold rightR at h2
    simp only [Bool.and_eq_true, decide_eq_true_eq] at h2
    show (getD ω.l q.ticket).service.length ≤ 100
    omega
 unfold useW
 repeat' split
 all_goals first | exact key | exact Nat.zero_le _
theorem parse_kind (s : List UInt8) : ∃ (d : Nat) (b : Bool), (match parseT s with | some (k, d) => Value.tuple #[I64 (k : Nat), U64 (d : Nat), .bool true] | none => .tuple #[I64 0, U64 0, .bool false]) = .tuple #[I64 (kindT s), U64 (d : Nat), .bool b] := by
 unfold kindT
 cases parseT s with
 | none => exact ⟨0, false, rfl⟩
 | some x => exact ⟨x.2, true, rfl⟩
theorem use_any (q : Qr) (hqt : q.ticket.length ≤ 1000000) (p : Wp) (ω : Wd) (hω : WdOk ω) (B w : World) (I : Im) (hI : WpOk I p) (As : List Assn) (hS : Sat B w I (wdA p ω :: As)) :
  Calls Tryz.prog 62 [ptr p.wb 0, .agg (qrCells q).toArray].toArray w (Ret fun v w' => v = .tuple #[.agg (recCells (useW p.ps ω q).1.1).toArray, I64 ((useW p.ps ω q).1.2 : Nat)] ∧ Sat B w' I (wdA p (useW p.ps ω q).2 :: As)) := by
 refine calls Tryz.func62 rfl Tryz.ntmps62 rfl (.seq (.region (.boxA (cs := [_, _, _, _]) hS (.of rfl) rfl ?_)))
 clear hS; intro b3 w hS
 refine .allocA (cs := [_, _, _, _, _, _, _, _, _, _]) hS Tryz.zeroValue45 rfl ?_
 clear hS; intro b4 w hS
 refine .run 1 rfl trivial (.nil (.seq (.seq (.region ?_))))
 first | refine WL.val (.fieldAddr 0 (.of rfl) Tryz.underlying43 rfl rfl Tryz.sizeOf9 rfl) rfl ?_ | refine WL.val (.fieldAddrI 0 (.of rfl) Tryz.underlying43 rfl rfl Tryz.sizeOf9 rfl) rfl ?_
 first | refine WL.val (.ld (.of rfl) hS (k := 0) rfl Tryz.isAgg9 rfl) rfl ?_ | refine WL.val (.ld (.of rfl) hS (k := 1) rfl Tryz.isAgg9 rfl) rfl ?_ | refine WL.val (.ld (.of rfl) hS (k := 2) rfl Tryz.isAgg9 rfl) rfl ?_
 refine .run 2 rfl trivial ?_
 refine WL.gval rfl rfl (fun hg1 => (by first | exact .fieldAddr 1 (.of rfl) Tryz.underlying43 rfl rfl Tryz.sizeOf9 rfl | exact .fieldAddrI 1 (.of rfl) Tryz.underlying43 rfl rfl Tryz.sizeOf9 rfl)) rfl ?_
 refine WL.gval rfl rfl (fun hg1 => (by first | exact (.ld (.gd hg1 rfl) hS (k := 0) rfl Tryz.isAgg9 rfl) | exact (.ld (.gd hg1 rfl) hS (k := 1) rfl Tryz.isAgg9 rfl) | exact (.ld (.gd hg1 rfl) hS (k := 2) rfl Tryz.isAgg9 rfl))) rfl ?_
 refine .gval rfl rfl (fun hg1 => (.eqs (.gd hg1 rfl) (.of rfl))) rfl (.val (.por (.of rfl) (.of rfl) (.of rfl)) rfl (.nil ?_))
 refine WC.cond rfl (fun hb18 => ?_) (fun hb18 => ?_)
 ·
  have hc18 := hb18; try simp only [Gk.cs0] at hc18
  refine .seq (.region (.val (.build (cs := [_, _, _, _, _, _, _, _, _, _]) parts_nil bld45_31 rfl) rfl ?_))
  first | refine WL.stA hS (k := 0) rfl (.of rfl) (.of rfl) rfl Tryz.sizeOf45 rfl (by simp) ?_ | refine WL.stA hS (k := 1) rfl (.of rfl) (.of rfl) rfl Tryz.sizeOf45 rfl (by simp) ?_ | refine WL.stA hS (k := 2) rfl (.of rfl) (.of rfl) rfl Tryz.sizeOf45 rfl (by simp) ?_
  clear hS; intro w hS; try dsimp only [List.set] at hS
  try simp only [List.take_zero, List.nil_append, List.append_nil, List.drop_succ_cons, List.drop_zero, List.drop_nil, Nat.zero_add] at hS
  refine .run 1 rfl trivial (.nil (.ret ?_))
  first | refine ret2c (b := _) (cs := [_, _, _, _, _, _, _, _, _, _]) Tryz.results62 hS (k := 0) rfl Tryz.isAgg45 Tryz.sizeOf45 rfl rfl rfl ?_ | refine ret2c (b := _) (cs := [_, _, _, _, _, _, _, _, _, _]) Tryz.results62 hS (k := 1) rfl Tryz.isAgg45 Tryz.sizeOf45 rfl rfl rfl ?_ | refine ret2c (b := _) (cs := [_, _, _, _, _, _, _, _, _, _]) Tryz.results62 hS (k := 2) rfl Tryz.isAgg45 Tryz.sizeOf45 rfl rfl rfl ?_
  have hE : useW p.ps ω q = ((r0, 33), ω) := by rw [useW, if_pos hb18]
  rw [hE]
  exact ⟨_, rfl, rfl, ((hS.drop (k := 0) rfl).drop (k := 0) rfl)⟩
 have hc18 := hb18; try simp only [Gk.cs0] at hc18
 refine .skip (.seq (.region ?_))
 first | refine WL.val (.fieldAddr 0 (.of rfl) Tryz.underlying43 rfl rfl Tryz.sizeOf9 rfl) rfl ?_ | refine WL.val (.fieldAddrI 0 (.of rfl) Tryz.underlying43 rfl rfl Tryz.sizeOf9 rfl) rfl ?_
 first | refine WL.val (.ld (.of rfl) hS (k := 0) rfl Tryz.isAgg9 rfl) rfl ?_ | refine WL.val (.ld (.of rfl) hS (k := 1) rfl Tryz.isAgg9 rfl) rfl ?_ | refine WL.val (.ld (.of rfl) hS (k := 2) rfl Tryz.isAgg9 rfl) rfl ?_
 refine .call Tryz.func111 rfl (evs_cons (.of rfl) evs_nil) rfl (Parse_any q.ticket hqt B _ I hI.known hI.pre _ hS) ?_
 clear hS
 rintro v w ⟨hv9, hS⟩
 obtain ⟨d9, b99, e9⟩ := parse_kind q.ticket
 have hv8 := hv9.trans e9
 subst hv8
 refine .run 7 rfl trivial (.nil (.seq (.block (.seq (.region (.run 3 rfl trivial (.gval rfl rfl (fun hg1 => (.move (.of rfl))) rfl (.gval rfl rfl (fun hg1 => (.neq (.gd hg1 rfl) (.of rfl))) rfl (.val (.pand (.of rfl) (.of rfl) (.of rfl)) rfl (.run 1 rfl trivial (.nil ?_)))))))))))
 refine WC.cond rfl (fun hb27 => ?_) (fun hb27 => ?_)
 ·
  have hc27 := hb27; try simp only [Gk.cs0] at hc27
  refine .seq (.region (.val (.build (cs := [_, _, _, _, _, _, _, _, _, _]) parts_nil bld45_31 rfl) rfl ?_))
  first | refine WL.stA hS (k := 0) rfl (.of rfl) (.of rfl) rfl Tryz.sizeOf45 rfl (by simp) ?_ | refine WL.stA hS (k := 1) rfl (.of rfl) (.of rfl) rfl Tryz.sizeOf45 rfl (by simp) ?_ | refine WL.stA hS (k := 2) rfl (.of rfl) (.of rfl) rfl Tryz.sizeOf45 rfl (by simp) ?_
  clear hS; intro w hS; try dsimp only [List.set] at hS
  try simp only [List.take_zero, List.nil_append, List.append_nil, List.drop_succ_cons, List.drop_zero, List.drop_nil, Nat.zero_add] at hS
  refine .run 1 rfl trivial (.nil (.ret ?_))
  first | refine ret2c (b := _) (cs := [_, _, _, _, _, _, _, _, _, _]) Tryz.results62 hS (k := 0) rfl Tryz.isAgg45 Tryz.sizeOf45 rfl rfl rfl ?_ | refine ret2c (b := _) (cs := [_, _, _, _, _, _, _, _, _, _]) Tryz.results62 hS (k := 1) rfl Tryz.isAgg45 Tryz.sizeOf45 rfl rfl rfl ?_ | refine ret2c (b := _) (cs := [_, _, _, _, _, _, _, _, _, _]) Tryz.results62 hS (k := 2) rfl Tryz.isAgg45 Tryz.sizeOf45 rfl rfl rfl ?_
  have hE : useW p.ps ω q = ((r0, 30), ω) := by rw [useW, if_neg (by rw [hb18]; decide), if_pos hb27]
  rw [hE]
  exact ⟨_, rfl, rfl, ((hS.drop (k := 0) rfl).drop (k := 0) rfl)⟩
 have hc27 := hb27; try simp only [Gk.cs0] at hc27
 refine .seq (.region (.run 3 rfl trivial ?_))
 refine WL.gval rfl rfl (fun hg1 => (by first | exact .fieldAddr 3 (.of rfl) Tryz.underlying43 rfl rfl Tryz.sizeOf4 rfl | exact .fieldAddrI 3 (.of rfl) Tryz.underlying43 rfl rfl Tryz.sizeOf4 rfl)) rfl ?_
 refine WL.gval rfl rfl (fun hg1 => (by first | exact (.ld (.gd hg1 rfl) hS (k := 0) rfl Tryz.isAgg4 rfl) | exact (.ld (.gd hg1 rfl) hS (k := 1) rfl Tryz.isAgg4 rfl) | exact (.ld (.gd hg1 rfl) hS (k := 2) rfl Tryz.isAgg4 rfl))) rfl ?_
 refine .gval rfl rfl (fun hg1 => (.not (.gd hg1 rfl))) rfl (.val (.pand (.of rfl) (.of rfl) (.of rfl)) rfl (.run 1 rfl trivial (.nil ?_)))
 refine WC.cond rfl (fun hb35 => ?_) (fun hb35 => ?_)
 ·
  have hc35 := hb35; try simp only [Gk.cs0] at hc35
  refine .seq (.region (.val (.build (cs := [_, _, _, _, _, _, _, _, _, _]) parts_nil bld45_31 rfl) rfl ?_))
  first | refine WL.stA hS (k := 0) rfl (.of rfl) (.of rfl) rfl Tryz.sizeOf45 rfl (by simp) ?_ | refine WL.stA hS (k := 1) rfl (.of rfl) (.of rfl) rfl Tryz.sizeOf45 rfl (by simp) ?_ | refine WL.stA hS (k := 2) rfl (.of rfl) (.of rfl) rfl Tryz.sizeOf45 rfl (by simp) ?_
  clear hS; intro w hS; try dsimp only [List.set] at hS
  try simp only [List.take_zero, List.nil_append, List.append_nil, List.drop_succ_cons, List.drop_zero, List.drop_nil, Nat.zero_add] at hS
  refine .run 1 rfl trivial (.nil (.ret ?_))
  first | refine ret2c (b := _) (cs := [_, _, _, _, _, _, _, _, _, _]) Tryz.results62 hS (k := 0) rfl Tryz.isAgg45 Tryz.sizeOf45 rfl rfl rfl ?_ | refine ret2c (b := _) (cs := [_, _, _, _, _, _, _, _, _, _]) Tryz.results62 hS (k := 1) rfl Tryz.isAgg45 Tryz.sizeOf45 rfl rfl rfl ?_ | refine ret2c (b := _) (cs := [_, _, _, _, _, _, _, _, _, _]) Tryz.results62 hS (k := 2) rfl Tryz.isAgg45 Tryz.sizeOf45 rfl rfl rfl ?_
  have hE : useW p.ps ω q = ((r0, 32), ω) := by rw [useW, if_neg (by rw [hb18]; decide), if_neg (by rw [hb27]; decide), if_pos hb35]
  rw [hE]
  exact ⟨_, rfl, rfl, ((hS.drop (k := 0) rfl).drop (k := 0) rfl)⟩
 have hc35 := hb35; try simp only [Gk.cs0] at hc35
 refine .skip (.seq (.region (.run 1 rfl trivial ?_)))
 first | refine WL.val (.fieldAddr 0 (.of rfl) Tryz.underlying43 rfl rfl Tryz.sizeOf9 rfl) rfl ?_ | refine WL.val (.fieldAddrI 0 (.of rfl) Tryz.underlying43 rfl rfl Tryz.sizeOf9 rfl) rfl ?_
 first | refine WL.val (.ld (.of rfl) hS (k := 0) rfl Tryz.isAgg9 rfl) rfl ?_ | refine WL.val (.ld (.of rfl) hS (k := 1) rfl Tryz.isAgg9 rfl) rfl ?_ | refine WL.val (.ld (.of rfl) hS (k := 2) rfl Tryz.isAgg9 rfl) rfl ?_
 refine .run 1 rfl trivial (.call Tryz.func21 rfl (evs_cons (.of rfl) (evs_cons (.of rfl) (evs_cons (.of rfl) evs_nil))) rfl (Alive_any q.ticket (kindT q.ticket) p ω hω B _ I _ (hS.pick 2 rfl)) ?_)
 clear hS
 rintro _ w ⟨rfl, hS⟩
 try dsimp only [List.eraseIdx] at hS
 refine .run 3 rfl trivial (.allocA (cs := [_, _, _, _, _, _, _, _, _, _]) hS Tryz.zeroValue45 rfl ?_)
 clear hS; intro b9 w hS
 first | refine WL.stA hS (k := 0) rfl (.of rfl) (.of rfl) rfl Tryz.sizeOf45 rfl (by simp) ?_ | refine WL.stA hS (k := 1) rfl (.of rfl) (.of rfl) rfl Tryz.sizeOf45 rfl (by simp) ?_ | refine WL.stA hS (k := 2) rfl (.of rfl) (.of rfl) rfl Tryz.sizeOf45 rfl (by simp) ?_ | refine WL.stA hS (k := 3) rfl (.of rfl) (.of rfl) rfl Tryz.sizeOf45 rfl (by simp) ?_
 clear hS; intro w hS; try dsimp only [List.set] at hS
 try simp only [List.take_zero, List.nil_append, List.append_nil, List.drop_succ_cons, List.drop_zero, List.drop_nil, Nat.zero_add] at hS
 refine .run 1 rfl trivial (.nil (.seq (.seq (.region (.run 3 rfl trivial ?_)))))
 refine WL.gval rfl rfl (fun hg1 => (by first | exact .fieldAddr 8 (.of rfl) Tryz.underlying45 rfl rfl Tryz.sizeOf3 rfl | exact .fieldAddrI 8 (.of rfl) Tryz.underlying45 rfl rfl Tryz.sizeOf3 rfl)) rfl ?_
 refine WL.gval rfl rfl (fun hg1 => (by first | exact (.ld (.gd hg1 rfl) hS (k := 0) rfl Tryz.isAgg3 rfl) | exact (.ld (.gd hg1 rfl) hS (k := 1) rfl Tryz.isAgg3 rfl) | exact (.ld (.gd hg1 rfl) hS (k := 2) rfl Tryz.isAgg3 rfl) | exact (.ld (.gd hg1 rfl) hS (k := 3) rfl Tryz.isAgg3 rfl))) rfl ?_
 refine .gval rfl rfl (fun hg1 => (.gtr (.gd hg1 rfl) (.of rfl))) rfl (.val (.por (.of rfl) (.of rfl) (.of rfl)) rfl (.nil ?_))
 refine WC.cond rfl (fun hb58 => ?_) (fun hb58 => ?_)
 ·
  have hc58 := hb58; try simp only [Gk.cs0] at hc58
  refine .seq (.region (.val (.build (cs := [_, _, _, _, _, _, _, _, _, _]) parts_nil bld45_31 rfl) rfl ?_))
  first | refine WL.stA hS (k := 0) rfl (.of rfl) (.of rfl) rfl Tryz.sizeOf45 rfl (by simp) ?_ | refine WL.stA hS (k := 1) rfl (.of rfl) (.of rfl) rfl Tryz.sizeOf45 rfl (by simp) ?_ | refine WL.stA hS (k := 2) rfl (.of rfl) (.of rfl) rfl Tryz.sizeOf45 rfl (by simp) ?_ | refine WL.stA hS (k := 3) rfl (.of rfl) (.of rfl) rfl Tryz.sizeOf45 rfl (by simp) ?_
  clear hS; intro w hS; try dsimp only [List.set] at hS
  try simp only [List.take_zero, List.nil_append, List.append_nil, List.drop_succ_cons, List.drop_zero, List.drop_nil, Nat.zero_add] at hS
  refine .run 1 rfl trivial (.nil (.ret ?_))
  first | refine ret2c (b := _) (cs := [_, _, _, _, _, _, _, _, _, _]) Tryz.results62 hS (k := 0) rfl Tryz.isAgg45 Tryz.sizeOf45 rfl rfl rfl ?_ | refine ret2c (b := _) (cs := [_, _, _, _, _, _, _, _, _, _]) Tryz.results62 hS (k := 1) rfl Tryz.isAgg45 Tryz.sizeOf45 rfl rfl rfl ?_ | refine ret2c (b := _) (cs := [_, _, _, _, _, _, _, _, _, _]) Tryz.results62 hS (k := 2) rfl Tryz.isAgg45 Tryz.sizeOf45 rfl rfl rfl ?_ | refine ret2c (b := _) (cs := [_, _, _, _, _, _, _, _, _, _]) Tryz.results62 hS (k := 3) rfl Tryz.isAgg45 Tryz.sizeOf45 rfl rfl rfl ?_
  have hE : useW p.ps ω q = ((r0, 30), ω) := by rw [useW, if_neg (by rw [hb18]; decide), if_neg (by rw [hb27]; decide), if_neg (by rw [hb35]; decide), if_pos hb58]
  rw [hE]
  exact ⟨_, rfl, rfl, (((hS.drop (k := 0) rfl).drop (k := 1) rfl).drop (k := 1) rfl)⟩
 have hc58 := hb58; try simp only [Gk.cs0] at hc58
 refine .skip (.seq ?_)
 replace hS := (hS.pick 1 rfl)
 try dsimp only [List.eraseIdx] at hS
 obtain ⟨⟨a, c, ma, mc⟩, hS⟩ := Sat.unbox hS
 replace hS : Sat B _ _ (blk p.wb (wdC p ω) 52 :: blk p.tb [I64 ω.room, .slice a ω.l.length c] 127 :: Vec 45 10 (.slice a ω.l.length c) ω.l.length (rowsR ω.l) :: blk p.mb [.slice ma ω.D.length mc] 168 :: VecO 118 (.slice ma ω.D.length mc) (ω.D.map fun d => U64 (d : Nat)) :: _) := hS
 have hlen := hω.len
 have hsh := aliveW_short (ps := p.ps) hω q.ticket (kindT q.ticket)
 refine .drawn (fun w => ∃ R, Sat B w I (blk b9 (recCells (aliveW p.ps ω q.ticket (kindT q.ticket)).1) 45 :: blk p.wb (wdC p ω) 52 :: R)) (fun j => !([].contains j)) (by kernel_rfl) ?_
 replace hS := hS.drew; generalize w.drew = w at hS ⊢
 have hH : ∃ R, Sat B w I (blk b9 (recCells (aliveW p.ps ω q.ticket (kindT q.ticket)).1) 45 :: blk p.wb (wdC p ω) 52 :: R) := ⟨_, ((hS.pick 0 rfl).pick 5 rfl)⟩
 refine .takeP (i := 0) rfl (by kernel_rfl) (by kernel_rfl) (by kernel_rfl) (fun w => (.move (.of rfl))) rfl (.takeP (i := 1) rfl (by kernel_rfl) (by kernel_rfl) (by kernel_rfl) (fun w => (.nilCheck (.of rfl))) rfl ?_)
 refine WD.takeP (i := 2) rfl (by kernel_rfl) (by kernel_rfl) (by kernel_rfl) (fun w => (by first | exact .fieldAddr 0 (.of rfl) Tryz.underlying52 rfl rfl Tryz.sizeOf47 rfl | exact .fieldAddrI 0 (.of rfl) Tryz.underlying52 rfl rfl Tryz.sizeOf47 rfl)) rfl ?_
 refine WD.take (i := 3) rfl (by kernel_rfl) (by kernel_rfl) (by kernel_rfl) (by kernel_rfl) hH (fun w ⟨R, hS⟩ => (by first | exact (.ld (.of rfl) hS (k := 0) rfl Tryz.isAgg47 rfl) | exact (.ld (.of rfl) hS (k := 1) rfl Tryz.isAgg47 rfl))) rfl ?_
 refine WD.take (i := 4) rfl (by kernel_rfl) (by kernel_rfl) (by kernel_rfl) (by kernel_rfl) hH (fun w ⟨R, hS⟩ => (by first | exact (.ldsW (cs := [_, _, _, _, _, _, _, _, _, _]) (.of rfl) hS (k := 0) rfl Tryz.isAgg45 Tryz.sizeOf45 rfl) | exact (.lds (vs := [_, _, _, _, _, _, _, _, _, _]) (.of rfl) hS (k := 0) rfl Tryz.isAgg45 Tryz.sizeOf45 rfl (fun _ _ h => h)) | exact (.ldsW (cs := [_, _, _, _, _, _, _, _, _, _]) (.of rfl) hS (k := 1) rfl Tryz.isAgg45 Tryz.sizeOf45 rfl) | exact (.lds (vs := [_, _, _, _, _, _, _, _, _, _]) (.of rfl) hS (k := 1) rfl Tryz.isAgg45 Tryz.sizeOf45 rfl (fun _ _ h => h)))) rfl ?_
 refine .takeP (i := 5) rfl (by kernel_rfl) (by kernel_rfl) (by kernel_rfl) (fun w => (.move (.of rfl))) rfl (.takeP (i := 6) rfl (by kernel_rfl) (by kernel_rfl) (by kernel_rfl) (fun w => (.nilCheck (.of rfl))) rfl ?_)
 refine WD.takeP (i := 7) rfl (by kernel_rfl) (by kernel_rfl) (by kernel_rfl) (fun w => (by first | exact .fieldAddr 25 (.of rfl) Tryz.underlying52 rfl rfl Tryz.sizeOf3 rfl | exact .fieldAddrI 25 (.of rfl) Tryz.underlying52 rfl rfl Tryz.sizeOf3 rfl)) rfl ?_
 refine WD.take (i := 8) rfl (by kernel_rfl) (by kernel_rfl) (by kernel_rfl) (by kernel_rfl) hH (fun w ⟨R, hS⟩ => (by first | exact (.ld (.of rfl) hS (k := 0) rfl Tryz.isAgg3 rfl) | exact (.ld (.of rfl) hS (k := 1) rfl Tryz.isAgg3 rfl))) rfl ?_
 refine WD.branch [9] (by kernel_rfl) rfl (WO.cons rfl ?_ (WO.nil))
 refine .call Tryz.func96 rfl (evs_cons (.of rfl) (evs_cons (.of rfl) evs_nil)) rfl (Touch_any (aliveW p.ps ω q.ticket (kindT q.ticket)).1 ω.now hsh.2.2.1 hsh.2.2.2 B _ I _ hS) ?_
 clear hS
 rintro _ w ⟨rfl, hS⟩
 refine .nil ?_
 clear hH
 have hH : ∃ R, Sat B w I (blk b9 (recCells (aliveW p.ps ω q.ticket (kindT q.ticket)).1) 45 :: blk p.wb (wdC p ω) 52 :: R) := ⟨_, ((hS.pick 0 rfl).pick 5 rfl)⟩
 refine And.intro (by intro _ _; exact hH) ?_
 refine WD.branch [10] (by kernel_rfl) rfl (WO.cons rfl ?_ (WO.nil))
 refine .call Tryz.func95 rfl (evs_cons (.of rfl) (evs_cons (.of rfl) evs_nil)) rfl (Put_any p.tb ω.room a c ω.l (by omega) (touchR (aliveW p.ps ω q.ticket (kindT q.ticket)).1 ω.now) (Nat.le_trans hsh.1 (by decide)) (Nat.le_trans hsh.2.1 (by decide)) B _ I hI.known hI.pre _ ((hS.pick 2 rfl).pick 2 rfl)) ?_
 clear hS
 rintro _ w ⟨rfl, hS⟩
 try dsimp only [List.eraseIdx] at hS
 refine .nil ?_
 clear hH
 have hH : ∃ R, Sat B w I (blk b9 (recCells (aliveW p.ps ω q.ticket (kindT q.ticket)).1) 45 :: blk p.wb (wdC p ω) 52 :: R) := ⟨_, ((hS.pick 2 rfl).pick 5 rfl)⟩
 refine And.intro (by intro _ _; exact hH) ?_
 refine .done (by kernel_rfl) (.seq (.region ?_))
 first | refine WL.val (.ldsW (cs := [_, _, _, _, _, _, _, _, _, _]) (.of rfl) hS (k := 0) rfl Tryz.isAgg45 Tryz.sizeOf45 rfl) rfl ?_ | refine WL.val (.lds (vs := [_, _, _, _, _, _, _, _, _, _]) (.of rfl) hS (k := 0) rfl Tryz.isAgg45 Tryz.sizeOf45 rfl (fun _ _ h => h)) rfl ?_ | refine WL.val (.ldsW (cs := [_, _, _, _, _, _, _, _, _, _]) (.of rfl) hS (k := 1) rfl Tryz.isAgg45 Tryz.sizeOf45 rfl) rfl ?_ | refine WL.val (.lds (vs := [_, _, _, _, _, _, _, _, _, _]) (.of rfl) hS (k := 1) rfl Tryz.isAgg45 Tryz.sizeOf45 rfl (fun _ _ h => h)) rfl ?_ | refine WL.val (.ldsW (cs := [_, _, _, _, _, _, _, _, _, _]) (.of rfl) hS (k := 2) rfl Tryz.isAgg45 Tryz.sizeOf45 rfl) rfl ?_ | refine WL.val (.lds (vs := [_, _, _, _, _, _, _, _, _, _]) (.of rfl) hS (k := 2) rfl Tryz.isAgg45 Tryz.sizeOf45 rfl (fun _ _ h => h)) rfl ?_ | refine WL.val (.ldsW (cs := [_, _, _, _, _, _, _, _, _, _]) (.of rfl) hS (k := 3) rfl Tryz.isAgg45 Tryz.sizeOf45 rfl) rfl ?_ | refine WL.val (.lds (vs := [_, _, _, _, _, _, _, _, _, _]) (.of rfl) hS (k := 3) rfl Tryz.isAgg45 Tryz.sizeOf45 rfl (fun _ _ h => h)) rfl ?_ | refine WL.val (.ldsW (cs := [_, _, _, _, _, _, _, _, _, _]) (.of rfl) hS (k := 4) rfl Tryz.isAgg45 Tryz.sizeOf45 rfl) rfl ?_ | refine WL.val (.lds (vs := [_, _, _, _, _, _, _, _, _, _]) (.of rfl) hS (k := 4) rfl Tryz.isAgg45 Tryz.sizeOf45 rfl (fun _ _ h => h)) rfl ?_ | refine WL.val (.ldsW (cs := [_, _, _, _, _, _, _, _, _, _]) (.of rfl) hS (k := 5) rfl Tryz.isAgg45 Tryz.sizeOf45 rfl) rfl ?_ | refine WL.val (.lds (vs := [_, _, _, _, _, _, _, _, _, _]) (.of rfl) hS (k := 5) rfl Tryz.isAgg45 Tryz.sizeOf45 rfl (fun _ _ h => h)) rfl ?_ | refine WL.val (.ldsW (cs := [_, _, _, _, _, _, _, _, _, _]) (.of rfl) hS (k := 6) rfl Tryz.isAgg45 Tryz.sizeOf45 rfl) rfl ?_ | refine WL.val (.lds (vs := [_, _, _, _, _, _, _, _, _, _]) (.of rfl) hS (k := 6) rfl Tryz.isAgg45 Tryz.sizeOf45 rfl (fun _ _ h => h)) rfl ?_ | refine WL.val (.ldsW (cs := [_, _, _, _, _, _, _, _, _, _]) (.of rfl) hS (k := 7) rfl Tryz.isAgg45 Tryz.sizeOf45 rfl) rfl ?_ | refine WL.val (.lds (vs := [_, _, _, _, _, _, _, _, _, _]) (.of rfl) hS (k := 7) rfl Tryz.isAgg45 Tryz.sizeOf45 rfl (fun _ _ h => h)) rfl ?_
 first | refine WL.stA hS (k := 0) rfl (.of rfl) (.of rfl) rfl Tryz.sizeOf45 rfl (by simp) ?_ | refine WL.stA hS (k := 1) rfl (.of rfl) (.of rfl) rfl Tryz.sizeOf45 rfl (by simp) ?_ | refine WL.stA hS (k := 2) rfl (.of rfl) (.of rfl) rfl Tryz.sizeOf45 rfl (by simp) ?_ | refine WL.stA hS (k := 3) rfl (.of rfl) (.of rfl) rfl Tryz.sizeOf45 rfl (by simp) ?_ | refine WL.stA hS (k := 4) rfl (.of rfl) (.of rfl) rfl Tryz.sizeOf45 rfl (by simp) ?_ | refine WL.stA hS (k := 5) rfl (.of rfl) (.of rfl) rfl Tryz.sizeOf45 rfl (by simp) ?_ | refine WL.stA hS (k := 6) rfl (.of rfl) (.of rfl) rfl Tryz.sizeOf45 rfl (by simp) ?_ | refine WL.stA hS (k := 7) rfl (.of rfl) (.of rfl) rfl Tryz.sizeOf45 rfl (by simp) ?_
 clear hS; intro w hS; try dsimp only [List.set] at hS
 try simp only [List.take_zero, List.nil_append, List.append_nil, List.drop_succ_cons, List.drop_zero, List.drop_nil, Nat.zero_add] at hS
 refine .run 1 rfl trivial (.nil (.ret ?_))
 first | refine ret2c (b := _) (cs := [_, _, _, _, _, _, _, _, _, _]) Tryz.results62 hS (k := 0) rfl Tryz.isAgg45 Tryz.sizeOf45 rfl rfl rfl ?_ | refine ret2c (b := _) (cs := [_, _, _, _, _, _, _, _, _, _]) Tryz.results62 hS (k := 1) rfl Tryz.isAgg45 Tryz.sizeOf45 rfl rfl rfl ?_ | refine ret2c (b := _) (cs := [_, _, _, _, _, _, _, _, _, _]) Tryz.results62 hS (k := 2) rfl Tryz.isAgg45 Tryz.sizeOf45 rfl rfl rfl ?_ | refine ret2c (b := _) (cs := [_, _, _, _, _, _, _, _, _, _]) Tryz.results62 hS (k := 3) rfl Tryz.isAgg45 Tryz.sizeOf45 rfl rfl rfl ?_ | refine ret2c (b := _) (cs := [_, _, _, _, _, _, _, _, _, _]) Tryz.results62 hS (k := 4) rfl Tryz.isAgg45 Tryz.sizeOf45 rfl rfl rfl ?_ | refine ret2c (b := _) (cs := [_, _, _, _, _, _, _, _, _, _]) Tryz.results62 hS (k := 5) rfl Tryz.isAgg45 Tryz.sizeOf45 rfl rfl rfl ?_ | refine ret2c (b := _) (cs := [_, _, _, _, _, _, _, _, _, _]) Tryz.results62 hS (k := 6) rfl Tryz.isAgg45 Tryz.sizeOf45 rfl rfl rfl ?_ | refine ret2c (b := _) (cs := [_, _, _, _, _, _, _, _, _, _]) Tryz.results62 hS (k := 7) rfl Tryz.isAgg45 Tryz.sizeOf45 rfl rfl rfl ?_
 replace hS := Sat.box (T := wdT p (putW ω (touchR (aliveW p.ps ω q.ticket (kindT q.ticket)).1 ω.now))) (a, c, ma, mc) (((((hS.pick 4 rfl).pick 4 rfl).pick 3 rfl).pick 3 rfl).pick 4 rfl)
 try dsimp only [List.eraseIdx] at hS
 have hE : useW p.ps ω q = (((aliveW p.ps ω q.ticket (kindT q.ticket)).1, 0), putW ω (touchR (aliveW p.ps ω q.ticket (kindT q.ticket)).1 ω.now)) := by rw [useW, if_neg (by rw [hb18]; decide), if_neg (by rw [hb27]; decide), if_neg (by rw [hb35]; decide), if_neg (by rw [hb58]; decide)]
 rw [hE]
 exact ⟨_, rfl, rfl, (((hS.drop (k := 1) rfl).drop (k := 1) rfl).drop (k := 1) rfl)⟩
end Go.Proofs.YtadhiihnnkcagaaGreatDoor
namespace Go.Proofs.YtadhiihnnkcagaaGreatDoor
open Gk Ul Pc Tk Tr
set_option linter.unusedVariables false
set_option linter.unusedSimpArgs false
theorem bld56_58 : Bld Tryz.prog 56 [(0, 1), (1, 1), (2, 1), (3, 1)] [S [], .slice none 0 0, .slice none 0 0, S []] := bld_of Tryz.underlying56 Tryz.zeroValue56 (fun w => by simp [go_sem])
def CODES : List (Int × List UInt8) := [(33, [73, 78, 86, 65, 76, 73, 68, 95, 82, 69, 81, 85, 69, 83, 84]), (30, [73, 78, 86, 65, 76, 73, 68, 95, 84, 73, 67, 75, 69, 84]), (32, [73, 78, 86, 65, 76, 73, 68, 95, 84, 73, 67, 75, 69, 84, 95, 83, 80, 69, 67]), (31, [73, 78, 86, 65, 76, 73, 68, 95, 83, 69, 82, 86, 73, 67, 69]), (36, [85, 78, 65, 85, 84, 72, 79, 82, 73, 90, 69, 68, 95, 83, 69, 82, 86, 73, 67, 69]), (34, [73, 78, 86, 65, 76, 73, 68, 95, 80, 82, 79, 88, 89, 95, 67, 65, 76, 76, 66, 65, 67, 75]), (0, [])]
def INTERNAL : List UInt8 := [73, 78, 84, 69, 82, 78, 65, 76, 95, 69, 82, 82, 79, 82]
def codeT (e : Int) : List UInt8 := (CODES.lookup e).getD INTERNAL
theorem lookup_map {α β γ : Type} [BEq α] (f : β → γ) (k : α) : ∀ l : List (α × β), (l.map fun p => (p.1, f p.2)).lookup k = (l.lookup k).map f
 | [] => rfl
 | (a, b) :: l => by
  rw [List.map_cons, List.lookup, List.lookup]
  cases k == a with
  | true => rfl
  | false => exact lookup_map f k l
theorem codes_any (B w : World) (I : Im) (As : List Assn) (hS : Sat B w I As) :
  Calls Tryz.prog 58 [].toArray w (Ret fun v w' => ∃ mb, v = .map (some mb) ∧ Sat B w' I (mapA I64 mb (CODES.map fun p => (p.1, S p.2)) :: As)) := by
 refine calls Tryz.func58 rfl Tryz.ntmps58 rfl (.seq (.region (.run 1 rfl trivial (.nil (.seq (.region (.mkMap I64 hS rfl ?_)))))))
 clear hS; intro b1 w hS
 refine .mins (kv := []) (key := 33) (val := S [73, 78, 86, 65, 76, 73, 68, 95, 82, 69, 81, 85, 69, 83, 84]) keyI hS (k := 0) rfl (.of rfl) (.of rfl) (.of rfl) rfl Tryz.underlying121 Tryz.underlying22 ?_
 clear hS; intro w hS
 replace hS : Sat B w I (mapA I64 b1 [(33, S [73, 78, 86, 65, 76, 73, 68, 95, 82, 69, 81, 85, 69, 83, 84])] :: As) := hS
 refine .mins (kv := [(33, S [73, 78, 86, 65, 76, 73, 68, 95, 82, 69, 81, 85, 69, 83, 84])]) (key := 30) (val := S [73, 78, 86, 65, 76, 73, 68, 95, 84, 73, 67, 75, 69, 84]) keyI hS (k := 0) rfl (.of rfl) (.of rfl) (.of rfl) rfl Tryz.underlying121 Tryz.underlying22 ?_
 clear hS; intro w hS
 replace hS : Sat B w I (mapA I64 b1 [(33, S [73, 78, 86, 65, 76, 73, 68, 95, 82, 69, 81, 85, 69, 83, 84]), (30, S [73, 78, 86, 65, 76, 73, 68, 95, 84, 73, 67, 75, 69, 84])] :: As) := hS
 refine .mins (kv := [(33, S [73, 78, 86, 65, 76, 73, 68, 95, 82, 69, 81, 85, 69, 83, 84]), (30, S [73, 78, 86, 65, 76, 73, 68, 95, 84, 73, 67, 75, 69, 84])]) (key := 32) (val := S [73, 78, 86, 65, 76, 73, 68, 95, 84, 73, 67, 75, 69, 84, 95, 83, 80, 69, 67]) keyI hS (k := 0) rfl (.of rfl) (.of rfl) (.of rfl) rfl Tryz.underlying121 Tryz.underlying22 ?_
 clear hS; intro w hS
 replace hS : Sat B w I (mapA I64 b1 [(33, S [73, 78, 86, 65, 76, 73, 68, 95, 82, 69, 81, 85, 69, 83, 84]), (30, S [73, 78, 86, 65, 76, 73, 68, 95, 84, 73, 67, 75, 69, 84]), (32, S [73, 78, 86, 65, 76, 73, 68, 95, 84, 73, 67, 75, 69, 84, 95, 83, 80, 69, 67])] :: As) := hS
 refine .mins (kv := [(33, S [73, 78, 86, 65, 76, 73, 68, 95, 82, 69, 81, 85, 69, 83, 84]), (30, S [73, 78, 86, 65, 76, 73, 68, 95, 84, 73, 67, 75, 69, 84]), (32, S [73, 78, 86, 65, 76, 73, 68, 95, 84, 73, 67, 75, 69, 84, 95, 83, 80, 69, 67])]) (key := 31) (val := S [73, 78, 86, 65, 76, 73, 68, 95, 83, 69, 82, 86, 73, 67, 69]) keyI hS (k := 0) rfl (.of rfl) (.of rfl) (.of rfl) rfl Tryz.underlying121 Tryz.underlying22 ?_
 clear hS; intro w hS
 replace hS : Sat B w I (mapA I64 b1 [(33, S [73, 78, 86, 65, 76, 73, 68, 95, 82, 69, 81, 85, 69, 83, 84]), (30, S [73, 78, 86, 65, 76, 73, 68, 95, 84, 73, 67, 75, 69, 84]), (32, S [73, 78, 86, 65, 76, 73, 68, 95, 84, 73, 67, 75, 69, 84, 95, 83, 80, 69, 67]), (31, S [73, 78, 86, 65, 76, 73, 68, 95, 83, 69, 82, 86, 73, 67, 69])] :: As) := hS
 refine .mins (kv := [(33, S [73, 78, 86, 65, 76, 73, 68, 95, 82, 69, 81, 85, 69, 83, 84]), (30, S [73, 78, 86, 65, 76, 73, 68, 95, 84, 73, 67, 75, 69, 84]), (32, S [73, 78, 86, 65, 76, 73, 68, 95, 84, 73, 67, 75, 69, 84, 95, 83, 80, 69, 67]), (31, S [73, 78, 86, 65, 76, 73, 68, 95, 83, 69, 82, 86, 73, 67, 69])]) (key := 36) (val := S [85, 78, 65, 85, 84, 72, 79, 82, 73, 90, 69, 68, 95, 83, 69, 82, 86, 73, 67, 69]) keyI hS (k := 0) rfl (.of rfl) (.of rfl) (.of rfl) rfl Tryz.underlying121 Tryz.underlying22 ?_
 clear hS; intro w hS
 replace hS : Sat B w I (mapA I64 b1 [(33, S [73, 78, 86, 65, 76, 73, 68, 95, 82, 69, 81, 85, 69, 83, 84]), (30, S [73, 78, 86, 65, 76, 73, 68, 95, 84, 73, 67, 75, 69, 84]), (32, S [73, 78, 86, 65, 76, 73, 68, 95, 84, 73, 67, 75, 69, 84, 95, 83, 80, 69, 67]), (31, S [73, 78, 86, 65, 76, 73, 68, 95, 83, 69, 82, 86, 73, 67, 69]), (36, S [85, 78, 65, 85, 84, 72, 79, 82, 73, 90, 69, 68, 95, 83, 69, 82, 86, 73, 67, 69])] :: As) := hS
 refine .mins (kv := [(33, S [73, 78, 86, 65, 76, 73, 68, 95, 82, 69, 81, 85, 69, 83, 84]), (30, S [73, 78, 86, 65, 76, 73, 68, 95, 84, 73, 67, 75, 69, 84]), (32, S [73, 78, 86, 65, 76, 73, 68, 95, 84, 73, 67, 75, 69, 84, 95, 83, 80, 69, 67]), (31, S [73, 78, 86, 65, 76, 73, 68, 95, 83, 69, 82, 86, 73, 67, 69]), (36, S [85, 78, 65, 85, 84, 72, 79, 82, 73, 90, 69, 68, 95, 83, 69, 82, 86, 73, 67, 69])]) (key := 34) (val := S [73, 78, 86, 65, 76, 73, 68, 95, 80, 82, 79, 88, 89, 95, 67, 65, 76, 76, 66, 65, 67, 75]) keyI hS (k := 0) rfl (.of rfl) (.of rfl) (.of rfl) rfl Tryz.underlying121 Tryz.underlying22 ?_
 clear hS; intro w hS
 replace hS : Sat B w I (mapA I64 b1 [(33, S [73, 78, 86, 65, 76, 73, 68, 95, 82, 69, 81, 85, 69, 83, 84]), (30, S [73, 78, 86, 65, 76, 73, 68, 95, 84, 73, 67, 75, 69, 84]), (32, S [73, 78, 86, 65, 76, 73, 68, 95, 84, 73, 67, 75, 69, 84, 95, 83, 80, 69, 67]), (31, S [73, 78, 86, 65, 76, 73, 68, 95, 83, 69, 82, 86, 73, 67, 69]), (36, S [85, 78, 65, 85, 84, 72, 79, 82, 73, 90, 69, 68, 95, 83, 69, 82, 86, 73, 67, 69]), (34, S [73, 78, 86, 65, 76, 73, 68, 95, 80, 82, 79, 88, 89, 95, 67, 65, 76, 76, 66, 65, 67, 75])] :: As) := hS
 refine .mins (kv := [(33, S [73, 78, 86, 65, 76, 73, 68, 95, 82, 69, 81, 85, 69, 83, 84]), (30, S [73, 78, 86, 65, 76, 73, 68, 95, 84, 73, 67, 75, 69, 84]), (32, S [73, 78, 86, 65, 76, 73, 68, 95, 84, 73, 67, 75, 69, 84, 95, 83, 80, 69, 67]), (31, S [73, 78, 86, 65, 76, 73, 68, 95, 83, 69, 82, 86, 73, 67, 69]), (36, S [85, 78, 65, 85, 84, 72, 79, 82, 73, 90, 69, 68, 95, 83, 69, 82, 86, 73, 67, 69]), (34, S [73, 78, 86, 65, 76, 73, 68, 95, 80, 82, 79, 88, 89, 95, 67, 65, 76, 76, 66, 65, 67, 75])]) (key := 0) (val := S []) keyI hS (k := 0) rfl (.of rfl) (.of rfl) (.of rfl) rfl Tryz.underlying121 Tryz.underlying22 ?_
 clear hS; intro w hS
 replace hS : Sat B w I (mapA I64 b1 [(33, S [73, 78, 86, 65, 76, 73, 68, 95, 82, 69, 81, 85, 69, 83, 84]), (30, S [73, 78, 86, 65, 76, 73, 68, 95, 84, 73, 67, 75, 69, 84]), (32, S [73, 78, 86, 65, 76, 73, 68, 95, 84, 73, 67, 75, 69, 84, 95, 83, 80, 69, 67]), (31, S [73, 78, 86, 65, 76, 73, 68, 95, 83, 69, 82, 86, 73, 67, 69]), (36, S [85, 78, 65, 85, 84, 72, 79, 82, 73, 90, 69, 68, 95, 83, 69, 82, 86, 73, 67, 69]), (34, S [73, 78, 86, 65, 76, 73, 68, 95, 80, 82, 79, 88, 89, 95, 67, 65, 76, 76, 66, 65, 67, 75]), (0, S [])] :: As) := hS
 refine .run 2 rfl trivial (.nil (.ret (ret1 Tryz.results58 rfl ?_)))
 exact ⟨_, rfl, b1, rfl, hS⟩
theorem Code_any (e : Int) (B w : World) (I : Im) (As : List Assn) (hS : Sat B w I As) :
  Calls Tryz.prog 14 [I64 e].toArray w (Ret fun v w' => v = S (codeT e) ∧ Sat B w' I As) := by
 refine calls Tryz.func14 rfl Tryz.ntmps14 rfl (.seq (.region (.run 1 rfl trivial (.nil (.seq (.seq (.region (.call Tryz.func58 rfl evs_nil rfl (codes_any B _ I _ hS) ?_))))))))
 clear hS
 rintro _ w ⟨mb, rfl, hS⟩
 refine .run 1 rfl trivial ?_
 refine WL.val (v := .tuple #[S ((CODES.lookup e).getD []), .bool (CODES.lookup e).isSome]) (by have h9 := lookup_map S e CODES; have e9 : ((CODES.map fun p => (p.1, S p.2)).lookup e).getD (S []) = S ((CODES.lookup e).getD []) := by { rw [h9]; cases CODES.lookup e <;> rfl }; have e8 : ((CODES.map fun p => (p.1, S p.2)).lookup e).isSome = (CODES.lookup e).isSome := by { rw [h9]; cases CODES.lookup e <;> rfl }; rw [← e9, ← e8]; exact .look2 (key := e) keyI (hS.mapNow (k := 0) rfl) (.of rfl) (.of rfl) Tryz.underlying121 Tryz.underlying22 Tryz.zeroValue9) rfl ?_
 refine .run 5 rfl trivial (.nil (.seq (.region (.run 1 rfl trivial (.nil ?_)))))
 refine WC.cond rfl (fun hb11 => ?_) (fun hb11 => ?_)
 ·
  have hc11 := hb11; try simp only [Gk.cs0] at hc11
  refine .seq (.region (.run 2 rfl trivial (.nil (.ret (ret1 Tryz.results14 rfl ?_)))))
  refine ⟨_, rfl, ?_, hS.drop (k := 0) rfl⟩
  rw [codeT]
  cases h : CODES.lookup e with
  | none => rw [h] at hb11; cases hb11
  | some s => rfl
 have hc11 := hb11; try simp only [Gk.cs0] at hc11
 refine .skip (.seq (.region (.run 1 rfl trivial (.nil (.ret (ret1 Tryz.results14 rfl ?_))))))
 refine ⟨_, rfl, ?_, hS.drop (k := 0) rfl⟩
 rw [codeT]
 cases h : CODES.lookup e with
 | none => rfl
 | some s => rw [h] at hb11; cases hb11
structure Sx where
 user : List UInt8
 attrs : List Pr
 proxies : List (List UInt8)
 iou : List UInt8
def sx0 : Sx := ⟨[], [], [], []⟩
def SxAt (J : Im) (x : Sx) (cs : List Value) : Prop := ∃ ka kc pa pc, cs = [S x.user, .slice ka x.attrs.length kc, .slice pa x.proxies.length pc, S x.iou] ∧ x.attrs.length ≤ kc ∧ RS J ka 2 x.attrs.length (rowsC prCells x.attrs) ∧ x.proxies.length ≤ pc ∧ RS J pa 1 x.proxies.length (x.proxies.map S)
theorem sx0_at (J : Im) : SxAt J sx0 [S [], .slice none 0 0, .slice none 0 0, S []] := ⟨none, 0, none, 0, rfl, Nat.le_refl _, ⟨rfl, fun h => absurd h (by simp [sx0])⟩, Nat.le_refl _, rfl, fun h => absurd h (by simp [sx0])⟩
theorem SxAt.mono {I J : Im} {x : Sx} {cs : List Value} (h : SxAt I x cs) (hl : Le I J) : SxAt J x cs := by
 obtain ⟨ka, kc, pa, pc, e, h1, h2, h3, h4⟩ := h
 exact ⟨ka, kc, pa, pc, e, h1, h2.mono hl, h3, h4.mono hl⟩
def checkE (ps : Nat → Int) (ω : Wd) (q : Qr) : Nat :=
 if (useW ps ω q).1.2 ≠ 0 then (useW ps ω q).1.2
 else if ((((Ul.nU q.service).2 : Nat) : Int) != 0 || !((Ul.nU q.service).1 == (useW ps ω q).1.1.service)) = true then 31
 else if (q.renew && !(useW ps ω q).1.1.fresh) = true then 30 else 0
def checkW (lo : List Sv) (us : List Us) (ps : Nat → Int) (ω : Wd) (q : Qr) : Sx :=
 if checkE ps ω q ≠ 0 then sx0
 else ⟨(useW ps ω q).1.1.user, attrsU us (useW ps ω q).1.1.user (findR lo (useW ps ω q).1.1.service).1.rel, proxiesT (useW ps ω q).2.l (useW ps ω q).1.1.name, []⟩
theorem findR_mem (lo : List Sv) (s : List UInt8) : (findR lo s).1 = z0 ∨ (findR lo s).1 ∈ lo := by
 unfold findR
 split
 ·exact .inl rfl
 ·split
  ·exact .inl rfl
  ·split
   ·exact .inl rfl
   ·rename_i h; exact .inr (List.mem_of_find?_eq_some h)
theorem atU_le {us : List Us} (h : ∀ u ∈ us, u.attrs.length ≤ 8) (name : List UInt8) : (atU us name).length ≤ 8 := by
 unfold atU
 split
 ·rename_i e; exact h _ (List.mem_of_find?_eq_some e)
 ·simp
theorem vCheck_any (q : Qr) (hqt : q.ticket.length ≤ 1000000) (hqs : q.service.length ≤ 1000000) (p : Wp) (ω : Wd) (hω : WdOk ω) (B w : World) (I : Im) (hI : WpOk I p) (As : List Assn) (hS : Sat B w I (wdA p ω :: As)) :
  Calls Tryz.prog 18 [ptr p.wb 0, .agg (qrCells q).toArray].toArray w (Ret fun v w' => ∃ J cs, Le I J ∧ v = .tuple #[.agg (List.toArray cs), I64 (checkE p.ps ω q : Nat)] ∧ SxAt J (checkW p.lo p.us p.ps ω q) cs ∧ Sat B w' J (wdA p (useW p.ps ω q).2 :: As)) := by
 refine calls Tryz.func18 rfl Tryz.ntmps18 rfl (.seq (.region (.boxA (cs := [_, _, _, _]) hS (.of rfl) rfl ?_)))
 clear hS; intro b3 w hS
 refine .allocA (cs := [_, _, _, _]) hS Tryz.zeroValue56 rfl ?_
 clear hS; intro b4 w hS
 refine .run 1 rfl trivial (.nil (.seq (.region (.run 1 rfl trivial ?_))))
 first | refine WL.val (.ldsW (cs := [_, _, _, _]) (.of rfl) hS (k := 0) rfl Tryz.isAgg43 Tryz.sizeOf43 rfl) rfl ?_ | refine WL.val (.lds (vs := [_, _, _, _]) (.of rfl) hS (k := 0) rfl Tryz.isAgg43 Tryz.sizeOf43 rfl (fun _ _ h => h)) rfl ?_ | refine WL.val (.ldsW (cs := [_, _, _, _]) (.of rfl) hS (k := 1) rfl Tryz.isAgg43 Tryz.sizeOf43 rfl) rfl ?_ | refine WL.val (.lds (vs := [_, _, _, _]) (.of rfl) hS (k := 1) rfl Tryz.isAgg43 Tryz.sizeOf43 rfl (fun _ _ h => h)) rfl ?_ | refine WL.val (.ldsW (cs := [_, _, _, _]) (.of rfl) hS (k := 2) rfl Tryz.isAgg43 Tryz.sizeOf43 rfl) rfl ?_ | refine WL.val (.lds (vs := [_, _, _, _]) (.of rfl) hS (k := 2) rfl Tryz.isAgg43 Tryz.sizeOf43 rfl (fun _ _ h => h)) rfl ?_
 refine .call Tryz.func62 rfl (evs_cons (.of rfl) (evs_cons (.of rfl) evs_nil)) rfl (use_any q hqt p ω hω B _ I hI _ (hS.pick 2 rfl)) ?_
 clear hS
 rintro _ w ⟨rfl, hS⟩
 try dsimp only [List.eraseIdx] at hS
 refine .run 3 rfl trivial (.allocA (cs := [_, _, _, _, _, _, _, _, _, _]) hS Tryz.zeroValue45 rfl ?_)
 clear hS; intro b6 w hS
 first | refine WL.stA hS (k := 0) rfl (.of rfl) (.of rfl) rfl Tryz.sizeOf45 rfl (by simp) ?_ | refine WL.stA hS (k := 1) rfl (.of rfl) (.of rfl) rfl Tryz.sizeOf45 rfl (by simp) ?_ | refine WL.stA hS (k := 2) rfl (.of rfl) (.of rfl) rfl Tryz.sizeOf45 rfl (by simp) ?_ | refine WL.stA hS (k := 3) rfl (.of rfl) (.of rfl) rfl Tryz.sizeOf45 rfl (by simp) ?_
 clear hS; intro w hS; try dsimp only [List.set] at hS
 try simp only [List.take_zero, List.nil_append, List.append_nil, List.drop_succ_cons, List.drop_zero, List.drop_nil, Nat.zero_add] at hS
 refine .run 1 rfl trivial (.nil (.seq (.seq (.region (.run 2 rfl trivial (.nil ?_))))))
 refine WC.cond rfl (fun hb19 => ?_) (fun hb19 => ?_)
 ·
  have hc19 := hb19; try simp only [Gk.cs0] at hc19
  refine .seq (.region (.val (.build (cs := [_, _, _, _]) parts_nil bld56_58 rfl) rfl (.run 1 rfl trivial ?_)))
  first | refine WL.stA hS (k := 0) rfl (.of rfl) (.of rfl) rfl Tryz.sizeOf56 rfl (by simp) ?_ | refine WL.stA hS (k := 1) rfl (.of rfl) (.of rfl) rfl Tryz.sizeOf56 rfl (by simp) ?_ | refine WL.stA hS (k := 2) rfl (.of rfl) (.of rfl) rfl Tryz.sizeOf56 rfl (by simp) ?_ | refine WL.stA hS (k := 3) rfl (.of rfl) (.of rfl) rfl Tryz.sizeOf56 rfl (by simp) ?_
  clear hS; intro w hS; try dsimp only [List.set] at hS
  try simp only [List.take_zero, List.nil_append, List.append_nil, List.drop_succ_cons, List.drop_zero, List.drop_nil, Nat.zero_add] at hS
  refine .run 1 rfl trivial (.nil (.ret ?_))
  first | refine ret2c (b := _) (cs := [_, _, _, _]) Tryz.results18 hS (k := 0) rfl Tryz.isAgg56 Tryz.sizeOf56 rfl rfl rfl ?_ | refine ret2c (b := _) (cs := [_, _, _, _]) Tryz.results18 hS (k := 1) rfl Tryz.isAgg56 Tryz.sizeOf56 rfl rfl rfl ?_ | refine ret2c (b := _) (cs := [_, _, _, _]) Tryz.results18 hS (k := 2) rfl Tryz.isAgg56 Tryz.sizeOf56 rfl rfl rfl ?_ | refine ret2c (b := _) (cs := [_, _, _, _]) Tryz.results18 hS (k := 3) rfl Tryz.isAgg56 Tryz.sizeOf56 rfl rfl rfl ?_
  have hne : (useW p.ps ω q).1.2 ≠ 0 := by simpa using hb19
  have hE : checkE p.ps ω q = (useW p.ps ω q).1.2 := by rw [checkE, if_pos hne]
  have hX : checkW p.lo p.us p.ps ω q = sx0 := if_pos (by rw [hE]; exact hne)
  rw [hE, hX]
  exact ⟨_, rfl, I, _, Le.refl _, rfl, sx0_at I, (((hS.drop (k := 0) rfl).drop (k := 1) rfl).drop (k := 1) rfl)⟩
 have hc19 := hb19; try simp only [Gk.cs0] at hc19
 refine .skip (.seq (.region ?_))
 first | refine WL.val (.fieldAddr 1 (.of rfl) Tryz.underlying43 rfl rfl Tryz.sizeOf9 rfl) rfl ?_ | refine WL.val (.fieldAddrI 1 (.of rfl) Tryz.underlying43 rfl rfl Tryz.sizeOf9 rfl) rfl ?_
 first | refine WL.val (.ld (.of rfl) hS (k := 0) rfl Tryz.isAgg9 rfl) rfl ?_ | refine WL.val (.ld (.of rfl) hS (k := 1) rfl Tryz.isAgg9 rfl) rfl ?_ | refine WL.val (.ld (.of rfl) hS (k := 2) rfl Tryz.isAgg9 rfl) rfl ?_ | refine WL.val (.ld (.of rfl) hS (k := 3) rfl Tryz.isAgg9 rfl) rfl ?_
 refine .call Tryz.func63 rfl (evs_cons (.of rfl) evs_nil) rfl (uNormal_any q.service hqs B _ I hI.known _ hS) ?_
 clear hS
 rintro _ w ⟨rfl, hS⟩
 refine .run 5 rfl trivial (.nil (.seq (.block (.seq (.region (.run 3 rfl trivial (.gval rfl rfl (fun hg1 => (.move (.of rfl))) rfl ?_)))))))
 refine WL.gval rfl rfl (fun hg1 => (by first | exact .fieldAddr 4 (.of rfl) Tryz.underlying45 rfl rfl Tryz.sizeOf9 rfl | exact .fieldAddrI 4 (.of rfl) Tryz.underlying45 rfl rfl Tryz.sizeOf9 rfl)) rfl ?_
 refine WL.gval rfl rfl (fun hg1 => (by first | exact (.ld (.gd hg1 rfl) hS (k := 0) rfl Tryz.isAgg9 rfl) | exact (.ld (.gd hg1 rfl) hS (k := 1) rfl Tryz.isAgg9 rfl) | exact (.ld (.gd hg1 rfl) hS (k := 2) rfl Tryz.isAgg9 rfl) | exact (.ld (.gd hg1 rfl) hS (k := 3) rfl Tryz.isAgg9 rfl))) rfl ?_
 refine .gval rfl rfl (fun hg1 => (.nes (.gd hg1 rfl) (.gd hg1 rfl))) rfl (.val (.por (.of rfl) (.of rfl) (.of rfl)) rfl (.run 1 rfl trivial (.nil ?_)))
 refine WC.cond rfl (fun hb28 => ?_) (fun hb28 => ?_)
 ·
  have hc28 := hb28; try simp only [Gk.cs0] at hc28
  refine .seq (.region (.val (.build (cs := [_, _, _, _]) parts_nil bld56_58 rfl) rfl ?_))
  first | refine WL.stA hS (k := 0) rfl (.of rfl) (.of rfl) rfl Tryz.sizeOf56 rfl (by simp) ?_ | refine WL.stA hS (k := 1) rfl (.of rfl) (.of rfl) rfl Tryz.sizeOf56 rfl (by simp) ?_ | refine WL.stA hS (k := 2) rfl (.of rfl) (.of rfl) rfl Tryz.sizeOf56 rfl (by simp) ?_ | refine WL.stA hS (k := 3) rfl (.of rfl) (.of rfl) rfl Tryz.sizeOf56 rfl (by simp) ?_
  clear hS; intro w hS; try dsimp only [List.set] at hS
  try simp only [List.take_zero, List.nil_append, List.append_nil, List.drop_succ_cons, List.drop_zero, List.drop_nil, Nat.zero_add] at hS
  refine .run 1 rfl trivial (.nil (.ret ?_))
  first | refine ret2c (b := _) (cs := [_, _, _, _]) Tryz.results18 hS (k := 0) rfl Tryz.isAgg56 Tryz.sizeOf56 rfl rfl rfl ?_ | refine ret2c (b := _) (cs := [_, _, _, _]) Tryz.results18 hS (k := 1) rfl Tryz.isAgg56 Tryz.sizeOf56 rfl rfl rfl ?_ | refine ret2c (b := _) (cs := [_, _, _, _]) Tryz.results18 hS (k := 2) rfl Tryz.isAgg56 Tryz.sizeOf56 rfl rfl rfl ?_ | refine ret2c (b := _) (cs := [_, _, _, _]) Tryz.results18 hS (k := 3) rfl Tryz.isAgg56 Tryz.sizeOf56 rfl rfl rfl ?_
  have hE : checkE p.ps ω q = 31 := by rw [checkE, if_neg (show ¬ (useW p.ps ω q).1.2 ≠ 0 from by simpa using hb19), if_pos hb28]
  have hX : checkW p.lo p.us p.ps ω q = sx0 := if_pos (by rw [hE]; decide)
  rw [hE, hX]
  exact ⟨_, rfl, I, _, Le.refl _, rfl, sx0_at I, (((hS.drop (k := 0) rfl).drop (k := 1) rfl).drop (k := 1) rfl)⟩
 have hc28 := hb28; try simp only [Gk.cs0] at hc28
 refine .seq (.region ?_)
 first | refine WL.val (.fieldAddr 2 (.of rfl) Tryz.underlying43 rfl rfl Tryz.sizeOf4 rfl) rfl ?_ | refine WL.val (.fieldAddrI 2 (.of rfl) Tryz.underlying43 rfl rfl Tryz.sizeOf4 rfl) rfl ?_
 first | refine WL.val (.ld (.of rfl) hS (k := 0) rfl Tryz.isAgg4 rfl) rfl ?_ | refine WL.val (.ld (.of rfl) hS (k := 1) rfl Tryz.isAgg4 rfl) rfl ?_ | refine WL.val (.ld (.of rfl) hS (k := 2) rfl Tryz.isAgg4 rfl) rfl ?_ | refine WL.val (.ld (.of rfl) hS (k := 3) rfl Tryz.isAgg4 rfl) rfl ?_
 refine .run 1 rfl trivial ?_
 refine WL.gval rfl rfl (fun hg1 => (by first | exact .fieldAddr 9 (.of rfl) Tryz.underlying45 rfl rfl Tryz.sizeOf4 rfl | exact .fieldAddrI 9 (.of rfl) Tryz.underlying45 rfl rfl Tryz.sizeOf4 rfl)) rfl ?_
 refine WL.gval rfl rfl (fun hg1 => (by first | exact (.ld (.gd hg1 rfl) hS (k := 0) rfl Tryz.isAgg4 rfl) | exact (.ld (.gd hg1 rfl) hS (k := 1) rfl Tryz.isAgg4 rfl) | exact (.ld (.gd hg1 rfl) hS (k := 2) rfl Tryz.isAgg4 rfl) | exact (.ld (.gd hg1 rfl) hS (k := 3) rfl Tryz.isAgg4 rfl))) rfl ?_
 refine .gval rfl rfl (fun hg1 => (.not (.gd hg1 rfl))) rfl (.val (.pand (.of rfl) (.of rfl) (.of rfl)) rfl (.run 1 rfl trivial (.nil ?_)))
 refine WC.cond rfl (fun hb38 => ?_) (fun hb38 => ?_)
 ·
  have hc38 := hb38; try simp only [Gk.cs0] at hc38
  refine .seq (.region (.val (.build (cs := [_, _, _, _]) parts_nil bld56_58 rfl) rfl ?_))
  first | refine WL.stA hS (k := 0) rfl (.of rfl) (.of rfl) rfl Tryz.sizeOf56 rfl (by simp) ?_ | refine WL.stA hS (k := 1) rfl (.of rfl) (.of rfl) rfl Tryz.sizeOf56 rfl (by simp) ?_ | refine WL.stA hS (k := 2) rfl (.of rfl) (.of rfl) rfl Tryz.sizeOf56 rfl (by simp) ?_ | refine WL.stA hS (k := 3) rfl (.of rfl) (.of rfl) rfl Tryz.sizeOf56 rfl (by simp) ?_
  clear hS; intro w hS; try dsimp only [List.set] at hS
  try simp only [List.take_zero, List.nil_append, List.append_nil, List.drop_succ_cons, List.drop_zero, List.drop_nil, Nat.zero_add] at hS
  refine .run 1 rfl trivial (.nil (.ret ?_))
  first | refine ret2c (b := _) (cs := [_, _, _, _]) Tryz.results18 hS (k := 0) rfl Tryz.isAgg56 Tryz.sizeOf56 rfl rfl rfl ?_ | refine ret2c (b := _) (cs := [_, _, _, _]) Tryz.results18 hS (k := 1) rfl Tryz.isAgg56 Tryz.sizeOf56 rfl rfl rfl ?_ | refine ret2c (b := _) (cs := [_, _, _, _]) Tryz.results18 hS (k := 2) rfl Tryz.isAgg56 Tryz.sizeOf56 rfl rfl rfl ?_ | refine ret2c (b := _) (cs := [_, _, _, _]) Tryz.results18 hS (k := 3) rfl Tryz.isAgg56 Tryz.sizeOf56 rfl rfl rfl ?_
  have hE : checkE p.ps ω q = 30 := by rw [checkE, if_neg (show ¬ (useW p.ps ω q).1.2 ≠ 0 from by simpa using hb19), if_neg (by rw [hb28]; decide), if_pos hb38]
  have hX : checkW p.lo p.us p.ps ω q = sx0 := if_pos (by rw [hE]; decide)
  rw [hE, hX]
  exact ⟨_, rfl, I, _, Le.refl _, rfl, sx0_at I, (((hS.drop (k := 0) rfl).drop (k := 1) rfl).drop (k := 1) rfl)⟩
 have hc38 := hb38; try simp only [Gk.cs0] at hc38
 refine .skip ?_
 refine WC.cutS (σ := Im × Nat × Option Addr × Nat) (fun ⟨J, b9, ra, rc⟩ => [(0, ptr p.wb 0), (4, ptr b4 0), (6, ptr b6 0), (9, ptr b9 0)]) (fun ⟨J, b9, ra, rc⟩ w => Le I J ∧ (findR p.lo (useW p.ps ω q).1.1.service).1.rel.length ≤ rc ∧ RS J ra 1 (findR p.lo (useW p.ps ω q).1.1.service).1.rel.length ((findR p.lo (useW p.ps ω q).1.1.service).1.rel.map S) ∧ Sat B w J (blk b9 [I64 (findR p.lo (useW p.ps ω q).1.1.service).1.id, F64 (findR p.lo (useW p.ps ω q).1.1.service).1.ord, S (findR p.lo (useW p.ps ω q).1.1.service).1.urls, .bool (findR p.lo (useW p.ps ω q).1.1.service).1.login, .bool (findR p.lo (useW p.ps ω q).1.1.service).1.proxy, .bool (findR p.lo (useW p.ps ω q).1.1.service).1.back, S (findR p.lo (useW p.ps ω q).1.1.service).1.calls, .slice ra (findR p.lo (useW p.ps ω q).1.1.service).1.rel.length rc] 101 :: wdA p (useW p.ps ω q).2 :: blk b6 (recCells (useW p.ps ω q).1.1) 45 :: blk b4 [S [], .slice none 0 0, .slice none 0 0, S []] 56 :: As)) ?_ ?_
 ·
  replace hS := (hS.pick 1 rfl)
  try dsimp only [List.eraseIdx] at hS
  obtain ⟨⟨a2, c2, ma2, mc2⟩, hS⟩ := Sat.unbox hS
  replace hS : Sat B _ _ (blk p.wb (wdC p (useW p.ps ω q).2) 52 :: blk p.tb [I64 (useW p.ps ω q).2.room, .slice a2 (useW p.ps ω q).2.l.length c2] 127 :: Vec 45 10 (.slice a2 (useW p.ps ω q).2.l.length c2) (useW p.ps ω q).2.l.length (rowsR (useW p.ps ω q).2.l) :: blk p.mb [.slice ma2 (useW p.ps ω q).2.D.length mc2] 168 :: VecO 118 (.slice ma2 (useW p.ps ω q).2.D.length mc2) ((useW p.ps ω q).2.D.map fun d => U64 (d : Nat)) :: _) := hS
  have hω2 := useW_ok (ps := p.ps) hω q
  have hlen2 := hω2.len
  have hwf2 := hω2.wf
  have hss := useW_short (ps := p.ps) hω q
  refine .drawn (fun w => ∃ J9 R, Le I J9 ∧ Sat B w J9 (blk b6 (recCells (useW p.ps ω q).1.1) 45 :: blk p.wb (wdC p (useW p.ps ω q).2) 52 :: R)) (fun j => !([].contains j)) (by kernel_rfl) ?_
  replace hS := hS.drew; generalize w.drew = w at hS ⊢
  have hH : ∃ J9 R, Le I J9 ∧ Sat B w J9 (blk b6 (recCells (useW p.ps ω q).1.1) 45 :: blk p.wb (wdC p (useW p.ps ω q).2) 52 :: R) := ⟨_, _, Le.refl _, ((hS.pick 0 rfl).pick 5 rfl)⟩
  refine .takeP (i := 0) rfl (by kernel_rfl) (by kernel_rfl) (by kernel_rfl) (fun w => (.move (.of rfl))) rfl (.takeP (i := 1) rfl (by kernel_rfl) (by kernel_rfl) (by kernel_rfl) (fun w => (.nilCheck (.of rfl))) rfl ?_)
  refine WD.takeP (i := 2) rfl (by kernel_rfl) (by kernel_rfl) (by kernel_rfl) (fun w => (by first | exact .fieldAddr 2 (.of rfl) Tryz.underlying52 rfl rfl Tryz.sizeOf49 rfl | exact .fieldAddrI 2 (.of rfl) Tryz.underlying52 rfl rfl Tryz.sizeOf49 rfl)) rfl ?_
  refine WD.take (i := 3) rfl (by kernel_rfl) (by kernel_rfl) (by kernel_rfl) (by kernel_rfl) hH (fun w ⟨J9, R, hL9, hS⟩ => (by first | exact (.ld (.of rfl) hS (k := 0) rfl Tryz.isAgg49 rfl) | exact (.ld (.of rfl) hS (k := 1) rfl Tryz.isAgg49 rfl))) rfl ?_
  refine WD.takeP (i := 4) rfl (by kernel_rfl) (by kernel_rfl) (by kernel_rfl) (fun w => (by first | exact .fieldAddr 4 (.of rfl) Tryz.underlying45 rfl rfl Tryz.sizeOf9 rfl | exact .fieldAddrI 4 (.of rfl) Tryz.underlying45 rfl rfl Tryz.sizeOf9 rfl)) rfl ?_
  refine WD.take (i := 5) rfl (by kernel_rfl) (by kernel_rfl) (by kernel_rfl) (by kernel_rfl) hH (fun w ⟨J9, R, hL9, hS⟩ => (by first | exact (.ld (.of rfl) hS (k := 0) rfl Tryz.isAgg9 rfl) | exact (.ld (.of rfl) hS (k := 1) rfl Tryz.isAgg9 rfl))) rfl ?_
  refine WD.branch [6, 11] (by kernel_rfl) rfl (WO.cons rfl ?_ (WO.cons rfl ?_ (WO.nil)))
  ·
   refine .call Tryz.func40 rfl (evs_cons (.of rfl) (evs_cons (.of rfl) evs_nil)) rfl (FindJ_any (useW p.ps ω q).1.1.service (by omega) p B _ I hI _ hS) ?_
   clear hS
   rintro _ w ⟨J, ra, rc, hJ, rfl, hrc, hRel, hS⟩
   refine .nil ?_
   clear hH
   have hH : ∃ J9 R, Le I J9 ∧ Sat B w J9 (blk b6 (recCells (useW p.ps ω q).1.1) 45 :: blk p.wb (wdC p (useW p.ps ω q).2) 52 :: R) := ⟨_, _, hJ, ((hS.pick 0 rfl).pick 5 rfl)⟩
   refine And.intro (by intro _ _; exact hH) ?_
   refine .takeP (i := 7) rfl (by kernel_rfl) (by kernel_rfl) (by kernel_rfl) (fun w => (.move (.of rfl))) rfl (.takeP (i := 8) rfl (by kernel_rfl) (by kernel_rfl) (by kernel_rfl) (fun w => (.extract (.of rfl) rfl)) rfl (.takeP (i := 9) rfl (by kernel_rfl) (by kernel_rfl) (by kernel_rfl) (fun w => (.extract (.of rfl) rfl)) rfl (.takeP (i := 10) rfl (by kernel_rfl) (by kernel_rfl) (by kernel_rfl) (fun w => (.extract (.of rfl) rfl)) rfl ?_)))
   refine WD.branch [11] (by kernel_rfl) rfl (WO.cons rfl ?_ (WO.nil))
   refine .allocA (cs := [_, _, _, _, _, _, _, _]) hS Tryz.zeroValue101 rfl ?_
   clear hS; intro b9 w hS
   refine .nil ?_
   clear hH
   have hH : ∃ J9 R, Le I J9 ∧ Sat B w J9 (blk b6 (recCells (useW p.ps ω q).1.1) 45 :: blk p.wb (wdC p (useW p.ps ω q).2) 52 :: R) := ⟨_, _, hJ, ((hS.pick 1 rfl).pick 6 rfl)⟩
   refine And.intro (by intro _ _; exact hH) ?_
   refine WD.branch [12] (by kernel_rfl) rfl (WO.cons rfl ?_ (WO.nil))
   first | refine WL.stA hS (k := 0) rfl (.of rfl) (.of rfl) rfl Tryz.sizeOf101 rfl (by simp) ?_ | refine WL.stA hS (k := 1) rfl (.of rfl) (.of rfl) rfl Tryz.sizeOf101 rfl (by simp) ?_ | refine WL.stA hS (k := 2) rfl (.of rfl) (.of rfl) rfl Tryz.sizeOf101 rfl (by simp) ?_ | refine WL.stA hS (k := 3) rfl (.of rfl) (.of rfl) rfl Tryz.sizeOf101 rfl (by simp) ?_ | refine WL.stA hS (k := 4) rfl (.of rfl) (.of rfl) rfl Tryz.sizeOf101 rfl (by simp) ?_ | refine WL.stA hS (k := 5) rfl (.of rfl) (.of rfl) rfl Tryz.sizeOf101 rfl (by simp) ?_ | refine WL.stA hS (k := 6) rfl (.of rfl) (.of rfl) rfl Tryz.sizeOf101 rfl (by simp) ?_ | refine WL.stA hS (k := 7) rfl (.of rfl) (.of rfl) rfl Tryz.sizeOf101 rfl (by simp) ?_ | refine WL.stA hS (k := 8) rfl (.of rfl) (.of rfl) rfl Tryz.sizeOf101 rfl (by simp) ?_
   clear hS; intro w hS; try dsimp only [List.set] at hS
   try simp only [List.take_zero, List.nil_append, List.append_nil, List.drop_succ_cons, List.drop_zero, List.drop_nil, Nat.zero_add] at hS
   refine .nil ?_
   clear hH
   have hH : ∃ J9 R, Le I J9 ∧ Sat B w J9 (blk b6 (recCells (useW p.ps ω q).1.1) 45 :: blk p.wb (wdC p (useW p.ps ω q).2) 52 :: R) := ⟨_, _, hJ, ((hS.pick 1 rfl).pick 6 rfl)⟩
   refine And.intro (by intro _ _; exact hH) ?_
   refine .takeP (i := 13) rfl (by kernel_rfl) (by kernel_rfl) (by kernel_rfl) (fun w => (.assign (.of rfl))) rfl (.takeP (i := 14) rfl (by kernel_rfl) (by kernel_rfl) (by kernel_rfl) (fun w => (.assign (.of rfl))) rfl (.done (by kernel_rfl) ?_))
   replace hS := Sat.box (T := wdT p (useW p.ps ω q).2) (a2, c2, ma2, mc2) (((((hS.pick 5 rfl).pick 5 rfl).pick 5 rfl).pick 5 rfl).pick 5 rfl)
   try dsimp only [List.eraseIdx] at hS
   exact ⟨(J, b9, ra, rc), ⟨rfl, rfl, rfl, rfl, trivial⟩, hJ, hrc, hRel, (((((hS.drop (k := 4) rfl).pick 3 rfl).pick 3 rfl).pick 2 rfl).pick 3 rfl)⟩
  ·
   refine .allocA (cs := [_, _, _, _, _, _, _, _]) hS Tryz.zeroValue101 rfl ?_
   clear hS; intro b9 w hS
   refine .nil ?_
   clear hH
   have hH : ∃ J9 R, Le I J9 ∧ Sat B w J9 (blk b6 (recCells (useW p.ps ω q).1.1) 45 :: blk p.wb (wdC p (useW p.ps ω q).2) 52 :: R) := ⟨_, _, Le.refl _, ((hS.pick 1 rfl).pick 6 rfl)⟩
   refine And.intro (by intro _ _; exact hH) ?_
   refine WD.branch [6] (by kernel_rfl) rfl (WO.cons rfl ?_ (WO.nil))
   refine .call Tryz.func40 rfl (evs_cons (.of rfl) (evs_cons (.of rfl) evs_nil)) rfl (FindJ_any (useW p.ps ω q).1.1.service (by omega) p B _ I hI _ hS) ?_
   clear hS
   rintro _ w ⟨J, ra, rc, hJ, rfl, hrc, hRel, hS⟩
   refine .nil ?_
   clear hH
   have hH : ∃ J9 R, Le I J9 ∧ Sat B w J9 (blk b6 (recCells (useW p.ps ω q).1.1) 45 :: blk p.wb (wdC p (useW p.ps ω q).2) 52 :: R) := ⟨_, _, hJ, ((hS.pick 1 rfl).pick 6 rfl)⟩
   refine And.intro (by intro _ _; exact hH) ?_
   refine .takeP (i := 7) rfl (by kernel_rfl) (by kernel_rfl) (by kernel_rfl) (fun w => (.move (.of rfl))) rfl (.takeP (i := 8) rfl (by kernel_rfl) (by kernel_rfl) (by kernel_rfl) (fun w => (.extract (.of rfl) rfl)) rfl (.takeP (i := 9) rfl (by kernel_rfl) (by kernel_rfl) (by kernel_rfl) (fun w => (.extract (.of rfl) rfl)) rfl (.takeP (i := 10) rfl (by kernel_rfl) (by kernel_rfl) (by kernel_rfl) (fun w => (.extract (.of rfl) rfl)) rfl ?_)))
   refine WD.branch [12] (by kernel_rfl) rfl (WO.cons rfl ?_ (WO.nil))
   first | refine WL.stA hS (k := 0) rfl (.of rfl) (.of rfl) rfl Tryz.sizeOf101 rfl (by simp) ?_ | refine WL.stA hS (k := 1) rfl (.of rfl) (.of rfl) rfl Tryz.sizeOf101 rfl (by simp) ?_ | refine WL.stA hS (k := 2) rfl (.of rfl) (.of rfl) rfl Tryz.sizeOf101 rfl (by simp) ?_ | refine WL.stA hS (k := 3) rfl (.of rfl) (.of rfl) rfl Tryz.sizeOf101 rfl (by simp) ?_ | refine WL.stA hS (k := 4) rfl (.of rfl) (.of rfl) rfl Tryz.sizeOf101 rfl (by simp) ?_ | refine WL.stA hS (k := 5) rfl (.of rfl) (.of rfl) rfl Tryz.sizeOf101 rfl (by simp) ?_ | refine WL.stA hS (k := 6) rfl (.of rfl) (.of rfl) rfl Tryz.sizeOf101 rfl (by simp) ?_ | refine WL.stA hS (k := 7) rfl (.of rfl) (.of rfl) rfl Tryz.sizeOf101 rfl (by simp) ?_ | refine WL.stA hS (k := 8) rfl (.of rfl) (.of rfl) rfl Tryz.sizeOf101 rfl (by simp) ?_
   clear hS; intro w hS; try dsimp only [List.set] at hS
   try simp only [List.take_zero, List.nil_append, List.append_nil, List.drop_succ_cons, List.drop_zero, List.drop_nil, Nat.zero_add] at hS
   refine .nil ?_
   clear hH
   have hH : ∃ J9 R, Le I J9 ∧ Sat B w J9 (blk b6 (recCells (useW p.ps ω q).1.1) 45 :: blk p.wb (wdC p (useW p.ps ω q).2) 52 :: R) := ⟨_, _, hJ, ((hS.pick 1 rfl).pick 6 rfl)⟩
   refine And.intro (by intro _ _; exact hH) ?_
   refine .takeP (i := 13) rfl (by kernel_rfl) (by kernel_rfl) (by kernel_rfl) (fun w => (.assign (.of rfl))) rfl (.takeP (i := 14) rfl (by kernel_rfl) (by kernel_rfl) (by kernel_rfl) (fun w => (.assign (.of rfl))) rfl (.done (by kernel_rfl) ?_))
   replace hS := Sat.box (T := wdT p (useW p.ps ω q).2) (a2, c2, ma2, mc2) (((((hS.pick 5 rfl).pick 5 rfl).pick 5 rfl).pick 5 rfl).pick 5 rfl)
   try dsimp only [List.eraseIdx] at hS
   exact ⟨(J, b9, ra, rc), ⟨rfl, rfl, rfl, rfl, trivial⟩, hJ, hrc, hRel, (((((hS.drop (k := 4) rfl).pick 3 rfl).pick 3 rfl).pick 2 rfl).pick 3 rfl)⟩
 rintro ⟨J, b9, ra, rc⟩ w ⟨hJ, hrc, hRel, hS⟩
 change WC _ _ _ _ [(0, ptr p.wb 0), (4, ptr b4 0), (6, ptr b6 0), (9, ptr b9 0)] w
 refine .seq ?_
 replace hS := (hS.pick 1 rfl)
 try dsimp only [List.eraseIdx] at hS
 obtain ⟨⟨a2, c2, ma2, mc2⟩, hS⟩ := Sat.unbox hS
 replace hS : Sat B _ _ (blk p.wb (wdC p (useW p.ps ω q).2) 52 :: blk p.tb [I64 (useW p.ps ω q).2.room, .slice a2 (useW p.ps ω q).2.l.length c2] 127 :: Vec 45 10 (.slice a2 (useW p.ps ω q).2.l.length c2) (useW p.ps ω q).2.l.length (rowsR (useW p.ps ω q).2.l) :: blk p.mb [.slice ma2 (useW p.ps ω q).2.D.length mc2] 168 :: VecO 118 (.slice ma2 (useW p.ps ω q).2.D.length mc2) ((useW p.ps ω q).2.D.map fun d => U64 (d : Nat)) :: _) := hS
 have hω2 := useW_ok (ps := p.ps) hω q
 have hlen2 := hω2.len
 have hwf2 := hω2.wf
 have hIJ := hI.mono hJ
 have hat := atU_le hI.att (useW p.ps ω q).1.1.user
 have hrl : (findR p.lo (useW p.ps ω q).1.1.service).1.rel.length ≤ 1000000 := by
  rcases findR_mem p.lo (useW p.ps ω q).1.1.service with e | e
  ·rw [e]; decide
  ·exact hI.rel _ e
 refine .drawn (fun w => ∃ J9 R, Le J J9 ∧ Sat B w J9 (blk b6 (recCells (useW p.ps ω q).1.1) 45 :: blk b9 [I64 (findR p.lo (useW p.ps ω q).1.1.service).1.id, F64 (findR p.lo (useW p.ps ω q).1.1.service).1.ord, S (findR p.lo (useW p.ps ω q).1.1.service).1.urls, .bool (findR p.lo (useW p.ps ω q).1.1.service).1.login, .bool (findR p.lo (useW p.ps ω q).1.1.service).1.proxy, .bool (findR p.lo (useW p.ps ω q).1.1.service).1.back, S (findR p.lo (useW p.ps ω q).1.1.service).1.calls, .slice ra (findR p.lo (useW p.ps ω q).1.1.service).1.rel.length rc] 101 :: blk p.wb (wdC p (useW p.ps ω q).2) 52 :: R)) (fun j => !([].contains j)) (by kernel_rfl) ?_
 replace hS := hS.drew; generalize w.drew = w at hS ⊢
 have hH : ∃ J9 R, Le J J9 ∧ Sat B w J9 (blk b6 (recCells (useW p.ps ω q).1.1) 45 :: blk b9 [I64 (findR p.lo (useW p.ps ω q).1.1.service).1.id, F64 (findR p.lo (useW p.ps ω q).1.1.service).1.ord, S (findR p.lo (useW p.ps ω q).1.1.service).1.urls, .bool (findR p.lo (useW p.ps ω q).1.1.service).1.login, .bool (findR p.lo (useW p.ps ω q).1.1.service).1.proxy, .bool (findR p.lo (useW p.ps ω q).1.1.service).1.back, S (findR p.lo (useW p.ps ω q).1.1.service).1.calls, .slice ra (findR p.lo (useW p.ps ω q).1.1.service).1.rel.length rc] 101 :: blk p.wb (wdC p (useW p.ps ω q).2) 52 :: R) := ⟨_, _, Le.refl _, (((hS.pick 0 rfl).pick 5 rfl).pick 6 rfl)⟩
 refine WD.takeP (i := 0) rfl (by kernel_rfl) (by kernel_rfl) (by kernel_rfl) (fun w => (by first | exact .fieldAddr 3 (.of rfl) Tryz.underlying45 rfl rfl Tryz.sizeOf9 rfl | exact .fieldAddrI 3 (.of rfl) Tryz.underlying45 rfl rfl Tryz.sizeOf9 rfl)) rfl ?_
 refine WD.take (i := 1) rfl (by kernel_rfl) (by kernel_rfl) (by kernel_rfl) (by kernel_rfl) hH (fun w ⟨J9, R, hL9, hS⟩ => (by first | exact (.ld (.of rfl) hS (k := 0) rfl Tryz.isAgg9 rfl) | exact (.ld (.of rfl) hS (k := 1) rfl Tryz.isAgg9 rfl) | exact (.ld (.of rfl) hS (k := 2) rfl Tryz.isAgg9 rfl))) rfl ?_
 refine .takeP (i := 2) rfl (by kernel_rfl) (by kernel_rfl) (by kernel_rfl) (fun w => (.move (.of rfl))) rfl (.takeP (i := 3) rfl (by kernel_rfl) (by kernel_rfl) (by kernel_rfl) (fun w => (.nilCheck (.of rfl))) rfl ?_)
 refine WD.takeP (i := 4) rfl (by kernel_rfl) (by kernel_rfl) (by kernel_rfl) (fun w => (by first | exact .fieldAddr 3 (.of rfl) Tryz.underlying52 rfl rfl Tryz.sizeOf50 rfl | exact .fieldAddrI 3 (.of rfl) Tryz.underlying52 rfl rfl Tryz.sizeOf50 rfl)) rfl ?_
 refine WD.take (i := 5) rfl (by kernel_rfl) (by kernel_rfl) (by kernel_rfl) (by kernel_rfl) hH (fun w ⟨J9, R, hL9, hS⟩ => (by first | exact (.ld (.of rfl) hS (k := 0) rfl Tryz.isAgg50 rfl) | exact (.ld (.of rfl) hS (k := 1) rfl Tryz.isAgg50 rfl) | exact (.ld (.of rfl) hS (k := 2) rfl Tryz.isAgg50 rfl))) rfl ?_
 refine WD.takeP (i := 6) rfl (by kernel_rfl) (by kernel_rfl) (by kernel_rfl) (fun w => (by first | exact .fieldAddr 3 (.of rfl) Tryz.underlying45 rfl rfl Tryz.sizeOf9 rfl | exact .fieldAddrI 3 (.of rfl) Tryz.underlying45 rfl rfl Tryz.sizeOf9 rfl)) rfl ?_
 refine WD.take (i := 7) rfl (by kernel_rfl) (by kernel_rfl) (by kernel_rfl) (by kernel_rfl) hH (fun w ⟨J9, R, hL9, hS⟩ => (by first | exact (.ld (.of rfl) hS (k := 0) rfl Tryz.isAgg9 rfl) | exact (.ld (.of rfl) hS (k := 1) rfl Tryz.isAgg9 rfl) | exact (.ld (.of rfl) hS (k := 2) rfl Tryz.isAgg9 rfl))) rfl ?_
 refine WD.takeP (i := 8) rfl (by kernel_rfl) (by kernel_rfl) (by kernel_rfl) (fun w => (by first | exact .fieldAddr 7 (.of rfl) Tryz.underlying101 rfl rfl Tryz.sizeOf41 rfl | exact .fieldAddrI 7 (.of rfl) Tryz.underlying101 rfl rfl Tryz.sizeOf41 rfl)) rfl ?_
 refine WD.take (i := 9) rfl (by kernel_rfl) (by kernel_rfl) (by kernel_rfl) (by kernel_rfl) hH (fun w ⟨J9, R, hL9, hS⟩ => (by first | exact (.ld (.of rfl) hS (k := 0) rfl Tryz.isAgg41 rfl) | exact (.ld (.of rfl) hS (k := 1) rfl Tryz.isAgg41 rfl) | exact (.ld (.of rfl) hS (k := 2) rfl Tryz.isAgg41 rfl))) rfl ?_
 refine .takeP (i := 11) rfl (by kernel_rfl) (by kernel_rfl) (by kernel_rfl) (fun w => (.move (.of rfl))) rfl ?_
 refine WD.takeP (i := 12) rfl (by kernel_rfl) (by kernel_rfl) (by kernel_rfl) (fun w => (by first | exact .fieldAddr 1 (.of rfl) Tryz.underlying45 rfl rfl Tryz.sizeOf9 rfl | exact .fieldAddrI 1 (.of rfl) Tryz.underlying45 rfl rfl Tryz.sizeOf9 rfl)) rfl ?_
 refine WD.take (i := 13) rfl (by kernel_rfl) (by kernel_rfl) (by kernel_rfl) (by kernel_rfl) hH (fun w ⟨J9, R, hL9, hS⟩ => (by first | exact (.ld (.of rfl) hS (k := 0) rfl Tryz.isAgg9 rfl) | exact (.ld (.of rfl) hS (k := 1) rfl Tryz.isAgg9 rfl) | exact (.ld (.of rfl) hS (k := 2) rfl Tryz.isAgg9 rfl))) rfl ?_
 refine WD.branch [10] (by kernel_rfl) rfl (WO.cons rfl ?_ (WO.nil))
 refine WL.call Tryz.func64 rfl (evs_cons (.of rfl) (evs_cons (.of rfl) (evs_cons (.of rfl) evs_nil))) rfl (uAttrs_any p.ub p.us hI.fit (useW p.ps ω q).1.1.user hat ra rc _ hrl B _ _ (by first | exact hIJ.tab | exact hIJ.tab.mono hJp) (by first | exact hRel | exact hRel.mono hJp) _ hS) ?_
 clear hS
 rintro _ w ⟨Ja, ka, kc, rfl, hJa, hkc, hRa, hS⟩
 refine .nil ?_
 clear hH
 have hH : ∃ J9 R, Le J J9 ∧ Sat B w J9 (blk b6 (recCells (useW p.ps ω q).1.1) 45 :: blk b9 [I64 (findR p.lo (useW p.ps ω q).1.1.service).1.id, F64 (findR p.lo (useW p.ps ω q).1.1.service).1.ord, S (findR p.lo (useW p.ps ω q).1.1.service).1.urls, .bool (findR p.lo (useW p.ps ω q).1.1.service).1.login, .bool (findR p.lo (useW p.ps ω q).1.1.service).1.proxy, .bool (findR p.lo (useW p.ps ω q).1.1.service).1.back, S (findR p.lo (useW p.ps ω q).1.1.service).1.calls, .slice ra (findR p.lo (useW p.ps ω q).1.1.service).1.rel.length rc] 101 :: blk p.wb (wdC p (useW p.ps ω q).2) 52 :: R) := ⟨_, _, (by first | exact Le.refl _ | exact hJa | exact hJp | exact hJa.trans hJp | exact hJp.trans hJa), (((hS.pick 0 rfl).pick 5 rfl).pick 6 rfl)⟩
 refine And.intro (by intro _ _; exact hH) ?_
 refine WD.branch [14] (by kernel_rfl) rfl (WO.cons rfl ?_ (WO.nil))
 refine .call Tryz.func31 rfl (evs_cons (.of rfl) (evs_cons (.of rfl) evs_nil)) rfl (Proxies_any p (useW p.ps ω q).2 a2 c2 hlen2 hwf2 (useW p.ps ω q).1.1.name B _ _ _ (((hS.pick 2 rfl).pick 2 rfl).pick 2 rfl)) ?_
 clear hS
 rintro _ w ⟨Jp, pa, pc, rfl, hJp, hpc, hRp, hS⟩
 try dsimp only [List.eraseIdx] at hS
 refine .nil ?_
 clear hH
 have hH : ∃ J9 R, Le J J9 ∧ Sat B w J9 (blk b6 (recCells (useW p.ps ω q).1.1) 45 :: blk b9 [I64 (findR p.lo (useW p.ps ω q).1.1.service).1.id, F64 (findR p.lo (useW p.ps ω q).1.1.service).1.ord, S (findR p.lo (useW p.ps ω q).1.1.service).1.urls, .bool (findR p.lo (useW p.ps ω q).1.1.service).1.login, .bool (findR p.lo (useW p.ps ω q).1.1.service).1.proxy, .bool (findR p.lo (useW p.ps ω q).1.1.service).1.back, S (findR p.lo (useW p.ps ω q).1.1.service).1.calls, .slice ra (findR p.lo (useW p.ps ω q).1.1.service).1.rel.length rc] 101 :: blk p.wb (wdC p (useW p.ps ω q).2) 52 :: R) := ⟨_, _, (by first | exact Le.refl _ | exact hJa | exact hJp | exact hJa.trans hJp | exact hJp.trans hJa), (((hS.pick 0 rfl).pick 5 rfl).pick 6 rfl)⟩
 refine And.intro (by intro _ _; exact hH) ?_
 refine .takeP (i := 15) rfl (by kernel_rfl) (by kernel_rfl) (by kernel_rfl) (fun w => (.build (cs := [_, _, _, _]) (parts_cons (.of rfl) (parts_cons (.of rfl) (parts_cons (.of rfl) parts_nil))) bld56_58 rfl)) rfl ?_
 refine WD.branch [16] (by kernel_rfl) rfl (WO.cons rfl ?_ (WO.nil))
 first | refine WL.stA hS (k := 0) rfl (.of rfl) (.of rfl) rfl Tryz.sizeOf56 rfl (by simp) ?_ | refine WL.stA hS (k := 1) rfl (.of rfl) (.of rfl) rfl Tryz.sizeOf56 rfl (by simp) ?_ | refine WL.stA hS (k := 2) rfl (.of rfl) (.of rfl) rfl Tryz.sizeOf56 rfl (by simp) ?_ | refine WL.stA hS (k := 3) rfl (.of rfl) (.of rfl) rfl Tryz.sizeOf56 rfl (by simp) ?_ | refine WL.stA hS (k := 4) rfl (.of rfl) (.of rfl) rfl Tryz.sizeOf56 rfl (by simp) ?_ | refine WL.stA hS (k := 5) rfl (.of rfl) (.of rfl) rfl Tryz.sizeOf56 rfl (by simp) ?_ | refine WL.stA hS (k := 6) rfl (.of rfl) (.of rfl) rfl Tryz.sizeOf56 rfl (by simp) ?_ | refine WL.stA hS (k := 7) rfl (.of rfl) (.of rfl) rfl Tryz.sizeOf56 rfl (by simp) ?_
 clear hS; intro w hS; try dsimp only [List.set] at hS
 try simp only [List.take_zero, List.nil_append, List.append_nil, List.drop_succ_cons, List.drop_zero, List.drop_nil, Nat.zero_add] at hS
 refine .nil ?_
 clear hH
 have hH : ∃ J9 R, Le J J9 ∧ Sat B w J9 (blk b6 (recCells (useW p.ps ω q).1.1) 45 :: blk b9 [I64 (findR p.lo (useW p.ps ω q).1.1.service).1.id, F64 (findR p.lo (useW p.ps ω q).1.1.service).1.ord, S (findR p.lo (useW p.ps ω q).1.1.service).1.urls, .bool (findR p.lo (useW p.ps ω q).1.1.service).1.login, .bool (findR p.lo (useW p.ps ω q).1.1.service).1.proxy, .bool (findR p.lo (useW p.ps ω q).1.1.service).1.back, S (findR p.lo (useW p.ps ω q).1.1.service).1.calls, .slice ra (findR p.lo (useW p.ps ω q).1.1.service).1.rel.length rc] 101 :: blk p.wb (wdC p (useW p.ps ω q).2) 52 :: R) := ⟨_, _, (by first | exact Le.refl _ | exact hJa | exact hJp | exact hJa.trans hJp | exact hJp.trans hJa), (((hS.pick 0 rfl).pick 5 rfl).pick 6 rfl)⟩
 refine And.intro (by intro _ _; exact hH) ?_
 refine .takeP (i := 17) rfl (by kernel_rfl) (by kernel_rfl) (by kernel_rfl) (fun w => (.assign (.of rfl))) rfl (.done (by kernel_rfl) (.ret ?_))
 first | refine ret2c (b := _) (cs := [_, _, _, _]) Tryz.results18 hS (k := 0) rfl Tryz.isAgg56 Tryz.sizeOf56 rfl rfl rfl ?_ | refine ret2c (b := _) (cs := [_, _, _, _]) Tryz.results18 hS (k := 1) rfl Tryz.isAgg56 Tryz.sizeOf56 rfl rfl rfl ?_ | refine ret2c (b := _) (cs := [_, _, _, _]) Tryz.results18 hS (k := 2) rfl Tryz.isAgg56 Tryz.sizeOf56 rfl rfl rfl ?_ | refine ret2c (b := _) (cs := [_, _, _, _]) Tryz.results18 hS (k := 3) rfl Tryz.isAgg56 Tryz.sizeOf56 rfl rfl rfl ?_ | refine ret2c (b := _) (cs := [_, _, _, _]) Tryz.results18 hS (k := 4) rfl Tryz.isAgg56 Tryz.sizeOf56 rfl rfl rfl ?_ | refine ret2c (b := _) (cs := [_, _, _, _]) Tryz.results18 hS (k := 5) rfl Tryz.isAgg56 Tryz.sizeOf56 rfl rfl rfl ?_ | refine ret2c (b := _) (cs := [_, _, _, _]) Tryz.results18 hS (k := 6) rfl Tryz.isAgg56 Tryz.sizeOf56 rfl rfl rfl ?_ | refine ret2c (b := _) (cs := [_, _, _, _]) Tryz.results18 hS (k := 7) rfl Tryz.isAgg56 Tryz.sizeOf56 rfl rfl rfl ?_
 replace hS := Sat.box (T := wdT p (useW p.ps ω q).2) (a2, c2, ma2, mc2) (((((hS.pick 4 rfl).pick 4 rfl).pick 4 rfl).pick 4 rfl).pick 4 rfl)
 try dsimp only [List.eraseIdx] at hS
 have hE : checkE p.ps ω q = 0 := by rw [checkE, if_neg (show ¬ (useW p.ps ω q).1.2 ≠ 0 from by simpa using hb19), if_neg (by rw [hb28]; decide), if_neg (by rw [hb38]; decide)]
 have hX : checkW p.lo p.us p.ps ω q = ⟨(useW p.ps ω q).1.1.user, attrsU p.us (useW p.ps ω q).1.1.user (findR p.lo (useW p.ps ω q).1.1.service).1.rel, proxiesT (useW p.ps ω q).2.l (useW p.ps ω q).1.1.name, []⟩ := if_neg (by rw [hE]; decide)
 rw [hE, hX]
 refine ⟨_, rfl, _, _, ?_, rfl, ⟨ka, kc, pa, pc, rfl, hkc, ?_, hpc, ?_⟩, (((hS.drop (k := 1) rfl).drop (k := 1) rfl).drop (k := 1) rfl)⟩
 ·first | exact (hJ.trans hJa).trans hJp | exact (hJ.trans hJp).trans hJa
 ·first | exact hRa | exact hRa.mono hJp
 ·first | exact hRp | exact hRp.mono hJa
end Go.Proofs.YtadhiihnnkcagaaGreatDoor
namespace Go.Proofs.YtadhiihnnkcagaaGreatDoor
open Gk Ul Pc Tk Tr
set_option linter.unusedVariables false
set_option linter.unusedSimpArgs false
theorem Ex.sub3U {P : Program} {n : Nat} {L : Env} {w : World} {d : Option Nat} {ty t : TypeId} {pos : String} {af : Array Edge} {g : Option (Nat × Bool)} {x y z : Operand} {l : List UInt8} {i j : Int} (hx : Ev n L x (S l)) (hy : Ev n L y (U64 i)) (hz : Ev n L z (U64 j)) (h0 : 0 ≤ i) (h1 : i ≤ j) (h2 : j ≤ (l.length : Int)) (hT : P.underlying t = some .string) :
  Ex P n L w ⟨d, .slice t x (some y) (some z) none, ty, pos, af, g⟩ (S ((l.drop i.toNat).take (j.toNat - i.toNat))) w := fun a ha => by
 have h := run_slice_string (P := P) w t ⟨l.toArray⟩ .u64 .u64 i j hT h0 h1 h2
 rw [sub_str] at h
 simp [execOp, hx a ha, hy a ha, hz a ha, run_sliceAt_string w t _ _ _ _ hT, h]
def fewRec (r : Rec) : Bool := (((decide ((r.name.length : Int) ≤ 60) && decide ((r.parent.length : Int) ≤ 60)) && decide ((r.user.length : Int) ≤ 120)) && decide ((r.service.length : Int) ≤ 120)) && decide ((r.url.length : Int) ≤ 120)
def bigP (y : Pr) : Bool := decide ((80 : Int) < (y.1.length : Int)) || decide ((80 : Int) < (y.2.length : Int))
def bigU (u : Us) : Bool := (decide ((20 : Int) < (u.attrs.length : Int)) || decide ((80 : Int) < (u.name.length : Int))) || decide ((80 : Int) < (u.pw.length : Int))
def fewU1 (u : Us) : Bool := !bigU u && u.attrs.all fun y => !bigP y
def fewU (l : List Us) : Bool := l.all fewU1 && decide ((l.length : Int) ≤ 20)
def fewC (c : Cf) : Bool := few c.svs && fewU c.us
theorem rs_at {α : Type} {cells : α → List Value} {s : Nat} (hc : ∀ x, (cells x).length = s) {I : Im} {a : Option Addr} {l : List α} (hR : RS I a s l.length (rowsC cells l)) {i : Nat} {x : α} (hx : l[i]? = some x) : ∃ q, a = some q ∧ At I (q.add (i * s)) (cells x) := by
 obtain ⟨q, rfl, hq⟩ := hR.2 (by have := (List.getElem?_eq_some_iff.1 hx).1; omega)
 refine ⟨q, rfl, ?_⟩
 have h3 := at_take (hq.add (i * s)) s
 rw [rowsC, flat_piece (l.map cells) (fun c h => by obtain ⟨y, _, rfl⟩ := List.mem_map.1 h; exact hc y) i (cells x) (by rw [List.getElem?_map, hx]; rfl)] at h3
 exact h3
theorem fewRec_any (r : Rec) (B w : World) (I : Im) (As : List Assn) (hS : Sat B w I As) :
  Calls Tryz.prog 59 [.agg (recCells r).toArray].toArray w (Ret fun v w' => v = .bool (fewRec r) ∧ Sat B w' I As) := by
 refine calls Tryz.func59 rfl Tryz.ntmps59 rfl (.seq (.region (.boxA (cs := [_, _, _, _, _, _, _, _, _, _]) hS (.of rfl) rfl ?_)))
 clear hS; intro b1 w hS
 refine .run 1 rfl trivial (.nil (.seq (.region ?_)))
 first | refine WL.val (.fieldAddr 1 (.of rfl) Tryz.underlying45 rfl rfl Tryz.sizeOf9 rfl) rfl ?_ | refine WL.val (.fieldAddrI 1 (.of rfl) Tryz.underlying45 rfl rfl Tryz.sizeOf9 rfl) rfl ?_
 first | refine WL.val (.ld (.of rfl) hS (k := 0) rfl Tryz.isAgg9 rfl) rfl ?_ | refine WL.val (.ld (.of rfl) hS (k := 1) rfl Tryz.isAgg9 rfl) rfl ?_
 refine .run 3 rfl ⟨Tryz.underlying9, trivial⟩ ?_
 refine WL.gval rfl rfl (fun hg1 => (by first | exact .fieldAddr 2 (.of rfl) Tryz.underlying45 rfl rfl Tryz.sizeOf9 rfl | exact .fieldAddrI 2 (.of rfl) Tryz.underlying45 rfl rfl Tryz.sizeOf9 rfl)) rfl ?_
 refine WL.gval rfl rfl (fun hg1 => (by first | exact (.ld (.gd hg1 rfl) hS (k := 0) rfl Tryz.isAgg9 rfl) | exact (.ld (.gd hg1 rfl) hS (k := 1) rfl Tryz.isAgg9 rfl))) rfl ?_
 refine .gval rfl rfl (fun hg1 => (.len (.gd hg1 rfl) Tryz.underlying9)) rfl (.gval rfl rfl (fun hg1 => (.leq (.gd hg1 rfl) (.of rfl))) rfl (.val (.pand (.of rfl) (.of rfl) (.of rfl)) rfl (.run 1 rfl trivial ?_)))
 refine WL.gval rfl rfl (fun hg1 => (by first | exact .fieldAddr 3 (.of rfl) Tryz.underlying45 rfl rfl Tryz.sizeOf9 rfl | exact .fieldAddrI 3 (.of rfl) Tryz.underlying45 rfl rfl Tryz.sizeOf9 rfl)) rfl ?_
 refine WL.gval rfl rfl (fun hg1 => (by first | exact (.ld (.gd hg1 rfl) hS (k := 0) rfl Tryz.isAgg9 rfl) | exact (.ld (.gd hg1 rfl) hS (k := 1) rfl Tryz.isAgg9 rfl))) rfl ?_
 refine .gval rfl rfl (fun hg1 => (.len (.gd hg1 rfl) Tryz.underlying9)) rfl (.gval rfl rfl (fun hg1 => (.leq (.gd hg1 rfl) (.of rfl))) rfl (.val (.pand (.of rfl) (.of rfl) (.of rfl)) rfl (.run 1 rfl trivial ?_)))
 refine WL.gval rfl rfl (fun hg1 => (by first | exact .fieldAddr 4 (.of rfl) Tryz.underlying45 rfl rfl Tryz.sizeOf9 rfl | exact .fieldAddrI 4 (.of rfl) Tryz.underlying45 rfl rfl Tryz.sizeOf9 rfl)) rfl ?_
 refine WL.gval rfl rfl (fun hg1 => (by first | exact (.ld (.gd hg1 rfl) hS (k := 0) rfl Tryz.isAgg9 rfl) | exact (.ld (.gd hg1 rfl) hS (k := 1) rfl Tryz.isAgg9 rfl))) rfl ?_
 refine .gval rfl rfl (fun hg1 => (.len (.gd hg1 rfl) Tryz.underlying9)) rfl (.gval rfl rfl (fun hg1 => (.leq (.gd hg1 rfl) (.of rfl))) rfl (.val (.pand (.of rfl) (.of rfl) (.of rfl)) rfl (.run 1 rfl trivial ?_)))
 refine WL.gval rfl rfl (fun hg1 => (by first | exact .fieldAddr 5 (.of rfl) Tryz.underlying45 rfl rfl Tryz.sizeOf9 rfl | exact .fieldAddrI 5 (.of rfl) Tryz.underlying45 rfl rfl Tryz.sizeOf9 rfl)) rfl ?_
 refine WL.gval rfl rfl (fun hg1 => (by first | exact (.ld (.gd hg1 rfl) hS (k := 0) rfl Tryz.isAgg9 rfl) | exact (.ld (.gd hg1 rfl) hS (k := 1) rfl Tryz.isAgg9 rfl))) rfl ?_
 refine .gval rfl rfl (fun hg1 => (.len (.gd hg1 rfl) Tryz.underlying9)) rfl (.gval rfl rfl (fun hg1 => (.leq (.gd hg1 rfl) (.of rfl))) rfl (.val (.pand (.of rfl) (.of rfl) (.of rfl)) rfl (.run 1 rfl trivial (.nil (.ret (ret1 Tryz.results59 rfl ?_))))))
 exact ⟨_, rfl, rfl, hS.drop (k := 0) rfl⟩
theorem fewU_any (a : Option Addr) (cap : Nat) (l : List Us) (hln : l.length ≤ 9223372036854775807) (hfit : ∀ u ∈ l, u.fits) (B w : World) (I : Im) (hU : UsrsAt I a l) (As : List Assn) (hS : Sat B w I As) :
  Calls Tryz.prog 108 [.slice a l.length cap].toArray w (Ret fun v w' => v = .bool (fewU l) ∧ Sat B w' I As) := by
 refine calls Tryz.func108 rfl Tryz.ntmps108 rfl (.seq (.region (.run 1 rfl trivial (.nil (.seq (.seq (.region (.run 1 rfl trivial (.nil (.block (.loop (σ := Nat) (fun i => [(0, .slice a l.length cap), (3, I64 (i : Nat))]) (fun i w => i ≤ l.length ∧ (∀ (j : Nat) u, j < i → l[j]? = some u → fewU1 u = true) ∧ Sat B w I As) (fun i => l.length - i) 0 ⟨rfl, rfl, trivial⟩ ⟨Nat.zero_le _, fun _ _ h => absurd h (by omega), hS⟩ ?_)))))))))))
 rintro i w ⟨hi, hno, hS⟩
 change WC _ _ _ _ [(0, .slice a l.length cap), (3, I64 (i : Nat))] w
 refine .seq (.seq (.region (.run 4 rfl ⟨⟨_, Tryz.underlying28⟩, trivial⟩ (.nil ?_))))
 refine WC.cond rfl (fun hb8 => ?_) (fun hb8 => ?_)
 ·
  have hc8 := hb8; try simp only [Gk.cs0] at hc8
  refine .skip (.seq (.block (.seq (.seq ?_))))
  obtain ⟨u, hu⟩ : ∃ u, l[i]? = some u := ⟨_, List.getElem?_eq_getElem (by omega)⟩
  obtain ⟨p, ra, rc, hap, hx, hrc, hRR⟩ := hU i u hu
  have hfu := (hfit u (List.mem_of_getElem? hu)).attrs.1
  subst hap
  unfold usCells at hx
  refine .region (.run 2 rfl trivial ?_)
  first | refine WL.val (.indexAddr (.of rfl) (.of rfl) (by omega) (by omega) Tryz.underlying28 Tryz.sizeOf67) rfl ?_ | refine WL.val (.indexAddrI (.of rfl) (.of rfl) (by omega) (by omega) Tryz.underlying28 Tryz.sizeOf67) rfl ?_
  first | refine WL.val (.fieldAddr 2 (.of rfl) Tryz.underlying67 rfl rfl Tryz.sizeOf54 rfl) rfl ?_ | refine WL.val (.fieldAddrI 2 (.of rfl) Tryz.underlying67 rfl rfl Tryz.sizeOf54 rfl) rfl ?_
  first | refine WL.val (.ldI (.of rfl) hS (At.add hx _) Tryz.isAgg54 rfl) rfl ?_ | refine WL.val (.ldI (.of rfl) hS (At.add hy _) Tryz.isAgg54 rfl) rfl ?_
  refine .run 3 rfl ⟨⟨_, Tryz.underlying54⟩, trivial⟩ (.gval rfl rfl (fun hg1 => (.move (.of rfl))) rfl (.gval rfl rfl (fun hg1 => (.move (.of rfl))) rfl ?_))
  refine WL.gval rfl rfl (fun hg1 => (by first | exact .indexAddr (.gd hg1 rfl) (.gd hg1 rfl) (by (try simp only [Gk.cs0] at hg1); omega) (by (try simp only [Gk.cs0] at hg1); omega) Tryz.underlying28 Tryz.sizeOf67 | exact .indexAddrI (.gd hg1 rfl) (.gd hg1 rfl) (by (try simp only [Gk.cs0] at hg1); omega) (by (try simp only [Gk.cs0] at hg1); omega) Tryz.underlying28 Tryz.sizeOf67)) rfl ?_
  refine WL.gval rfl rfl (fun hg1 => (by first | exact .fieldAddr 0 (.gd hg1 rfl) Tryz.underlying67 rfl rfl Tryz.sizeOf9 rfl | exact .fieldAddrI 0 (.gd hg1 rfl) Tryz.underlying67 rfl rfl Tryz.sizeOf9 rfl)) rfl ?_
  refine WL.gval rfl rfl (fun hg1 => (by first | exact (.ldI (.gd hg1 rfl) hS (At.add hx _) Tryz.isAgg9 rfl) | exact (.ldI (.gd hg1 rfl) hS (At.add hy _) Tryz.isAgg9 rfl))) rfl ?_
  refine .gval rfl rfl (fun hg1 => (.len (.gd hg1 rfl) Tryz.underlying9)) rfl (.gval rfl rfl (fun hg1 => (.gtr (.gd hg1 rfl) (.of rfl))) rfl (.val (.por (.of rfl) (.of rfl) (.of rfl)) rfl (.run 1 rfl trivial (.gval rfl rfl (fun hg1 => (.move (.of rfl))) rfl (.gval rfl rfl (fun hg1 => (.move (.of rfl))) rfl ?_)))))
  refine WL.gval rfl rfl (fun hg1 => (by first | exact .indexAddr (.gd hg1 rfl) (.gd hg1 rfl) (by (try simp only [Gk.cs0] at hg1); omega) (by (try simp only [Gk.cs0] at hg1); omega) Tryz.underlying28 Tryz.sizeOf67 | exact .indexAddrI (.gd hg1 rfl) (.gd hg1 rfl) (by (try simp only [Gk.cs0] at hg1); omega) (by (try simp only [Gk.cs0] at hg1); omega) Tryz.underlying28 Tryz.sizeOf67)) rfl ?_
  refine WL.gval rfl rfl (fun hg1 => (by first | exact .fieldAddr 1 (.gd hg1 rfl) Tryz.underlying67 rfl rfl Tryz.sizeOf9 rfl | exact .fieldAddrI 1 (.gd hg1 rfl) Tryz.underlying67 rfl rfl Tryz.sizeOf9 rfl)) rfl ?_
  refine WL.gval rfl rfl (fun hg1 => (by first | exact (.ldI (.gd hg1 rfl) hS (At.add hx _) Tryz.isAgg9 rfl) | exact (.ldI (.gd hg1 rfl) hS (At.add hy _) Tryz.isAgg9 rfl))) rfl ?_
  refine .gval rfl rfl (fun hg1 => (.len (.gd hg1 rfl) Tryz.underlying9)) rfl (.gval rfl rfl (fun hg1 => (.gtr (.gd hg1 rfl) (.of rfl))) rfl (.val (.por (.of rfl) (.of rfl) (.of rfl)) rfl (.nil ?_)))
  refine WC.cond rfl (fun hb35 => ?_) (fun hb35 => ?_)
  ·
   have hc35 := hb35; try simp only [Gk.cs0] at hc35
   refine .seq (.region (.run 1 rfl trivial (.nil (.ret (ret1 Tryz.results108 rfl ?_)))))
   refine ⟨_, rfl, congrArg Value.bool ?_, hS⟩
   have : l.all fewU1 = false := List.all_eq_false.2 ⟨u, List.mem_of_getElem? hu, by
    rw [fewU1, show bigU u = true from hb35, Bool.not_true, Bool.false_and]; decide⟩
   rw [fewU, this]; rfl
  have hc35 := hb35; try simp only [Gk.cs0] at hc35
  refine .skip (.seq (.region (.run 1 rfl trivial (.nil (.block (.loop (σ := Nat) (fun k => [(0, .slice (some p) l.length cap), (3, I64 (i : Nat)), (4, I64 (k : Nat))]) (fun k w => k ≤ u.attrs.length ∧ (∀ (j : Nat) y, j < k → u.attrs[j]? = some y → bigP y = false) ∧ Sat B w I As) (fun k => u.attrs.length - k) 0 ⟨rfl, rfl, rfl, trivial⟩ ⟨Nat.zero_le _, fun _ _ h => absurd h (by omega), hS⟩ ?_))))))
  rintro k w ⟨hk, hny, hS⟩
  change WC _ _ _ _ [(0, .slice (some p) l.length cap), (3, I64 (i : Nat)), (4, I64 (k : Nat))] w
  refine .seq (.seq (.region (.run 3 rfl trivial ?_)))
  first | refine WL.val (.indexAddr (.of rfl) (.of rfl) (by omega) (by omega) Tryz.underlying28 Tryz.sizeOf67) rfl ?_ | refine WL.val (.indexAddrI (.of rfl) (.of rfl) (by omega) (by omega) Tryz.underlying28 Tryz.sizeOf67) rfl ?_
  first | refine WL.val (.fieldAddr 2 (.of rfl) Tryz.underlying67 rfl rfl Tryz.sizeOf54 rfl) rfl ?_ | refine WL.val (.fieldAddrI 2 (.of rfl) Tryz.underlying67 rfl rfl Tryz.sizeOf54 rfl) rfl ?_
  first | refine WL.val (.ldI (.of rfl) hS (At.add hx _) Tryz.isAgg54 rfl) rfl ?_ | refine WL.val (.ldI (.of rfl) hS (At.add hy _) Tryz.isAgg54 rfl) rfl ?_
  refine .run 2 rfl ⟨⟨_, Tryz.underlying54⟩, trivial⟩ (.nil ?_)
  refine WC.cond rfl (fun hb43 => ?_) (fun hb43 => ?_)
  ·
   have hc43 := hb43; try simp only [Gk.cs0] at hc43
   refine .skip (.seq (.block (.seq ?_)))
   obtain ⟨y, hy0⟩ : ∃ y, u.attrs[k]? = some y := ⟨_, List.getElem?_eq_getElem (by omega)⟩
   obtain ⟨q, hq9, hy⟩ := rs_at (cells := prCells) (s := 2) (fun _ => rfl) hRR hy0
   subst hq9
   unfold prCells at hy
   refine .region (.run 2 rfl trivial ?_)
   first | refine WL.val (.indexAddr (.of rfl) (.of rfl) (by omega) (by omega) Tryz.underlying28 Tryz.sizeOf67) rfl ?_ | refine WL.val (.indexAddrI (.of rfl) (.of rfl) (by omega) (by omega) Tryz.underlying28 Tryz.sizeOf67) rfl ?_
   first | refine WL.val (.fieldAddr 2 (.of rfl) Tryz.underlying67 rfl rfl Tryz.sizeOf54 rfl) rfl ?_ | refine WL.val (.fieldAddrI 2 (.of rfl) Tryz.underlying67 rfl rfl Tryz.sizeOf54 rfl) rfl ?_
   first | refine WL.val (.ldI (.of rfl) hS (At.add hx _) Tryz.isAgg54 rfl) rfl ?_ | refine WL.val (.ldI (.of rfl) hS (At.add hy _) Tryz.isAgg54 rfl) rfl ?_
   refine .run 1 rfl trivial ?_
   first | refine WL.val (.indexAddr (.of rfl) (.of rfl) (by omega) (by omega) Tryz.underlying54 Tryz.sizeOf69) rfl ?_ | refine WL.val (.indexAddrI (.of rfl) (.of rfl) (by omega) (by omega) Tryz.underlying54 Tryz.sizeOf69) rfl ?_
   first | refine WL.val (.fieldAddr 0 (.of rfl) Tryz.underlying69 rfl rfl Tryz.sizeOf9 rfl) rfl ?_ | refine WL.val (.fieldAddrI 0 (.of rfl) Tryz.underlying69 rfl rfl Tryz.sizeOf9 rfl) rfl ?_
   first | refine WL.val (.ldI (.of rfl) hS (At.add hx _) Tryz.isAgg9 rfl) rfl ?_ | refine WL.val (.ldI (.of rfl) hS (At.add hy _) Tryz.isAgg9 rfl) rfl ?_
   refine .run 3 rfl ⟨Tryz.underlying9, trivial⟩ (.gval rfl rfl (fun hg1 => (.move (.of rfl))) rfl (.gval rfl rfl (fun hg1 => (.move (.of rfl))) rfl ?_))
   refine WL.gval rfl rfl (fun hg1 => (by first | exact .indexAddr (.gd hg1 rfl) (.gd hg1 rfl) (by (try simp only [Gk.cs0] at hg1); omega) (by (try simp only [Gk.cs0] at hg1); omega) Tryz.underlying28 Tryz.sizeOf67 | exact .indexAddrI (.gd hg1 rfl) (.gd hg1 rfl) (by (try simp only [Gk.cs0] at hg1); omega) (by (try simp only [Gk.cs0] at hg1); omega) Tryz.underlying28 Tryz.sizeOf67)) rfl ?_
   refine WL.gval rfl rfl (fun hg1 => (by first | exact .fieldAddr 2 (.gd hg1 rfl) Tryz.underlying67 rfl rfl Tryz.sizeOf54 rfl | exact .fieldAddrI 2 (.gd hg1 rfl) Tryz.underlying67 rfl rfl Tryz.sizeOf54 rfl)) rfl ?_
   refine WL.gval rfl rfl (fun hg1 => (by first | exact (.ldI (.gd hg1 rfl) hS (At.add hx _) Tryz.isAgg54 rfl) | exact (.ldI (.gd hg1 rfl) hS (At.add hy _) Tryz.isAgg54 rfl))) rfl ?_
   refine .gval rfl rfl (fun hg1 => (.move (.of rfl))) rfl ?_
   refine WL.gval rfl rfl (fun hg1 => (by first | exact .indexAddr (.gd hg1 rfl) (.gd hg1 rfl) (by (try simp only [Gk.cs0] at hg1); omega) (by (try simp only [Gk.cs0] at hg1); omega) Tryz.underlying54 Tryz.sizeOf69 | exact .indexAddrI (.gd hg1 rfl) (.gd hg1 rfl) (by (try simp only [Gk.cs0] at hg1); omega) (by (try simp only [Gk.cs0] at hg1); omega) Tryz.underlying54 Tryz.sizeOf69)) rfl ?_
   refine WL.gval rfl rfl (fun hg1 => (by first | exact .fieldAddr 1 (.gd hg1 rfl) Tryz.underlying69 rfl rfl Tryz.sizeOf9 rfl | exact .fieldAddrI 1 (.gd hg1 rfl) Tryz.underlying69 rfl rfl Tryz.sizeOf9 rfl)) rfl ?_
   refine WL.gval rfl rfl (fun hg1 => (by first | exact (.ldI (.gd hg1 rfl) hS (At.add hx _) Tryz.isAgg9 rfl) | exact (.ldI (.gd hg1 rfl) hS (At.add hy _) Tryz.isAgg9 rfl))) rfl ?_
   refine .gval rfl rfl (fun hg1 => (.len (.gd hg1 rfl) Tryz.underlying9)) rfl (.gval rfl rfl (fun hg1 => (.gtr (.gd hg1 rfl) (.of rfl))) rfl (.val (.por (.of rfl) (.of rfl) (.of rfl)) rfl (.nil ?_)))
   refine WC.cond rfl (fun hb69 => ?_) (fun hb69 => ?_)
   ·
    have hc69 := hb69; try simp only [Gk.cs0] at hc69
    refine .seq (.region (.run 1 rfl trivial (.nil (.ret (ret1 Tryz.results108 rfl ?_)))))
    refine ⟨_, rfl, congrArg Value.bool ?_, hS⟩
    have : l.all fewU1 = false := List.all_eq_false.2 ⟨u, List.mem_of_getElem? hu, by
     have : u.attrs.all (fun y => !bigP y) = false := List.all_eq_false.2 ⟨y, List.mem_of_getElem? hy0, by
      rw [show bigP y = true from hb69]; decide⟩
     rw [fewU1, this, Bool.and_false]; decide⟩
    rw [fewU, this]; rfl
   have hc69 := hb69; try simp only [Gk.cs0] at hc69
   refine .skip (.region (.run 3 rfl ⟨⟨by omega, by omega⟩, trivial⟩ (.nil ?_)))
   refine ⟨k + 1, ⟨rfl, rfl, rfl, trivial⟩, ⟨by (try dsimp only); omega, fun j t hj ht => ?_, hS⟩, by (try dsimp only); omega⟩
   rcases Nat.lt_or_ge j k with h1 | h1
   ·exact hny j t h1 ht
   ·have e : j = k := by omega
    subst e
    rw [hy0] at ht; cases ht
    exact hb69
  have hc43 := hb43; try simp only [Gk.cs0] at hc43
  refine .exit (.region (.run 3 rfl ⟨⟨by omega, by omega⟩, trivial⟩ (.nil ?_)))
  refine ⟨i + 1, ⟨rfl, rfl, trivial⟩, ⟨by (try dsimp only); omega, fun j t hj ht => ?_, hS⟩, by (try dsimp only); omega⟩
  rcases Nat.lt_or_ge j i with h1 | h1
  ·exact hno j t h1 ht
  ·have e : j = i := by omega
   subst e
   rw [hu] at ht; cases ht
   have e1 : bigU u = false := hb35
   rw [fewU1, e1, Bool.not_false, Bool.true_and, List.all_eq_true]
   intro y hy
   obtain ⟨q, hq⟩ := List.mem_iff_getElem?.1 hy
   have := (List.getElem?_eq_some_iff.1 hq).1
   rw [hny q y (by omega) hq]; rfl
 have hc8 := hb8; try simp only [Gk.cs0] at hc8
 refine .exit (.seq (.region (.run 4 rfl ⟨⟨_, Tryz.underlying28⟩, trivial⟩ (.nil (.ret (ret1 Tryz.results108 rfl ?_))))))
 refine ⟨_, rfl, congrArg Value.bool ?_, hS⟩
 have : l.all fewU1 = true := by
  rw [List.all_eq_true]
  intro u hu
  obtain ⟨q, hq⟩ := List.mem_iff_getElem?.1 hu
  have := (List.getElem?_eq_some_iff.1 hq).1
  exact hno q u (by omega) hq
 rw [fewU, this, Bool.true_and]
set_option maxRecDepth 20000 in
theorem fewC_any (c : Cf) (a : Option Addr) (cap : Nat) (ua : Option Addr) (ucap : Nat) (hcap : c.svs.length ≤ cap) (hcm : cap ≤ maxLen) (hun : c.us.length ≤ 9223372036854775807) (hfit : ∀ u ∈ c.us, u.fits) (B w : World) (I : Im) (hl : SvsAt I a c.svs) (hU : UsrsAt I ua c.us) (As : List Assn) (hS : Sat B w I As) :
  Calls Tryz.prog 60 [.agg (cfCells c a cap ua ucap).toArray].toArray w (Ret fun v w' => v = .bool (fewC c) ∧ Sat B w' I As) := by
 refine calls Tryz.func60 rfl Tryz.ntmps60 rfl (.seq (.region (.boxA (cs := [_, _, _, _, _, _, _, _, _, _, _, _, _, _, _, _, _, _, _, _, _, _, _, _, _, _, _, _]) hS (.of rfl) rfl ?_)))
 clear hS; intro b1 w hS
 refine .run 1 rfl trivial (.nil (.seq (.region ?_)))
 first | refine WL.val (.fieldAddr 0 (.of rfl) Tryz.underlying34 rfl rfl Tryz.sizeOf27 rfl) rfl ?_ | refine WL.val (.fieldAddrI 0 (.of rfl) Tryz.underlying34 rfl rfl Tryz.sizeOf27 rfl) rfl ?_
 first | refine WL.val (.ld (.of rfl) hS (k := 0) rfl Tryz.isAgg27 rfl) rfl ?_ | refine WL.val (.ld (.of rfl) hS (k := 1) rfl Tryz.isAgg27 rfl) rfl ?_
 refine .call Tryz.func107 rfl (evs_cons (.of rfl) evs_nil) rfl (Few_any a cap c.svs hcap hcm B _ I hl _ hS) ?_
 clear hS
 rintro _ w ⟨rfl, hS⟩
 refine .run 1 rfl trivial (.nil (.seq (.region ?_)))
 first | refine WL.val (.fieldAddr 1 (.of rfl) Tryz.underlying34 rfl rfl Tryz.sizeOf28 rfl) rfl ?_ | refine WL.val (.fieldAddrI 1 (.of rfl) Tryz.underlying34 rfl rfl Tryz.sizeOf28 rfl) rfl ?_
 first | refine WL.val (.ld (.of rfl) hS (k := 0) rfl Tryz.isAgg28 rfl) rfl ?_ | refine WL.val (.ld (.of rfl) hS (k := 1) rfl Tryz.isAgg28 rfl) rfl ?_
 refine .call Tryz.func108 rfl (evs_cons (.of rfl) evs_nil) rfl (fewU_any ua ucap c.us hun hfit B _ I hU _ hS) ?_
 clear hS
 rintro _ w ⟨rfl, hS⟩
 refine .run 1 rfl trivial (.nil (.seq (.region (.run 2 rfl trivial (.gval rfl rfl (fun hg1 => (.move (.of rfl))) rfl (.val (.pand (.of rfl) (.of rfl) (.of rfl)) rfl (.run 1 rfl trivial (.nil (.ret (ret1 Tryz.results60 rfl ?_))))))))))
 exact ⟨_, rfl, rfl, hS.drop (k := 0) rfl⟩
theorem refPrefix_any (k : Int) (B w : World) (I : Im) (As : List Assn) (hS : Sat B w I As) :
  Calls Tryz.prog 97 [I64 k].toArray w (Ret fun v w' => v = S (preI k) ∧ Sat B w' I As) := by
 refine calls Tryz.func97 rfl Tryz.ntmps97 rfl (.seq (.region (.run 1 rfl trivial (.nil (.seq (.seq (.region (.run 1 rfl trivial (.nil (.block (.seq (.region (.run 2 rfl trivial (.nil ?_))))))))))))))
 refine WC.cond rfl (fun hb4 => ?_) (fun hb4 => ?_)
 ·
  have hc4 := hb4; try simp only [Gk.cs0] at hc4
  refine .seq (.region (.run 1 rfl trivial (.nil (.ret (ret1 Tryz.results97 rfl ?_)))))
  refine ⟨_, rfl, congrArg S ?_, hS⟩
  simp only [beq_iff_eq, beq_eq_false_iff_ne] at *
  first | subst_vars; rfl | (rw [preI, if_pos (by omega)])
 have hc4 := hb4; try simp only [Gk.cs0] at hc4
 refine .seq (.region (.run 2 rfl trivial (.nil ?_)))
 refine WC.cond rfl (fun hb6 => ?_) (fun hb6 => ?_)
 ·
  have hc6 := hb6; try simp only [Gk.cs0] at hc6
  refine .seq (.region (.run 1 rfl trivial (.nil (.ret (ret1 Tryz.results97 rfl ?_)))))
  refine ⟨_, rfl, congrArg S ?_, hS⟩
  simp only [beq_iff_eq, beq_eq_false_iff_ne] at *
  first | subst_vars; rfl | (rw [preI, if_pos (by omega)])
 have hc6 := hb6; try simp only [Gk.cs0] at hc6
 refine .seq (.region (.run 2 rfl trivial (.nil ?_)))
 refine WC.cond rfl (fun hb8 => ?_) (fun hb8 => ?_)
 ·
  have hc8 := hb8; try simp only [Gk.cs0] at hc8
  refine .seq (.region (.run 1 rfl trivial (.nil (.ret (ret1 Tryz.results97 rfl ?_)))))
  refine ⟨_, rfl, congrArg S ?_, hS⟩
  simp only [beq_iff_eq, beq_eq_false_iff_ne] at *
  first | subst_vars; rfl | (rw [preI, if_pos (by omega)])
 have hc8 := hb8; try simp only [Gk.cs0] at hc8
 refine .seq (.region (.run 2 rfl trivial (.nil ?_)))
 refine WC.cond rfl (fun hb10 => ?_) (fun hb10 => ?_)
 ·
  have hc10 := hb10; try simp only [Gk.cs0] at hc10
  refine .seq (.region (.run 1 rfl trivial (.nil (.ret (ret1 Tryz.results97 rfl ?_)))))
  refine ⟨_, rfl, congrArg S ?_, hS⟩
  simp only [beq_iff_eq, beq_eq_false_iff_ne] at *
  first | subst_vars; rfl | (rw [preI, if_pos (by omega)])
 have hc10 := hb10; try simp only [Gk.cs0] at hc10
 refine .seq (.region (.run 2 rfl trivial (.nil ?_)))
 refine WC.cond rfl (fun hb12 => ?_) (fun hb12 => ?_)
 ·
  have hc12 := hb12; try simp only [Gk.cs0] at hc12
  refine .seq (.region (.run 1 rfl trivial (.nil (.ret (ret1 Tryz.results97 rfl ?_)))))
  refine ⟨_, rfl, congrArg S ?_, hS⟩
  simp only [beq_iff_eq, beq_eq_false_iff_ne] at *
  first | subst_vars; rfl | (rw [preI, if_pos (by omega)])
 have hc12 := hb12; try simp only [Gk.cs0] at hc12
 refine .seq (.region (.run 2 rfl trivial (.nil ?_)))
 refine WC.cond rfl (fun hb14 => ?_) (fun hb14 => ?_)
 ·
  have hc14 := hb14; try simp only [Gk.cs0] at hc14
  refine .seq (.region (.run 1 rfl trivial (.nil (.ret (ret1 Tryz.results97 rfl ?_)))))
  refine ⟨_, rfl, congrArg S ?_, hS⟩
  simp only [beq_iff_eq, beq_eq_false_iff_ne] at *
  first | subst_vars; rfl | (rw [preI, if_pos (by omega)])
 have hc14 := hb14; try simp only [Gk.cs0] at hc14
 refine .skip (.seq (.region (.run 1 rfl trivial (.nil (.ret (ret1 Tryz.results97 rfl ?_))))))
 refine ⟨_, rfl, congrArg S ?_, hS⟩
 simp only [beq_iff_eq, beq_eq_false_iff_ne] at *
 first | subst_vars; rfl | (rw [preI, if_pos (by omega)])
theorem hex_take {n : Nat} (h : n < 16) : (HEXD.drop n).take 1 = [dg n] := (by decide : ∀ n : Fin 16, (HEXD.drop n.val).take 1 = [dg n.val]) ⟨n, h⟩
theorem refName_any (kind : Int) (d : Nat) (hd : d < 18446744073709551616) (B w : World) (I : Im) (As : List Assn) (hS : Sat B w I As) :
  Calls Tryz.prog 56 [I64 kind, U64 (d : Nat)].toArray w (Ret fun v w' => v = (if preI kind = [] then .tuple #[S [], I64 8] else .tuple #[S (preI kind ++ 45 :: digs 16 d), I64 0]) ∧ Sat B w' I As) := by
 refine calls Tryz.func56 rfl Tryz.ntmps56 rfl (.seq (.region (.run 2 rfl trivial (.nil (.seq (.region (.run 1 rfl trivial (.call Tryz.func97 rfl (evs_cons (.of rfl) evs_nil) rfl (refPrefix_any kind B _ I _ hS) ?_))))))))
 clear hS
 rintro _ w ⟨rfl, hS⟩
 refine .run 1 rfl trivial (.nil (.seq (.seq (.region (.run 2 rfl trivial (.nil ?_))))))
 refine WC.cond rfl (fun hb13 => ?_) (fun hb13 => ?_)
 ·
  have hc13 := hb13; try simp only [Gk.cs0] at hc13
  refine .seq (.region (.run 2 rfl trivial (.nil (.ret (ret2 Tryz.results56 rfl rfl ?_)))))
  exact ⟨_, rfl, by rw [if_pos (by simpa using hb13)], hS⟩
 have hc13 := hb13; try simp only [Gk.cs0] at hc13
 refine .skip (.seq (.region (.run 1 rfl trivial (.nil (.seq (.region (.run 1 rfl trivial (.nil (.seq (.seq (.region (.run 1 rfl trivial (.nil (.block (.loop (σ := Nat × Nat) (fun ⟨i, e⟩ => [(1, U64 (e : Nat)), (6, S (preI kind)), (7, S HEXD), (8, S (digs i d)), (9, I64 (i : Nat))]) (fun ⟨i, e⟩ w => i ≤ 16 ∧ e = d / 16 ^ i ∧ Sat B w I As) (fun ⟨i, e⟩ => 16 - i) (0, d) ⟨rfl, rfl, rfl, rfl, rfl, trivial⟩ ⟨Nat.zero_le _, by simp, hS⟩ ?_)))))))))))))))
 rintro ⟨i, e⟩ w ⟨hi, he, hS⟩
 change WC _ _ _ _ [(1, U64 (e : Nat)), (6, S (preI kind)), (7, S HEXD), (8, S (digs i d)), (9, I64 (i : Nat))] w
 refine .seq (.seq (.region (.run 2 rfl trivial (.nil ?_))))
 refine WC.cond rfl (fun hb15 => ?_) (fun hb15 => ?_)
 ·
  have hc15 := hb15; try simp only [Gk.cs0] at hc15
  refine .skip (.seq (.block (.seq ?_)))
  have hed : e < 18446744073709551616 := by rw [he]; exact Nat.lt_of_le_of_lt (Nat.div_le_self _ _) hd
  have hdl := digs_len i d
  have hm16 := Nat.mod_lt e (show 0 < 16 by decide)
  have hcast : ((e : Nat) : Int) % 16 = ((e % 16 : Nat) : Int) := by omega
  have htk := hex_take hm16
  have hsl : (HEXD.drop ((e : Int) % 16).toNat).take (((e : Int) % 16 + 1).toNat - ((e : Int) % 16).toNat) = [dg (e % 16)] := by
   rw [hcast, Int.toNat_natCast, show (((e % 16 : Nat) : Int) + 1).toNat - e % 16 = 1 by omega]; exact htk
  have hcons : [dg (e % 16)] ++ digs i d = digs (i + 1) d := by rw [digs_cons, he]; rfl
  have hquo : ((e : Nat) : Int) / 16 = ((e / 16 : Nat) : Int) := by omega
  have hee : e / 16 = d / 16 ^ (i + 1) := by rw [he, Nat.div_div_eq_div_mul, Nat.pow_succ]
  refine .region (.run 2 rfl trivial (.val (.rem (.of rfl) (.of rfl) (by omega) (by omega)) rfl (.run 1 rfl trivial (.val (.rem (.of rfl) (.of rfl) (by omega) (by omega)) rfl ?_))))
  first | refine WL.val (.addx (.of rfl) (.of rfl) (by rw [IntKind.wrap_u64]; omega)) rfl ?_ | refine WL.val (.addw (.of rfl) (.of rfl)) rfl ?_
  refine WL.val (Ex.sub3U (.of rfl) (.of rfl) (.of rfl) (by omega) (by omega) (by show _ ≤ (16 : Int); omega) Tryz.underlying9) rfl ?_
  rw [hsl]
  refine .run 1 rfl trivial ?_
  refine WL.val (.cat (.of rfl) (.of rfl) (by (try simp only [List.length_append, List.length_cons, List.length_nil]); omega)) rfl ?_
  rw [hcons]
  refine .run 1 rfl trivial (.nil (.region (.run 1 rfl trivial ?_)))
  refine WL.val (.quo (.of rfl) (.of rfl) (by omega) (by omega) (by rw [IntKind.wrap_u64]; omega)) rfl ?_
  rw [hquo]
  refine .run 1 rfl trivial (.nil (.region (.run 3 rfl ⟨⟨by omega, by omega⟩, trivial⟩ (.nil ?_))))
  refine ⟨(i + 1, e / 16), ⟨rfl, rfl, rfl, rfl, rfl, trivial⟩, ⟨by (try dsimp only); omega, hee, hS⟩, by (try dsimp only); omega⟩
 have hc15 := hb15; try simp only [Gk.cs0] at hc15
 refine .exit (.seq ?_)
 have hpl := preI_le kind
 have hdl := digs_len i d
 refine .region ?_
 refine WL.run 6 rfl ⟨by (try simp only [List.length_append, List.length_cons, List.length_nil]); omega, by (try simp only [List.length_append, List.length_cons, List.length_nil]); omega, trivial⟩ ?_
 refine .nil (.ret (ret2 Tryz.results56 rfl rfl ?_))
 have e16 : i = 16 := by omega
 subst e16
 refine ⟨_, rfl, by rw [if_neg (by simpa using hb13), List.append_assoc]; rfl, hS⟩
end Go.Proofs.YtadhiihnnkcagaaGreatDoor
namespace Go.Proofs.YtadhiihnnkcagaaGreatDoor
open Gk Pat
set_option linter.unusedVariables false
set_option linter.unusedSimpArgs false
theorem few_facts {l : List Sv} (h : few l = true) : l.length ≤ 20 ∧ ∀ s ∈ l, s.rel.length ≤ 20 := by
 unfold few at h
 simp only [Bool.and_eq_true, decide_eq_true_eq] at h
 refine ⟨by omega, fun s hs => ?_⟩
 have := List.all_eq_true.1 h.1 s hs
 unfold few1 at this
 simp only [Bool.not_eq_true', Bool.or_eq_false_iff, decide_eq_false_iff_not] at this
 omega
theorem fits_ord {l : List Sv} (h : ∀ s ∈ l, s.fits) : ∀ v ∈ ords l, v < 18446744073709551616 := fun v hv => by
 obtain ⟨s, hs, rfl⟩ := List.mem_map.1 hv
 exact (h s hs).ord
theorem fits_fit {l : List Sv} (h : ∀ s ∈ l, s.fits) (hr : ∀ s ∈ l, s.rel.length ≤ 20) : ∀ s ∈ l, s.urls.length ≤ 9223372036854775807 ∧ s.calls.length ≤ 9223372036854775807 ∧ s.rel.length ≤ 1000000 := fun s hs => by
 have h1 := (h s hs).urls
 have h2 := (h s hs).calls
 have h3 := hr s hs
 unfold maxLen at h1 h2
 exact ⟨by omega, by omega, by omega⟩
end Go.Proofs.YtadhiihnnkcagaaGreatDoor
namespace Go.Proofs.YtadhiihnnkcagaaGreatDoor
open Gk Ul Pc Tk Tr
set_option linter.unusedVariables false
set_option linter.unusedSimpArgs false
def bigQ (q : Qr) : Bool := decide ((60 : Int) < (q.ticket.length : Int)) || decide ((200 : Int) < (q.service.length : Int))
def few21 (c : Cf) (l : List Rec) (asks : List Qr) : Bool := (l.all fewRec && asks.all fun q => !bigQ q) && ((fewC c && decide ((l.length : Int) ≤ 30)) && decide ((asks.length : Int) ≤ 20))
def addW (ω : Wd) (r : Rec) : Wd := { ω with l := add ω.room ω.l r }
theorem addW_ok {ω : Wd} (h : WdOk ω) (r : Rec) : WdOk (addW ω r) := by
 refine ⟨?_, h.wf.add, h.D, h.now, h.room⟩
 show (add ω.room ω.l r).length ≤ 64
 unfold add
 split
 ·rename_i e
  have := (add_ok e).2.2.2
  have := h.room
  rw [List.length_append, List.length_cons, List.length_nil]; omega
 ·exact h.len
theorem addsW_ok : ∀ (l : List Rec) {ω : Wd}, WdOk ω → WdOk (l.foldl addW ω)
 | [], _, h => h
 | r :: l, _, h => addsW_ok l (addW_ok h r)
def madeW (c : Cf) (l : List Rec) (now : Int) : Wd := tick (l.foldl addW (w0 c)) now
theorem madeW_ok (c : Cf) (l : List Rec) (now : Int) : WdOk (madeW c l now) := tick_ok (addsW_ok l (w0_ok c)) now
def MadeT (c : Cf) (ω : Wd) (J : Im) (pv : Option Addr) (B w : World) (As : List Assn) : Prop := (newE c ≠ 0 ∧ pv = none ∧ Sat B w J As) ∨ (newE c = 0 ∧ ∃ p D, Srt.Ord (kx (ords c.svs)) c.svs.length D ∧ p.lo = pickS c.svs D ∧ p.us = c.us ∧ p.ps = c.ps ∧ pv = some (ad p.wb 0) ∧ WpOk J p ∧ Sat B w J (wdA p ω :: As))
structure CfAt (I : Im) (c : Cf) (a : Option Addr) (cap : Nat) (ua : Option Addr) (ucap : Nat) : Prop where
 svs : SvsAt I a c.svs
 us : UsrsAt I ua c.us
 cap : c.svs.length ≤ cap ∧ cap ≤ maxLen
 un : c.us.length ≤ 9223372036854775807
 sfit : ∀ s ∈ c.svs, s.fits
 ufit : ∀ u ∈ c.us, u.fits
theorem CfAt.mono {I J : Im} {c : Cf} {a ua : Option Addr} {cap ucap : Nat} (h : CfAt I c a cap ua ucap) (hl : Le I J) : CfAt J c a cap ua ucap := ⟨h.svs.mono hl, h.us.mono hl, h.cap, h.un, h.sfit, h.ufit⟩
theorem fewC_fits {I : Im} {c : Cf} {a ua : Option Addr} {cap ucap : Nat} (h : CfAt I c a cap ua ucap) (hf : fewC c = true) : c.fits := by
 unfold fewC at hf
 simp only [Bool.and_eq_true] at hf
 have h1 := few_facts hf.1
 refine ⟨by omega, fits_ord h.sfit, fits_fit h.sfit h1.2, h.un, h.ufit⟩
theorem few21_any (c : Cf) (a : Option Addr) (cap : Nat) (ua : Option Addr) (ucap : Nat) (la : Option Addr) (lc : Nat) (l : List Rec) (hll : l.length ≤ 9223372036854775807) (qa : Option Addr) (qc : Nat) (asks : List Qr) (hql : asks.length ≤ 9223372036854775807) (B w : World) (I : Im) (hC : CfAt I c a cap ua ucap) (hR : RS I la 10 l.length (rowsC recCells l)) (hQ : RS I qa 4 asks.length (rowsC qrCells asks)) (As : List Assn) (hS : Sat B w I As) :
  Calls Tryz.prog 15 [.agg (cfCells c a cap ua ucap).toArray, .slice la l.length lc, .slice qa asks.length qc].toArray w (Ret fun v w' => v = .bool (few21 c l asks) ∧ Sat B w' I As) := by
 refine calls Tryz.func15 rfl Tryz.ntmps15 rfl (.seq (.region (.boxA (cs := cfCells c a cap ua ucap) hS (.of rfl) rfl ?_)))
 clear hS; intro b3 w hS
 refine .run 1 rfl trivial (.nil (.seq (.seq (.region (.run 1 rfl trivial (.nil (.block (.loop (σ := Nat) (fun i => [(1, .slice la l.length lc), (2, .slice qa asks.length qc), (3, ptr b3 0), (7, I64 (i : Nat))]) (fun i w => i ≤ l.length ∧ (∀ (j : Nat) r, j < i → l[j]? = some r → fewRec r = true) ∧ Sat B w I (blk b3 (cfCells c a cap ua ucap) 34 :: As)) (fun i => l.length - i) 0 ⟨rfl, rfl, rfl, rfl, trivial⟩ ⟨Nat.zero_le _, fun _ _ h => absurd h (by omega), hS⟩ ?_))))))))
 rintro i w ⟨hi, hno, hS⟩
 change WC _ _ _ _ [(1, .slice la l.length lc), (2, .slice qa asks.length qc), (3, ptr b3 0), (7, I64 (i : Nat))] w
 refine .seq (.seq (.region (.run 4 rfl ⟨⟨_, Tryz.underlying35⟩, trivial⟩ (.nil ?_))))
 refine WC.cond rfl (fun hb14 => ?_) (fun hb14 => ?_)
 ·
  have hc14 := hb14; try simp only [Gk.cs0] at hc14
  refine .skip (.seq (.block (.seq ?_)))
  obtain ⟨r, hr⟩ : ∃ r, l[i]? = some r := ⟨_, List.getElem?_eq_getElem (by omega)⟩
  obtain ⟨p, hp9, hx⟩ := rs_at (cells := recCells) (s := 10) (fun _ => rfl) hR hr
  subst hp9
  refine .region (.run 2 rfl trivial ?_)
  first | refine WL.val (.indexAddr (.of rfl) (.of rfl) (by omega) (by omega) Tryz.underlying35 Tryz.sizeOf45) rfl ?_ | refine WL.val (.indexAddrI (.of rfl) (.of rfl) (by omega) (by omega) Tryz.underlying35 Tryz.sizeOf45) rfl ?_
  refine .val (.ldsI (.of rfl) hS hx Tryz.isAgg45 Tryz.sizeOf45 rfl (fun _ _ h => h)) rfl (.call Tryz.func59 rfl (evs_cons (.of rfl) evs_nil) rfl (fewRec_any r B _ I _ hS) ?_)
  clear hS
  rintro _ w ⟨rfl, hS⟩
  refine .run 1 rfl trivial (.nil (.seq (.region (.run 2 rfl trivial (.nil ?_)))))
  refine WC.cond rfl (fun hb23 => ?_) (fun hb23 => ?_)
  ·
   have hc23 := hb23; try simp only [Gk.cs0] at hc23
   refine .seq (.region (.run 1 rfl trivial (.nil (.ret (ret1 Tryz.results15 rfl ?_)))))
   refine ⟨_, rfl, congrArg Value.bool ?_, hS.drop (k := 0) rfl⟩
   have : l.all fewRec = false := List.all_eq_false.2 ⟨r, List.mem_of_getElem? hr, by simpa using hb23⟩
   rw [few21, this]; rfl
  have hc23 := hb23; try simp only [Gk.cs0] at hc23
  refine .skip (.region (.run 3 rfl ⟨⟨by omega, by omega⟩, trivial⟩ (.nil ?_)))
  refine ⟨i + 1, ⟨rfl, rfl, rfl, rfl, trivial⟩, ⟨by (try dsimp only); omega, fun j t hj ht => ?_, hS⟩, by (try dsimp only); omega⟩
  rcases Nat.lt_or_ge j i with h1 | h1
  ·exact hno j t h1 ht
  ·have e : j = i := by omega
   subst e
   rw [hr] at ht; cases ht
   simpa using hb23
 have hc14 := hb14; try simp only [Gk.cs0] at hc14
 refine .exit (.seq (.seq ?_))
 have hil : i = l.length := by omega
 subst hil
 have hallr : l.all fewRec = true := by
  rw [List.all_eq_true]
  intro r hr
  obtain ⟨j, hj⟩ := List.mem_iff_getElem?.1 hr
  have := (List.getElem?_eq_some_iff.1 hj).1
  exact hno j r (by omega) hj
 refine .region (.run 1 rfl trivial (.nil (.block (.loop (σ := Nat) (fun i => [(1, .slice la l.length lc), (2, .slice qa asks.length qc), (3, ptr b3 0), (9, I64 (i : Nat))]) (fun i w => i ≤ asks.length ∧ (∀ (j : Nat) q, j < i → asks[j]? = some q → bigQ q = false) ∧ Sat B w I (blk b3 (cfCells c a cap ua ucap) 34 :: As)) (fun i => asks.length - i) 0 ⟨rfl, rfl, rfl, rfl, trivial⟩ ⟨Nat.zero_le _, fun _ _ h => absurd h (by omega), hS⟩ ?_))))
 rintro i w ⟨hi, hnq, hS⟩
 change WC _ _ _ _ [(1, .slice la l.length lc), (2, .slice qa asks.length qc), (3, ptr b3 0), (9, I64 (i : Nat))] w
 refine .seq (.seq (.region (.run 4 rfl ⟨⟨_, Tryz.underlying36⟩, trivial⟩ (.nil ?_))))
 refine WC.cond rfl (fun hb27 => ?_) (fun hb27 => ?_)
 ·
  have hc27 := hb27; try simp only [Gk.cs0] at hc27
  refine .skip (.seq (.block (.seq ?_)))
  obtain ⟨q, hq0⟩ : ∃ q, asks[i]? = some q := ⟨_, List.getElem?_eq_getElem (by omega)⟩
  obtain ⟨p, hp9, hq⟩ := rs_at (cells := qrCells) (s := 4) (fun _ => rfl) hQ hq0
  subst hp9
  unfold qrCells at hq
  refine .region (.run 2 rfl trivial ?_)
  first | refine WL.val (.indexAddr (.of rfl) (.of rfl) (by omega) (by omega) Tryz.underlying36 Tryz.sizeOf43) rfl ?_ | refine WL.val (.indexAddrI (.of rfl) (.of rfl) (by omega) (by omega) Tryz.underlying36 Tryz.sizeOf43) rfl ?_
  first | refine WL.val (.fieldAddr 0 (.of rfl) Tryz.underlying43 rfl rfl Tryz.sizeOf9 rfl) rfl ?_ | refine WL.val (.fieldAddrI 0 (.of rfl) Tryz.underlying43 rfl rfl Tryz.sizeOf9 rfl) rfl ?_
  first | refine WL.val (.ld (.of rfl) hS (k := 0) rfl Tryz.isAgg9 rfl) rfl ?_ | refine WL.val (.ldI (.of rfl) hS (At.add hx _) Tryz.isAgg9 rfl) rfl ?_ | refine WL.val (.ldI (.of rfl) hS (At.add hq _) Tryz.isAgg9 rfl) rfl ?_
  refine .run 3 rfl ⟨Tryz.underlying9, trivial⟩ (.gval rfl rfl (fun hg1 => (.move (.of rfl))) rfl (.gval rfl rfl (fun hg1 => (.move (.of rfl))) rfl ?_))
  refine WL.gval rfl rfl (fun hg1 => (by first | exact .indexAddr (.gd hg1 rfl) (.gd hg1 rfl) (by (try simp only [Gk.cs0] at hg1); omega) (by (try simp only [Gk.cs0] at hg1); omega) Tryz.underlying36 Tryz.sizeOf43 | exact .indexAddrI (.gd hg1 rfl) (.gd hg1 rfl) (by (try simp only [Gk.cs0] at hg1); omega) (by (try simp only [Gk.cs0] at hg1); omega) Tryz.underlying36 Tryz.sizeOf43)) rfl ?_
  refine WL.gval rfl rfl (fun hg1 => (by first | exact .fieldAddr 1 (.gd hg1 rfl) Tryz.underlying43 rfl rfl Tryz.sizeOf9 rfl | exact .fieldAddrI 1 (.gd hg1 rfl) Tryz.underlying43 rfl rfl Tryz.sizeOf9 rfl)) rfl ?_
  refine WL.gval rfl rfl (fun hg1 => (by first | exact (.ld (.gd hg1 rfl) hS (k := 0) rfl Tryz.isAgg9 rfl) | exact (.ldI (.gd hg1 rfl) hS (At.add hx _) Tryz.isAgg9 rfl) | exact (.ldI (.gd hg1 rfl) hS (At.add hq _) Tryz.isAgg9 rfl))) rfl ?_
  refine .gval rfl rfl (fun hg1 => (.len (.gd hg1 rfl) Tryz.underlying9)) rfl (.gval rfl rfl (fun hg1 => (.gtr (.gd hg1 rfl) (.of rfl))) rfl (.val (.por (.of rfl) (.of rfl) (.of rfl)) rfl (.nil ?_)))
  refine WC.cond rfl (fun hb45 => ?_) (fun hb45 => ?_)
  ·
   have hc45 := hb45; try simp only [Gk.cs0] at hc45
   refine .seq (.region (.run 1 rfl trivial (.nil (.ret (ret1 Tryz.results15 rfl ?_)))))
   refine ⟨_, rfl, congrArg Value.bool ?_, hS.drop (k := 0) rfl⟩
   have : (asks.all fun q => !bigQ q) = false := List.all_eq_false.2 ⟨q, List.mem_of_getElem? hq0, by rw [show bigQ q = true from hb45]; decide⟩
   rw [few21, this, Bool.and_false]; rfl
  have hc45 := hb45; try simp only [Gk.cs0] at hc45
  refine .skip (.region (.run 3 rfl ⟨⟨by omega, by omega⟩, trivial⟩ (.nil ?_)))
  refine ⟨i + 1, ⟨rfl, rfl, rfl, rfl, trivial⟩, ⟨by (try dsimp only); omega, fun j t hj ht => ?_, hS⟩, by (try dsimp only); omega⟩
  rcases Nat.lt_or_ge j i with h1 | h1
  ·exact hnq j t h1 ht
  ·have e : j = i := by omega
   subst e
   rw [hq0] at ht; cases ht
   exact hb45
 have hc27 := hb27; try simp only [Gk.cs0] at hc27
 refine .exit (.seq (.region ?_))
 refine WL.val (.lds (vs := cfCells c a cap ua ucap) (.of rfl) hS (k := 0) rfl Tryz.isAgg34 Tryz.sizeOf34 rfl (fun j v hj => by rw [Nat.zero_add]; exact hj)) rfl ?_
 refine .call Tryz.func60 rfl (evs_cons (.of rfl) evs_nil) rfl (fewC_any c a cap ua ucap hC.cap.1 hC.cap.2 hC.un hC.ufit B _ I hC.svs hC.us _ hS) ?_
 clear hS
 rintro _ w ⟨rfl, hS⟩
 refine .run 1 rfl trivial (.nil (.seq (.region (.run 2 rfl trivial (.gval rfl rfl (fun hg1 => (.move (.of rfl))) rfl (.gval rfl rfl (fun hg1 => (.lenSlice (.gd hg1 rfl) Tryz.underlying35)) rfl (.gval rfl rfl (fun hg1 => (.leq (.gd hg1 rfl) (.of rfl))) rfl (.val (.pand (.of rfl) (.of rfl) (.of rfl)) rfl (.run 1 rfl trivial (.gval rfl rfl (fun hg1 => (.move (.of rfl))) rfl (.gval rfl rfl (fun hg1 => (.lenSlice (.gd hg1 rfl) Tryz.underlying36)) rfl (.gval rfl rfl (fun hg1 => (.leq (.gd hg1 rfl) (.of rfl))) rfl (.val (.pand (.of rfl) (.of rfl) (.of rfl)) rfl (.run 1 rfl trivial (.nil (.ret (ret1 Tryz.results15 rfl ?_)))))))))))))))))
 refine ⟨_, rfl, congrArg Value.bool ?_, hS.drop (k := 0) rfl⟩
 have : (asks.all fun q => !bigQ q) = true := by
  rw [List.all_eq_true]
  intro q hq
  obtain ⟨j, hj⟩ := List.mem_iff_getElem?.1 hq
  have := (List.getElem?_eq_some_iff.1 hj).1
  rw [hnq j q (by omega) hj]; rfl
 rw [few21, hallr, this]; rfl
theorem made21_any (c : Cf) (a : Option Addr) (cap : Nat) (ua : Option Addr) (ucap : Nat) (hc : c.fits) (la : Option Addr) (lc : Nat) (l : List Rec) (hll : l.length ≤ 9223372036854775807) (hsr : ∀ r ∈ l, r.name.length ≤ 60 ∧ r.parent.length ≤ 60) (now : Int) (B w : World) (I : Im) (hK : Known I) (hP : PreAt I) (hC : CfAt I c a cap ua ucap) (hR : RS I la 10 l.length (rowsC recCells l)) (As : List Assn) (hS : Sat B w I As) :
  Calls Tryz.prog 16 [.agg (cfCells c a cap ua ucap).toArray, .slice la l.length lc, I64 now].toArray w (Ret fun v w' => ∃ J pv, Le I J ∧ v = .pointer pv ∧ MadeT c (madeW c l now) J pv B w' As) := by
 refine calls Tryz.func16 rfl Tryz.ntmps16 rfl (.seq (.region (.boxA (cs := cfCells c a cap ua ucap) hS (.of rfl) rfl ?_)))
 clear hS; intro b3 w hS
 refine .run 1 rfl trivial (.nil (.seq (.region ?_)))
 refine WL.val (.lds (vs := cfCells c a cap ua ucap) (.of rfl) hS (k := 0) rfl Tryz.isAgg34 Tryz.sizeOf34 rfl (fun j v hj => by rw [Nat.zero_add]; exact hj)) rfl ?_
 refine .call Tryz.func41 rfl (evs_cons (.of rfl) evs_nil) rfl (grantNew_any c hc a cap ua ucap B _ I hK hP hC.svs hC.us _ hS) ?_
 clear hS
 rintro v w ⟨J, hJ, hcase⟩
 obtain ⟨pv, e9, rfl, hcs⟩ : ∃ (pv : Option Addr) (e9 : Nat), v = .tuple #[.pointer pv, I64 (e9 : Nat)] ∧ ((newE c ≠ 0 ∧ pv = none ∧ Sat B w J (blk b3 (cfCells c a cap ua ucap) 34 :: As)) ∨ (newE c = 0 ∧ ∃ p D, Srt.Ord (kx (ords c.svs)) c.svs.length D ∧ p.lo = pickS c.svs D ∧ p.us = c.us ∧ p.ps = c.ps ∧ pv = some (ad p.wb 0) ∧ WpOk J p ∧ Sat B w J (wdA p (w0 c) :: blk b3 (cfCells c a cap ua ucap) 34 :: As))) := by
  rcases hcase with ⟨h1, h2, h3⟩ | ⟨h1, p, D, h2, h3, h4, h5, h6, h7, h8⟩
  ·exact ⟨_, _, h2, .inl ⟨h1, rfl, h3⟩⟩
  ·exact ⟨_, 0, h6, .inr ⟨h1, p, D, h2, h3, h4, h5, rfl, h7, h8⟩⟩
 refine .run 5 rfl trivial (.nil (.seq (.seq (.region (.run 1 rfl trivial (.val (.eqp (.of rfl) (.of rfl) Tryz.underlying39) rfl (.nil ?_)))))))
 refine WC.cond rfl (fun hb16 => ?_) (fun hb16 => ?_)
 ·
  have hc16 := hb16; try simp only [Gk.cs0] at hc16
  refine .seq (.region (.run 1 rfl trivial (.nil (.ret (ret1 Tryz.results16 rfl ?_)))))
  rcases hcs with ⟨h1, rfl, hS⟩ | ⟨_, p, D, _, _, _, _, h9, _⟩
  ·exact ⟨_, rfl, J, none, hJ, rfl, .inl ⟨h1, rfl, hS.drop (k := 0) rfl⟩⟩
  ·exfalso; rw [h9] at hb16; cases hb16
 have hc16 := hb16; try simp only [Gk.cs0] at hc16
 refine .skip (.seq (.seq (.region (.run 1 rfl trivial (.nil (.block ?_))))))
 rcases hcs with ⟨_, h9, _⟩ | ⟨hz, p, D, hD, hlo, hus, hps, hpv, hI, hS⟩
 ·exfalso; rw [h9] at hb16; cases hb16
 subst hpv
 refine .loop (σ := Nat) (fun i => [(1, .slice la l.length lc), (2, I64 now), (7, ptr p.wb 0), (9, I64 (i : Nat))]) (fun i w => i ≤ l.length ∧ Sat B w J (wdA p ((l.take i).foldl addW (w0 c)) :: blk b3 (cfCells c a cap ua ucap) 34 :: As)) (fun i => l.length - i) 0 ⟨rfl, rfl, rfl, rfl, trivial⟩ ⟨Nat.zero_le _, hS⟩ ?_
 rintro i w ⟨hi, hS⟩
 change WC _ _ _ _ [(1, .slice la l.length lc), (2, I64 now), (7, ptr p.wb 0), (9, I64 (i : Nat))] w
 refine .seq (.seq (.region (.run 4 rfl ⟨⟨_, Tryz.underlying35⟩, trivial⟩ (.nil ?_))))
 refine WC.cond rfl (fun hb20 => ?_) (fun hb20 => ?_)
 ·
  have hc20 := hb20; try simp only [Gk.cs0] at hc20
  refine .skip (.seq (.block ?_))
  obtain ⟨⟨a9, c9, ma9, mc9⟩, hS⟩ := Sat.unbox hS
  replace hS : Sat B _ _ (blk p.wb (wdC p ((l.take i).foldl addW (w0 c))) 52 :: blk p.tb [I64 ((l.take i).foldl addW (w0 c)).room, .slice a9 ((l.take i).foldl addW (w0 c)).l.length c9] 127 :: Vec 45 10 (.slice a9 ((l.take i).foldl addW (w0 c)).l.length c9) ((l.take i).foldl addW (w0 c)).l.length (rowsR ((l.take i).foldl addW (w0 c)).l) :: blk p.mb [.slice ma9 ((l.take i).foldl addW (w0 c)).D.length mc9] 168 :: VecO 118 (.slice ma9 ((l.take i).foldl addW (w0 c)).D.length mc9) (((l.take i).foldl addW (w0 c)).D.map fun d => U64 (d : Nat)) :: _) := hS
  obtain ⟨r, hr⟩ : ∃ r, l[i]? = some r := ⟨_, List.getElem?_eq_getElem (by omega)⟩
  obtain ⟨pp, hp9, hx⟩ := rs_at (cells := recCells) (s := 10) (fun _ => rfl) hR hr
  subst hp9
  have hω := addsW_ok (l.take i) (w0_ok c)
  have hlen := hω.len
  refine .drawn (fun w => ∃ R, Sat B w J (blk p.wb (wdC p ((l.take i).foldl addW (w0 c))) 52 :: R)) (fun j => !([].contains j)) (by kernel_rfl) ?_
  replace hS := hS.drew; generalize w.drew = w at hS ⊢
  have hH : ∃ R, Sat B w J (blk p.wb (wdC p ((l.take i).foldl addW (w0 c))) 52 :: R) := ⟨_, (hS.pick 0 rfl)⟩
  refine .takeP (i := 0) rfl (by kernel_rfl) (by kernel_rfl) (by kernel_rfl) (fun w => (.move (.of rfl))) rfl (.takeP (i := 1) rfl (by kernel_rfl) (by kernel_rfl) (by kernel_rfl) (fun w => (.nilCheck (.of rfl))) rfl ?_)
  refine WD.takeP (i := 2) rfl (by kernel_rfl) (by kernel_rfl) (by kernel_rfl) (fun w => (by first | exact .fieldAddr 0 (.of rfl) Tryz.underlying52 rfl rfl Tryz.sizeOf47 rfl | exact .fieldAddrI 0 (.of rfl) Tryz.underlying52 rfl rfl Tryz.sizeOf47 rfl)) rfl ?_
  refine .take (i := 3) rfl (by kernel_rfl) (by kernel_rfl) (by kernel_rfl) (by kernel_rfl) hH (fun w ⟨R, hS⟩ => (.ld (.of rfl) hS (k := 0) rfl Tryz.isAgg47 rfl)) rfl (.takeP (i := 4) rfl (by kernel_rfl) (by kernel_rfl) (by kernel_rfl) (fun w => (.move (.of rfl))) rfl (.takeP (i := 5) rfl (by kernel_rfl) (by kernel_rfl) (by kernel_rfl) (fun w => (.move (.of rfl))) rfl ?_))
  refine WD.takeP (i := 6) rfl (by kernel_rfl) (by kernel_rfl) (by kernel_rfl) (fun w => (by first | exact .indexAddr (.of rfl) (.of rfl) (by omega) (by omega) Tryz.underlying35 Tryz.sizeOf45 | exact .indexAddrI (.of rfl) (.of rfl) (by omega) (by omega) Tryz.underlying35 Tryz.sizeOf45)) rfl ?_
  refine .take (i := 7) rfl (by kernel_rfl) (by kernel_rfl) (by kernel_rfl) (by kernel_rfl) hH (fun w ⟨R, hS⟩ => .ldsI (.of rfl) hS (hx.mono hJ) Tryz.isAgg45 Tryz.sizeOf45 rfl (fun _ _ h => h)) rfl ?_
  refine WD.branch [8] (by kernel_rfl) rfl (WO.cons rfl ?_ (WO.nil))
  refine WL.call Tryz.func57 rfl (evs_cons (.of rfl) (evs_cons (.of rfl) evs_nil)) rfl (Add_any p.tb ((l.take i).foldl addW (w0 c)).room a9 c9 ((l.take i).foldl addW (w0 c)).l (by omega) r (by have := hsr r (List.mem_of_getElem? hr); omega) (by have := hsr r (List.mem_of_getElem? hr); omega) B _ J hI.known hI.pre _ ((hS.pick 2 rfl).pick 2 rfl)) ?_
  clear hS
  rintro _ w ⟨rfl, a2, c2, hS⟩
  try dsimp only [List.eraseIdx] at hS
  refine .nil ?_
  clear hH
  have hH : ∃ R, Sat B w J (blk p.wb (wdC p ((l.take i).foldl addW (w0 c))) 52 :: R) := ⟨_, (hS.pick 2 rfl)⟩
  refine And.intro (by intro _ _; exact hH) ?_
  refine .done (by kernel_rfl) (.region (.run 3 rfl ⟨⟨by omega, by omega⟩, trivial⟩ (.nil ?_)))
  replace hS := Sat.box (T := wdT p (addW ((l.take i).foldl addW (w0 c)) r)) (a2, c2, ma9, mc9) (((((hS.pick 4 rfl).pick 4 rfl).pick 3 rfl).pick 3 rfl).pick 4 rfl)
  try dsimp only [List.eraseIdx] at hS
  refine ⟨i + 1, ⟨rfl, rfl, rfl, rfl, trivial⟩, ⟨by (try dsimp only); omega, ?_⟩, by (try dsimp only); omega⟩
  show Sat B _ J (wdA p ((l.take (i + 1)).foldl addW (w0 c)) :: _)
  rw [List.take_add_one, hr, Option.toList_some, List.foldl_append]
  exact hS
 have hc20 := hb20; try simp only [Gk.cs0] at hc20
 refine .exit (.seq ?_)
 have hil : i = l.length := by omega
 subst hil
 rw [List.take_length] at hS
 refine .region (.run 2 rfl trivial (.call Tryz.func20 rfl (evs_cons (.of rfl) (evs_cons (.of rfl) evs_nil)) rfl (Tick_any p _ now (addsW_ok l (w0_ok c)) B _ J _ hS) ?_))
 clear hS
 rintro _ w ⟨rfl, hS⟩
 try dsimp only [List.eraseIdx] at hS
 refine .nil (.seq (.region (.run 2 rfl trivial (.nil (.ret (ret1 Tryz.results16 rfl ?_))))))
 exact ⟨_, rfl, J, _, hJ, rfl, .inr ⟨hz, p, D, hD, hlo, hus, hps, rfl, hI, hS.drop (k := 1) rfl⟩⟩
end Go.Proofs.YtadhiihnnkcagaaGreatDoor
namespace Go.Proofs.YtadhiihnnkcagaaGreatDoor
open Gk Ul Pc Tk Tr
set_option linter.unusedVariables false
set_option linter.unusedSimpArgs false
theorem bld34_v : Bld Tryz.prog 34 [(0, 1), (1, 1), (2, 21), (23, 1), (24, 1), (25, 1), (26, 1), (27, 1)] [.slice none 0 0, .slice none 0 0, .int .i64 0, .int .i64 0, .int .i64 0, .int .i64 0, .int .i64 0, .int .i64 0, .int .i64 0, .int .i64 0, .int .i64 0, .int .i64 0, .int .i64 0, .int .i64 0, .int .i64 0, .int .i64 0, .int .i64 0, .int .i64 0, .int .i64 0, .int .i64 0, .int .i64 0, .int .i64 0, .int .i64 0, .int .i64 0, .float .f64 0, .float .f64 0, .float .f64 0, .int .i64 0] := bld_of Tryz.underlying34 Tryz.zeroValue34 (fun w => by simp [go_sem])
theorem bld43_v : Bld Tryz.prog 43 [(0, 1), (1, 1), (2, 1), (3, 1)] [S [], S [], .bool false, .bool false] := bld_of Tryz.underlying43 Tryz.zeroValue43 (fun w => by simp [go_sem])
theorem bld45_v : Bld Tryz.prog 45 [(0, 1), (1, 1), (2, 1), (3, 1), (4, 1), (5, 1), (6, 1), (7, 1), (8, 1), (9, 1)] [.int .i64 0, S [], S [], S [], S [], S [], .int .i64 0, .int .i64 0, .int .i64 0, .bool false] := bld_of Tryz.underlying45 Tryz.zeroValue45 (fun w => by simp [go_sem])
theorem bld67_v : Bld Tryz.prog 67 [(0, 1), (1, 1), (2, 1)] [S [], S [], .slice none 0 0] := bld_of Tryz.underlying67 Tryz.zeroValue67 (fun w => by simp [go_sem])
theorem bld101_v : Bld Tryz.prog 101 [(0, 1), (1, 1), (2, 1), (3, 1), (4, 1), (5, 1), (6, 1), (7, 1)] [.int .i64 0, .float .f64 0, S [], .bool false, .bool false, .bool false, S [], .slice none 0 0] := bld_of Tryz.underlying101 Tryz.zeroValue101 (fun w => by simp [go_sem])
def AWS : Sv := ⟨0, 0, [104, 116, 116, 112, 58, 47, 47, 97, 47, 42, 42], true, false, false, [], []⟩
def AWUs : Us := ⟨[117], [112], []⟩
def AWC : Cf := ⟨[AWS], [AWUs], fun _ => 0, 9, 0, 0, 0, 0⟩
def AR1 : Rec := ⟨1, preI 1 ++ 45 :: digs 16 1, [], [117], [], [], 0, 0, 0, false⟩
def AR2 : Rec := ⟨2, preI 2 ++ 45 :: digs 16 2, preI 1 ++ 45 :: digs 16 1, [117], [104, 116, 116, 112, 58, 47, 47, 97, 47, 120], [], 0, 0, 0, false⟩
def AQ : Qr := ⟨preI 2 ++ 45 :: digs 16 2, [72, 84, 84, 80, 58, 47, 47, 65, 47, 120], false, false⟩
def AO2 : Wd := addW (addW (w0 AWC) AR1) AR2
theorem awc_new : newE AWC = 0 := by kernel_rfl
theorem awc_ord : Srt.Ord (kx (ords [AWS])) 1 [0] := ⟨by decide +kernel, by decide +kernel⟩
theorem awc_fits : AWC.fits := ⟨by decide, by decide +kernel, by decide +kernel, by decide, fun u hu => by
 rw [show AWC.us = [AWUs] from rfl, List.mem_singleton] at hu; subst hu
 exact ⟨by decide, by decide, by decide, fun p hp => by simp [AWUs] at hp⟩⟩
theorem awc_cfat {J : Im} {s u : Nat} {E F : TypeId} (h1 : J s = some (cellsO [I64 0, F64 0, S AWS.urls, .bool true, .bool false, .bool false, S [], .slice none 0 0] E)) (h2 : J u = some (cellsO [S AWUs.name, S AWUs.pw, .slice none 0 0] F)) : SvsAt J (some (ad s 0)) [AWS] ∧ UsrsAt J (some (ad u 0)) [AWUs] := by
 constructor
 ·intro i t ht
  match i, ht with
  | 0, ht => cases ht; exact ⟨_, none, 0, rfl, at_frozen h1, Nat.le_refl _, RS.nil _ _⟩
  | i + 1, ht => simp at ht
 ·intro i t ht
  match i, ht with
  | 0, ht => cases ht; exact ⟨_, none, 0, rfl, at_frozen h2, Nat.le_refl _, RS.nil _ _⟩
  | i + 1, ht => simp at ht
set_option maxRecDepth 20000 in
theorem awake21_any (B w : World) (I : Im) (hK : Known I) (hP : PreAt I) (As : List Assn) (hS : Sat B w I As) :
  Calls Tryz.prog 13 [].toArray w (Ret fun v w' => v = .bool true ∧ Sat B w' I As) := by
 refine calls Tryz.func13 rfl Tryz.ntmps13 rfl (.seq (.region (.run 1 rfl trivial (.nil (.seq (.region (.val (.build (cs := [_, _, _, _, _, _, _, _]) (parts_cons (.of rfl) (parts_cons (.of rfl) parts_nil)) bld101_v rfl) rfl (.buildSlice (cs := [_, _, _, _, _, _, _, _]) hS (parts_cons (.of rfl) parts_nil) Tryz.underlying27 Tryz.sizeOf101 Tryz.zeroValue101 rfl rfl rfl rfl ?_))))))))
 clear hS; intro b15 w hS
 refine .val (.build (cs := [_, _, _]) (parts_cons (.of rfl) (parts_cons (.of rfl) parts_nil)) bld67_v rfl) rfl (.buildSlice (cs := [_, _, _]) hS (parts_cons (.of rfl) parts_nil) Tryz.underlying28 Tryz.sizeOf67 Tryz.zeroValue67 rfl rfl rfl rfl ?_)
 clear hS; intro b17 w hS
 refine .val (.build (cs := [_, _, _, _, _, _, _, _, _, _, _, _, _, _, _, _, _, _, _, _, _, _, _, _, _, _, _, _]) (parts_cons (.of rfl) (parts_cons (.of rfl) (parts_cons (.of rfl) parts_nil))) bld34_v rfl) rfl ?_
 obtain ⟨J1, hJ1, hb17, hS⟩ := hS.freeze (k := 0) rfl
 obtain ⟨J2, hJ2, hb15, hS⟩ := hS.freeze (k := 0) rfl
 try dsimp only [List.eraseIdx] at hS
 have hcf := awc_cfat (J := J2) hb15 (hJ2 _ _ hb17)
 refine .call Tryz.func41 rfl (evs_cons (.of rfl) evs_nil) rfl (grantNew_any AWC awc_fits (some (ad b15 0)) 1 (some (ad b17 0)) 1 B _ J2 ((hK.mono hJ1).mono hJ2) ((hP.mono hJ1).mono hJ2) hcf.1 hcf.2 _ hS) ?_
 clear hS
 rintro v w ⟨J, hJ, hcase⟩
 obtain ⟨_, p, D, hD, hlo, hus, hps, rfl, hI, hS⟩ := hcase.resolve_left (fun h => h.1 awc_new)
 obtain rfl : D = [0] := hD.unique awc_ord
 have hlo : p.lo = [AWS] := hlo
 have hus : p.us = [AWUs] := hus
 have hps : p.ps = fun _ => 0 := hps
 refine .run 5 rfl trivial (.nil (.seq (.seq ?_)))
 obtain ⟨⟨a, c, ma, mc⟩, hS⟩ := Sat.unbox hS
 replace hS : Sat B _ _ (blk p.wb (wdC p (w0 AWC)) 52 :: blk p.tb [I64 (w0 AWC).room, .slice a (w0 AWC).l.length c] 127 :: Vec 45 10 (.slice a (w0 AWC).l.length c) (w0 AWC).l.length (rowsR (w0 AWC).l) :: blk p.mb [.slice ma (w0 AWC).D.length mc] 168 :: VecO 118 (.slice ma (w0 AWC).D.length mc) ((w0 AWC).D.map fun d => U64 (d : Nat)) :: _) := hS
 refine .region (.run 1 rfl trivial (.val (.eqp (.of rfl) (.of rfl) Tryz.underlying39) rfl (.run 1 rfl trivial (.gval rfl rfl (fun hg1 => (.move (.of rfl))) rfl (.gval rfl rfl (fun hg1 => (.neq (.gd hg1 rfl) (.of rfl))) rfl (.val (.por (.of rfl) (.of rfl) (.of rfl)) rfl (.run 1 rfl trivial (.gval rfl rfl (fun hg1 => (.move (.of rfl))) rfl (.gval rfl rfl (fun hg1 => (.nilCheck (.gd hg1 rfl))) rfl ?_)))))))))
 refine WL.gval rfl rfl (fun hg1 => (by first | exact .fieldAddr 0 (.gd hg1 rfl) Tryz.underlying52 rfl rfl Tryz.sizeOf47 rfl | exact .fieldAddrI 0 (.gd hg1 rfl) Tryz.underlying52 rfl rfl Tryz.sizeOf47 rfl)) rfl ?_
 refine WL.gval rfl rfl (fun hg1 => (by first | exact (.ld (.gd hg1 rfl) hS (k := 0) rfl Tryz.isAgg47 rfl) | exact (.ld (.gd hg1 rfl) hS (k := 1) rfl Tryz.isAgg47 rfl) | exact (.ld (.gd hg1 rfl) hS (k := 2) rfl Tryz.isAgg47 rfl) | exact (.ld (.gd hg1 rfl) hS (k := 3) rfl Tryz.isAgg47 rfl) | exact (.ld (.gd hg1 rfl) hS (k := 4) rfl Tryz.isAgg47 rfl))) rfl ?_
 refine .gval rfl rfl (fun hg1 => (.eqp (.gd hg1 rfl) (.of rfl) Tryz.underlying47)) rfl (.val (.por (.of rfl) (.of rfl) (.of rfl)) rfl (.nil (.condF (rfl) (.skip (.seq (.region (.call Tryz.func56 rfl (evs_cons (.of rfl) (evs_cons (.of rfl) evs_nil)) rfl (refName_any 1 1 (by decide) B _ J _ hS) ?_)))))))
 clear hS
 rintro v w ⟨hv9, hS⟩
 rw [if_neg (by decide)] at hv9
 subst hv9
 refine .run 5 rfl trivial (.nil (.seq (.region (.call Tryz.func56 rfl (evs_cons (.of rfl) (evs_cons (.of rfl) evs_nil)) rfl (refName_any 2 2 (by decide) B _ J _ hS) ?_))))
 clear hS
 rintro v w ⟨hv9, hS⟩
 rw [if_neg (by decide)] at hv9
 subst hv9
 refine .run 5 rfl trivial (.nil (.seq (.region (.run 2 rfl trivial ?_))))
 first | refine WL.val (.fieldAddr 0 (.of rfl) Tryz.underlying52 rfl rfl Tryz.sizeOf47 rfl) rfl ?_ | refine WL.val (.fieldAddrI 0 (.of rfl) Tryz.underlying52 rfl rfl Tryz.sizeOf47 rfl) rfl ?_
 first | refine WL.val (.ld (.of rfl) hS (k := 0) rfl Tryz.isAgg47 rfl) rfl ?_ | refine WL.val (.ld (.of rfl) hS (k := 1) rfl Tryz.isAgg47 rfl) rfl ?_ | refine WL.val (.ld (.of rfl) hS (k := 2) rfl Tryz.isAgg47 rfl) rfl ?_ | refine WL.val (.ld (.of rfl) hS (k := 3) rfl Tryz.isAgg47 rfl) rfl ?_ | refine WL.val (.ld (.of rfl) hS (k := 4) rfl Tryz.isAgg47 rfl) rfl ?_
 refine .run 1 rfl trivial (.val (.build (cs := [_, _, _, _, _, _, _, _, _, _]) (parts_cons (.of rfl) (parts_cons (.of rfl) (parts_cons (.of rfl) parts_nil))) bld45_v rfl) rfl (.call Tryz.func57 rfl (evs_cons (.of rfl) (evs_cons (.of rfl) evs_nil)) rfl (Add_any p.tb (w0 AWC).room a c (w0 AWC).l (by decide +kernel) AR1 (by decide) (by decide) B _ J hI.known hI.pre _ ((hS.pick 2 rfl).pick 2 rfl)) ?_))
 clear hS
 rintro _ w ⟨rfl, a4, c4, hS⟩
 try dsimp only [List.eraseIdx] at hS
 refine .run 1 rfl trivial (.nil (.seq (.region (.run 2 rfl trivial ?_))))
 first | refine WL.val (.fieldAddr 0 (.of rfl) Tryz.underlying52 rfl rfl Tryz.sizeOf47 rfl) rfl ?_ | refine WL.val (.fieldAddrI 0 (.of rfl) Tryz.underlying52 rfl rfl Tryz.sizeOf47 rfl) rfl ?_
 first | refine WL.val (.ld (.of rfl) hS (k := 0) rfl Tryz.isAgg47 rfl) rfl ?_ | refine WL.val (.ld (.of rfl) hS (k := 1) rfl Tryz.isAgg47 rfl) rfl ?_ | refine WL.val (.ld (.of rfl) hS (k := 2) rfl Tryz.isAgg47 rfl) rfl ?_ | refine WL.val (.ld (.of rfl) hS (k := 3) rfl Tryz.isAgg47 rfl) rfl ?_ | refine WL.val (.ld (.of rfl) hS (k := 4) rfl Tryz.isAgg47 rfl) rfl ?_
 refine .run 2 rfl trivial (.val (.build (cs := [_, _, _, _, _, _, _, _, _, _]) (parts_cons (.of rfl) (parts_cons (.of rfl) (parts_cons (.of rfl) (parts_cons (.of rfl) (parts_cons (.of rfl) parts_nil))))) bld45_v rfl) rfl (.call Tryz.func57 rfl (evs_cons (.of rfl) (evs_cons (.of rfl) evs_nil)) rfl (Add_any p.tb (addW (w0 AWC) AR1).room a4 c4 (addW (w0 AWC) AR1).l (by decide +kernel) AR2 (by decide) (by decide) B _ J hI.known hI.pre _ ((hS.pick 1 rfl).pick 1 rfl)) ?_))
 clear hS
 rintro _ w ⟨rfl, a5, c5, hS⟩
 try dsimp only [List.eraseIdx] at hS
 refine .run 1 rfl trivial (.nil (.seq ?_))
 replace hS := Sat.box (T := wdT p AO2) (a5, c5, ma, mc) (((((hS.pick 4 rfl).pick 4 rfl).pick 3 rfl).pick 3 rfl).pick 4 rfl)
 try dsimp only [List.eraseIdx] at hS
 refine .region (.run 2 rfl trivial (.val (.build (cs := [_, _, _, _]) (parts_cons (.of rfl) (parts_cons (.of rfl) parts_nil)) bld43_v rfl) rfl (.call Tryz.func18 rfl (evs_cons (.of rfl) (evs_cons (.of rfl) evs_nil)) rfl (vCheck_any AQ (by decide) (by decide) p AO2 (addW_ok (addW_ok (w0_ok AWC) AR1) AR2) B _ J hI _ hS) ?_)))
 clear hS
 rintro _ w ⟨J6, _, hJ6, rfl, ⟨ka6, kc6, pa6, pc6, rfl, _, _, _, _⟩, hS⟩
 try dsimp only [List.eraseIdx] at hS
 refine .run 3 rfl trivial (.allocA (cs := [_, _, _, _]) hS Tryz.zeroValue56 rfl ?_)
 clear hS; intro b9 w hS
 first | refine WL.stA hS (k := 0) rfl (.of rfl) (.of rfl) rfl Tryz.sizeOf56 rfl (by simp) ?_ | refine WL.stA hS (k := 1) rfl (.of rfl) (.of rfl) rfl Tryz.sizeOf56 rfl (by simp) ?_
 clear hS; intro w hS; try dsimp only [List.set] at hS
 try simp only [List.take_zero, List.nil_append, List.append_nil, List.drop_succ_cons, List.drop_zero, List.drop_nil, Nat.zero_add] at hS
 refine .run 1 rfl trivial (.nil (.seq (.region (.run 2 rfl trivial (.val (.build (cs := [_, _, _, _]) (parts_cons (.of rfl) (parts_cons (.of rfl) parts_nil)) bld43_v rfl) rfl (.call Tryz.func18 rfl (evs_cons (.of rfl) (evs_cons (.of rfl) evs_nil)) rfl (vCheck_any AQ (by decide) (by decide) p (useW p.ps AO2 AQ).2 (useW_ok (addW_ok (addW_ok (w0_ok AWC) AR1) AR2) AQ) B _ J6 (hI.mono hJ6) _ (hS.pick 1 rfl)) ?_))))))
 clear hS
 rintro _ w ⟨J7, _, hJ7, rfl, ⟨ka7, kc7, pa7, pc7, rfl, _, _, _, _⟩, hS⟩
 try dsimp only [List.eraseIdx] at hS
 refine .run 3 rfl trivial (.allocA (cs := [_, _, _, _]) hS Tryz.zeroValue56 rfl ?_)
 clear hS; intro b11 w hS
 first | refine WL.stA hS (k := 0) rfl (.of rfl) (.of rfl) rfl Tryz.sizeOf56 rfl (by simp) ?_ | refine WL.stA hS (k := 1) rfl (.of rfl) (.of rfl) rfl Tryz.sizeOf56 rfl (by simp) ?_ | refine WL.stA hS (k := 2) rfl (.of rfl) (.of rfl) rfl Tryz.sizeOf56 rfl (by simp) ?_
 clear hS; intro w hS; try dsimp only [List.set] at hS
 try simp only [List.take_zero, List.nil_append, List.append_nil, List.drop_succ_cons, List.drop_zero, List.drop_nil, Nat.zero_add] at hS
 refine .run 1 rfl trivial (.nil (.seq (.region (.run 3 rfl trivial (.gval rfl rfl (fun hg1 => (.move (.of rfl))) rfl (.gval rfl rfl (fun hg1 => (.eql (.gd hg1 rfl) (.of rfl))) rfl (.val (.pand (.of rfl) (.of rfl) (.of rfl)) rfl (.run 1 rfl trivial (.gval rfl rfl (fun hg1 => (.move (.of rfl))) rfl (.gval rfl rfl (fun hg1 => (.eql (.gd hg1 rfl) (.of rfl))) rfl (.val (.pand (.of rfl) (.of rfl) (.of rfl)) rfl (.run 1 rfl trivial ?_))))))))))))
 refine WL.gval rfl rfl (fun hg1 => (by first | exact .fieldAddr 0 (.of rfl) Tryz.underlying56 rfl rfl Tryz.sizeOf9 rfl | exact .fieldAddrI 0 (.of rfl) Tryz.underlying56 rfl rfl Tryz.sizeOf9 rfl)) rfl ?_
 refine WL.gval rfl rfl (fun hg1 => (by first | exact (.ld (.gd hg1 rfl) hS (k := 0) rfl Tryz.isAgg9 rfl) | exact (.ld (.gd hg1 rfl) hS (k := 1) rfl Tryz.isAgg9 rfl) | exact (.ld (.gd hg1 rfl) hS (k := 2) rfl Tryz.isAgg9 rfl))) rfl ?_
 refine .gval rfl rfl (fun hg1 => (.eqs (.gd hg1 rfl) (.of rfl))) rfl (.val (.pand (.of rfl) (.of rfl) (.of rfl)) rfl (.run 1 rfl trivial (.gval rfl rfl (fun hg1 => (.move (.of rfl))) rfl (.gval rfl rfl (fun hg1 => (.eql (.gd hg1 rfl) (.of rfl))) rfl (.val (.pand (.of rfl) (.of rfl) (.of rfl)) rfl (.run 1 rfl trivial (.gval rfl rfl (fun hg1 => (.move (.of rfl))) rfl (.gcall (T := fun w => Sat B w J7 _) rfl rfl rfl Tryz.func14 rfl (fun hg1 => (evs_cons (.gd hg1 rfl) evs_nil)) rfl (fun hg1 => Code_any _ B _ J7 _ hS) hS ?_))))))))
 clear hS; rintro w hS
 refine .gval rfl rfl (fun hg1 => (.eqs (.gd hg1 rfl) (.of rfl))) rfl (.val (.pand (.of rfl) (.of rfl) (.of rfl)) rfl (.run 1 rfl trivial (.nil (.ret (ret1 Tryz.results13 rfl ?_)))))
 refine ⟨_, rfl, ?_, ((((hS.drop (k := 0) rfl).drop (k := 1) rfl).drop (k := 0) rfl).weaken (hJ1.trans (hJ2.trans (hJ.trans (hJ6.trans hJ7)))))⟩
 refine congrArg Value.bool ?_
 rw [hlo, hus, hps]
 kernel_rfl
end Go.Proofs.YtadhiihnnkcagaaGreatDoor
namespace Go.Proofs.YtadhiihnnkcagaaGreatDoor
open Gk Ul Pc Tk Tr
set_option linter.unusedVariables false
set_option linter.unusedSimpArgs false
theorem rec_equal (r s : Rec) (w : World) : (Op.equalIn 10000 45 (.agg (recCells r).toArray) (.agg (recCells s).toArray)).run Tryz.prog w = .ok (decide (r = s)) w := by
 have hS : Tryz.prog.underlying 45 = some (.struct (Tryz.prog.fieldsOf 45)) := by kernel_rfl
 have hp : Tryz.prog.stoodInHeld 45 = false := by kernel_rfl
 have ui := Tryz.underlying3
 have ai := Tryz.isAgg3
 have us := Tryz.underlying9
 have as9 := Tryz.isAgg9
 have ub := Tryz.underlying4
 have ab := Tryz.isAgg4
 rw [show (10000 : Nat) = 9999 + 1 from rfl, run_equalIn_agg w 9999 45 _ _ hS hp]
 simp only [Program.fieldsOf, Tryz.underlying45]
 obtain ⟨k, n, pa, u, sv, ur, m, us', uc, f⟩ := r
 obtain ⟨k', n', pa', u', sv', ur', m', us'', uc', f'⟩ := s
 unfold recCells
 go_simp
 repeat' split
 all_goals simp_all
theorem Ex.neRec {n : Nat} {L : Env} {w : World} {d : Option Nat} {ty t' : TypeId} {pos : String} {af : Array Edge} {g : Option (Nat × Bool)} {x y : Operand} {r s : Rec} (hx : Ev n L x (.agg (recCells r).toArray)) (hy : Ev n L y (.agg (recCells s).toArray)) : Ex Tryz.prog n L w ⟨d, .binOp .neq 45 x y t', ty, pos, af, g⟩ (.bool (!decide (r = s))) w :=
 ex_bin hx hy (fun p q => run_eqGuard_agg w _ _ _ _ _ _ (by kernel_rfl)) (by rw [run_neq_struct, rec_equal]; rfl)
end Go.Proofs.YtadhiihnnkcagaaGreatDoor
namespace Go.Proofs.YtadhiihnnkcagaaGreatDoor
open Gk Ul Pc Tk Tr
set_option linter.unusedVariables false
set_option linter.unusedSimpArgs false
theorem getD_put {l : List Rec} {r : Rec} (h : putE l r = 0) (name : List UInt8) : getD (put l r) name = if name = r.name then r else getD l name := by
 obtain ⟨_, j, t, h1, h2, h3, _, _⟩ := put_ok h
 have hp : put l r = l.set j r := by rw [put, if_pos h, h1, Int.toNat_natCast]
 have hj := (List.getElem?_eq_some_iff.1 h2).1
 have ha : at0 (l.set j r) name = at0 l name := atN_set name l j 0 t h2 h3
 rw [hp]
 rcases Tr.get_at (l.set j r) name with ⟨a1, a2⟩ | ⟨i, u, a1, a2, a3, a4⟩
 ·rcases Tr.get_at l name with ⟨b1, b2⟩ | ⟨k, v, b1, _⟩
  ·rw [if_neg (by intro e; subst e; omega), getD, getD, a2, b2]
  ·omega
 ·rcases Tr.get_at l name with ⟨b1, _⟩ | ⟨k, v, b1, b2, b3, b4⟩
  ·omega
  ·have e : k = i := by omega
   subst e
   by_cases hk : k = j
   ·subst hk
    rw [List.getElem?_set_self hj] at a2
    cases a2
    rw [if_pos a3.symm, getD, a4]; rfl
   ·rw [List.getElem?_set_ne (Ne.symm hk), b2] at a2
    cases a2
    rw [if_neg (by intro e; subst e; omega), getD, getD, a4, b4]
theorem right_touch {r : Rec} (h : rightR r = true) {now : Int} (hn : now ≤ 1099511627776) : rightR (touchR r now) = true := by
 unfold rightR at h ⊢
 unfold touchR
 simp only [Bool.and_eq_true, decide_eq_true_eq] at h ⊢
 obtain ⟨⟨⟨h1, h2⟩, h3⟩, h4⟩ := h
 exact ⟨⟨⟨h1, by omega⟩, h3⟩, h4⟩
theorem use_case {ps : Nat → Int} {ω : Wd} (hω : WdOk ω) (q : Qr) : ((useW ps ω q).1.2 ≠ 0 ∧ (useW ps ω q).2 = ω ∧ (useW ps ω q).1.1 = r0) ∨ ((useW ps ω q).1.2 = 0 ∧ get ω.l q.ticket = some (getD ω.l q.ticket) ∧ (useW ps ω q).1.1 = getD ω.l q.ticket ∧ (getD ω.l q.ticket).uses = 0 ∧ (getD ω.l q.ticket).name = q.ticket ∧ rightR (getD ω.l q.ticket) = true ∧ (useW ps ω q).2 = putW ω (touchR (getD ω.l q.ticket) ω.now) ∧ putE ω.l (touchR (getD ω.l q.ticket) ω.now) = 0 ∧ (getD ω.l q.ticket).kind = kindT q.ticket ∧ aliveT (psL ps) ω.l q.ticket ω.now = true ∧ (kindT q.ticket = 2 ∨ (kindT q.ticket = 3 ∧ q.proxies = true)) ∧ q.service ≠ []) := by
 unfold useW
 split
 ·exact .inl ⟨Nat.succ_ne_zero _, rfl, rfl⟩
 ·rename_i hc0
  split
  ·exact .inl ⟨Nat.succ_ne_zero _, rfl, rfl⟩
  ·rename_i hc1
   split
   ·exact .inl ⟨Nat.succ_ne_zero _, rfl, rfl⟩
   ·rename_i hc2
    split
    ·exact .inl ⟨Nat.succ_ne_zero _, rfl, rfl⟩
    ·rename_i hc3
     refine .inr ⟨rfl, ?_⟩
     simp only [Bool.or_eq_true, not_or, Bool.not_eq_true', Bool.not_eq_false, decide_eq_true_eq] at hc3
     obtain ⟨h1, h2⟩ := hc3
     have hal : aliveW ps ω q.ticket (kindT q.ticket) = (getD ω.l q.ticket, true) ∧ (getD ω.l q.ticket).kind = kindT q.ticket ∧ aliveT (psL ps) ω.l q.ticket ω.now = true := by
      unfold aliveW at h1 ⊢
      split at h1
      ·cases h1
      ·rename_i hc
       rw [if_neg hc]
       simp only [Bool.or_eq_true, not_or, bne_iff_ne, ne_eq, Decidable.not_not, Bool.not_eq_true', Bool.not_eq_false] at hc
       exact ⟨rfl, hc.1, hc.2⟩
     obtain ⟨hal, hk, hlv⟩ := hal
     rw [hal] at h2 ⊢
     have hk23 : kindT q.ticket = 2 ∨ (kindT q.ticket = 3 ∧ q.proxies = true) := by
      simp only [Bool.and_eq_true, bne_iff_ne, ne_eq, not_and, Decidable.not_not] at hc1
      by_cases e : kindT q.ticket = 2
      ·exact .inl e
      ·have e3 := hc1 e
       refine .inr ⟨e3, ?_⟩
       rw [e3] at hc2
       simpa using hc2
     have hsv : q.service ≠ [] := fun e => hc0 (by rw [e]; simp)
     rcases getD_case hω.wf q.ticket with ⟨_, e⟩ | ⟨e1, e2, e3⟩
     ·rw [e] at hk
      have : (r0.kind : Int) = 0 := rfl
      omega
     ·have ht := right_times e2
      refine ⟨e1, rfl, by (try dsimp only at h2); omega, e3, e2, rfl, ?_, hk, hlv, hk23, hsv⟩
      have hr := right_touch e2 hω.now.2
      rw [putE, if_neg (by rw [hr]; decide), show (touchR (getD ω.l q.ticket) ω.now).name = q.ticket from e3, e1]
      exact if_neg (fun hh => hh rfl)
theorem check_use {ps : Nat → Int} {ω : Wd} {q : Qr} (h : checkE ps ω q = 0) : (useW ps ω q).1.2 = 0 := by
 unfold checkE at h
 split at h
 ·rename_i e; exact absurd h e
 ·rename_i e; simpa using e
theorem few21_facts {c : Cf} {l : List Rec} {asks : List Qr} (h : few21 c l asks = true) : fewC c = true ∧ (∀ r ∈ l, r.name.length ≤ 60 ∧ r.parent.length ≤ 60) ∧ l.length ≤ 30 ∧ asks.length ≤ 20 ∧ ∀ q ∈ asks, q.ticket.length ≤ 60 ∧ q.service.length ≤ 200 := by
 unfold few21 at h
 simp only [Bool.and_eq_true, decide_eq_true_eq, List.all_eq_true] at h
 obtain ⟨⟨h1, h2⟩, ⟨h3, h4⟩, h5⟩ := h
 refine ⟨h3, fun r hr => ?_, by omega, by omega, fun q hq => ?_⟩
 ·have := h1 r hr
  unfold fewRec at this
  simp only [Bool.and_eq_true, decide_eq_true_eq] at this
  omega
 ·have := h2 q hq
  unfold bigQ at this
  simp only [Bool.not_eq_true', Bool.or_eq_false_iff, decide_eq_false_iff_not] at this
  omega
end Go.Proofs.YtadhiihnnkcagaaGreatDoor
namespace Go.Proofs.YtadhiihnnkcagaaGreatDoor
open Gk Ul Pc Tk Tr Go.RowKit Go.WideShapes Go.ChangeShapes
set_option linter.unusedVariables false
set_option linter.unusedSimpArgs false
set_option maxRecDepth 100000
theorem open_pair {H : Type} {enc : TypeId × Value → H} {W : World} {spare : Nat → Bool} {held : Bool} {fuel : Nat} {cs : List Value} {x : DataW H × List MemPlace} (h : DataW.trod enc Tryz.prog W 0 spare held fuel 69 cs = some x) : ∃ z : Pr, cs = prCells z ∧ fitsP z := by
 obtain ⟨xs, n, _, _, hcl, hxl, hf⟩ := DataW.trod_struct Tryz.underlying69 h
 rw [show Tryz.prog.cellsOf 69 = 2 from by kernel_rfl] at hcl
 obtain ⟨y0, hy0⟩ : ∃ y, DataW.trod enc Tryz.prog W 0 spare held n 9 ((cs.drop 0).take (Tryz.prog.cellsOf 9)) = some y := ⟨_, (hf 0 _ rfl).trans (List.getElem?_eq_getElem (by rw [hxl]; decide))⟩
 rw [show Tryz.prog.cellsOf 9 = 1 from by kernel_rfl] at hy0
 obtain ⟨y1, hy1⟩ : ∃ y, DataW.trod enc Tryz.prog W 0 spare held n 9 ((cs.drop 1).take (Tryz.prog.cellsOf 9)) = some y := ⟨_, (hf 1 _ rfl).trans (List.getElem?_eq_getElem (by rw [hxl]; decide))⟩
 rw [show Tryz.prog.cellsOf 9 = 1 from by kernel_rfl] at hy1
 obtain ⟨v0, v1, rfl⟩ : ∃ v0 v1, cs = [v0, v1] := by
  match cs, hcl with
  | [v0, v1], _ => exact ⟨v0, v1, rfl⟩
 simp only [List.drop_succ_cons, List.drop_zero, List.take_succ_cons, List.take_zero] at hy0 hy1
 obtain ⟨z0, e0, _, w0⟩ := DataW.trod_string Tryz.underlying9 hy0
 obtain ⟨z1, e1, _, w1⟩ := DataW.trod_string Tryz.underlying9 hy1
 simp only [List.cons.injEq, and_true] at e0 e1
 subst e0 e1
 exact ⟨(z0.data.toList, z1.data.toList), rfl, ⟨w0, w1⟩⟩
def recFit (r : Rec) : Prop := r.name.length ≤ maxLen ∧ r.parent.length ≤ maxLen ∧ r.user.length ≤ maxLen ∧ r.service.length ≤ maxLen ∧ r.url.length ≤ maxLen
def qrFit (q : Qr) : Prop := q.ticket.length ≤ maxLen ∧ q.service.length ≤ maxLen
theorem open_rec {H : Type} {enc : TypeId × Value → H} {W : World} {spare : Nat → Bool} {held : Bool} {fuel : Nat} {cs : List Value} {x : DataW H × List MemPlace} (h : DataW.trod enc Tryz.prog W 0 spare held fuel 45 cs = some x) : ∃ z : Rec, cs = recCells z ∧ recFit z := by
 obtain ⟨xs, n, _, _, hcl, hxl, hf⟩ := DataW.trod_struct Tryz.underlying45 h
 rw [show Tryz.prog.cellsOf 45 = 10 from by kernel_rfl] at hcl
 obtain ⟨y0, hy0⟩ : ∃ y, DataW.trod enc Tryz.prog W 0 spare held n 3 ((cs.drop 0).take (Tryz.prog.cellsOf 3)) = some y := ⟨_, (hf 0 _ rfl).trans (List.getElem?_eq_getElem (by rw [hxl]; decide))⟩
 rw [show Tryz.prog.cellsOf 3 = 1 from by kernel_rfl] at hy0
 obtain ⟨y1, hy1⟩ : ∃ y, DataW.trod enc Tryz.prog W 0 spare held n 9 ((cs.drop 1).take (Tryz.prog.cellsOf 9)) = some y := ⟨_, (hf 1 _ rfl).trans (List.getElem?_eq_getElem (by rw [hxl]; decide))⟩
 rw [show Tryz.prog.cellsOf 9 = 1 from by kernel_rfl] at hy1
 obtain ⟨y2, hy2⟩ : ∃ y, DataW.trod enc Tryz.prog W 0 spare held n 9 ((cs.drop 2).take (Tryz.prog.cellsOf 9)) = some y := ⟨_, (hf 2 _ rfl).trans (List.getElem?_eq_getElem (by rw [hxl]; decide))⟩
 rw [show Tryz.prog.cellsOf 9 = 1 from by kernel_rfl] at hy2
 obtain ⟨y3, hy3⟩ : ∃ y, DataW.trod enc Tryz.prog W 0 spare held n 9 ((cs.drop 3).take (Tryz.prog.cellsOf 9)) = some y := ⟨_, (hf 3 _ rfl).trans (List.getElem?_eq_getElem (by rw [hxl]; decide))⟩
 rw [show Tryz.prog.cellsOf 9 = 1 from by kernel_rfl] at hy3
 obtain ⟨y4, hy4⟩ : ∃ y, DataW.trod enc Tryz.prog W 0 spare held n 9 ((cs.drop 4).take (Tryz.prog.cellsOf 9)) = some y := ⟨_, (hf 4 _ rfl).trans (List.getElem?_eq_getElem (by rw [hxl]; decide))⟩
 rw [show Tryz.prog.cellsOf 9 = 1 from by kernel_rfl] at hy4
 obtain ⟨y5, hy5⟩ : ∃ y, DataW.trod enc Tryz.prog W 0 spare held n 9 ((cs.drop 5).take (Tryz.prog.cellsOf 9)) = some y := ⟨_, (hf 5 _ rfl).trans (List.getElem?_eq_getElem (by rw [hxl]; decide))⟩
 rw [show Tryz.prog.cellsOf 9 = 1 from by kernel_rfl] at hy5
 obtain ⟨y6, hy6⟩ : ∃ y, DataW.trod enc Tryz.prog W 0 spare held n 3 ((cs.drop 6).take (Tryz.prog.cellsOf 3)) = some y := ⟨_, (hf 6 _ rfl).trans (List.getElem?_eq_getElem (by rw [hxl]; decide))⟩
 rw [show Tryz.prog.cellsOf 3 = 1 from by kernel_rfl] at hy6
 obtain ⟨y7, hy7⟩ : ∃ y, DataW.trod enc Tryz.prog W 0 spare held n 3 ((cs.drop 7).take (Tryz.prog.cellsOf 3)) = some y := ⟨_, (hf 7 _ rfl).trans (List.getElem?_eq_getElem (by rw [hxl]; decide))⟩
 rw [show Tryz.prog.cellsOf 3 = 1 from by kernel_rfl] at hy7
 obtain ⟨y8, hy8⟩ : ∃ y, DataW.trod enc Tryz.prog W 0 spare held n 3 ((cs.drop 8).take (Tryz.prog.cellsOf 3)) = some y := ⟨_, (hf 8 _ rfl).trans (List.getElem?_eq_getElem (by rw [hxl]; decide))⟩
 rw [show Tryz.prog.cellsOf 3 = 1 from by kernel_rfl] at hy8
 obtain ⟨y9, hy9⟩ : ∃ y, DataW.trod enc Tryz.prog W 0 spare held n 4 ((cs.drop 9).take (Tryz.prog.cellsOf 4)) = some y := ⟨_, (hf 9 _ rfl).trans (List.getElem?_eq_getElem (by rw [hxl]; decide))⟩
 rw [show Tryz.prog.cellsOf 4 = 1 from by kernel_rfl] at hy9
 obtain ⟨v0, v1, v2, v3, v4, v5, v6, v7, v8, v9, rfl⟩ : ∃ v0 v1 v2 v3 v4 v5 v6 v7 v8 v9, cs = [v0, v1, v2, v3, v4, v5, v6, v7, v8, v9] := by
  match cs, hcl with
  | [v0, v1, v2, v3, v4, v5, v6, v7, v8, v9], _ => exact ⟨v0, v1, v2, v3, v4, v5, v6, v7, v8, v9, rfl⟩
 simp only [List.drop_succ_cons, List.drop_zero, List.take_succ_cons, List.take_zero] at hy0 hy1 hy2 hy3 hy4 hy5 hy6 hy7 hy8 hy9
 obtain ⟨z0, e0, _, w0⟩ := DataW.trod_int Tryz.underlying3 hy0
 obtain ⟨z1, e1, _, w1⟩ := DataW.trod_string Tryz.underlying9 hy1
 obtain ⟨z2, e2, _, w2⟩ := DataW.trod_string Tryz.underlying9 hy2
 obtain ⟨z3, e3, _, w3⟩ := DataW.trod_string Tryz.underlying9 hy3
 obtain ⟨z4, e4, _, w4⟩ := DataW.trod_string Tryz.underlying9 hy4
 obtain ⟨z5, e5, _, w5⟩ := DataW.trod_string Tryz.underlying9 hy5
 obtain ⟨z6, e6, _, w6⟩ := DataW.trod_int Tryz.underlying3 hy6
 obtain ⟨z7, e7, _, w7⟩ := DataW.trod_int Tryz.underlying3 hy7
 obtain ⟨z8, e8, _, w8⟩ := DataW.trod_int Tryz.underlying3 hy8
 obtain ⟨z9, e9, _⟩ := DataW.trod_bool Tryz.underlying4 hy9
 simp only [List.cons.injEq, and_true] at e0 e1 e2 e3 e4 e5 e6 e7 e8 e9
 subst e0 e1 e2 e3 e4 e5 e6 e7 e8 e9
 exact ⟨⟨z0, z1.data.toList, z2.data.toList, z3.data.toList, z4.data.toList, z5.data.toList, z6, z7, z8, z9⟩, rfl, ⟨w1, w2, w3, w4, w5⟩⟩
theorem open_qry {H : Type} {enc : TypeId × Value → H} {W : World} {spare : Nat → Bool} {held : Bool} {fuel : Nat} {cs : List Value} {x : DataW H × List MemPlace} (h : DataW.trod enc Tryz.prog W 0 spare held fuel 43 cs = some x) : ∃ z : Qr, cs = qrCells z ∧ qrFit z := by
 obtain ⟨xs, n, _, _, hcl, hxl, hf⟩ := DataW.trod_struct Tryz.underlying43 h
 rw [show Tryz.prog.cellsOf 43 = 4 from by kernel_rfl] at hcl
 obtain ⟨y0, hy0⟩ : ∃ y, DataW.trod enc Tryz.prog W 0 spare held n 9 ((cs.drop 0).take (Tryz.prog.cellsOf 9)) = some y := ⟨_, (hf 0 _ rfl).trans (List.getElem?_eq_getElem (by rw [hxl]; decide))⟩
 rw [show Tryz.prog.cellsOf 9 = 1 from by kernel_rfl] at hy0
 obtain ⟨y1, hy1⟩ : ∃ y, DataW.trod enc Tryz.prog W 0 spare held n 9 ((cs.drop 1).take (Tryz.prog.cellsOf 9)) = some y := ⟨_, (hf 1 _ rfl).trans (List.getElem?_eq_getElem (by rw [hxl]; decide))⟩
 rw [show Tryz.prog.cellsOf 9 = 1 from by kernel_rfl] at hy1
 obtain ⟨y2, hy2⟩ : ∃ y, DataW.trod enc Tryz.prog W 0 spare held n 4 ((cs.drop 2).take (Tryz.prog.cellsOf 4)) = some y := ⟨_, (hf 2 _ rfl).trans (List.getElem?_eq_getElem (by rw [hxl]; decide))⟩
 rw [show Tryz.prog.cellsOf 4 = 1 from by kernel_rfl] at hy2
 obtain ⟨y3, hy3⟩ : ∃ y, DataW.trod enc Tryz.prog W 0 spare held n 4 ((cs.drop 3).take (Tryz.prog.cellsOf 4)) = some y := ⟨_, (hf 3 _ rfl).trans (List.getElem?_eq_getElem (by rw [hxl]; decide))⟩
 rw [show Tryz.prog.cellsOf 4 = 1 from by kernel_rfl] at hy3
 obtain ⟨v0, v1, v2, v3, rfl⟩ : ∃ v0 v1 v2 v3, cs = [v0, v1, v2, v3] := by
  match cs, hcl with
  | [v0, v1, v2, v3], _ => exact ⟨v0, v1, v2, v3, rfl⟩
 simp only [List.drop_succ_cons, List.drop_zero, List.take_succ_cons, List.take_zero] at hy0 hy1 hy2 hy3
 obtain ⟨z0, e0, _, w0⟩ := DataW.trod_string Tryz.underlying9 hy0
 obtain ⟨z1, e1, _, w1⟩ := DataW.trod_string Tryz.underlying9 hy1
 obtain ⟨z2, e2, _⟩ := DataW.trod_bool Tryz.underlying4 hy2
 obtain ⟨z3, e3, _⟩ := DataW.trod_bool Tryz.underlying4 hy3
 simp only [List.cons.injEq, and_true] at e0 e1 e2 e3
 subst e0 e1 e2 e3
 exact ⟨⟨z0.data.toList, z1.data.toList, z2, z3⟩, rfl, ⟨w0, w1⟩⟩
theorem open_flat {α : Type} {cells : α → List Value} {c : Nat} {fit : α → Prop} {t e : TypeId} {H : Type} {enc : TypeId × Value → H} {W : World} {spare : Nat → Bool} {held : Bool} {fuel : Nat} {cs : List Value} {x : DataW H × List MemPlace} (ht : Tryz.prog.underlying t = some (.slice e)) (hc : Tryz.prog.cellsOf e = c) (hc0 : 0 < c)
  (one : ∀ n cs y, DataW.trod enc Tryz.prog W 0 spare held n e cs = some y → ∃ z : α, cs = cells z ∧ fit z) (h : DataW.trod enc Tryz.prog W 0 spare held fuel t cs = some x) :
  ∃ (a : Option Addr) (cap : Nat) (l : List α), cs = [.slice a l.length cap] ∧ l.length ≤ cap ∧ cap ≤ maxLen ∧ RS (im0 W) a c l.length (rowsC cells l) ∧ ∀ z ∈ l, fit z := by
 obtain ⟨a, cap, L, n, rfl, h1, h2, h3, h4, h5⟩ := open_rows ht hc hc0 h
 have key : ∀ L : List (List Value), (∀ l ∈ L, ∃ y, DataW.trod enc Tryz.prog W 0 spare held n e l = some y) → ∃ l : List α, L = l.map cells ∧ ∀ z ∈ l, fit z := by
  intro L
  induction L with
  | nil => intro _; exact ⟨[], rfl, fun z h => by simp at h⟩
  | cons c L ih =>
   intro h
   obtain ⟨y, hy⟩ := h c (by simp)
   obtain ⟨z, rfl, hf⟩ := one n c y hy
   obtain ⟨l, rfl, e2⟩ := ih (fun c hc => h c (by simp [hc]))
   exact ⟨z :: l, rfl, fun u hu => by
    rcases List.mem_cons.1 hu with e | hu
    ·subst e; exact hf
    ·exact e2 u hu⟩
 obtain ⟨l, rfl, hfit⟩ := key L h5
 rw [List.length_map] at h1 h4
 exact ⟨a, cap, l, by rw [List.length_map], h1, h2, h4, hfit⟩
theorem open_usr {H : Type} {enc : TypeId × Value → H} {W : World} {spare : Nat → Bool} {held : Bool} {fuel : Nat} {cs : List Value} {x : DataW H × List MemPlace} (h : DataW.trod enc Tryz.prog W 0 spare held fuel 67 cs = some x) : ∃ u : Us, UsAt (im0 W) u cs ∧ u.fits := by
 obtain ⟨xs, n, _, _, hcl, hxl, hf⟩ := DataW.trod_struct Tryz.underlying67 h
 rw [show Tryz.prog.cellsOf 67 = 3 from by kernel_rfl] at hcl
 obtain ⟨y0, hy0⟩ : ∃ y, DataW.trod enc Tryz.prog W 0 spare held n 9 ((cs.drop 0).take (Tryz.prog.cellsOf 9)) = some y := ⟨_, (hf 0 _ rfl).trans (List.getElem?_eq_getElem (by rw [hxl]; decide))⟩
 rw [show Tryz.prog.cellsOf 9 = 1 from by kernel_rfl] at hy0
 obtain ⟨y1, hy1⟩ : ∃ y, DataW.trod enc Tryz.prog W 0 spare held n 9 ((cs.drop 1).take (Tryz.prog.cellsOf 9)) = some y := ⟨_, (hf 1 _ rfl).trans (List.getElem?_eq_getElem (by rw [hxl]; decide))⟩
 rw [show Tryz.prog.cellsOf 9 = 1 from by kernel_rfl] at hy1
 obtain ⟨y2, hy2⟩ : ∃ y, DataW.trod enc Tryz.prog W 0 spare held n 54 ((cs.drop 2).take (Tryz.prog.cellsOf 54)) = some y := ⟨_, (hf 2 _ rfl).trans (List.getElem?_eq_getElem (by rw [hxl]; decide))⟩
 rw [show Tryz.prog.cellsOf 54 = 1 from by kernel_rfl] at hy2
 obtain ⟨v0, v1, v2, rfl⟩ : ∃ v0 v1 v2, cs = [v0, v1, v2] := by
  match cs, hcl with
  | [v0, v1, v2], _ => exact ⟨v0, v1, v2, rfl⟩
 simp only [List.drop_succ_cons, List.drop_zero, List.take_succ_cons, List.take_zero] at hy0 hy1 hy2
 obtain ⟨z0, e0, _, w0⟩ := DataW.trod_string Tryz.underlying9 hy0
 obtain ⟨z1, e1, _, w1⟩ := DataW.trod_string Tryz.underlying9 hy1
 obtain ⟨a, c, l, e2, h1, h2, h3, h4⟩ := open_flat (cells := prCells) (c := 2) (fit := fitsP) Tryz.underlying54 (by kernel_rfl) (by decide) (fun n cs y h => open_pair h) hy2
 simp only [List.cons.injEq, and_true] at e0 e1 e2
 subst e0 e1 e2
 exact ⟨⟨z0.data.toList, z1.data.toList, l⟩, ⟨a, c, rfl, h1, h3⟩, ⟨w0, w1, Nat.le_trans h1 h2, h4⟩⟩
theorem open_usrs {H : Type} {enc : TypeId × Value → H} {W : World} {spare : Nat → Bool} {held : Bool} {fuel : Nat} {cs : List Value} {x : DataW H × List MemPlace} (h : DataW.trod enc Tryz.prog W 0 spare held fuel 28 cs = some x) : ∃ (a : Option Addr) (cap : Nat) (l : List Us), cs = [.slice a l.length cap] ∧ l.length ≤ cap ∧ cap ≤ maxLen ∧ UsrsAt (im0 W) a l ∧ ∀ u ∈ l, u.fits := by
 obtain ⟨a, cap, L, n, rfl, h1, h2, h3, h4, h5⟩ := open_rows (c := 3) Tryz.underlying28 (by kernel_rfl) (by decide) h
 have key : ∀ L : List (List Value), (∀ l ∈ L, ∃ y, DataW.trod enc Tryz.prog W 0 spare held n 67 l = some y) → ∃ l : List Us, L.length = l.length ∧ ∀ (i : Nat) (u : Us), l[i]? = some u → u.fits ∧ ∃ c, L[i]? = some c ∧ UsAt (im0 W) u c := by
  intro L
  induction L with
  | nil => intro _; exact ⟨[], rfl, fun i s h => by simp at h⟩
  | cons c L ih =>
   intro h
   obtain ⟨y, hy⟩ := h c (by simp)
   obtain ⟨s, hs, hf⟩ := open_usr hy
   obtain ⟨l, e1, e2⟩ := ih (fun c hc => h c (by simp [hc]))
   refine ⟨s :: l, by simp [e1], fun i u hu => ?_⟩
   cases i with
   | zero => simp at hu; subst hu; exact ⟨hf, c, rfl, hs⟩
   | succ i => simpa using e2 i u (by simpa using hu)
 obtain ⟨l, e1, e2⟩ := key L h5
 refine ⟨a, cap, l, by rw [e1], by rw [← e1]; exact h1, h2, fun i u hu => ?_, fun u hu => ?_⟩
 ·obtain ⟨_, c, hc, ra, rc, rfl, h6, h7⟩ := e2 i u hu
  obtain ⟨p, rfl, hp⟩ := h4.2 (by have := (List.getElem?_eq_some_iff.1 hc).1; omega)
  have h8 := at_take (hp.add (i * 3)) 3
  rw [flat_piece L h3 i _ hc] at h8
  exact ⟨p, ra, rc, rfl, h8, h6, h7⟩
 ·obtain ⟨i, hi⟩ := List.mem_iff_getElem?.1 hu
  exact (e2 i u hi).1
theorem open_arr {H : Type} {enc : TypeId × Value → H} {W : World} {spare : Nat → Bool} {held : Bool} {fuel : Nat} {cs : List Value} {x : DataW H × List MemPlace} (h : DataW.trod enc Tryz.prog W 0 spare held fuel 29 cs = some x) : ∃ l : List Int, l.length = 7 ∧ cs = l.map I64 := by
 obtain ⟨xs, n, _, _, hcl, hxl, hf⟩ := DataW.trod_array Tryz.underlying29 h
 rw [show Tryz.prog.cellsOf 29 = 7 from by kernel_rfl] at hcl
 rw [show Tryz.prog.cellsOf 3 = 1 from by kernel_rfl] at hf
 have each : ∀ v ∈ cs, ∃ z : Int, v = I64 z := by
  intro v hv
  obtain ⟨i, hi⟩ := List.mem_iff_getElem?.1 hv
  have hil := (List.getElem?_eq_some_iff.1 hi).1
  obtain ⟨y, hy⟩ : ∃ y, xs[i]? = some y := ⟨_, List.getElem?_eq_getElem (by omega)⟩
  have h2 := (hf i (by omega)).trans hy
  obtain ⟨z, e, _⟩ := DataW.trod_int Tryz.underlying3 h2
  rw [Nat.mul_one, List.drop_eq_getElem_cons hil, List.take_succ_cons, List.take_zero, (List.getElem?_eq_some_iff.1 hi).2] at e
  exact ⟨z, (List.cons.inj e).1⟩
 have key : ∀ cs : List Value, (∀ v ∈ cs, ∃ z : Int, v = I64 z) → ∃ l : List Int, cs = l.map I64 := by
  intro cs
  induction cs with
  | nil => intro _; exact ⟨[], rfl⟩
  | cons v r ih =>
   intro h
   obtain ⟨z, rfl⟩ := h v (by simp)
   obtain ⟨l, rfl⟩ := ih (fun v hv => h v (by simp [hv]))
   exact ⟨z :: l, rfl⟩
 obtain ⟨l, rfl⟩ := key cs each
 exact ⟨l, by simpa using hcl, rfl⟩
theorem psL_of {L : List Int} (h : L.length = 21) : psL (fun i => L.getD i 0) = L := by
 match L, h with
 | [a0, a1, a2, a3, a4, a5, a6, a7, a8, a9, a10, a11, a12, a13, a14, a15, a16, a17, a18, a19, a20], _ => rfl
theorem open_pol {H : Type} {enc : TypeId × Value → H} {W : World} {spare : Nat → Bool} {held : Bool} {fuel : Nat} {cs : List Value} {x : DataW H × List MemPlace} (h : DataW.trod enc Tryz.prog W 0 spare held fuel 31 cs = some x) : ∃ p : Nat → Int, cs = (psL p).map I64 := by
 obtain ⟨xs, n, _, _, hcl, hxl, hf⟩ := DataW.trod_struct Tryz.underlying31 h
 rw [show Tryz.prog.cellsOf 31 = 21 from by kernel_rfl] at hcl
 obtain ⟨y0, hy0⟩ : ∃ y, DataW.trod enc Tryz.prog W 0 spare held n 29 ((cs.drop 0).take (Tryz.prog.cellsOf 29)) = some y := ⟨_, (hf 0 _ rfl).trans (List.getElem?_eq_getElem (by rw [hxl]; decide))⟩
 rw [show Tryz.prog.cellsOf 29 = 7 from by kernel_rfl] at hy0
 obtain ⟨y1, hy1⟩ : ∃ y, DataW.trod enc Tryz.prog W 0 spare held n 29 ((cs.drop 7).take (Tryz.prog.cellsOf 29)) = some y := ⟨_, (hf 1 _ rfl).trans (List.getElem?_eq_getElem (by rw [hxl]; decide))⟩
 rw [show Tryz.prog.cellsOf 29 = 7 from by kernel_rfl] at hy1
 obtain ⟨y2, hy2⟩ : ∃ y, DataW.trod enc Tryz.prog W 0 spare held n 29 ((cs.drop 14).take (Tryz.prog.cellsOf 29)) = some y := ⟨_, (hf 2 _ rfl).trans (List.getElem?_eq_getElem (by rw [hxl]; decide))⟩
 rw [show Tryz.prog.cellsOf 29 = 7 from by kernel_rfl] at hy2
 obtain ⟨v0, v1, v2, v3, v4, v5, v6, v7, v8, v9, v10, v11, v12, v13, v14, v15, v16, v17, v18, v19, v20, rfl⟩ : ∃ v0 v1 v2 v3 v4 v5 v6 v7 v8 v9 v10 v11 v12 v13 v14 v15 v16 v17 v18 v19 v20, cs = [v0, v1, v2, v3, v4, v5, v6, v7, v8, v9, v10, v11, v12, v13, v14, v15, v16, v17, v18, v19, v20] := by
  match cs, hcl with
  | [v0, v1, v2, v3, v4, v5, v6, v7, v8, v9, v10, v11, v12, v13, v14, v15, v16, v17, v18, v19, v20], _ => exact ⟨v0, v1, v2, v3, v4, v5, v6, v7, v8, v9, v10, v11, v12, v13, v14, v15, v16, v17, v18, v19, v20, rfl⟩
 simp only [List.drop_succ_cons, List.drop_zero, List.take_succ_cons, List.take_zero] at hy0 hy1 hy2
 obtain ⟨l0, h0, e0⟩ := open_arr hy0
 obtain ⟨l1, h1, e1⟩ := open_arr hy1
 obtain ⟨l2, h2, e2⟩ := open_arr hy2
 refine ⟨fun i => (l0 ++ (l1 ++ l2)).getD i 0, ?_⟩
 rw [psL_of (by simp only [List.length_append]; omega), List.map_append, List.map_append, ← e0, ← e1, ← e2]
 rfl
theorem open_cfg {H : Type} {enc : TypeId × Value → H} {W : World} {spare : Nat → Bool} {held : Bool} {fuel : Nat} {cs : List Value} {x : DataW H × List MemPlace} (h : DataW.trod enc Tryz.prog W 0 spare held fuel 34 cs = some x) : ∃ (c : Cf) (a : Option Addr) (cap : Nat) (ua : Option Addr) (ucap : Nat), cs = cfCells c a cap ua ucap ∧ CfAt (im0 W) c a cap ua ucap := by
 obtain ⟨xs, n, _, _, hcl, hxl, hf⟩ := DataW.trod_struct Tryz.underlying34 h
 rw [show Tryz.prog.cellsOf 34 = 28 from by kernel_rfl] at hcl
 obtain ⟨y0, hy0⟩ : ∃ y, DataW.trod enc Tryz.prog W 0 spare held n 27 ((cs.drop 0).take (Tryz.prog.cellsOf 27)) = some y := ⟨_, (hf 0 _ rfl).trans (List.getElem?_eq_getElem (by rw [hxl]; decide))⟩
 rw [show Tryz.prog.cellsOf 27 = 1 from by kernel_rfl] at hy0
 obtain ⟨y1, hy1⟩ : ∃ y, DataW.trod enc Tryz.prog W 0 spare held n 28 ((cs.drop 1).take (Tryz.prog.cellsOf 28)) = some y := ⟨_, (hf 1 _ rfl).trans (List.getElem?_eq_getElem (by rw [hxl]; decide))⟩
 rw [show Tryz.prog.cellsOf 28 = 1 from by kernel_rfl] at hy1
 obtain ⟨y2, hy2⟩ : ∃ y, DataW.trod enc Tryz.prog W 0 spare held n 31 ((cs.drop 2).take (Tryz.prog.cellsOf 31)) = some y := ⟨_, (hf 2 _ rfl).trans (List.getElem?_eq_getElem (by rw [hxl]; decide))⟩
 rw [show Tryz.prog.cellsOf 31 = 21 from by kernel_rfl] at hy2
 obtain ⟨y3, hy3⟩ : ∃ y, DataW.trod enc Tryz.prog W 0 spare held n 3 ((cs.drop 23).take (Tryz.prog.cellsOf 3)) = some y := ⟨_, (hf 3 _ rfl).trans (List.getElem?_eq_getElem (by rw [hxl]; decide))⟩
 rw [show Tryz.prog.cellsOf 3 = 1 from by kernel_rfl] at hy3
 obtain ⟨y4, hy4⟩ : ∃ y, DataW.trod enc Tryz.prog W 0 spare held n 32 ((cs.drop 24).take (Tryz.prog.cellsOf 32)) = some y := ⟨_, (hf 4 _ rfl).trans (List.getElem?_eq_getElem (by rw [hxl]; decide))⟩
 rw [show Tryz.prog.cellsOf 32 = 1 from by kernel_rfl] at hy4
 obtain ⟨y5, hy5⟩ : ∃ y, DataW.trod enc Tryz.prog W 0 spare held n 32 ((cs.drop 25).take (Tryz.prog.cellsOf 32)) = some y := ⟨_, (hf 5 _ rfl).trans (List.getElem?_eq_getElem (by rw [hxl]; decide))⟩
 rw [show Tryz.prog.cellsOf 32 = 1 from by kernel_rfl] at hy5
 obtain ⟨y6, hy6⟩ : ∃ y, DataW.trod enc Tryz.prog W 0 spare held n 32 ((cs.drop 26).take (Tryz.prog.cellsOf 32)) = some y := ⟨_, (hf 6 _ rfl).trans (List.getElem?_eq_getElem (by rw [hxl]; decide))⟩
 rw [show Tryz.prog.cellsOf 32 = 1 from by kernel_rfl] at hy6
 obtain ⟨y7, hy7⟩ : ∃ y, DataW.trod enc Tryz.prog W 0 spare held n 3 ((cs.drop 27).take (Tryz.prog.cellsOf 3)) = some y := ⟨_, (hf 7 _ rfl).trans (List.getElem?_eq_getElem (by rw [hxl]; decide))⟩
 rw [show Tryz.prog.cellsOf 3 = 1 from by kernel_rfl] at hy7
 obtain ⟨v0, v1, v2, v3, v4, v5, v6, v7, v8, v9, v10, v11, v12, v13, v14, v15, v16, v17, v18, v19, v20, v21, v22, v23, v24, v25, v26, v27, rfl⟩ : ∃ v0 v1 v2 v3 v4 v5 v6 v7 v8 v9 v10 v11 v12 v13 v14 v15 v16 v17 v18 v19 v20 v21 v22 v23 v24 v25 v26 v27, cs = [v0, v1, v2, v3, v4, v5, v6, v7, v8, v9, v10, v11, v12, v13, v14, v15, v16, v17, v18, v19, v20, v21, v22, v23, v24, v25, v26, v27] := by
  match cs, hcl with
  | [v0, v1, v2, v3, v4, v5, v6, v7, v8, v9, v10, v11, v12, v13, v14, v15, v16, v17, v18, v19, v20, v21, v22, v23, v24, v25, v26, v27], _ => exact ⟨v0, v1, v2, v3, v4, v5, v6, v7, v8, v9, v10, v11, v12, v13, v14, v15, v16, v17, v18, v19, v20, v21, v22, v23, v24, v25, v26, v27, rfl⟩
 simp only [List.drop_succ_cons, List.drop_zero, List.take_succ_cons, List.take_zero] at hy0 hy1 hy2 hy3 hy4 hy5 hy6 hy7
 obtain ⟨a, cap, L, l, e0, h1, h2, h3, h4, h5, h6⟩ := open_svcs hy0
 obtain ⟨ua, ucap, us, e1, h7, h8, h9, h10⟩ := open_usrs hy1
 obtain ⟨ps, e2⟩ := open_pol hy2
 obtain ⟨z3, e3, _⟩ := DataW.trod_int Tryz.underlying3 hy3
 obtain ⟨z4, e4, _⟩ := trod_float_ Tryz.underlying32 hy4
 obtain ⟨z5, e5, _⟩ := trod_float_ Tryz.underlying32 hy5
 obtain ⟨z6, e6, _⟩ := trod_float_ Tryz.underlying32 hy6
 obtain ⟨z7, e7, _⟩ := DataW.trod_int Tryz.underlying3 hy7
 simp only [List.cons.injEq, and_true] at e0 e1 e3 e4 e5 e6 e7
 subst e0 e1 e3 e4 e5 e6 e7
 refine ⟨⟨l, us, ps, z3, z4, z5, z6, z7⟩, a, cap, ua, ucap, ?_, svs_of h4 h5 (fun i s hs => (h6 i s hs).2), h9, ⟨by rw [← h3]; exact h1, h2⟩, Nat.le_trans h7 h8, fun s hs => ?_, h10⟩
 ·show _ = Value.slice a l.length cap :: Value.slice ua us.length ucap :: ((psL ps).map I64 ++ _)
  rw [← e2, ← h3]; rfl
 ·obtain ⟨i, hi⟩ := List.mem_iff_getElem?.1 hs
  exact (h6 i s hi).1
end Go.Proofs.YtadhiihnnkcagaaGreatDoor
