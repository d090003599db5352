/- Part 7 of what the proof stands on: W21v, W21w, GkK, Kn2, Op21, W21x, W21y. -/
import Derived.Test.YtadhiihnnkcagaaGreatDoorM21F
import Derived.KernelRfl
import Derived.Laws.StructEq
import Derived.Lib.LaidTab
import Derived.Lib.LaidU8
import Derived.Lay
import Derived.Shelf.Vars
import Derived.HandedShaped
import Derived.MakeChecks
import Derived.Test.YtadhiihnnkcagaaGreatDoorRows
import Derived.OpenShut
namespace Go.Proofs.YtadhiihnnkcagaaGreatDoor
open Gk Ul Pc Tk Tr
set_option linter.unusedVariables false
set_option linter.unusedSimpArgs false
theorem bld34_v : Bld Tryz.prog 34 [(0, 1), (1, 1), (2, 21), (23, 1), (24, 1), (25, 1), (26, 1), (27, 1)] [.slice none 0 0, .slice none 0 0, .int .i64 0, .int .i64 0, .int .i64 0, .int .i64 0, .int .i64 0, .int .i64 0, .int .i64 0, .int .i64 0, .int .i64 0, .int .i64 0, .int .i64 0, .int .i64 0, .int .i64 0, .int .i64 0, .int .i64 0, .int .i64 0, .int .i64 0, .int .i64 0, .int .i64 0, .int .i64 0, .int .i64 0, .int .i64 0, .float .f64 0, .float .f64 0, .float .f64 0, .int .i64 0] := bld_of Tryz.underlying34 Tryz.zeroValue34 (fun w => by simp [go_sem])
theorem bld43_v : Bld Tryz.prog 43 [(0, 1), (1, 1), (2, 1), (3, 1)] [S [], S [], .bool false, .bool false] := bld_of Tryz.underlying43 Tryz.zeroValue43 (fun w => by simp [go_sem])
theorem bld45_v : Bld Tryz.prog 45 [(0, 1), (1, 1), (2, 1), (3, 1), (4, 1), (5, 1), (6, 1), (7, 1), (8, 1), (9, 1)] [.int .i64 0, S [], S [], S [], S [], S [], .int .i64 0, .int .i64 0, .int .i64 0, .bool false] := bld_of Tryz.underlying45 Tryz.zeroValue45 (fun w => by simp [go_sem])
theorem bld67_v : Bld Tryz.prog 67 [(0, 1), (1, 1), (2, 1)] [S [], S [], .slice none 0 0] := bld_of Tryz.underlying67 Tryz.zeroValue67 (fun w => by simp [go_sem])
theorem bld101_v : Bld Tryz.prog 101 [(0, 1), (1, 1), (2, 1), (3, 1), (4, 1), (5, 1), (6, 1), (7, 1)] [.int .i64 0, .float .f64 0, S [], .bool false, .bool false, .bool false, S [], .slice none 0 0] := bld_of Tryz.underlying101 Tryz.zeroValue101 (fun w => by simp [go_sem])
def AWS : Sv := ⟨0, 0, [104, 116, 116, 112, 58, 47, 47, 97, 47, 42, 42], true, false, false, [], []⟩
def AWUs : Us := ⟨[117], [112], []⟩
def AWC : Cf := ⟨[AWS], [AWUs], fun _ => 0, 9, 0, 0, 0, 0⟩
def AR1 : Rec := ⟨1, preI 1 ++ 45 :: digs 16 1, [], [117], [], [], 0, 0, 0, false⟩
def AR2 : Rec := ⟨2, preI 2 ++ 45 :: digs 16 2, preI 1 ++ 45 :: digs 16 1, [117], [104, 116, 116, 112, 58, 47, 47, 97, 47, 120], [], 0, 0, 0, false⟩
def AQ : Qr := ⟨preI 2 ++ 45 :: digs 16 2, [72, 84, 84, 80, 58, 47, 47, 65, 47, 120], false, false⟩
def AO2 : Wd := addW (addW (w0 AWC) AR1) AR2
theorem awc_new : newE AWC = 0 := by kernel_rfl
theorem awc_ord : Srt.Ord (kx (ords [AWS])) 1 [0] := ⟨by decide +kernel, by decide +kernel⟩
theorem awc_fits : AWC.fits := ⟨by decide, by decide +kernel, by decide +kernel, by decide, fun u hu => by
 rw [show AWC.us = [AWUs] from rfl, List.mem_singleton] at hu; subst hu
 exact ⟨by decide, by decide, by decide, fun p hp => by simp [AWUs] at hp⟩⟩
theorem awc_cfat {J : Im} {s u : Nat} {E F : TypeId} (h1 : J s = some (cellsO [I64 0, F64 0, S AWS.urls, .bool true, .bool false, .bool false, S [], .slice none 0 0] E)) (h2 : J u = some (cellsO [S AWUs.name, S AWUs.pw, .slice none 0 0] F)) : SvsAt J (some (ad s 0)) [AWS] ∧ UsrsAt J (some (ad u 0)) [AWUs] := by
 constructor
 ·intro i t ht
  match i, ht with
  | 0, ht => cases ht; exact ⟨_, none, 0, rfl, at_frozen h1, Nat.le_refl _, RS.nil _ _⟩
  | i + 1, ht => simp at ht
 ·intro i t ht
  match i, ht with
  | 0, ht => cases ht; exact ⟨_, none, 0, rfl, at_frozen h2, Nat.le_refl _, RS.nil _ _⟩
  | i + 1, ht => simp at ht
set_option maxRecDepth 20000 in
theorem awake21_any (B w : World) (I : Im) (hK : Known I) (hP : PreAt I) (As : List Assn) (hS : Sat B w I As) :
  Calls Tryz.prog 13 [].toArray w (Ret fun v w' => v = .bool true ∧ Sat B w' I As) := by
 refine calls Tryz.func13 rfl Tryz.ntmps13 rfl (.seq (.region (.run 1 rfl trivial (.nil (.seq (.region (.val (.build (cs := [_, _, _, _, _, _, _, _]) (parts_cons (.of rfl) (parts_cons (.of rfl) parts_nil)) bld101_v rfl) rfl (.buildSlice (cs := [_, _, _, _, _, _, _, _]) hS (parts_cons (.of rfl) parts_nil) Tryz.underlying27 Tryz.sizeOf101 Tryz.zeroValue101 rfl rfl rfl rfl ?_))))))))
 clear hS; intro b15 w hS
 refine .val (.build (cs := [_, _, _]) (parts_cons (.of rfl) (parts_cons (.of rfl) parts_nil)) bld67_v rfl) rfl (.buildSlice (cs := [_, _, _]) hS (parts_cons (.of rfl) parts_nil) Tryz.underlying28 Tryz.sizeOf67 Tryz.zeroValue67 rfl rfl rfl rfl ?_)
 clear hS; intro b17 w hS
 refine .val (.build (cs := [_, _, _, _, _, _, _, _, _, _, _, _, _, _, _, _, _, _, _, _, _, _, _, _, _, _, _, _]) (parts_cons (.of rfl) (parts_cons (.of rfl) (parts_cons (.of rfl) parts_nil))) bld34_v rfl) rfl ?_
 obtain ⟨J1, hJ1, hb17, hS⟩ := hS.freeze (k := 0) rfl
 obtain ⟨J2, hJ2, hb15, hS⟩ := hS.freeze (k := 0) rfl
 try dsimp only [List.eraseIdx] at hS
 have hcf := awc_cfat (J := J2) hb15 (hJ2 _ _ hb17)
 refine .call Tryz.func41 rfl (evs_cons (.of rfl) evs_nil) rfl (grantNew_any AWC awc_fits (some (ad b15 0)) 1 (some (ad b17 0)) 1 B _ J2 ((hK.mono hJ1).mono hJ2) ((hP.mono hJ1).mono hJ2) hcf.1 hcf.2 _ hS) ?_
 clear hS
 rintro v w ⟨J, hJ, hcase⟩
 obtain ⟨_, p, D, hD, hlo, hus, hps, rfl, hI, hS⟩ := hcase.resolve_left (fun h => h.1 awc_new)
 obtain rfl : D = [0] := hD.unique awc_ord
 have hlo : p.lo = [AWS] := hlo
 have hus : p.us = [AWUs] := hus
 have hps : p.ps = fun _ => 0 := hps
 refine .run 5 rfl trivial (.nil (.seq (.seq ?_)))
 obtain ⟨⟨a, c, ma, mc⟩, hS⟩ := Sat.unbox hS
 replace hS : Sat B _ _ (blk p.wb (wdC p (w0 AWC)) 52 :: blk p.tb [I64 (w0 AWC).room, .slice a (w0 AWC).l.length c] 127 :: Vec 45 10 (.slice a (w0 AWC).l.length c) (w0 AWC).l.length (rowsR (w0 AWC).l) :: blk p.mb [.slice ma (w0 AWC).D.length mc] 168 :: VecO 118 (.slice ma (w0 AWC).D.length mc) ((w0 AWC).D.map fun d => U64 (d : Nat)) :: _) := hS
 refine .region (.run 1 rfl trivial (.val (.eqp (.of rfl) (.of rfl) Tryz.underlying39) rfl (.run 1 rfl trivial (.gval rfl rfl (fun hg1 => (.move (.of rfl))) rfl (.gval rfl rfl (fun hg1 => (.neq (.gd hg1 rfl) (.of rfl))) rfl (.val (.por (.of rfl) (.of rfl) (.of rfl)) rfl (.run 1 rfl trivial (.gval rfl rfl (fun hg1 => (.move (.of rfl))) rfl (.gval rfl rfl (fun hg1 => (.nilCheck (.gd hg1 rfl))) rfl ?_)))))))))
 refine WL.gval rfl rfl (fun hg1 => (by first | exact .fieldAddr 0 (.gd hg1 rfl) Tryz.underlying52 rfl rfl Tryz.sizeOf47 rfl | exact .fieldAddrI 0 (.gd hg1 rfl) Tryz.underlying52 rfl rfl Tryz.sizeOf47 rfl)) rfl ?_
 refine WL.gval rfl rfl (fun hg1 => (by first | exact (.ld (.gd hg1 rfl) hS (k := 0) rfl Tryz.isAgg47 rfl) | exact (.ld (.gd hg1 rfl) hS (k := 1) rfl Tryz.isAgg47 rfl) | exact (.ld (.gd hg1 rfl) hS (k := 2) rfl Tryz.isAgg47 rfl) | exact (.ld (.gd hg1 rfl) hS (k := 3) rfl Tryz.isAgg47 rfl) | exact (.ld (.gd hg1 rfl) hS (k := 4) rfl Tryz.isAgg47 rfl))) rfl ?_
 refine .gval rfl rfl (fun hg1 => (.eqp (.gd hg1 rfl) (.of rfl) Tryz.underlying47)) rfl (.val (.por (.of rfl) (.of rfl) (.of rfl)) rfl (.nil (.condF (rfl) (.skip (.seq (.region (.call Tryz.func56 rfl (evs_cons (.of rfl) (evs_cons (.of rfl) evs_nil)) rfl (refName_any 1 1 (by decide) B _ J _ hS) ?_)))))))
 clear hS
 rintro v w ⟨hv9, hS⟩
 rw [if_neg (by decide)] at hv9
 subst hv9
 refine .run 5 rfl trivial (.nil (.seq (.region (.call Tryz.func56 rfl (evs_cons (.of rfl) (evs_cons (.of rfl) evs_nil)) rfl (refName_any 2 2 (by decide) B _ J _ hS) ?_))))
 clear hS
 rintro v w ⟨hv9, hS⟩
 rw [if_neg (by decide)] at hv9
 subst hv9
 refine .run 5 rfl trivial (.nil (.seq (.region (.run 2 rfl trivial ?_))))
 first | refine WL.val (.fieldAddr 0 (.of rfl) Tryz.underlying52 rfl rfl Tryz.sizeOf47 rfl) rfl ?_ | refine WL.val (.fieldAddrI 0 (.of rfl) Tryz.underlying52 rfl rfl Tryz.sizeOf47 rfl) rfl ?_
 first | refine WL.val (.ld (.of rfl) hS (k := 0) rfl Tryz.isAgg47 rfl) rfl ?_ | refine WL.val (.ld (.of rfl) hS (k := 1) rfl Tryz.isAgg47 rfl) rfl ?_ | refine WL.val (.ld (.of rfl) hS (k := 2) rfl Tryz.isAgg47 rfl) rfl ?_ | refine WL.val (.ld (.of rfl) hS (k := 3) rfl Tryz.isAgg47 rfl) rfl ?_ | refine WL.val (.ld (.of rfl) hS (k := 4) rfl Tryz.isAgg47 rfl) rfl ?_
 refine .run 1 rfl trivial (.val (.build (cs := [_, _, _, _, _, _, _, _, _, _]) (parts_cons (.of rfl) (parts_cons (.of rfl) (parts_cons (.of rfl) parts_nil))) bld45_v rfl) rfl (.call Tryz.func57 rfl (evs_cons (.of rfl) (evs_cons (.of rfl) evs_nil)) rfl (Add_any p.tb (w0 AWC).room a c (w0 AWC).l (by decide +kernel) AR1 (by decide) (by decide) B _ J hI.known hI.pre _ ((hS.pick 2 rfl).pick 2 rfl)) ?_))
 clear hS
 rintro _ w ⟨rfl, a4, c4, hS⟩
 try dsimp only [List.eraseIdx] at hS
 refine .run 1 rfl trivial (.nil (.seq (.region (.run 2 rfl trivial ?_))))
 first | refine WL.val (.fieldAddr 0 (.of rfl) Tryz.underlying52 rfl rfl Tryz.sizeOf47 rfl) rfl ?_ | refine WL.val (.fieldAddrI 0 (.of rfl) Tryz.underlying52 rfl rfl Tryz.sizeOf47 rfl) rfl ?_
 first | refine WL.val (.ld (.of rfl) hS (k := 0) rfl Tryz.isAgg47 rfl) rfl ?_ | refine WL.val (.ld (.of rfl) hS (k := 1) rfl Tryz.isAgg47 rfl) rfl ?_ | refine WL.val (.ld (.of rfl) hS (k := 2) rfl Tryz.isAgg47 rfl) rfl ?_ | refine WL.val (.ld (.of rfl) hS (k := 3) rfl Tryz.isAgg47 rfl) rfl ?_ | refine WL.val (.ld (.of rfl) hS (k := 4) rfl Tryz.isAgg47 rfl) rfl ?_
 refine .run 2 rfl trivial (.val (.build (cs := [_, _, _, _, _, _, _, _, _, _]) (parts_cons (.of rfl) (parts_cons (.of rfl) (parts_cons (.of rfl) (parts_cons (.of rfl) (parts_cons (.of rfl) parts_nil))))) bld45_v rfl) rfl (.call Tryz.func57 rfl (evs_cons (.of rfl) (evs_cons (.of rfl) evs_nil)) rfl (Add_any p.tb (addW (w0 AWC) AR1).room a4 c4 (addW (w0 AWC) AR1).l (by decide +kernel) AR2 (by decide) (by decide) B _ J hI.known hI.pre _ ((hS.pick 1 rfl).pick 1 rfl)) ?_))
 clear hS
 rintro _ w ⟨rfl, a5, c5, hS⟩
 try dsimp only [List.eraseIdx] at hS
 refine .run 1 rfl trivial (.nil (.seq ?_))
 replace hS := Sat.box (T := wdT p AO2) (a5, c5, ma, mc) (((((hS.pick 4 rfl).pick 4 rfl).pick 3 rfl).pick 3 rfl).pick 4 rfl)
 try dsimp only [List.eraseIdx] at hS
 refine .region (.run 2 rfl trivial (.val (.build (cs := [_, _, _, _]) (parts_cons (.of rfl) (parts_cons (.of rfl) parts_nil)) bld43_v rfl) rfl (.call Tryz.func18 rfl (evs_cons (.of rfl) (evs_cons (.of rfl) evs_nil)) rfl (vCheck_any AQ (by decide) (by decide) p AO2 (addW_ok (addW_ok (w0_ok AWC) AR1) AR2) B _ J hI _ hS) ?_)))
 clear hS
 rintro _ w ⟨J6, _, hJ6, rfl, ⟨ka6, kc6, pa6, pc6, rfl, _, _, _, _⟩, hS⟩
 try dsimp only [List.eraseIdx] at hS
 refine .run 3 rfl trivial (.allocA (cs := [_, _, _, _]) hS Tryz.zeroValue56 rfl ?_)
 clear hS; intro b9 w hS
 first | refine WL.stA hS (k := 0) rfl (.of rfl) (.of rfl) rfl Tryz.sizeOf56 rfl (by simp) ?_ | refine WL.stA hS (k := 1) rfl (.of rfl) (.of rfl) rfl Tryz.sizeOf56 rfl (by simp) ?_
 clear hS; intro w hS; try dsimp only [List.set] at hS
 try simp only [List.take_zero, List.nil_append, List.append_nil, List.drop_succ_cons, List.drop_zero, List.drop_nil, Nat.zero_add] at hS
 refine .run 1 rfl trivial (.nil (.seq (.region (.run 2 rfl trivial (.val (.build (cs := [_, _, _, _]) (parts_cons (.of rfl) (parts_cons (.of rfl) parts_nil)) bld43_v rfl) rfl (.call Tryz.func18 rfl (evs_cons (.of rfl) (evs_cons (.of rfl) evs_nil)) rfl (vCheck_any AQ (by decide) (by decide) p (useW p.ps AO2 AQ).2 (useW_ok (addW_ok (addW_ok (w0_ok AWC) AR1) AR2) AQ) B _ J6 (hI.mono hJ6) _ (hS.pick 1 rfl)) ?_))))))
 clear hS
 rintro _ w ⟨J7, _, hJ7, rfl, ⟨ka7, kc7, pa7, pc7, rfl, _, _, _, _⟩, hS⟩
 try dsimp only [List.eraseIdx] at hS
 refine .run 3 rfl trivial (.allocA (cs := [_, _, _, _]) hS Tryz.zeroValue56 rfl ?_)
 clear hS; intro b11 w hS
 first | refine WL.stA hS (k := 0) rfl (.of rfl) (.of rfl) rfl Tryz.sizeOf56 rfl (by simp) ?_ | refine WL.stA hS (k := 1) rfl (.of rfl) (.of rfl) rfl Tryz.sizeOf56 rfl (by simp) ?_ | refine WL.stA hS (k := 2) rfl (.of rfl) (.of rfl) rfl Tryz.sizeOf56 rfl (by simp) ?_
 clear hS; intro w hS; try dsimp only [List.set] at hS
 try simp only [List.take_zero, List.nil_append, List.append_nil, List.drop_succ_cons, List.drop_zero, List.drop_nil, Nat.zero_add] at hS
 refine .run 1 rfl trivial (.nil (.seq (.region (.run 3 rfl trivial (.gval rfl rfl (fun hg1 => (.move (.of rfl))) rfl (.gval rfl rfl (fun hg1 => (.eql (.gd hg1 rfl) (.of rfl))) rfl (.val (.pand (.of rfl) (.of rfl) (.of rfl)) rfl (.run 1 rfl trivial (.gval rfl rfl (fun hg1 => (.move (.of rfl))) rfl (.gval rfl rfl (fun hg1 => (.eql (.gd hg1 rfl) (.of rfl))) rfl (.val (.pand (.of rfl) (.of rfl) (.of rfl)) rfl (.run 1 rfl trivial ?_))))))))))))
 refine WL.gval rfl rfl (fun hg1 => (by first | exact .fieldAddr 0 (.of rfl) Tryz.underlying56 rfl rfl Tryz.sizeOf9 rfl | exact .fieldAddrI 0 (.of rfl) Tryz.underlying56 rfl rfl Tryz.sizeOf9 rfl)) rfl ?_
 refine WL.gval rfl rfl (fun hg1 => (by first | exact (.ld (.gd hg1 rfl) hS (k := 0) rfl Tryz.isAgg9 rfl) | exact (.ld (.gd hg1 rfl) hS (k := 1) rfl Tryz.isAgg9 rfl) | exact (.ld (.gd hg1 rfl) hS (k := 2) rfl Tryz.isAgg9 rfl))) rfl ?_
 refine .gval rfl rfl (fun hg1 => (.eqs (.gd hg1 rfl) (.of rfl))) rfl (.val (.pand (.of rfl) (.of rfl) (.of rfl)) rfl (.run 1 rfl trivial (.gval rfl rfl (fun hg1 => (.move (.of rfl))) rfl (.gval rfl rfl (fun hg1 => (.eql (.gd hg1 rfl) (.of rfl))) rfl (.val (.pand (.of rfl) (.of rfl) (.of rfl)) rfl (.run 1 rfl trivial (.gval rfl rfl (fun hg1 => (.move (.of rfl))) rfl (.gcall (T := fun w => Sat B w J7 _) rfl rfl rfl Tryz.func14 rfl (fun hg1 => (evs_cons (.gd hg1 rfl) evs_nil)) rfl (fun hg1 => Code_any _ B _ J7 _ hS) hS ?_))))))))
 clear hS; rintro w hS
 refine .gval rfl rfl (fun hg1 => (.eqs (.gd hg1 rfl) (.of rfl))) rfl (.val (.pand (.of rfl) (.of rfl) (.of rfl)) rfl (.run 1 rfl trivial (.nil (.ret (ret1 Tryz.results13 rfl ?_)))))
 refine ⟨_, rfl, ?_, ((((hS.drop (k := 0) rfl).drop (k := 1) rfl).drop (k := 0) rfl).weaken (hJ1.trans (hJ2.trans (hJ.trans (hJ6.trans hJ7)))))⟩
 refine congrArg Value.bool ?_
 rw [hlo, hus, hps]
 kernel_rfl
end Go.Proofs.YtadhiihnnkcagaaGreatDoor
namespace Go.Proofs.YtadhiihnnkcagaaGreatDoor
open Gk Ul Pc Tk Tr
set_option linter.unusedVariables false
set_option linter.unusedSimpArgs false
theorem rec_equal (r s : Rec) (w : World) : (Op.equalIn 10000 45 (.agg (recCells r).toArray) (.agg (recCells s).toArray)).run Tryz.prog w = .ok (decide (r = s)) w := by
 have hS : Tryz.prog.underlying 45 = some (.struct (Tryz.prog.fieldsOf 45)) := by kernel_rfl
 have hp : Tryz.prog.stoodInHeld 45 = false := by kernel_rfl
 have ui := Tryz.underlying3
 have ai := Tryz.isAgg3
 have us := Tryz.underlying9
 have as9 := Tryz.isAgg9
 have ub := Tryz.underlying4
 have ab := Tryz.isAgg4
 rw [show (10000 : Nat) = 9999 + 1 from rfl, run_equalIn_agg w 9999 45 _ _ hS hp]
 simp only [Program.fieldsOf, Tryz.underlying45]
 obtain ⟨k, n, pa, u, sv, ur, m, us', uc, f⟩ := r
 obtain ⟨k', n', pa', u', sv', ur', m', us'', uc', f'⟩ := s
 unfold recCells
 go_simp
 repeat' split
 all_goals simp_all
theorem Ex.eqRec {n : Nat} {L : Env} {w : World} {d : Option Nat} {ty t' : TypeId} {pos : String} {af : Array Edge} {g : Option (Nat × Bool)} {x y : Operand} {r s : Rec} (hx : Ev n L x (.agg (recCells r).toArray)) (hy : Ev n L y (.agg (recCells s).toArray)) : Ex Tryz.prog n L w ⟨d, .binOp .eql 45 x y t', ty, pos, af, g⟩ (.bool (decide (r = s))) w :=
 ex_bin hx hy (fun p q => run_eqGuard_agg w _ _ _ _ _ _ (by kernel_rfl)) (by rw [run_eql_struct, rec_equal]; rfl)
theorem Ex.neRec {n : Nat} {L : Env} {w : World} {d : Option Nat} {ty t' : TypeId} {pos : String} {af : Array Edge} {g : Option (Nat × Bool)} {x y : Operand} {r s : Rec} (hx : Ev n L x (.agg (recCells r).toArray)) (hy : Ev n L y (.agg (recCells s).toArray)) : Ex Tryz.prog n L w ⟨d, .binOp .neq 45 x y t', ty, pos, af, g⟩ (.bool (!decide (r = s))) w :=
 ex_bin hx hy (fun p q => run_eqGuard_agg w _ _ _ _ _ _ (by kernel_rfl)) (by rw [run_neq_struct, rec_equal]; rfl)
theorem rec_in {α : Type} [BEq α] [LawfulBEq α] {l : List α} {s : α} : l.contains s = true ↔ s ∈ l := by simp
def tCells (s : List UInt8) : List Value := [S s]
theorem rowsT (l : List (List UInt8)) : rowsC tCells l = l.map S := by
 unfold rowsC
 induction l with
 | nil => rfl
 | cons x l ih => rw [List.map_cons, List.flatten_cons, ih]; rfl
theorem In_any (a : Option Addr) (c : Nat) (l : List (List UInt8)) (hl : l.length ≤ 9223372036854775807) (s : List UInt8) (B w : World) (I : Im) (As : List Assn) (hE : ∀ w, Sat B w I As → RowsW w tCells 1 a l) (hS : Sat B w I As) :
  Calls Tryz.prog 19 [.slice a l.length c, S s].toArray w (Ret fun v w' => v = .bool (l.contains s) ∧ Sat B w' I As) := by
 refine calls Tryz.func19 rfl Tryz.ntmps19 rfl (.seq (.region (.run 1 rfl trivial (.nil (.seq (.seq (.region (.run 1 rfl trivial (.nil (.block (.loop (σ := Nat) (fun i => [(0, .slice a l.length c), (1, S s), (5, I64 (i : Nat))]) (fun i w => i ≤ l.length ∧ (∀ (j : Nat) x, j < i → l[j]? = some x → x ≠ s) ∧ Sat B w I As) (fun i => l.length - i) 0 ⟨rfl, rfl, rfl, trivial⟩ ⟨Nat.zero_le _, fun _ _ h => absurd h (by omega), hS⟩ ?_)))))))))))
 rintro i w ⟨hi, hno, hS⟩
 change WC _ _ _ _ [(0, .slice a l.length c), (1, S s), (5, I64 (i : Nat))] w
 refine .seq (.seq (.region (.run 4 rfl ⟨⟨_, Tryz.underlying41⟩, trivial⟩ (.nil ?_))))
 refine WC.cond rfl (fun hb9 => ?_) (fun hb9 => ?_)
 ·
  have hc9 := hb9; try simp only [Gk.cs0] at hc9
  refine .skip (.seq (.block (.seq ?_)))
  obtain ⟨x, hx⟩ : ∃ x, l[i]? = some x := ⟨_, List.getElem?_eq_getElem (by omega)⟩
  obtain ⟨p, rfl, hA⟩ := hE w hS i x hx
  have hc0 := hA 0 _ rfl
  refine .region (.run 2 rfl trivial ?_)
  first | refine WL.val (.indexAddr (.of rfl) (.of rfl) (by omega) (by omega) Tryz.underlying41 Tryz.sizeOf9) rfl ?_ | refine WL.val (.indexAddrI (.of rfl) (.of rfl) (by omega) (by omega) Tryz.underlying41 Tryz.sizeOf9) rfl ?_
  refine .val (v := S x) (.ld1 (.of rfl) (by simpa [Addr.add_add] using hc0) Tryz.isAgg9) rfl (.run 2 rfl trivial (.nil ?_))
  refine WC.cond rfl (fun hb17 => ?_) (fun hb17 => ?_)
  ·
   have hc17 := hb17; try simp only [Gk.cs0] at hc17
   refine .seq (.region (.run 1 rfl trivial (.nil (.ret (ret1 Tryz.results19 rfl ?_)))))
   refine ⟨_, rfl, congrArg Value.bool (rec_in.2 ?_).symm, hS⟩
   have e : x = s := by simpa using hb17
   subst e
   exact List.mem_of_getElem? hx
  have hc17 := hb17; try simp only [Gk.cs0] at hc17
  refine .skip (.region (.run 3 rfl ⟨⟨by omega, by omega⟩, trivial⟩ (.nil ?_)))
  refine ⟨i + 1, ⟨rfl, rfl, rfl, trivial⟩, ⟨by (try dsimp only); omega, fun j y hj hy => ?_, hS⟩, by (try dsimp only); omega⟩
  rcases Nat.lt_or_ge j i with h1 | h1
  ·exact hno j y h1 hy
  ·have e : j = i := by omega
   subst e
   rw [hx] at hy; cases hy
   simpa using hb17
 have hc9 := hb9; try simp only [Gk.cs0] at hc9
 refine .exit (.seq (.region (.run 1 rfl trivial (.nil (.ret (ret1 Tryz.results19 rfl ?_))))))
 refine ⟨_, rfl, congrArg Value.bool (Bool.eq_false_iff.2 fun h => ?_).symm, hS⟩
 obtain ⟨j, hj⟩ := List.mem_iff_getElem?.1 (rec_in.1 h)
 have := (List.getElem?_eq_some_iff.1 hj).1
 exact hno j s (by omega) hj rfl
def KN : List Int := [33, 30, 32, 31, 36, 34]
theorem kn_cases {e : Int} (h : KN.contains e = true) : e = 33 ∨ e = 30 ∨ e = 32 ∨ e = 31 ∨ e = 36 ∨ e = 34 := by
 simpa [KN] using h
theorem code_other {e : Int} (h : KN.contains e = false) (h0 : e ≠ 0) : codeT e = INTERNAL := by
 have h1 : ∀ k ∈ KN, e ≠ k := fun k hk hh => by
  subst hh
  rw [Bool.eq_false_iff] at h
  exact h (by simpa using hk)
 have g : ∀ (k : Int), e ≠ k → (e == k) = false := fun k hk => beq_eq_false_iff_ne.2 hk
 simp only [codeT, CODES, List.lookup, g 33 (h1 33 (by decide)), g 30 (h1 30 (by decide)), g 32 (h1 32 (by decide)), g 31 (h1 31 (by decide)), g 36 (h1 36 (by decide)), g 34 (h1 34 (by decide)), g 0 h0]
 rfl
theorem codes_told (e : Int) : (((codeT e == []) != (e == 0)) || ((KN.contains e == (codeT e == INTERNAL)) && (e != 0))) = false := by
 cases h : KN.contains e with
 | true => rcases kn_cases h with rfl | rfl | rfl | rfl | rfl | rfl <;> decide
 | false =>
  by_cases h0 : e = 0
  ·subst h0; decide
  ·rw [code_other h h0]
   have e0 : (e == 0) = false := beq_eq_false_iff_ne.2 h0
   rw [e0]
   generalize (e != 0) = x
   cases x <;> decide
theorem codes_unlike (e f : Int) : (!(KN.contains e) || !(KN.contains f) || ((codeT e == codeT f) == (e == f))) = true := by
 cases h : KN.contains e with
 | false => rfl
 | true =>
  cases h2 : KN.contains f with
  | false => rfl
  | true => rcases kn_cases h with rfl | rfl | rfl | rfl | rfl | rfl <;> rcases kn_cases h2 with rfl | rfl | rfl | rfl | rfl | rfl <;> decide
theorem kn_step {i : Nat} (h : i < 6) : ∃ k, KN[i]? = some k ∧ ∀ e : Int, (KN.take (i + 1)).contains e = ((KN.take i).contains e || (k == e)) := by
 obtain ⟨k, hk⟩ : ∃ k, KN[i]? = some k := ⟨_, List.getElem?_eq_getElem h⟩
 refine ⟨k, hk, fun e => ?_⟩
 rw [Bool.eq_iff_iff, Bool.or_eq_true, rec_in, rec_in, List.take_add_one, hk, Option.toList_some, List.mem_append, List.mem_singleton, beq_iff_eq]
 exact or_congr Iff.rfl eq_comm
theorem ValidateCodes_any (e f : Int) (B w : World) (I : Im) (hK : Known I) (hP : PreAt I) (As : List Assn) (hS : Sat B w I As) :
  Calls Tryz.prog 3 [I64 e, I64 f].toArray w (Ret fun v w' => v = .bool true ∧ ∃ J, Le I J ∧ Sat B w' J As) := by
 refine calls Tryz.func3 rfl Tryz.ntmps3 rfl (.seq (.region (.run 1 rfl trivial (.nil (.seq (.region (.call Tryz.func13 rfl evs_nil rfl (awake21_any B _ I hK hP _ hS) ?_)))))))
 clear hS
 rintro _ w ⟨rfl, hS⟩
 refine .run 1 rfl trivial (.nil (.seq (.region (.run 1 rfl trivial (.call Tryz.func14 rfl (evs_cons (.of rfl) evs_nil) rfl (Code_any e B _ I _ hS) ?_)))))
 clear hS
 rintro _ w ⟨rfl, hS⟩
 refine .run 1 rfl trivial (.nil (.seq (.region (.run 1 rfl trivial (.call Tryz.func14 rfl (evs_cons (.of rfl) evs_nil) rfl (Code_any f B _ I _ hS) ?_)))))
 clear hS
 rintro _ w ⟨rfl, hS⟩
 refine .run 1 rfl trivial (.nil (.seq (.region (.buildSlice (cs := [_, _, _, _, _, _]) hS (parts_cons (.of rfl) (parts_cons (.of rfl) (parts_cons (.of rfl) (parts_cons (.of rfl) (parts_cons (.of rfl) (parts_cons (.of rfl) parts_nil)))))) Tryz.underlying25 Tryz.sizeOf22 Tryz.zeroValue22 rfl rfl rfl rfl ?_))))
 clear hS; intro b17 w hS
 refine .run 1 rfl trivial (.nil (.seq (.region (.run 1 rfl trivial (.nil (.seq (.region (.run 1 rfl trivial (.nil (.seq (.seq (.region (.run 1 rfl trivial (.nil (.block (.loop (σ := Nat) (fun i => [(0, I64 e), (1, I64 f), (5, .bool true), (6, S (codeT e)), (7, S (codeT f)), (8, .slice (some (ad b17 0)) 6 6), (9, .bool ((KN.take i).contains e)), (10, .bool ((KN.take i).contains f)), (11, I64 (i : Nat))]) (fun i w => i ≤ 6 ∧ Sat B w I (blk b17 (KN.map I64) 22 :: As)) (fun i => 6 - i) 0 ⟨rfl, rfl, rfl, rfl, rfl, rfl, rfl, rfl, rfl, trivial⟩ ⟨Nat.zero_le _, hS⟩ ?_))))))))))))))))
 rintro i w ⟨hi, hS⟩
 change WC _ _ _ _ [(0, I64 e), (1, I64 f), (5, .bool true), (6, S (codeT e)), (7, S (codeT f)), (8, .slice (some (ad b17 0)) 6 6), (9, .bool ((KN.take i).contains e)), (10, .bool ((KN.take i).contains f)), (11, I64 (i : Nat))] w
 refine .seq (.seq (.region (.run 4 rfl ⟨⟨_, Tryz.underlying25⟩, trivial⟩ (.nil ?_))))
 refine WC.cond rfl (fun hb21 => ?_) (fun hb21 => ?_)
 ·
  have hc21 := hb21; try simp only [Gk.cs0] at hc21
  refine .skip (.seq (.block (.seq ?_)))
  obtain ⟨k, hk, hst⟩ := kn_step (i := i) (by omega)
  have hcell : w.cell? (ad b17 (0 + i * 1)) = some (I64 k) := cell_own (hS.block (k := 0) rfl) (by rw [Nat.zero_add, Nat.mul_one, List.getElem?_map, hk]; rfl)
  refine .region (.run 2 rfl trivial (.gval rfl rfl (fun hg1 => (.move (.of rfl))) rfl (.gval rfl rfl (fun hg1 => (.move (.of rfl))) rfl ?_)))
  refine WL.gval rfl rfl (fun hg1 => (by first | exact .indexAddr (.gd hg1 rfl) (.gd hg1 rfl) (by (try simp only [Gk.cs0] at hg1); omega) (by (try simp only [Gk.cs0] at hg1); omega) Tryz.underlying25 Tryz.sizeOf22 | exact .indexAddrI (.gd hg1 rfl) (.gd hg1 rfl) (by (try simp only [Gk.cs0] at hg1); omega) (by (try simp only [Gk.cs0] at hg1); omega) Tryz.underlying25 Tryz.sizeOf22)) rfl ?_
  refine WL.gval rfl rfl (fun hg1 => .ld1 (.gd hg1 rfl) (by rw [Int.toNat_natCast]; exact hcell) Tryz.isAgg22) rfl ?_
  refine .gval rfl rfl (fun hg1 => (.move (.of rfl))) rfl (.gval rfl rfl (fun hg1 => (.eql (.gd hg1 rfl) (.gd hg1 rfl))) rfl (.val (.por (.of rfl) (.of rfl) (.of rfl)) rfl (.run 1 rfl trivial (.nil (.region (.run 2 rfl trivial (.gval rfl rfl (fun hg1 => (.move (.of rfl))) rfl (.gval rfl rfl (fun hg1 => (.move (.of rfl))) rfl ?_))))))))
  refine WL.gval rfl rfl (fun hg1 => (by first | exact .indexAddr (.gd hg1 rfl) (.gd hg1 rfl) (by (try simp only [Gk.cs0] at hg1); omega) (by (try simp only [Gk.cs0] at hg1); omega) Tryz.underlying25 Tryz.sizeOf22 | exact .indexAddrI (.gd hg1 rfl) (.gd hg1 rfl) (by (try simp only [Gk.cs0] at hg1); omega) (by (try simp only [Gk.cs0] at hg1); omega) Tryz.underlying25 Tryz.sizeOf22)) rfl ?_
  refine WL.gval rfl rfl (fun hg1 => .ld1 (.gd hg1 rfl) (by rw [Int.toNat_natCast]; exact hcell) Tryz.isAgg22) rfl ?_
  refine .gval rfl rfl (fun hg1 => (.move (.of rfl))) rfl (.gval rfl rfl (fun hg1 => (.eql (.gd hg1 rfl) (.gd hg1 rfl))) rfl (.val (.por (.of rfl) (.of rfl) (.of rfl)) rfl (.run 1 rfl trivial (.nil (.region (.run 3 rfl ⟨⟨by omega, by omega⟩, trivial⟩ (.nil ?_)))))))
  refine ⟨i + 1, ⟨rfl, rfl, rfl, rfl, rfl, rfl, ?_, ?_, rfl, trivial⟩, ⟨by (try dsimp only); omega, hS⟩, by (try dsimp only); omega⟩
  ·rw [hst e]; rfl
  ·rw [hst f]; rfl
 have hc21 := hb21; try simp only [Gk.cs0] at hc21
 refine .exit (.seq (.seq ?_))
 have hi6 : i = 6 := by omega
 subst hi6
 rw [show KN.take 6 = KN from rfl]
 refine .region (.run 4 rfl trivial (.val (.neb (.of rfl) (.of rfl) Tryz.underlying4) rfl (.run 1 rfl trivial (.gval rfl rfl (fun hg1 => (.move (.of rfl))) rfl (.gval rfl rfl (fun hg1 => (.move (.of rfl))) rfl (.gval rfl rfl (fun hg1 => (.eqs (.gd hg1 rfl) (.of rfl))) rfl (.gval rfl rfl (fun hg1 => (.eqb (.gd hg1 rfl) (.gd hg1 rfl) Tryz.underlying4)) rfl (.gval rfl rfl (fun hg1 => (.move (.gd hg1 rfl))) rfl (.gval2 rfl rfl rfl (fun hg1 hg2 => (.move (.of rfl))) rfl (.gval2 rfl rfl rfl (fun hg1 hg2 => (.neq (.gd2 hg1 hg2 rfl) (.of rfl))) rfl (.gval rfl rfl (fun hg1 => (.pand (.gd hg1 rfl) (.gd hg1 rfl) (.of rfl))) rfl (.val (.por (.of rfl) (.of rfl) (.of rfl)) rfl (.nil ?_)))))))))))))
 refine WC.cond rfl (fun hb56 => ?_) (fun hb56 => ?_)
 ·
  have hc56 := hb56; try simp only [Gk.cs0] at hc56
  refine .seq (.region (.run 1 rfl trivial (.nil (.ret (ret1 Tryz.results3 rfl ?_)))))
  exact absurd (hb56.symm.trans (codes_told e)) (by decide)
 have hc56 := hb56; try simp only [Gk.cs0] at hc56
 refine .skip (.seq (.region (.run 2 rfl trivial (.gval rfl rfl (fun hg1 => (.move (.of rfl))) rfl (.gval rfl rfl (fun hg1 => (.not (.gd hg1 rfl))) rfl (.gval rfl rfl (fun hg1 => (.move (.gd hg1 rfl))) rfl (.gval2 rfl rfl rfl (fun hg1 hg2 => (.move (.of rfl))) rfl (.gval2 rfl rfl rfl (fun hg1 hg2 => (.not (.gd2 hg1 hg2 rfl))) rfl (.gval rfl rfl (fun hg1 => (.por (.gd hg1 rfl) (.of rfl) (.gd hg1 rfl))) rfl (.gval rfl rfl (fun hg1 => (.move (.gd hg1 rfl))) rfl (.gval2 rfl rfl rfl (fun hg1 hg2 => (.move (.of rfl))) rfl (.gval2 rfl rfl rfl (fun hg1 hg2 => (.move (.of rfl))) rfl (.gval2 rfl rfl rfl (fun hg1 hg2 => (.eqs (.gd2 hg1 hg2 rfl) (.gd2 hg1 hg2 rfl))) rfl (.gval2 rfl rfl rfl (fun hg1 hg2 => (.move (.of rfl))) rfl (.gval2 rfl rfl rfl (fun hg1 hg2 => (.move (.of rfl))) rfl (.gval2 rfl rfl rfl (fun hg1 hg2 => (.eql (.gd2 hg1 hg2 rfl) (.gd2 hg1 hg2 rfl))) rfl (.gval2 rfl rfl rfl (fun hg1 hg2 => (.eqb (.gd2 hg1 hg2 rfl) (.gd2 hg1 hg2 rfl) Tryz.underlying4)) rfl (.gval rfl rfl (fun hg1 => (.por (.gd hg1 rfl) (.of rfl) (.gd hg1 rfl))) rfl (.val (.pand (.of rfl) (.of rfl) (.of rfl)) rfl (.run 1 rfl trivial (.nil (.ret (ret1 Tryz.results3 rfl ?_)))))))))))))))))))))))
 refine ⟨_, rfl, congrArg Value.bool ?_, I, Le.refl _, hS.drop (k := 0) rfl⟩
 exact codes_unlike e f
end Go.Proofs.YtadhiihnnkcagaaGreatDoor
namespace Gk
set_option linter.unusedVariables false
set_option linter.unusedSimpArgs false
open Go Go.RowKit Go.WideShapes Go.ChangeShapes
section
variable {H : Type} {enc : TypeId × Value → H}
def WitT (enc : TypeId × Value → H) (a : Assume) (C : Checked) (os : Os) (f : FuncId) (fn : Func) (s : ChangeSpec) (conds : List PathCond) (apart : Bool) (X : World → Array Value → Prop) : Prop :=
  ∃ (w : World) (tape : Tape) (i : Input), w.os = os ∧ (w.forCall tape i).Shaped C.prog ∧ i.vars = [] ∧ Input.okWide C.prog (w.forCall tape i) .any w.heap.size f i ∧
   ((s.pre enc C.prog fn conds apart (w.forCall tape i).memory i.args ∧ X (w.forCall tape i).memory i.args) ∧ sizedMet enc C.prog fn (OpenSpec.ofChange s) apart (w.forCall tape i).memory i.args) ∧ a.holds C.prog (lone (Frame.enter C.prog f i.args .normal) [] (w.forCall tape i))
theorem returns_and_shaped {a : Assume} {C : Checked} {os : Os} {f : FuncId} {fn : Func} {s : ChangeSpec} {conds : List PathCond} {apart fresh handsOn again : Bool} {X : World → Array Value → Prop}
  (hX : ∀ (w w' : World) (args : Array Value), w.heap = w'.heap → X w args → X w' args)
  (own : ownKnob C.prog.godebug = none) (started : os.Started) (noInit : C.prog.inits.idxOf? f = none) (hfn : C.prog.funcs[f]? = some fn)
  (witness : WitT enc a C os f fn s conds apart X)
  (contract : ∀ (W : World) (base : Nat) (args : Array Value) (ds gs : List (DataW H)) (before : List MemPlace),
   (∀ (j : Nat) t v, fn.params[j]? = some t → args[j]? = some v → Value.okWide C.prog W .any base t v) →
   DataW.Whole enc C.prog fn.params.toList s.vars apart W args.toList ds gs before → X W args → W.ShapedOpen C.prog →
   Calls C.prog f args W fun e W' => ∃ v, e = .returned v ∧ s.post enc C.prog fn apart fresh handsOn again W args v W') :
  ReturnsInHanded a C os f .any (fun w args => (s.pre enc C.prog fn conds apart w args ∧ X w args) ∧ sizedMet enc C.prog fn (OpenSpec.ofChange s) apart w args) (s.post enc C.prog fn apart fresh handsOn again) := by
 refine returnsInHanded_of_calls own started noInit witness ?_
 intro w tape i _ hsh _ hok hpre _
 obtain ⟨_, _, _, fn', hfn', _, _, _, _, hval⟩ := hok
 have e : fn' = fn := Option.some.inj (hfn'.symm.trans hfn)
 subst e
 obtain ⟨⟨⟨ds, gs, before, hw, hc⟩, hx⟩, hz⟩ := hpre
 have hw' := DataW.Whole.of_heap (w' := w.forCall tape i) (by rfl) hw
 refine (contract (w.forCall tape i) w.heap.size i.args ds gs before hval hw' (hX _ _ _ (by rfl) hx) hsh).mono fun e W' ⟨v, he, hp⟩ => ?_
 subst he
 exact ChangeSpec.post_blind hp
end
section
variable {P : Program} {W : World}
theorem tabIs_of_reads {name : String} {k : IntKind} {zs : List Int} {g : Nat} {t e : TypeId} {n : Nat}
  (hg : P.globalNamed name = some g) (hty : (P.globals[g]?).map (·.type) = some t) (ht : P.underlying t = some (.array n e)) (he : P.underlying e = some (.int k)) (hce : P.cellsOf e = 1) (hct : P.cellsOf t = n)
  (h : Lib.VarReads P W name (Lib.tabData k zs)) : Lib.TabIs P W name k zs := by
 obtain ⟨g', t', cs, fuel, p, hg', ht', hvar, hd⟩ := h
 obtain rfl := Option.some.inj (hg.symm.trans hg')
 obtain rfl := Option.some.inj (hty.symm.trans ht')
 unfold Lib.TabIs
 rw [hvar, ← Lib.cells_of_tab ht he hce hct hd]
theorem tab_at {name : String} {k : IntKind} {zs : List Int} {g : Nat} (hg : P.globalNamed name = some g) (h : Lib.TabIs P W name k zs) (h0 : 0 < zs.length) : At (im0 W) (ad g 0) (zs.map fun z => .int k z) := by
 refine at_im0 (by rw [List.length_map]; exact h0) fun j v hj => ?_
 rw [List.getElem?_map] at hj
 cases hz : zs[j]? with
 | none => rw [hz] at hj; cases hj
 | some z =>
  rw [hz] at hj
  have hjl := (List.getElem?_eq_some_iff.1 hz).1
  have hc := h.cell hg j hjl
  rw [add_ad, Nat.zero_add, hc, List.getD_eq_getElem?_getD, hz, ← hj]
  rfl
variable {B w : World} {As : List Assn}
theorem block_sat {b : Nat} {o : Obj} (h : W.heap[b]? = some o) (hS : Sat B w (im0 W) As) : w.heap[b]? = some o := by
 obtain ⟨_, _, hg⟩ := hS
 exact hg.imm b o h
theorem tab_sat {name : String} {k : IntKind} {zs : List Int} (h : Lib.TabIs P W name k zs) (hS : Sat B w (im0 W) As) : Lib.TabIs P w name k zs := by
 unfold Lib.TabIs World.var? at h ⊢
 cases hg : P.globalNamed name with
 | none => rw [hg] at h; cases h
 | some g =>
  rw [hg] at h
  simp only [Option.bind_some] at h ⊢
  cases hb : W.heap[g]? with
  | none => rw [hb] at h; cases h
  | some o =>
   rw [block_sat hb hS]
   rw [hb] at h
   exact h
theorem cell_sat {a : Addr} {v : Value} (h : W.cell? a = some v) (hS : Sat B w (im0 W) As) : w.cell? a = some v := by
 unfold World.cell? at h ⊢
 cases hb : W.heap[a.block]? with
 | none => rw [hb] at h; cases h
 | some o => rw [block_sat hb hS]; rw [hb] at h; exact h
end
end Gk
namespace Go.Proofs.YtadhiihnnkcagaaGreatDoor
open Gk Pc
set_option linter.unusedVariables false
theorem digits_tab : Rows.laid_matricula_pct_digits (H := Unit) = Lib.tabData .u8 (HIGH.map fun c => (c.toNat : Int)) := by kernel_rfl
theorem pow_tab : Rows.laid_internal_strconv_uint64pow10 (H := Unit) = Lib.tabData .u64 Lib.pow10Tab := by kernel_rfl
def textData {H : Type} (zs : List (List UInt8)) : DataW H := .agg (zs.map fun z => .lit (.string z))
theorem pre_tab : Rows.laid_matricula_ticket_prefixes (H := Unit) = textData PREV := by kernel_rfl
theorem cells_of_texts {H : Type} {enc : TypeId × Value → H} {P : Program} {w : World} {base : Nat} {sp : Nat → Bool} {held : Bool} {fuel : Nat} {t e : TypeId} {n : Nat} {cs : List Value} {zs : List (List UInt8)} {p : List MemPlace}
  (ht : P.underlying t = some (.array n e)) (he : P.underlying e = some .string) (hce : P.cellsOf e = 1) (hct : P.cellsOf t = n)
  (h : DataW.trod enc P w base sp held fuel t cs = some (textData zs, p)) : cs = zs.map S := by
 cases fuel with
 | zero => simp [DataW.trod] at h
 | succ fuel =>
  simp only [DataW.trod, ht, hce, hct, Nat.mul_one] at h
  split at h
  ·rename_i hl
   obtain ⟨xs, hm, hx⟩ := Option.map_eq_some_iff.1 h
   have hxs : xs.map (·.1) = zs.map fun z => (DataW.lit (.string z) : DataW H) := by
    have := congrArg Prod.fst hx
    simpa [textData] using this
   have hxl : xs.length = n := by simpa using Lib.mapM_length hm
   have hzl : zs.length = n := by
    have := congrArg List.length hxs
    simp at this
    omega
   apply List.ext_getElem?
   intro i
   by_cases hi : i < n
   ·obtain ⟨b, hb, hf⟩ := Lib.mapM_at hm i i (by simp [hi])
    obtain ⟨z, hc, rfl, _⟩ := DataW.trod_string he hf
    have h1 : cs[i]? = some (.string z) := by
     have := congrArg (·[0]?) hc
     simpa [List.getElem?_take, List.getElem?_drop] using this
    have h2 : (xs.map (·.1))[i]? = some (DataW.lit (.string z.data.toList) : DataW H) := by simp [hb]
    rw [hxs] at h2
    simp only [List.getElem?_map, Option.map_eq_some_iff, DataW.lit.injEq, Lit.string.injEq] at h2
    obtain ⟨z', hz', e'⟩ := h2
    rw [h1, List.getElem?_map, hz', e']
    rfl
   ·rw [List.getElem?_eq_none (by omega), List.getElem?_eq_none (by simp; omega)]
  ·cases h
theorem pre_at {W : World} (h : Lib.VarReads Tryz.prog W "matricula/ticket.prefixes" Rows.laid_matricula_ticket_prefixes) : PreAt (im0 W) := by
 rw [pre_tab] at h
 obtain ⟨g', t', cs, fuel, p, hg', ht', hvar, hd⟩ := h
 obtain rfl := Option.some.inj ((show Tryz.prog.globalNamed "matricula/ticket.prefixes" = some 0 by kernel_rfl).symm.trans hg')
 obtain rfl := Option.some.inj ((show (Tryz.prog.globals[0]?).map (·.type) = some 208 by kernel_rfl).symm.trans ht')
 have hcs := cells_of_texts Tryz.underlying208 Tryz.underlying9 (by kernel_rfl) (by kernel_rfl) hd
 refine at_im0 (by decide) fun j v hj => ?_
 have h2 := World.var?_cell hg' hvar j
 rw [add_ad, Nat.zero_add]
 rw [← Array.getElem?_toList, hcs, hj] at h2
 exact h2
theorem known_of {W : World} (h1 : Lib.VarReads Tryz.prog W "matricula/pct.digits" Rows.laid_matricula_pct_digits) (h2 : Lib.VarReads Tryz.prog W "internal/strconv.uint64pow10" Rows.laid_internal_strconv_uint64pow10) (h3 : Lib.VarReads Tryz.prog W "matricula/ticket.prefixes" Rows.laid_matricula_ticket_prefixes) (hsh : W.ShapedOpen Tryz.prog) : Known (im0 W) ∧ PreAt (im0 W) := by
 refine ⟨?_, pre_at h3⟩
 rw [digits_tab] at h1
 rw [pow_tab] at h2
 have t1 := tabIs_of_reads (g := 3) (by kernel_rfl) (by kernel_rfl) Tryz.underlying279 Tryz.underlying5 (by kernel_rfl) (by kernel_rfl) h1
 have t2 := tabIs_of_reads (g := 4) (by kernel_rfl) (by kernel_rfl) Tryz.underlying296 Tryz.underlying118 (by kernel_rfl) (by kernel_rfl) h2
 refine ⟨tab_at (g := 3) (by kernel_rfl) t1 (by decide), fun B w As hS => tab_sat t2 hS, fun B w As hS => ?_⟩
 obtain ⟨m, hm⟩ := Go.Proofs.cell_of_shapedOpen_int (g := 2) (t := 3) (zero := #[.int .i64 0]) (k := .i64) hsh (by decide +kernel) (by kernel_rfl) (by kernel_rfl) (by kernel_rfl) (by kernel_rfl) Tryz.underlying3
 exact ⟨m, cell_sat hm hS⟩
end Go.Proofs.YtadhiihnnkcagaaGreatDoor
namespace Go.Proofs.YtadhiihnnkcagaaGreatDoor
open Gk Ul Pc Tk Tr Go.RowKit Go.WideShapes Go.ChangeShapes
set_option linter.unusedVariables false
set_option linter.unusedSimpArgs false
set_option maxRecDepth 100000
theorem open_pair {H : Type} {enc : TypeId × Value → H} {W : World} {spare : Nat → Bool} {held : Bool} {fuel : Nat} {cs : List Value} {x : DataW H × List MemPlace} (h : DataW.trod enc Tryz.prog W 0 spare held fuel 69 cs = some x) : ∃ z : Pr, cs = prCells z ∧ fitsP z := by
 obtain ⟨xs, n, _, _, hcl, hxl, hf⟩ := DataW.trod_struct Tryz.underlying69 h
 rw [show Tryz.prog.cellsOf 69 = 2 from by kernel_rfl] at hcl
 obtain ⟨y0, hy0⟩ : ∃ y, DataW.trod enc Tryz.prog W 0 spare held n 9 ((cs.drop 0).take (Tryz.prog.cellsOf 9)) = some y := ⟨_, (hf 0 _ rfl).trans (List.getElem?_eq_getElem (by rw [hxl]; decide))⟩
 rw [show Tryz.prog.cellsOf 9 = 1 from by kernel_rfl] at hy0
 obtain ⟨y1, hy1⟩ : ∃ y, DataW.trod enc Tryz.prog W 0 spare held n 9 ((cs.drop 1).take (Tryz.prog.cellsOf 9)) = some y := ⟨_, (hf 1 _ rfl).trans (List.getElem?_eq_getElem (by rw [hxl]; decide))⟩
 rw [show Tryz.prog.cellsOf 9 = 1 from by kernel_rfl] at hy1
 obtain ⟨v0, v1, rfl⟩ : ∃ v0 v1, cs = [v0, v1] := by
  match cs, hcl with
  | [v0, v1], _ => exact ⟨v0, v1, rfl⟩
 simp only [List.drop_succ_cons, List.drop_zero, List.take_succ_cons, List.take_zero] at hy0 hy1
 obtain ⟨z0, e0, _, w0⟩ := DataW.trod_string Tryz.underlying9 hy0
 obtain ⟨z1, e1, _, w1⟩ := DataW.trod_string Tryz.underlying9 hy1
 simp only [List.cons.injEq, and_true] at e0 e1
 subst e0 e1
 exact ⟨(z0.data.toList, z1.data.toList), rfl, ⟨w0, w1⟩⟩
def recFit (r : Rec) : Prop := r.name.length ≤ maxLen ∧ r.parent.length ≤ maxLen ∧ r.user.length ≤ maxLen ∧ r.service.length ≤ maxLen ∧ r.url.length ≤ maxLen
def qrFit (q : Qr) : Prop := q.ticket.length ≤ maxLen ∧ q.service.length ≤ maxLen
theorem open_rec {H : Type} {enc : TypeId × Value → H} {W : World} {spare : Nat → Bool} {held : Bool} {fuel : Nat} {cs : List Value} {x : DataW H × List MemPlace} (h : DataW.trod enc Tryz.prog W 0 spare held fuel 45 cs = some x) : ∃ z : Rec, cs = recCells z ∧ recFit z := by
 obtain ⟨xs, n, _, _, hcl, hxl, hf⟩ := DataW.trod_struct Tryz.underlying45 h
 rw [show Tryz.prog.cellsOf 45 = 10 from by kernel_rfl] at hcl
 obtain ⟨y0, hy0⟩ : ∃ y, DataW.trod enc Tryz.prog W 0 spare held n 3 ((cs.drop 0).take (Tryz.prog.cellsOf 3)) = some y := ⟨_, (hf 0 _ rfl).trans (List.getElem?_eq_getElem (by rw [hxl]; decide))⟩
 rw [show Tryz.prog.cellsOf 3 = 1 from by kernel_rfl] at hy0
 obtain ⟨y1, hy1⟩ : ∃ y, DataW.trod enc Tryz.prog W 0 spare held n 9 ((cs.drop 1).take (Tryz.prog.cellsOf 9)) = some y := ⟨_, (hf 1 _ rfl).trans (List.getElem?_eq_getElem (by rw [hxl]; decide))⟩
 rw [show Tryz.prog.cellsOf 9 = 1 from by kernel_rfl] at hy1
 obtain ⟨y2, hy2⟩ : ∃ y, DataW.trod enc Tryz.prog W 0 spare held n 9 ((cs.drop 2).take (Tryz.prog.cellsOf 9)) = some y := ⟨_, (hf 2 _ rfl).trans (List.getElem?_eq_getElem (by rw [hxl]; decide))⟩
 rw [show Tryz.prog.cellsOf 9 = 1 from by kernel_rfl] at hy2
 obtain ⟨y3, hy3⟩ : ∃ y, DataW.trod enc Tryz.prog W 0 spare held n 9 ((cs.drop 3).take (Tryz.prog.cellsOf 9)) = some y := ⟨_, (hf 3 _ rfl).trans (List.getElem?_eq_getElem (by rw [hxl]; decide))⟩
 rw [show Tryz.prog.cellsOf 9 = 1 from by kernel_rfl] at hy3
 obtain ⟨y4, hy4⟩ : ∃ y, DataW.trod enc Tryz.prog W 0 spare held n 9 ((cs.drop 4).take (Tryz.prog.cellsOf 9)) = some y := ⟨_, (hf 4 _ rfl).trans (List.getElem?_eq_getElem (by rw [hxl]; decide))⟩
 rw [show Tryz.prog.cellsOf 9 = 1 from by kernel_rfl] at hy4
 obtain ⟨y5, hy5⟩ : ∃ y, DataW.trod enc Tryz.prog W 0 spare held n 9 ((cs.drop 5).take (Tryz.prog.cellsOf 9)) = some y := ⟨_, (hf 5 _ rfl).trans (List.getElem?_eq_getElem (by rw [hxl]; decide))⟩
 rw [show Tryz.prog.cellsOf 9 = 1 from by kernel_rfl] at hy5
 obtain ⟨y6, hy6⟩ : ∃ y, DataW.trod enc Tryz.prog W 0 spare held n 3 ((cs.drop 6).take (Tryz.prog.cellsOf 3)) = some y := ⟨_, (hf 6 _ rfl).trans (List.getElem?_eq_getElem (by rw [hxl]; decide))⟩
 rw [show Tryz.prog.cellsOf 3 = 1 from by kernel_rfl] at hy6
 obtain ⟨y7, hy7⟩ : ∃ y, DataW.trod enc Tryz.prog W 0 spare held n 3 ((cs.drop 7).take (Tryz.prog.cellsOf 3)) = some y := ⟨_, (hf 7 _ rfl).trans (List.getElem?_eq_getElem (by rw [hxl]; decide))⟩
 rw [show Tryz.prog.cellsOf 3 = 1 from by kernel_rfl] at hy7
 obtain ⟨y8, hy8⟩ : ∃ y, DataW.trod enc Tryz.prog W 0 spare held n 3 ((cs.drop 8).take (Tryz.prog.cellsOf 3)) = some y := ⟨_, (hf 8 _ rfl).trans (List.getElem?_eq_getElem (by rw [hxl]; decide))⟩
 rw [show Tryz.prog.cellsOf 3 = 1 from by kernel_rfl] at hy8
 obtain ⟨y9, hy9⟩ : ∃ y, DataW.trod enc Tryz.prog W 0 spare held n 4 ((cs.drop 9).take (Tryz.prog.cellsOf 4)) = some y := ⟨_, (hf 9 _ rfl).trans (List.getElem?_eq_getElem (by rw [hxl]; decide))⟩
 rw [show Tryz.prog.cellsOf 4 = 1 from by kernel_rfl] at hy9
 obtain ⟨v0, v1, v2, v3, v4, v5, v6, v7, v8, v9, rfl⟩ : ∃ v0 v1 v2 v3 v4 v5 v6 v7 v8 v9, cs = [v0, v1, v2, v3, v4, v5, v6, v7, v8, v9] := by
  match cs, hcl with
  | [v0, v1, v2, v3, v4, v5, v6, v7, v8, v9], _ => exact ⟨v0, v1, v2, v3, v4, v5, v6, v7, v8, v9, rfl⟩
 simp only [List.drop_succ_cons, List.drop_zero, List.take_succ_cons, List.take_zero] at hy0 hy1 hy2 hy3 hy4 hy5 hy6 hy7 hy8 hy9
 obtain ⟨z0, e0, _, w0⟩ := DataW.trod_int Tryz.underlying3 hy0
 obtain ⟨z1, e1, _, w1⟩ := DataW.trod_string Tryz.underlying9 hy1
 obtain ⟨z2, e2, _, w2⟩ := DataW.trod_string Tryz.underlying9 hy2
 obtain ⟨z3, e3, _, w3⟩ := DataW.trod_string Tryz.underlying9 hy3
 obtain ⟨z4, e4, _, w4⟩ := DataW.trod_string Tryz.underlying9 hy4
 obtain ⟨z5, e5, _, w5⟩ := DataW.trod_string Tryz.underlying9 hy5
 obtain ⟨z6, e6, _, w6⟩ := DataW.trod_int Tryz.underlying3 hy6
 obtain ⟨z7, e7, _, w7⟩ := DataW.trod_int Tryz.underlying3 hy7
 obtain ⟨z8, e8, _, w8⟩ := DataW.trod_int Tryz.underlying3 hy8
 obtain ⟨z9, e9, _⟩ := DataW.trod_bool Tryz.underlying4 hy9
 simp only [List.cons.injEq, and_true] at e0 e1 e2 e3 e4 e5 e6 e7 e8 e9
 subst e0 e1 e2 e3 e4 e5 e6 e7 e8 e9
 exact ⟨⟨z0, z1.data.toList, z2.data.toList, z3.data.toList, z4.data.toList, z5.data.toList, z6, z7, z8, z9⟩, rfl, ⟨w1, w2, w3, w4, w5⟩⟩
theorem open_qry {H : Type} {enc : TypeId × Value → H} {W : World} {spare : Nat → Bool} {held : Bool} {fuel : Nat} {cs : List Value} {x : DataW H × List MemPlace} (h : DataW.trod enc Tryz.prog W 0 spare held fuel 43 cs = some x) : ∃ z : Qr, cs = qrCells z ∧ qrFit z := by
 obtain ⟨xs, n, _, _, hcl, hxl, hf⟩ := DataW.trod_struct Tryz.underlying43 h
 rw [show Tryz.prog.cellsOf 43 = 4 from by kernel_rfl] at hcl
 obtain ⟨y0, hy0⟩ : ∃ y, DataW.trod enc Tryz.prog W 0 spare held n 9 ((cs.drop 0).take (Tryz.prog.cellsOf 9)) = some y := ⟨_, (hf 0 _ rfl).trans (List.getElem?_eq_getElem (by rw [hxl]; decide))⟩
 rw [show Tryz.prog.cellsOf 9 = 1 from by kernel_rfl] at hy0
 obtain ⟨y1, hy1⟩ : ∃ y, DataW.trod enc Tryz.prog W 0 spare held n 9 ((cs.drop 1).take (Tryz.prog.cellsOf 9)) = some y := ⟨_, (hf 1 _ rfl).trans (List.getElem?_eq_getElem (by rw [hxl]; decide))⟩
 rw [show Tryz.prog.cellsOf 9 = 1 from by kernel_rfl] at hy1
 obtain ⟨y2, hy2⟩ : ∃ y, DataW.trod enc Tryz.prog W 0 spare held n 4 ((cs.drop 2).take (Tryz.prog.cellsOf 4)) = some y := ⟨_, (hf 2 _ rfl).trans (List.getElem?_eq_getElem (by rw [hxl]; decide))⟩
 rw [show Tryz.prog.cellsOf 4 = 1 from by kernel_rfl] at hy2
 obtain ⟨y3, hy3⟩ : ∃ y, DataW.trod enc Tryz.prog W 0 spare held n 4 ((cs.drop 3).take (Tryz.prog.cellsOf 4)) = some y := ⟨_, (hf 3 _ rfl).trans (List.getElem?_eq_getElem (by rw [hxl]; decide))⟩
 rw [show Tryz.prog.cellsOf 4 = 1 from by kernel_rfl] at hy3
 obtain ⟨v0, v1, v2, v3, rfl⟩ : ∃ v0 v1 v2 v3, cs = [v0, v1, v2, v3] := by
  match cs, hcl with
  | [v0, v1, v2, v3], _ => exact ⟨v0, v1, v2, v3, rfl⟩
 simp only [List.drop_succ_cons, List.drop_zero, List.take_succ_cons, List.take_zero] at hy0 hy1 hy2 hy3
 obtain ⟨z0, e0, _, w0⟩ := DataW.trod_string Tryz.underlying9 hy0
 obtain ⟨z1, e1, _, w1⟩ := DataW.trod_string Tryz.underlying9 hy1
 obtain ⟨z2, e2, _⟩ := DataW.trod_bool Tryz.underlying4 hy2
 obtain ⟨z3, e3, _⟩ := DataW.trod_bool Tryz.underlying4 hy3
 simp only [List.cons.injEq, and_true] at e0 e1 e2 e3
 subst e0 e1 e2 e3
 exact ⟨⟨z0.data.toList, z1.data.toList, z2, z3⟩, rfl, ⟨w0, w1⟩⟩
theorem open_flat {α : Type} {cells : α → List Value} {c : Nat} {fit : α → Prop} {t e : TypeId} {H : Type} {enc : TypeId × Value → H} {W : World} {spare : Nat → Bool} {held : Bool} {fuel : Nat} {cs : List Value} {x : DataW H × List MemPlace} (ht : Tryz.prog.underlying t = some (.slice e)) (hc : Tryz.prog.cellsOf e = c) (hc0 : 0 < c)
  (one : ∀ n cs y, DataW.trod enc Tryz.prog W 0 spare held n e cs = some y → ∃ z : α, cs = cells z ∧ fit z) (h : DataW.trod enc Tryz.prog W 0 spare held fuel t cs = some x) :
  ∃ (a : Option Addr) (cap : Nat) (l : List α), cs = [.slice a l.length cap] ∧ l.length ≤ cap ∧ cap ≤ maxLen ∧ RS (im0 W) a c l.length (rowsC cells l) ∧ ∀ z ∈ l, fit z := by
 obtain ⟨a, cap, L, n, rfl, h1, h2, h3, h4, h5⟩ := open_rows ht hc hc0 h
 have key : ∀ L : List (List Value), (∀ l ∈ L, ∃ y, DataW.trod enc Tryz.prog W 0 spare held n e l = some y) → ∃ l : List α, L = l.map cells ∧ ∀ z ∈ l, fit z := by
  intro L
  induction L with
  | nil => intro _; exact ⟨[], rfl, fun z h => by simp at h⟩
  | cons c L ih =>
   intro h
   obtain ⟨y, hy⟩ := h c (by simp)
   obtain ⟨z, rfl, hf⟩ := one n c y hy
   obtain ⟨l, rfl, e2⟩ := ih (fun c hc => h c (by simp [hc]))
   exact ⟨z :: l, rfl, fun u hu => by
    rcases List.mem_cons.1 hu with e | hu
    ·subst e; exact hf
    ·exact e2 u hu⟩
 obtain ⟨l, rfl, hfit⟩ := key L h5
 rw [List.length_map] at h1 h4
 exact ⟨a, cap, l, by rw [List.length_map], h1, h2, h4, hfit⟩
theorem open_usr {H : Type} {enc : TypeId × Value → H} {W : World} {spare : Nat → Bool} {held : Bool} {fuel : Nat} {cs : List Value} {x : DataW H × List MemPlace} (h : DataW.trod enc Tryz.prog W 0 spare held fuel 67 cs = some x) : ∃ u : Us, UsAt (im0 W) u cs ∧ u.fits := by
 obtain ⟨xs, n, _, _, hcl, hxl, hf⟩ := DataW.trod_struct Tryz.underlying67 h
 rw [show Tryz.prog.cellsOf 67 = 3 from by kernel_rfl] at hcl
 obtain ⟨y0, hy0⟩ : ∃ y, DataW.trod enc Tryz.prog W 0 spare held n 9 ((cs.drop 0).take (Tryz.prog.cellsOf 9)) = some y := ⟨_, (hf 0 _ rfl).trans (List.getElem?_eq_getElem (by rw [hxl]; decide))⟩
 rw [show Tryz.prog.cellsOf 9 = 1 from by kernel_rfl] at hy0
 obtain ⟨y1, hy1⟩ : ∃ y, DataW.trod enc Tryz.prog W 0 spare held n 9 ((cs.drop 1).take (Tryz.prog.cellsOf 9)) = some y := ⟨_, (hf 1 _ rfl).trans (List.getElem?_eq_getElem (by rw [hxl]; decide))⟩
 rw [show Tryz.prog.cellsOf 9 = 1 from by kernel_rfl] at hy1
 obtain ⟨y2, hy2⟩ : ∃ y, DataW.trod enc Tryz.prog W 0 spare held n 54 ((cs.drop 2).take (Tryz.prog.cellsOf 54)) = some y := ⟨_, (hf 2 _ rfl).trans (List.getElem?_eq_getElem (by rw [hxl]; decide))⟩
 rw [show Tryz.prog.cellsOf 54 = 1 from by kernel_rfl] at hy2
 obtain ⟨v0, v1, v2, rfl⟩ : ∃ v0 v1 v2, cs = [v0, v1, v2] := by
  match cs, hcl with
  | [v0, v1, v2], _ => exact ⟨v0, v1, v2, rfl⟩
 simp only [List.drop_succ_cons, List.drop_zero, List.take_succ_cons, List.take_zero] at hy0 hy1 hy2
 obtain ⟨z0, e0, _, w0⟩ := DataW.trod_string Tryz.underlying9 hy0
 obtain ⟨z1, e1, _, w1⟩ := DataW.trod_string Tryz.underlying9 hy1
 obtain ⟨a, c, l, e2, h1, h2, h3, h4⟩ := open_flat (cells := prCells) (c := 2) (fit := fitsP) Tryz.underlying54 (by kernel_rfl) (by decide) (fun n cs y h => open_pair h) hy2
 simp only [List.cons.injEq, and_true] at e0 e1 e2
 subst e0 e1 e2
 exact ⟨⟨z0.data.toList, z1.data.toList, l⟩, ⟨a, c, rfl, h1, h3⟩, ⟨w0, w1, Nat.le_trans h1 h2, h4⟩⟩
theorem open_usrs {H : Type} {enc : TypeId × Value → H} {W : World} {spare : Nat → Bool} {held : Bool} {fuel : Nat} {cs : List Value} {x : DataW H × List MemPlace} (h : DataW.trod enc Tryz.prog W 0 spare held fuel 28 cs = some x) : ∃ (a : Option Addr) (cap : Nat) (l : List Us), cs = [.slice a l.length cap] ∧ l.length ≤ cap ∧ cap ≤ maxLen ∧ UsrsAt (im0 W) a l ∧ ∀ u ∈ l, u.fits := by
 obtain ⟨a, cap, L, n, rfl, h1, h2, h3, h4, h5⟩ := open_rows (c := 3) Tryz.underlying28 (by kernel_rfl) (by decide) h
 have key : ∀ L : List (List Value), (∀ l ∈ L, ∃ y, DataW.trod enc Tryz.prog W 0 spare held n 67 l = some y) → ∃ l : List Us, L.length = l.length ∧ ∀ (i : Nat) (u : Us), l[i]? = some u → u.fits ∧ ∃ c, L[i]? = some c ∧ UsAt (im0 W) u c := by
  intro L
  induction L with
  | nil => intro _; exact ⟨[], rfl, fun i s h => by simp at h⟩
  | cons c L ih =>
   intro h
   obtain ⟨y, hy⟩ := h c (by simp)
   obtain ⟨s, hs, hf⟩ := open_usr hy
   obtain ⟨l, e1, e2⟩ := ih (fun c hc => h c (by simp [hc]))
   refine ⟨s :: l, by simp [e1], fun i u hu => ?_⟩
   cases i with
   | zero => simp at hu; subst hu; exact ⟨hf, c, rfl, hs⟩
   | succ i => simpa using e2 i u (by simpa using hu)
 obtain ⟨l, e1, e2⟩ := key L h5
 refine ⟨a, cap, l, by rw [e1], by rw [← e1]; exact h1, h2, fun i u hu => ?_, fun u hu => ?_⟩
 ·obtain ⟨_, c, hc, ra, rc, rfl, h6, h7⟩ := e2 i u hu
  obtain ⟨p, rfl, hp⟩ := h4.2 (by have := (List.getElem?_eq_some_iff.1 hc).1; omega)
  have h8 := at_take (hp.add (i * 3)) 3
  rw [flat_piece L h3 i _ hc] at h8
  exact ⟨p, ra, rc, rfl, h8, h6, h7⟩
 ·obtain ⟨i, hi⟩ := List.mem_iff_getElem?.1 hu
  exact (e2 i u hi).1
theorem open_arr {H : Type} {enc : TypeId × Value → H} {W : World} {spare : Nat → Bool} {held : Bool} {fuel : Nat} {cs : List Value} {x : DataW H × List MemPlace} (h : DataW.trod enc Tryz.prog W 0 spare held fuel 29 cs = some x) : ∃ l : List Int, l.length = 7 ∧ cs = l.map I64 := by
 obtain ⟨xs, n, _, _, hcl, hxl, hf⟩ := DataW.trod_array Tryz.underlying29 h
 rw [show Tryz.prog.cellsOf 29 = 7 from by kernel_rfl] at hcl
 rw [show Tryz.prog.cellsOf 3 = 1 from by kernel_rfl] at hf
 have each : ∀ v ∈ cs, ∃ z : Int, v = I64 z := by
  intro v hv
  obtain ⟨i, hi⟩ := List.mem_iff_getElem?.1 hv
  have hil := (List.getElem?_eq_some_iff.1 hi).1
  obtain ⟨y, hy⟩ : ∃ y, xs[i]? = some y := ⟨_, List.getElem?_eq_getElem (by omega)⟩
  have h2 := (hf i (by omega)).trans hy
  obtain ⟨z, e, _⟩ := DataW.trod_int Tryz.underlying3 h2
  rw [Nat.mul_one, List.drop_eq_getElem_cons hil, List.take_succ_cons, List.take_zero, (List.getElem?_eq_some_iff.1 hi).2] at e
  exact ⟨z, (List.cons.inj e).1⟩
 have key : ∀ cs : List Value, (∀ v ∈ cs, ∃ z : Int, v = I64 z) → ∃ l : List Int, cs = l.map I64 := by
  intro cs
  induction cs with
  | nil => intro _; exact ⟨[], rfl⟩
  | cons v r ih =>
   intro h
   obtain ⟨z, rfl⟩ := h v (by simp)
   obtain ⟨l, rfl⟩ := ih (fun v hv => h v (by simp [hv]))
   exact ⟨z :: l, rfl⟩
 obtain ⟨l, rfl⟩ := key cs each
 exact ⟨l, by simpa using hcl, rfl⟩
theorem psL_of {L : List Int} (h : L.length = 21) : psL (fun i => L.getD i 0) = L := by
 match L, h with
 | [a0, a1, a2, a3, a4, a5, a6, a7, a8, a9, a10, a11, a12, a13, a14, a15, a16, a17, a18, a19, a20], _ => rfl
theorem open_pol {H : Type} {enc : TypeId × Value → H} {W : World} {spare : Nat → Bool} {held : Bool} {fuel : Nat} {cs : List Value} {x : DataW H × List MemPlace} (h : DataW.trod enc Tryz.prog W 0 spare held fuel 31 cs = some x) : ∃ p : Nat → Int, cs = (psL p).map I64 := by
 obtain ⟨xs, n, _, _, hcl, hxl, hf⟩ := DataW.trod_struct Tryz.underlying31 h
 rw [show Tryz.prog.cellsOf 31 = 21 from by kernel_rfl] at hcl
 obtain ⟨y0, hy0⟩ : ∃ y, DataW.trod enc Tryz.prog W 0 spare held n 29 ((cs.drop 0).take (Tryz.prog.cellsOf 29)) = some y := ⟨_, (hf 0 _ rfl).trans (List.getElem?_eq_getElem (by rw [hxl]; decide))⟩
 rw [show Tryz.prog.cellsOf 29 = 7 from by kernel_rfl] at hy0
 obtain ⟨y1, hy1⟩ : ∃ y, DataW.trod enc Tryz.prog W 0 spare held n 29 ((cs.drop 7).take (Tryz.prog.cellsOf 29)) = some y := ⟨_, (hf 1 _ rfl).trans (List.getElem?_eq_getElem (by rw [hxl]; decide))⟩
 rw [show Tryz.prog.cellsOf 29 = 7 from by kernel_rfl] at hy1
 obtain ⟨y2, hy2⟩ : ∃ y, DataW.trod enc Tryz.prog W 0 spare held n 29 ((cs.drop 14).take (Tryz.prog.cellsOf 29)) = some y := ⟨_, (hf 2 _ rfl).trans (List.getElem?_eq_getElem (by rw [hxl]; decide))⟩
 rw [show Tryz.prog.cellsOf 29 = 7 from by kernel_rfl] at hy2
 obtain ⟨v0, v1, v2, v3, v4, v5, v6, v7, v8, v9, v10, v11, v12, v13, v14, v15, v16, v17, v18, v19, v20, rfl⟩ : ∃ v0 v1 v2 v3 v4 v5 v6 v7 v8 v9 v10 v11 v12 v13 v14 v15 v16 v17 v18 v19 v20, cs = [v0, v1, v2, v3, v4, v5, v6, v7, v8, v9, v10, v11, v12, v13, v14, v15, v16, v17, v18, v19, v20] := by
  match cs, hcl with
  | [v0, v1, v2, v3, v4, v5, v6, v7, v8, v9, v10, v11, v12, v13, v14, v15, v16, v17, v18, v19, v20], _ => exact ⟨v0, v1, v2, v3, v4, v5, v6, v7, v8, v9, v10, v11, v12, v13, v14, v15, v16, v17, v18, v19, v20, rfl⟩
 simp only [List.drop_succ_cons, List.drop_zero, List.take_succ_cons, List.take_zero] at hy0 hy1 hy2
 obtain ⟨l0, h0, e0⟩ := open_arr hy0
 obtain ⟨l1, h1, e1⟩ := open_arr hy1
 obtain ⟨l2, h2, e2⟩ := open_arr hy2
 refine ⟨fun i => (l0 ++ (l1 ++ l2)).getD i 0, ?_⟩
 rw [psL_of (by simp only [List.length_append]; omega), List.map_append, List.map_append, ← e0, ← e1, ← e2]
 rfl
theorem open_cfg {H : Type} {enc : TypeId × Value → H} {W : World} {spare : Nat → Bool} {held : Bool} {fuel : Nat} {cs : List Value} {x : DataW H × List MemPlace} (h : DataW.trod enc Tryz.prog W 0 spare held fuel 34 cs = some x) : ∃ (c : Cf) (a : Option Addr) (cap : Nat) (ua : Option Addr) (ucap : Nat), cs = cfCells c a cap ua ucap ∧ CfAt (im0 W) c a cap ua ucap := by
 obtain ⟨xs, n, _, _, hcl, hxl, hf⟩ := DataW.trod_struct Tryz.underlying34 h
 rw [show Tryz.prog.cellsOf 34 = 28 from by kernel_rfl] at hcl
 obtain ⟨y0, hy0⟩ : ∃ y, DataW.trod enc Tryz.prog W 0 spare held n 27 ((cs.drop 0).take (Tryz.prog.cellsOf 27)) = some y := ⟨_, (hf 0 _ rfl).trans (List.getElem?_eq_getElem (by rw [hxl]; decide))⟩
 rw [show Tryz.prog.cellsOf 27 = 1 from by kernel_rfl] at hy0
 obtain ⟨y1, hy1⟩ : ∃ y, DataW.trod enc Tryz.prog W 0 spare held n 28 ((cs.drop 1).take (Tryz.prog.cellsOf 28)) = some y := ⟨_, (hf 1 _ rfl).trans (List.getElem?_eq_getElem (by rw [hxl]; decide))⟩
 rw [show Tryz.prog.cellsOf 28 = 1 from by kernel_rfl] at hy1
 obtain ⟨y2, hy2⟩ : ∃ y, DataW.trod enc Tryz.prog W 0 spare held n 31 ((cs.drop 2).take (Tryz.prog.cellsOf 31)) = some y := ⟨_, (hf 2 _ rfl).trans (List.getElem?_eq_getElem (by rw [hxl]; decide))⟩
 rw [show Tryz.prog.cellsOf 31 = 21 from by kernel_rfl] at hy2
 obtain ⟨y3, hy3⟩ : ∃ y, DataW.trod enc Tryz.prog W 0 spare held n 3 ((cs.drop 23).take (Tryz.prog.cellsOf 3)) = some y := ⟨_, (hf 3 _ rfl).trans (List.getElem?_eq_getElem (by rw [hxl]; decide))⟩
 rw [show Tryz.prog.cellsOf 3 = 1 from by kernel_rfl] at hy3
 obtain ⟨y4, hy4⟩ : ∃ y, DataW.trod enc Tryz.prog W 0 spare held n 32 ((cs.drop 24).take (Tryz.prog.cellsOf 32)) = some y := ⟨_, (hf 4 _ rfl).trans (List.getElem?_eq_getElem (by rw [hxl]; decide))⟩
 rw [show Tryz.prog.cellsOf 32 = 1 from by kernel_rfl] at hy4
 obtain ⟨y5, hy5⟩ : ∃ y, DataW.trod enc Tryz.prog W 0 spare held n 32 ((cs.drop 25).take (Tryz.prog.cellsOf 32)) = some y := ⟨_, (hf 5 _ rfl).trans (List.getElem?_eq_getElem (by rw [hxl]; decide))⟩
 rw [show Tryz.prog.cellsOf 32 = 1 from by kernel_rfl] at hy5
 obtain ⟨y6, hy6⟩ : ∃ y, DataW.trod enc Tryz.prog W 0 spare held n 32 ((cs.drop 26).take (Tryz.prog.cellsOf 32)) = some y := ⟨_, (hf 6 _ rfl).trans (List.getElem?_eq_getElem (by rw [hxl]; decide))⟩
 rw [show Tryz.prog.cellsOf 32 = 1 from by kernel_rfl] at hy6
 obtain ⟨y7, hy7⟩ : ∃ y, DataW.trod enc Tryz.prog W 0 spare held n 3 ((cs.drop 27).take (Tryz.prog.cellsOf 3)) = some y := ⟨_, (hf 7 _ rfl).trans (List.getElem?_eq_getElem (by rw [hxl]; decide))⟩
 rw [show Tryz.prog.cellsOf 3 = 1 from by kernel_rfl] at hy7
 obtain ⟨v0, v1, v2, v3, v4, v5, v6, v7, v8, v9, v10, v11, v12, v13, v14, v15, v16, v17, v18, v19, v20, v21, v22, v23, v24, v25, v26, v27, rfl⟩ : ∃ v0 v1 v2 v3 v4 v5 v6 v7 v8 v9 v10 v11 v12 v13 v14 v15 v16 v17 v18 v19 v20 v21 v22 v23 v24 v25 v26 v27, cs = [v0, v1, v2, v3, v4, v5, v6, v7, v8, v9, v10, v11, v12, v13, v14, v15, v16, v17, v18, v19, v20, v21, v22, v23, v24, v25, v26, v27] := by
  match cs, hcl with
  | [v0, v1, v2, v3, v4, v5, v6, v7, v8, v9, v10, v11, v12, v13, v14, v15, v16, v17, v18, v19, v20, v21, v22, v23, v24, v25, v26, v27], _ => exact ⟨v0, v1, v2, v3, v4, v5, v6, v7, v8, v9, v10, v11, v12, v13, v14, v15, v16, v17, v18, v19, v20, v21, v22, v23, v24, v25, v26, v27, rfl⟩
 simp only [List.drop_succ_cons, List.drop_zero, List.take_succ_cons, List.take_zero] at hy0 hy1 hy2 hy3 hy4 hy5 hy6 hy7
 obtain ⟨a, cap, L, l, e0, h1, h2, h3, h4, h5, h6⟩ := open_svcs hy0
 obtain ⟨ua, ucap, us, e1, h7, h8, h9, h10⟩ := open_usrs hy1
 obtain ⟨ps, e2⟩ := open_pol hy2
 obtain ⟨z3, e3, _⟩ := DataW.trod_int Tryz.underlying3 hy3
 obtain ⟨z4, e4, _⟩ := trod_float_ Tryz.underlying32 hy4
 obtain ⟨z5, e5, _⟩ := trod_float_ Tryz.underlying32 hy5
 obtain ⟨z6, e6, _⟩ := trod_float_ Tryz.underlying32 hy6
 obtain ⟨z7, e7, _⟩ := DataW.trod_int Tryz.underlying3 hy7
 simp only [List.cons.injEq, and_true] at e0 e1 e3 e4 e5 e6 e7
 subst e0 e1 e3 e4 e5 e6 e7
 refine ⟨⟨l, us, ps, z3, z4, z5, z6, z7⟩, a, cap, ua, ucap, ?_, svs_of h4 h5 (fun i s hs => (h6 i s hs).2), h9, ⟨by rw [← h3]; exact h1, h2⟩, Nat.le_trans h7 h8, fun s hs => ?_, h10⟩
 ·show _ = Value.slice a l.length cap :: Value.slice ua us.length ucap :: ((psL ps).map I64 ++ _)
  rw [← e2, ← h3]; rfl
 ·obtain ⟨i, hi⟩ := List.mem_iff_getElem?.1 hs
  exact (h6 i s hi).1
end Go.Proofs.YtadhiihnnkcagaaGreatDoor
namespace Go.Proofs.YtadhiihnnkcagaaGreatDoor
open Gk Ul Pc Tk Tr
set_option linter.unusedVariables false
set_option linter.unusedSimpArgs false
theorem getD_put {l : List Rec} {r : Rec} (h : putE l r = 0) (name : List UInt8) : getD (put l r) name = if name = r.name then r else getD l name := by
 obtain ⟨_, j, t, h1, h2, h3, _, _⟩ := put_ok h
 have hp : put l r = l.set j r := by rw [put, if_pos h, h1, Int.toNat_natCast]
 have hj := (List.getElem?_eq_some_iff.1 h2).1
 have ha : at0 (l.set j r) name = at0 l name := atN_set name l j 0 t h2 h3
 rw [hp]
 rcases Tr.get_at (l.set j r) name with ⟨a1, a2⟩ | ⟨i, u, a1, a2, a3, a4⟩
 ·rcases Tr.get_at l name with ⟨b1, b2⟩ | ⟨k, v, b1, _⟩
  ·rw [if_neg (by intro e; subst e; omega), getD, getD, a2, b2]
  ·omega
 ·rcases Tr.get_at l name with ⟨b1, _⟩ | ⟨k, v, b1, b2, b3, b4⟩
  ·omega
  ·have e : k = i := by omega
   subst e
   by_cases hk : k = j
   ·subst hk
    rw [List.getElem?_set_self hj] at a2
    cases a2
    rw [if_pos a3.symm, getD, a4]; rfl
   ·rw [List.getElem?_set_ne (Ne.symm hk), b2] at a2
    cases a2
    rw [if_neg (by intro e; subst e; omega), getD, getD, a4, b4]
theorem right_touch {r : Rec} (h : rightR r = true) {now : Int} (hn : now ≤ 1099511627776) : rightR (touchR r now) = true := by
 unfold rightR at h ⊢
 unfold touchR
 simp only [Bool.and_eq_true, decide_eq_true_eq] at h ⊢
 obtain ⟨⟨⟨h1, h2⟩, h3⟩, h4⟩ := h
 exact ⟨⟨⟨h1, by omega⟩, h3⟩, h4⟩
theorem use_case {ps : Nat → Int} {ω : Wd} (hω : WdOk ω) (q : Qr) : ((useW ps ω q).1.2 ≠ 0 ∧ (useW ps ω q).2 = ω ∧ (useW ps ω q).1.1 = r0) ∨ ((useW ps ω q).1.2 = 0 ∧ get ω.l q.ticket = some (getD ω.l q.ticket) ∧ (useW ps ω q).1.1 = getD ω.l q.ticket ∧ (getD ω.l q.ticket).uses = 0 ∧ (getD ω.l q.ticket).name = q.ticket ∧ rightR (getD ω.l q.ticket) = true ∧ (useW ps ω q).2 = putW ω (touchR (getD ω.l q.ticket) ω.now) ∧ putE ω.l (touchR (getD ω.l q.ticket) ω.now) = 0 ∧ (getD ω.l q.ticket).kind = kindT q.ticket ∧ aliveT (psL ps) ω.l q.ticket ω.now = true ∧ (kindT q.ticket = 2 ∨ (kindT q.ticket = 3 ∧ q.proxies = true)) ∧ q.service ≠ []) := by
 unfold useW
 split
 ·exact .inl ⟨Nat.succ_ne_zero _, rfl, rfl⟩
 ·rename_i hc0
  split
  ·exact .inl ⟨Nat.succ_ne_zero _, rfl, rfl⟩
  ·rename_i hc1
   split
   ·exact .inl ⟨Nat.succ_ne_zero _, rfl, rfl⟩
   ·rename_i hc2
    split
    ·exact .inl ⟨Nat.succ_ne_zero _, rfl, rfl⟩
    ·rename_i hc3
     refine .inr ⟨rfl, ?_⟩
     simp only [Bool.or_eq_true, not_or, Bool.not_eq_true', Bool.not_eq_false, decide_eq_true_eq] at hc3
     obtain ⟨h1, h2⟩ := hc3
     have hal : aliveW ps ω q.ticket (kindT q.ticket) = (getD ω.l q.ticket, true) ∧ (getD ω.l q.ticket).kind = kindT q.ticket ∧ aliveT (psL ps) ω.l q.ticket ω.now = true := by
      unfold aliveW at h1 ⊢
      split at h1
      ·cases h1
      ·rename_i hc
       rw [if_neg hc]
       simp only [Bool.or_eq_true, not_or, bne_iff_ne, ne_eq, Decidable.not_not, Bool.not_eq_true', Bool.not_eq_false] at hc
       exact ⟨rfl, hc.1, hc.2⟩
     obtain ⟨hal, hk, hlv⟩ := hal
     rw [hal] at h2 ⊢
     have hk23 : kindT q.ticket = 2 ∨ (kindT q.ticket = 3 ∧ q.proxies = true) := by
      simp only [Bool.and_eq_true, bne_iff_ne, ne_eq, not_and, Decidable.not_not] at hc1
      by_cases e : kindT q.ticket = 2
      ·exact .inl e
      ·have e3 := hc1 e
       refine .inr ⟨e3, ?_⟩
       rw [e3] at hc2
       simpa using hc2
     have hsv : q.service ≠ [] := fun e => hc0 (by rw [e]; simp)
     rcases getD_case hω.wf q.ticket with ⟨_, e⟩ | ⟨e1, e2, e3⟩
     ·rw [e] at hk
      have : (r0.kind : Int) = 0 := rfl
      omega
     ·have ht := right_times e2
      refine ⟨e1, rfl, by (try dsimp only at h2); omega, e3, e2, rfl, ?_, hk, hlv, hk23, hsv⟩
      have hr := right_touch e2 hω.now.2
      rw [putE, if_neg (by rw [hr]; decide), show (touchR (getD ω.l q.ticket) ω.now).name = q.ticket from e3, e1]
      exact if_neg (fun hh => hh rfl)
theorem check_use {ps : Nat → Int} {ω : Wd} {q : Qr} (h : checkE ps ω q = 0) : (useW ps ω q).1.2 = 0 := by
 unfold checkE at h
 split at h
 ·rename_i e; exact absurd h e
 ·rename_i e; simpa using e
theorem once_step {ps : Nat → Int} {ω : Wd} (hω : WdOk ω) (q : Qr) {done : List (List UInt8)} (hd : ∀ t ∈ done, (getD ω.l t).uses ≠ 0) :
  (checkE ps ω q = 0 → done.contains q.ticket = false) ∧ (getD (useW ps ω q).2.l q.ticket ≠ getD ω.l q.ticket → done.contains q.ticket = false ∧ (getD ω.l q.ticket).uses = 0 ∧ (getD (useW ps ω q).2.l q.ticket).uses = 1) ∧ (checkE ps ω q = 0 → getD (useW ps ω q).2.l q.ticket ≠ getD ω.l q.ticket) ∧
  (∀ t ∈ done, (getD (useW ps ω q).2.l t).uses ≠ 0) ∧ (getD (useW ps ω q).2.l q.ticket ≠ getD ω.l q.ticket → (getD (useW ps ω q).2.l q.ticket).uses ≠ 0) := by
 rcases use_case (ps := ps) hω q with ⟨h1, h2, _⟩ | ⟨h1, h2, h3, h4, h5, h6, h7, h8, _⟩
 ·rw [h2]
  exact ⟨fun h => absurd (check_use h) h1, fun h => absurd rfl h, fun h => absurd (check_use h) h1, hd, fun h => absurd rfl h⟩
 ·have hin : done.contains q.ticket = false := by
   cases hc : done.contains q.ticket with
   | false => rfl
   | true => exact absurd h4 (hd _ (rec_in.1 hc))
  have hg : ∀ t, getD (useW ps ω q).2.l t = if t = q.ticket then touchR (getD ω.l q.ticket) ω.now else getD ω.l t := fun t => by
   rw [h7, show (putW ω (touchR (getD ω.l q.ticket) ω.now)).l = put ω.l (touchR (getD ω.l q.ticket) ω.now) from rfl, getD_put h8, show (touchR (getD ω.l q.ticket) ω.now).name = q.ticket from h5]
  have hu : (getD (useW ps ω q).2.l q.ticket).uses = 1 := by
   rw [hg, if_pos rfl]
   show min ((getD ω.l q.ticket).uses + 1) 255 = 1
   rw [h4]; decide
  have hne : getD (useW ps ω q).2.l q.ticket ≠ getD ω.l q.ticket := fun e => by rw [e, h4] at hu; exact absurd hu (by decide)
  refine ⟨fun _ => hin, fun _ => ⟨hin, h4, hu⟩, fun _ => hne, fun t ht => ?_, fun _ => by rw [hu]; decide⟩
  have e : t ≠ q.ticket := fun e => by rw [e] at ht; rw [rec_in.2 ht] at hin; cases hin
  rw [hg, if_neg e]; exact hd t ht
theorem few21_facts {c : Cf} {l : List Rec} {asks : List Qr} (h : few21 c l asks = true) : fewC c = true ∧ (∀ r ∈ l, r.name.length ≤ 60 ∧ r.parent.length ≤ 60) ∧ l.length ≤ 30 ∧ asks.length ≤ 20 ∧ ∀ q ∈ asks, q.ticket.length ≤ 60 ∧ q.service.length ≤ 200 := by
 unfold few21 at h
 simp only [Bool.and_eq_true, decide_eq_true_eq, List.all_eq_true] at h
 obtain ⟨⟨h1, h2⟩, ⟨h3, h4⟩, h5⟩ := h
 refine ⟨h3, fun r hr => ?_, by omega, by omega, fun q hq => ?_⟩
 ·have := h1 r hr
  unfold fewRec at this
  simp only [Bool.and_eq_true, decide_eq_true_eq] at this
  omega
 ·have := h2 q hq
  unfold bigQ at this
  simp only [Bool.not_eq_true', Bool.or_eq_false_iff, decide_eq_false_iff_not] at this
  omega
end Go.Proofs.YtadhiihnnkcagaaGreatDoor
namespace Go.Proofs.YtadhiihnnkcagaaGreatDoor
open Gk Ul Pc Tk Tr
set_option linter.unusedVariables false
set_option linter.unusedSimpArgs false
theorem info9_y : Tryz.prog.info? 9 = some Tryz.t9 := by kernel_rfl
set_option maxRecDepth 20000 in
theorem ValidateOnce_any (c : Cf) (a : Option Addr) (cap : Nat) (ua : Option Addr) (ucap : Nat) (la : Option Addr) (lc : Nat) (l : List Rec) (hll : l.length ≤ 9223372036854775807) (qa : Option Addr) (qc : Nat) (asks : List Qr) (hql : asks.length ≤ 9223372036854775807) (now nb : Int) (hnb : (Lit.int .u16 nb).wf = true) (B w : World) (I : Im) (hK : Known I) (hP : PreAt I) (hC : CfAt I c a cap ua ucap) (hR : RS I la 10 l.length (rowsC recCells l)) (hQ : RS I qa 4 asks.length (rowsC qrCells asks)) (As : List Assn) (hS : Sat B w I As) :
  Calls Tryz.prog 4 [.agg (cfCells c a cap ua ucap).toArray, .slice la l.length lc, I64 now, .slice qa asks.length qc, .int .u16 nb].toArray w (Ret fun v w' => v = .bool true ∧ ∃ J, Le I J ∧ Sat B w' J As) := by
 refine calls Tryz.func4 rfl Tryz.ntmps4 rfl (.seq (.region (.boxA (cs := cfCells c a cap ua ucap) hS (.of rfl) rfl ?_)))
 clear hS; intro b5 w hS
 refine .run 1 rfl trivial (.nil (.seq (.region (.call Tryz.func13 rfl evs_nil rfl (awake21_any B _ I hK hP _ hS) ?_))))
 clear hS
 rintro _ w ⟨rfl, hS⟩
 refine .run 1 rfl trivial (.nil (.seq (.region ?_)))
 refine WL.val (.lds (vs := cfCells c a cap ua ucap) (.of rfl) hS (k := 0) rfl Tryz.isAgg34 Tryz.sizeOf34 rfl (fun j v hj => by rw [Nat.zero_add]; exact hj)) rfl ?_
 refine .run 2 rfl trivial (.call Tryz.func15 rfl (evs_cons (.of rfl) (evs_cons (.of rfl) (evs_cons (.of rfl) evs_nil))) rfl (few21_any c a cap ua ucap la lc l hll qa qc asks hql B _ I hC hR hQ _ hS) ?_)
 clear hS
 rintro _ w ⟨rfl, hS⟩
 refine .run 1 rfl trivial (.nil (.seq (.seq (.region (.run 2 rfl trivial (.nil ?_))))))
 refine WC.cond rfl (fun hb30 => ?_) (fun hb30 => ?_)
 ·
  have hc30 := hb30; try simp only [Gk.cs0] at hc30
  refine .seq (.region (.run 2 rfl trivial (.nil (.ret (ret1 Tryz.results4 rfl ?_)))))
  exact ⟨_, rfl, rfl, I, Le.refl _, hS.drop (k := 0) rfl⟩
 have hc30 := hb30; try simp only [Gk.cs0] at hc30
 refine .skip (.seq ?_)
 have hfw := few21_facts (show few21 c l asks = true by simpa using hb30)
 have hfw1 := hfw.1
 have hfw2 := hfw.2.1
 have hnb2 : (0 : Int) ≤ nb ∧ nb ≤ 65535 := by
  have h0 := hnb
  simp only [Lit.wf, Bool.and_eq_true, decide_eq_true_eq] at h0
  exact ⟨h0.1, h0.2⟩
 refine .region ?_
 refine WL.val (.lds (vs := cfCells c a cap ua ucap) (.of rfl) hS (k := 0) rfl Tryz.isAgg34 Tryz.sizeOf34 rfl (fun j v hj => by rw [Nat.zero_add]; exact hj)) rfl ?_
 refine .run 2 rfl trivial (.call Tryz.func16 rfl (evs_cons (.of rfl) (evs_cons (.of rfl) (evs_cons (.of rfl) evs_nil))) rfl (made21_any c a cap ua ucap (fewC_fits hC hfw1) la lc l hll hfw2 now B _ I (hK) (hP) (hC) (hR) _ hS) ?_)
 clear hS
 rintro _ w ⟨J, pv, hJ, rfl, hcs⟩
 refine .run 1 rfl trivial (.nil (.seq (.seq (.region (.run 1 rfl trivial (.val (.eqp (.of rfl) (.of rfl) Tryz.underlying39) rfl (.nil ?_)))))))
 refine WC.cond rfl (fun hb37 => ?_) (fun hb37 => ?_)
 ·
  have hc37 := hb37; try simp only [Gk.cs0] at hc37
  refine .seq (.region (.run 2 rfl trivial (.nil (.ret (ret1 Tryz.results4 rfl ?_)))))
  rcases hcs with ⟨_, rfl, hS⟩ | ⟨_, p, D, _, _, _, _, h9, _⟩
  ·exact ⟨_, rfl, rfl, J, hJ, hS.drop (k := 0) rfl⟩
  ·exfalso; rw [h9] at hb37; cases hb37
 have hc37 := hb37; try simp only [Gk.cs0] at hc37
 refine .skip (.seq ?_)
 rcases hcs with ⟨_, h9, _⟩ | ⟨hz, p, D, hD, hlo, hus, hps, hpv, hI, hS⟩
 ·exfalso; rw [h9] at hb37; cases hb37
 subst hpv
 have hω0 := madeW_ok c l now
 replace hS := hS.vecNil 9 1
 refine .region (.run 1 rfl trivial (.nil (.seq (.seq (.region (.run 1 rfl trivial (.nil (.block (.loop (σ := Wd × Nat × List (List UInt8) × Value × Im) (fun ⟨ω, i, done, dv, J2⟩ => [(3, .slice qa asks.length qc), (4, .int .u16 nb), (11, .bool true), (13, ptr p.wb 0), (14, dv), (15, I64 (i : Nat))]) (fun ⟨ω, i, done, dv, J2⟩ w => i ≤ asks.length ∧ Le J J2 ∧ WdOk ω ∧ (∀ t ∈ done, (getD ω.l t).uses ≠ 0) ∧ done.length ≤ i ∧ Sat B w J2 (Vec 9 1 dv done.length (done.map S) :: wdA p ω :: blk b5 (cfCells c a cap ua ucap) 34 :: As)) (fun ⟨ω, i, done, dv, J2⟩ => asks.length - i) (madeW c l now, 0, [], .slice none 0 0, J) ⟨rfl, rfl, rfl, rfl, rfl, rfl, trivial⟩ ⟨Nat.zero_le _, Le.refl _, hω0, fun t h => by simp at h, Nat.le_refl _, hS⟩ ?_)))))))))
 rintro ⟨ω, i, done, dv, J2⟩ w ⟨hi, hJ2, hω, hdn, hdl, hS⟩
 change WC _ _ _ _ [(3, .slice qa asks.length qc), (4, .int .u16 nb), (11, .bool true), (13, ptr p.wb 0), (14, dv), (15, I64 (i : Nat))] w
 refine .seq (.seq (.region (.run 4 rfl ⟨⟨_, Tryz.underlying36⟩, trivial⟩ (.nil ?_))))
 refine WC.cond rfl (fun hb42 => ?_) (fun hb42 => ?_)
 ·
  have hc42 := hb42; try simp only [Gk.cs0] at hc42
  refine .skip (.seq (.block (.seq ?_)))
  obtain ⟨q, hq0⟩ : ∃ q, asks[i]? = some q := ⟨_, List.getElem?_eq_getElem (by omega)⟩
  obtain ⟨qp, hq9, hq⟩ := rs_at (cells := qrCells) (s := 4) (fun _ => rfl) hQ hq0
  have hqf := hfw.2.2.2.2 q (List.mem_of_getElem? hq0)
  subst hq9
  refine .region (.run 2 rfl trivial ?_)
  first | refine WL.val (.indexAddr (.of rfl) (.of rfl) (by omega) (by omega) Tryz.underlying36 Tryz.sizeOf43) rfl ?_ | refine WL.val (.indexAddrI (.of rfl) (.of rfl) (by omega) (by omega) Tryz.underlying36 Tryz.sizeOf43) rfl ?_
  refine .val (.ldsI (.of rfl) hS ((hq.mono hJ).mono hJ2) Tryz.isAgg43 Tryz.sizeOf43 rfl (fun _ _ h => h)) rfl ?_
  unfold qrCells
  refine .allocA (cs := [_, _, _, _]) hS Tryz.zeroValue43 rfl ?_
  clear hS; intro b16 w hS
  first | refine WL.stA hS (k := 0) rfl (.of rfl) (.of rfl) rfl Tryz.sizeOf43 rfl (by simp) ?_ | refine WL.stA hS (k := 1) rfl (.of rfl) (.of rfl) rfl Tryz.sizeOf43 rfl (by simp) ?_ | refine WL.stA hS (k := 2) rfl (.of rfl) (.of rfl) rfl Tryz.sizeOf43 rfl (by simp) ?_ | refine WL.stA hS (k := 3) rfl (.of rfl) (.of rfl) rfl Tryz.sizeOf43 rfl (by simp) ?_
  clear hS; intro w hS; try dsimp only [List.set] at hS
  try simp only [List.take_zero, List.nil_append, List.append_nil, List.drop_succ_cons, List.drop_zero, List.drop_nil, Nat.zero_add] at hS
  refine .nil ?_
  refine WC.cutS (σ := Nat) (fun b17 => [(3, .slice (some qp) asks.length qc), (4, .int .u16 nb), (11, .bool true), (13, ptr p.wb 0), (14, dv), (15, I64 (i : Nat)), (16, ptr b16 0), (17, ptr b17 0)]) (fun b17 w => Sat B w J2 (blk b17 (recCells (getD ω.l q.ticket)) 45 :: blk b16 [S q.ticket, S q.service, .bool q.renew, .bool q.proxies] 43 :: Vec 9 1 dv done.length (done.map S) :: wdA p ω :: blk b5 (cfCells c a cap ua ucap) 34 :: As)) ?_ ?_
  ·
   replace hS := (hS.pick 2 rfl)
   try dsimp only [List.eraseIdx] at hS
   obtain ⟨⟨a9, c9, ma9, mc9⟩, hS⟩ := Sat.unbox hS
   replace hS : Sat B _ _ (blk p.wb (wdC p ω) 52 :: blk p.tb [I64 ω.room, .slice a9 ω.l.length c9] 127 :: Vec 45 10 (.slice a9 ω.l.length c9) ω.l.length (rowsR ω.l) :: blk p.mb [.slice ma9 ω.D.length mc9] 168 :: VecO 118 (.slice ma9 ω.D.length mc9) (ω.D.map fun d => U64 (d : Nat)) :: _) := hS
   have hlen := hω.len
   refine .drawn (fun w => ∃ R, Sat B w J2 (blk b16 [S q.ticket, S q.service, .bool q.renew, .bool q.proxies] 43 :: blk p.wb (wdC p ω) 52 :: R)) (fun j => !([].contains j)) (by kernel_rfl) ?_
   replace hS := hS.drew; generalize w.drew = w at hS ⊢
   have hH : ∃ R, Sat B w J2 (blk b16 [S q.ticket, S q.service, .bool q.renew, .bool q.proxies] 43 :: blk p.wb (wdC p ω) 52 :: R) := ⟨_, ((hS.pick 0 rfl).pick 5 rfl)⟩
   refine .takeP (i := 0) rfl (by kernel_rfl) (by kernel_rfl) (by kernel_rfl) (fun w => (.move (.of rfl))) rfl (.takeP (i := 1) rfl (by kernel_rfl) (by kernel_rfl) (by kernel_rfl) (fun w => (.nilCheck (.of rfl))) rfl ?_)
   refine WD.takeP (i := 2) rfl (by kernel_rfl) (by kernel_rfl) (by kernel_rfl) (fun w => (by first | exact .fieldAddr 0 (.of rfl) Tryz.underlying52 rfl rfl Tryz.sizeOf47 rfl | exact .fieldAddrI 0 (.of rfl) Tryz.underlying52 rfl rfl Tryz.sizeOf47 rfl)) rfl ?_
   refine WD.take (i := 3) rfl (by kernel_rfl) (by kernel_rfl) (by kernel_rfl) (by kernel_rfl) hH (fun w ⟨R, hS⟩ => (by first | exact (.ld (.of rfl) hS (k := 0) rfl Tryz.isAgg47 rfl) | exact (.ld (.of rfl) hS (k := 1) rfl Tryz.isAgg47 rfl))) rfl ?_
   refine WD.takeP (i := 4) rfl (by kernel_rfl) (by kernel_rfl) (by kernel_rfl) (fun w => (by first | exact .fieldAddr 0 (.of rfl) Tryz.underlying43 rfl rfl Tryz.sizeOf9 rfl | exact .fieldAddrI 0 (.of rfl) Tryz.underlying43 rfl rfl Tryz.sizeOf9 rfl)) rfl ?_
   refine WD.take (i := 5) rfl (by kernel_rfl) (by kernel_rfl) (by kernel_rfl) (by kernel_rfl) hH (fun w ⟨R, hS⟩ => (by first | exact (.ld (.of rfl) hS (k := 0) rfl Tryz.isAgg9 rfl) | exact (.ld (.of rfl) hS (k := 1) rfl Tryz.isAgg9 rfl))) rfl ?_
   refine WD.branch [6, 10] (by kernel_rfl) rfl (WO.cons rfl ?_ (WO.cons rfl ?_ (WO.nil)))
   ·
    refine .call Tryz.func17 rfl (evs_cons (.of rfl) (evs_cons (.of rfl) evs_nil)) rfl (Get_any p.tb ω.room a9 c9 ω.l (by omega) q.ticket B _ J2 _ ((hS.pick 2 rfl).pick 2 rfl)) ?_
    clear hS
    rintro _ w ⟨rfl, hS⟩
    try dsimp only [List.eraseIdx] at hS
    refine .nil ?_
    clear hH
    have hH : ∃ R, Sat B w J2 (blk b16 [S q.ticket, S q.service, .bool q.renew, .bool q.proxies] 43 :: blk p.wb (wdC p ω) 52 :: R) := ⟨_, ((hS.pick 2 rfl).pick 5 rfl)⟩
    refine And.intro (by intro _ _; exact hH) ?_
    refine .takeP (i := 7) rfl (by kernel_rfl) (by kernel_rfl) (by kernel_rfl) (fun w => (.move (.of rfl))) rfl (.takeP (i := 8) rfl (by kernel_rfl) (by kernel_rfl) (by kernel_rfl) (fun w => (.extract (.of rfl) rfl)) rfl (.takeP (i := 9) rfl (by kernel_rfl) (by kernel_rfl) (by kernel_rfl) (fun w => (.extract (.of rfl) rfl)) rfl ?_))
    refine WD.branch [10] (by kernel_rfl) rfl (WO.cons rfl ?_ (WO.nil))
    refine .allocA (cs := [_, _, _, _, _, _, _, _, _, _]) hS Tryz.zeroValue45 rfl ?_
    clear hS; intro b17 w hS
    refine .nil ?_
    clear hH
    have hH : ∃ R, Sat B w J2 (blk b16 [S q.ticket, S q.service, .bool q.renew, .bool q.proxies] 43 :: blk p.wb (wdC p ω) 52 :: R) := ⟨_, ((hS.pick 3 rfl).pick 6 rfl)⟩
    refine And.intro (by intro _ _; exact hH) ?_
    refine WD.branch [11] (by kernel_rfl) rfl (WO.cons rfl ?_ (WO.nil))
    first | refine WL.stA hS (k := 0) rfl (.of rfl) (.of rfl) rfl Tryz.sizeOf45 rfl (by simp) ?_ | refine WL.stA hS (k := 1) rfl (.of rfl) (.of rfl) rfl Tryz.sizeOf45 rfl (by simp) ?_ | refine WL.stA hS (k := 2) rfl (.of rfl) (.of rfl) rfl Tryz.sizeOf45 rfl (by simp) ?_ | refine WL.stA hS (k := 3) rfl (.of rfl) (.of rfl) rfl Tryz.sizeOf45 rfl (by simp) ?_ | refine WL.stA hS (k := 4) rfl (.of rfl) (.of rfl) rfl Tryz.sizeOf45 rfl (by simp) ?_ | refine WL.stA hS (k := 5) rfl (.of rfl) (.of rfl) rfl Tryz.sizeOf45 rfl (by simp) ?_ | refine WL.stA hS (k := 6) rfl (.of rfl) (.of rfl) rfl Tryz.sizeOf45 rfl (by simp) ?_ | refine WL.stA hS (k := 7) rfl (.of rfl) (.of rfl) rfl Tryz.sizeOf45 rfl (by simp) ?_ | refine WL.stA hS (k := 8) rfl (.of rfl) (.of rfl) rfl Tryz.sizeOf45 rfl (by simp) ?_
    clear hS; intro w hS; try dsimp only [List.set] at hS
    try simp only [List.take_zero, List.nil_append, List.append_nil, List.drop_succ_cons, List.drop_zero, List.drop_nil, Nat.zero_add] at hS
    refine .nil ?_
    clear hH
    have hH : ∃ R, Sat B w J2 (blk b16 [S q.ticket, S q.service, .bool q.renew, .bool q.proxies] 43 :: blk p.wb (wdC p ω) 52 :: R) := ⟨_, ((hS.pick 3 rfl).pick 6 rfl)⟩
    refine And.intro (by intro _ _; exact hH) ?_
    refine .takeP (i := 12) rfl (by kernel_rfl) (by kernel_rfl) (by kernel_rfl) (fun w => (.assign (.of rfl))) rfl (.done (by kernel_rfl) ?_)
    replace hS := Sat.box (T := wdT p ω) (a9, c9, ma9, mc9) (((((hS.pick 5 rfl).pick 5 rfl).pick 4 rfl).pick 4 rfl).pick 5 rfl)
    try dsimp only [List.eraseIdx] at hS
    exact ⟨b17, ⟨rfl, rfl, rfl, rfl, rfl, rfl, rfl, rfl, trivial⟩, (((((hS.pick 4 rfl).pick 1 rfl).pick 4 rfl).pick 4 rfl).pick 4 rfl)⟩
   ·
    refine .allocA (cs := [_, _, _, _, _, _, _, _, _, _]) hS Tryz.zeroValue45 rfl ?_
    clear hS; intro b17 w hS
    refine .nil ?_
    clear hH
    have hH : ∃ R, Sat B w J2 (blk b16 [S q.ticket, S q.service, .bool q.renew, .bool q.proxies] 43 :: blk p.wb (wdC p ω) 52 :: R) := ⟨_, ((hS.pick 1 rfl).pick 6 rfl)⟩
    refine And.intro (by intro _ _; exact hH) ?_
    refine WD.branch [6] (by kernel_rfl) rfl (WO.cons rfl ?_ (WO.nil))
    refine .call Tryz.func17 rfl (evs_cons (.of rfl) (evs_cons (.of rfl) evs_nil)) rfl (Get_any p.tb ω.room a9 c9 ω.l (by omega) q.ticket B _ J2 _ ((hS.pick 3 rfl).pick 3 rfl)) ?_
    clear hS
    rintro _ w ⟨rfl, hS⟩
    try dsimp only [List.eraseIdx] at hS
    refine .nil ?_
    clear hH
    have hH : ∃ R, Sat B w J2 (blk b16 [S q.ticket, S q.service, .bool q.renew, .bool q.proxies] 43 :: blk p.wb (wdC p ω) 52 :: R) := ⟨_, ((hS.pick 3 rfl).pick 6 rfl)⟩
    refine And.intro (by intro _ _; exact hH) ?_
    refine .takeP (i := 7) rfl (by kernel_rfl) (by kernel_rfl) (by kernel_rfl) (fun w => (.move (.of rfl))) rfl (.takeP (i := 8) rfl (by kernel_rfl) (by kernel_rfl) (by kernel_rfl) (fun w => (.extract (.of rfl) rfl)) rfl (.takeP (i := 9) rfl (by kernel_rfl) (by kernel_rfl) (by kernel_rfl) (fun w => (.extract (.of rfl) rfl)) rfl ?_))
    refine WD.branch [11] (by kernel_rfl) rfl (WO.cons rfl ?_ (WO.nil))
    first | refine WL.stA hS (k := 0) rfl (.of rfl) (.of rfl) rfl Tryz.sizeOf45 rfl (by simp) ?_ | refine WL.stA hS (k := 1) rfl (.of rfl) (.of rfl) rfl Tryz.sizeOf45 rfl (by simp) ?_ | refine WL.stA hS (k := 2) rfl (.of rfl) (.of rfl) rfl Tryz.sizeOf45 rfl (by simp) ?_ | refine WL.stA hS (k := 3) rfl (.of rfl) (.of rfl) rfl Tryz.sizeOf45 rfl (by simp) ?_ | refine WL.stA hS (k := 4) rfl (.of rfl) (.of rfl) rfl Tryz.sizeOf45 rfl (by simp) ?_ | refine WL.stA hS (k := 5) rfl (.of rfl) (.of rfl) rfl Tryz.sizeOf45 rfl (by simp) ?_ | refine WL.stA hS (k := 6) rfl (.of rfl) (.of rfl) rfl Tryz.sizeOf45 rfl (by simp) ?_ | refine WL.stA hS (k := 7) rfl (.of rfl) (.of rfl) rfl Tryz.sizeOf45 rfl (by simp) ?_ | refine WL.stA hS (k := 8) rfl (.of rfl) (.of rfl) rfl Tryz.sizeOf45 rfl (by simp) ?_
    clear hS; intro w hS; try dsimp only [List.set] at hS
    try simp only [List.take_zero, List.nil_append, List.append_nil, List.drop_succ_cons, List.drop_zero, List.drop_nil, Nat.zero_add] at hS
    refine .nil ?_
    clear hH
    have hH : ∃ R, Sat B w J2 (blk b16 [S q.ticket, S q.service, .bool q.renew, .bool q.proxies] 43 :: blk p.wb (wdC p ω) 52 :: R) := ⟨_, ((hS.pick 3 rfl).pick 6 rfl)⟩
    refine And.intro (by intro _ _; exact hH) ?_
    refine .takeP (i := 12) rfl (by kernel_rfl) (by kernel_rfl) (by kernel_rfl) (fun w => (.assign (.of rfl))) rfl (.done (by kernel_rfl) ?_)
    replace hS := Sat.box (T := wdT p ω) (a9, c9, ma9, mc9) (((((hS.pick 5 rfl).pick 5 rfl).pick 3 rfl).pick 3 rfl).pick 5 rfl)
    try dsimp only [List.eraseIdx] at hS
    exact ⟨b17, ⟨rfl, rfl, rfl, rfl, rfl, rfl, rfl, rfl, trivial⟩, (((((hS.pick 4 rfl).pick 1 rfl).pick 4 rfl).pick 4 rfl).pick 4 rfl)⟩
  rintro b17 w hS
  change WC _ _ _ _ [(3, .slice (some qp) asks.length qc), (4, .int .u16 nb), (11, .bool true), (13, ptr p.wb 0), (14, dv), (15, I64 (i : Nat)), (16, ptr b16 0), (17, ptr b17 0)] w
  refine .seq (.region (.run 1 rfl trivial ?_))
  first | refine WL.val (.ldsW (cs := [_, _, _, _]) (.of rfl) hS (k := 0) rfl Tryz.isAgg43 Tryz.sizeOf43 rfl) rfl ?_ | refine WL.val (.lds (vs := [_, _, _, _]) (.of rfl) hS (k := 0) rfl Tryz.isAgg43 Tryz.sizeOf43 rfl (fun _ _ h => h)) rfl ?_ | refine WL.val (.ldsW (cs := [_, _, _, _]) (.of rfl) hS (k := 1) rfl Tryz.isAgg43 Tryz.sizeOf43 rfl) rfl ?_ | refine WL.val (.lds (vs := [_, _, _, _]) (.of rfl) hS (k := 1) rfl Tryz.isAgg43 Tryz.sizeOf43 rfl (fun _ _ h => h)) rfl ?_ | refine WL.val (.ldsW (cs := [_, _, _, _]) (.of rfl) hS (k := 2) rfl Tryz.isAgg43 Tryz.sizeOf43 rfl) rfl ?_ | refine WL.val (.lds (vs := [_, _, _, _]) (.of rfl) hS (k := 2) rfl Tryz.isAgg43 Tryz.sizeOf43 rfl (fun _ _ h => h)) rfl ?_ | refine WL.val (.ldsW (cs := [_, _, _, _]) (.of rfl) hS (k := 3) rfl Tryz.isAgg43 Tryz.sizeOf43 rfl) rfl ?_ | refine WL.val (.lds (vs := [_, _, _, _]) (.of rfl) hS (k := 3) rfl Tryz.isAgg43 Tryz.sizeOf43 rfl (fun _ _ h => h)) rfl ?_ | refine WL.val (.ldsW (cs := [_, _, _, _]) (.of rfl) hS (k := 4) rfl Tryz.isAgg43 Tryz.sizeOf43 rfl) rfl ?_ | refine WL.val (.lds (vs := [_, _, _, _]) (.of rfl) hS (k := 4) rfl Tryz.isAgg43 Tryz.sizeOf43 rfl (fun _ _ h => h)) rfl ?_
  refine .call Tryz.func18 rfl (evs_cons (.of rfl) (evs_cons (.of rfl) evs_nil)) rfl (vCheck_any q (by omega) (by omega) p ω hω B _ J2 (hI.mono hJ2) _ (hS.pick 3 rfl)) ?_
  clear hS
  rintro _ w ⟨J3, _, hJ3, rfl, ⟨ka, kc, pa, pc, rfl, _, _, _, _⟩, hS⟩
  try dsimp only [List.eraseIdx] at hS
  refine .run 3 rfl trivial (.allocA (cs := [_, _, _, _]) hS Tryz.zeroValue56 rfl ?_)
  clear hS; intro b19 w hS
  first | refine WL.stA hS (k := 0) rfl (.of rfl) (.of rfl) rfl Tryz.sizeOf56 rfl (by simp) ?_ | refine WL.stA hS (k := 1) rfl (.of rfl) (.of rfl) rfl Tryz.sizeOf56 rfl (by simp) ?_ | refine WL.stA hS (k := 2) rfl (.of rfl) (.of rfl) rfl Tryz.sizeOf56 rfl (by simp) ?_ | refine WL.stA hS (k := 3) rfl (.of rfl) (.of rfl) rfl Tryz.sizeOf56 rfl (by simp) ?_ | refine WL.stA hS (k := 4) rfl (.of rfl) (.of rfl) rfl Tryz.sizeOf56 rfl (by simp) ?_ | refine WL.stA hS (k := 5) rfl (.of rfl) (.of rfl) rfl Tryz.sizeOf56 rfl (by simp) ?_
  clear hS; intro w hS; try dsimp only [List.set] at hS
  try simp only [List.take_zero, List.nil_append, List.append_nil, List.drop_succ_cons, List.drop_zero, List.drop_nil, Nat.zero_add] at hS
  refine .run 1 rfl trivial (.nil ?_)
  refine WC.cutS (σ := Nat) (fun b21 => [(3, .slice (some qp) asks.length qc), (4, .int .u16 nb), (11, .bool true), (13, ptr p.wb 0), (14, dv), (15, I64 (i : Nat)), (16, ptr b16 0), (17, ptr b17 0), (20, I64 (checkE p.ps ω q : Nat)), (21, ptr b21 0)]) (fun b21 w => Sat B w J3 (blk b21 (recCells (getD (useW p.ps ω q).2.l q.ticket)) 45 :: blk b17 (recCells (getD ω.l q.ticket)) 45 :: blk b16 [S q.ticket, S q.service, .bool q.renew, .bool q.proxies] 43 :: Vec 9 1 dv done.length (done.map S) :: wdA p (useW p.ps ω q).2 :: blk b5 (cfCells c a cap ua ucap) 34 :: As)) ?_ ?_
  ·
   replace hS := (hS.pick 1 rfl)
   try dsimp only [List.eraseIdx] at hS
   obtain ⟨⟨a2, c2, ma2, mc2⟩, hS⟩ := Sat.unbox hS
   replace hS : Sat B _ _ (blk p.wb (wdC p (useW p.ps ω q).2) 52 :: blk p.tb [I64 (useW p.ps ω q).2.room, .slice a2 (useW p.ps ω q).2.l.length c2] 127 :: Vec 45 10 (.slice a2 (useW p.ps ω q).2.l.length c2) (useW p.ps ω q).2.l.length (rowsR (useW p.ps ω q).2.l) :: blk p.mb [.slice ma2 (useW p.ps ω q).2.D.length mc2] 168 :: VecO 118 (.slice ma2 (useW p.ps ω q).2.D.length mc2) ((useW p.ps ω q).2.D.map fun d => U64 (d : Nat)) :: _) := hS
   have hω2 := useW_ok (ps := p.ps) hω q
   have hlen2 := hω2.len
   refine .drawn (fun w => ∃ R, Sat B w J3 (blk b16 [S q.ticket, S q.service, .bool q.renew, .bool q.proxies] 43 :: blk p.wb (wdC p (useW p.ps ω q).2) 52 :: R)) (fun j => !([].contains j)) (by kernel_rfl) ?_
   replace hS := hS.drew; generalize w.drew = w at hS ⊢
   have hH : ∃ R, Sat B w J3 (blk b16 [S q.ticket, S q.service, .bool q.renew, .bool q.proxies] 43 :: blk p.wb (wdC p (useW p.ps ω q).2) 52 :: R) := ⟨_, ((hS.pick 0 rfl).pick 7 rfl)⟩
   refine .takeP (i := 0) rfl (by kernel_rfl) (by kernel_rfl) (by kernel_rfl) (fun w => (.move (.of rfl))) rfl (.takeP (i := 1) rfl (by kernel_rfl) (by kernel_rfl) (by kernel_rfl) (fun w => (.nilCheck (.of rfl))) rfl ?_)
   refine WD.takeP (i := 2) rfl (by kernel_rfl) (by kernel_rfl) (by kernel_rfl) (fun w => (by first | exact .fieldAddr 0 (.of rfl) Tryz.underlying52 rfl rfl Tryz.sizeOf47 rfl | exact .fieldAddrI 0 (.of rfl) Tryz.underlying52 rfl rfl Tryz.sizeOf47 rfl)) rfl ?_
   refine WD.take (i := 3) rfl (by kernel_rfl) (by kernel_rfl) (by kernel_rfl) (by kernel_rfl) hH (fun w ⟨R, hS⟩ => (by first | exact (.ld (.of rfl) hS (k := 0) rfl Tryz.isAgg47 rfl) | exact (.ld (.of rfl) hS (k := 1) rfl Tryz.isAgg47 rfl))) rfl ?_
   refine WD.takeP (i := 4) rfl (by kernel_rfl) (by kernel_rfl) (by kernel_rfl) (fun w => (by first | exact .fieldAddr 0 (.of rfl) Tryz.underlying43 rfl rfl Tryz.sizeOf9 rfl | exact .fieldAddrI 0 (.of rfl) Tryz.underlying43 rfl rfl Tryz.sizeOf9 rfl)) rfl ?_
   refine WD.take (i := 5) rfl (by kernel_rfl) (by kernel_rfl) (by kernel_rfl) (by kernel_rfl) hH (fun w ⟨R, hS⟩ => (by first | exact (.ld (.of rfl) hS (k := 0) rfl Tryz.isAgg9 rfl) | exact (.ld (.of rfl) hS (k := 1) rfl Tryz.isAgg9 rfl))) rfl ?_
   refine WD.branch [6, 10] (by kernel_rfl) rfl (WO.cons rfl ?_ (WO.cons rfl ?_ (WO.nil)))
   ·
    refine .call Tryz.func17 rfl (evs_cons (.of rfl) (evs_cons (.of rfl) evs_nil)) rfl (Get_any p.tb (useW p.ps ω q).2.room a2 c2 (useW p.ps ω q).2.l (by omega) q.ticket B _ J3 _ ((hS.pick 2 rfl).pick 2 rfl)) ?_
    clear hS
    rintro _ w ⟨rfl, hS⟩
    try dsimp only [List.eraseIdx] at hS
    refine .nil ?_
    clear hH
    have hH : ∃ R, Sat B w J3 (blk b16 [S q.ticket, S q.service, .bool q.renew, .bool q.proxies] 43 :: blk p.wb (wdC p (useW p.ps ω q).2) 52 :: R) := ⟨_, ((hS.pick 2 rfl).pick 7 rfl)⟩
    refine And.intro (by intro _ _; exact hH) ?_
    refine .takeP (i := 7) rfl (by kernel_rfl) (by kernel_rfl) (by kernel_rfl) (fun w => (.move (.of rfl))) rfl (.takeP (i := 8) rfl (by kernel_rfl) (by kernel_rfl) (by kernel_rfl) (fun w => (.extract (.of rfl) rfl)) rfl (.takeP (i := 9) rfl (by kernel_rfl) (by kernel_rfl) (by kernel_rfl) (fun w => (.extract (.of rfl) rfl)) rfl ?_))
    refine WD.branch [10] (by kernel_rfl) rfl (WO.cons rfl ?_ (WO.nil))
    refine .allocA (cs := [_, _, _, _, _, _, _, _, _, _]) hS Tryz.zeroValue45 rfl ?_
    clear hS; intro b21 w hS
    refine .nil ?_
    clear hH
    have hH : ∃ R, Sat B w J3 (blk b16 [S q.ticket, S q.service, .bool q.renew, .bool q.proxies] 43 :: blk p.wb (wdC p (useW p.ps ω q).2) 52 :: R) := ⟨_, ((hS.pick 3 rfl).pick 8 rfl)⟩
    refine And.intro (by intro _ _; exact hH) ?_
    refine WD.branch [11] (by kernel_rfl) rfl (WO.cons rfl ?_ (WO.nil))
    first | refine WL.stA hS (k := 0) rfl (.of rfl) (.of rfl) rfl Tryz.sizeOf45 rfl (by simp) ?_ | refine WL.stA hS (k := 1) rfl (.of rfl) (.of rfl) rfl Tryz.sizeOf45 rfl (by simp) ?_ | refine WL.stA hS (k := 2) rfl (.of rfl) (.of rfl) rfl Tryz.sizeOf45 rfl (by simp) ?_ | refine WL.stA hS (k := 3) rfl (.of rfl) (.of rfl) rfl Tryz.sizeOf45 rfl (by simp) ?_ | refine WL.stA hS (k := 4) rfl (.of rfl) (.of rfl) rfl Tryz.sizeOf45 rfl (by simp) ?_ | refine WL.stA hS (k := 5) rfl (.of rfl) (.of rfl) rfl Tryz.sizeOf45 rfl (by simp) ?_ | refine WL.stA hS (k := 6) rfl (.of rfl) (.of rfl) rfl Tryz.sizeOf45 rfl (by simp) ?_ | refine WL.stA hS (k := 7) rfl (.of rfl) (.of rfl) rfl Tryz.sizeOf45 rfl (by simp) ?_ | refine WL.stA hS (k := 8) rfl (.of rfl) (.of rfl) rfl Tryz.sizeOf45 rfl (by simp) ?_ | refine WL.stA hS (k := 9) rfl (.of rfl) (.of rfl) rfl Tryz.sizeOf45 rfl (by simp) ?_ | refine WL.stA hS (k := 10) rfl (.of rfl) (.of rfl) rfl Tryz.sizeOf45 rfl (by simp) ?_
    clear hS; intro w hS; try dsimp only [List.set] at hS
    try simp only [List.take_zero, List.nil_append, List.append_nil, List.drop_succ_cons, List.drop_zero, List.drop_nil, Nat.zero_add] at hS
    refine .nil ?_
    clear hH
    have hH : ∃ R, Sat B w J3 (blk b16 [S q.ticket, S q.service, .bool q.renew, .bool q.proxies] 43 :: blk p.wb (wdC p (useW p.ps ω q).2) 52 :: R) := ⟨_, ((hS.pick 3 rfl).pick 8 rfl)⟩
    refine And.intro (by intro _ _; exact hH) ?_
    refine .takeP (i := 12) rfl (by kernel_rfl) (by kernel_rfl) (by kernel_rfl) (fun w => (.assign (.of rfl))) rfl (.done (by kernel_rfl) ?_)
    replace hS := Sat.box (T := wdT p (useW p.ps ω q).2) (a2, c2, ma2, mc2) (((((hS.pick 5 rfl).pick 5 rfl).pick 4 rfl).pick 4 rfl).pick 5 rfl)
    try dsimp only [List.eraseIdx] at hS
    exact ⟨b21, ⟨rfl, rfl, rfl, rfl, rfl, rfl, rfl, rfl, rfl, rfl, trivial⟩, (((((((hS.drop (k := 2) rfl).pick 5 rfl).pick 1 rfl).pick 5 rfl).pick 5 rfl).pick 5 rfl).pick 5 rfl)⟩
   ·
    refine .allocA (cs := [_, _, _, _, _, _, _, _, _, _]) hS Tryz.zeroValue45 rfl ?_
    clear hS; intro b21 w hS
    refine .nil ?_
    clear hH
    have hH : ∃ R, Sat B w J3 (blk b16 [S q.ticket, S q.service, .bool q.renew, .bool q.proxies] 43 :: blk p.wb (wdC p (useW p.ps ω q).2) 52 :: R) := ⟨_, ((hS.pick 1 rfl).pick 8 rfl)⟩
    refine And.intro (by intro _ _; exact hH) ?_
    refine WD.branch [6] (by kernel_rfl) rfl (WO.cons rfl ?_ (WO.nil))
    refine .call Tryz.func17 rfl (evs_cons (.of rfl) (evs_cons (.of rfl) evs_nil)) rfl (Get_any p.tb (useW p.ps ω q).2.room a2 c2 (useW p.ps ω q).2.l (by omega) q.ticket B _ J3 _ ((hS.pick 3 rfl).pick 3 rfl)) ?_
    clear hS
    rintro _ w ⟨rfl, hS⟩
    try dsimp only [List.eraseIdx] at hS
    refine .nil ?_
    clear hH
    have hH : ∃ R, Sat B w J3 (blk b16 [S q.ticket, S q.service, .bool q.renew, .bool q.proxies] 43 :: blk p.wb (wdC p (useW p.ps ω q).2) 52 :: R) := ⟨_, ((hS.pick 3 rfl).pick 8 rfl)⟩
    refine And.intro (by intro _ _; exact hH) ?_
    refine .takeP (i := 7) rfl (by kernel_rfl) (by kernel_rfl) (by kernel_rfl) (fun w => (.move (.of rfl))) rfl (.takeP (i := 8) rfl (by kernel_rfl) (by kernel_rfl) (by kernel_rfl) (fun w => (.extract (.of rfl) rfl)) rfl (.takeP (i := 9) rfl (by kernel_rfl) (by kernel_rfl) (by kernel_rfl) (fun w => (.extract (.of rfl) rfl)) rfl ?_))
    refine WD.branch [11] (by kernel_rfl) rfl (WO.cons rfl ?_ (WO.nil))
    first | refine WL.stA hS (k := 0) rfl (.of rfl) (.of rfl) rfl Tryz.sizeOf45 rfl (by simp) ?_ | refine WL.stA hS (k := 1) rfl (.of rfl) (.of rfl) rfl Tryz.sizeOf45 rfl (by simp) ?_ | refine WL.stA hS (k := 2) rfl (.of rfl) (.of rfl) rfl Tryz.sizeOf45 rfl (by simp) ?_ | refine WL.stA hS (k := 3) rfl (.of rfl) (.of rfl) rfl Tryz.sizeOf45 rfl (by simp) ?_ | refine WL.stA hS (k := 4) rfl (.of rfl) (.of rfl) rfl Tryz.sizeOf45 rfl (by simp) ?_ | refine WL.stA hS (k := 5) rfl (.of rfl) (.of rfl) rfl Tryz.sizeOf45 rfl (by simp) ?_ | refine WL.stA hS (k := 6) rfl (.of rfl) (.of rfl) rfl Tryz.sizeOf45 rfl (by simp) ?_ | refine WL.stA hS (k := 7) rfl (.of rfl) (.of rfl) rfl Tryz.sizeOf45 rfl (by simp) ?_ | refine WL.stA hS (k := 8) rfl (.of rfl) (.of rfl) rfl Tryz.sizeOf45 rfl (by simp) ?_ | refine WL.stA hS (k := 9) rfl (.of rfl) (.of rfl) rfl Tryz.sizeOf45 rfl (by simp) ?_ | refine WL.stA hS (k := 10) rfl (.of rfl) (.of rfl) rfl Tryz.sizeOf45 rfl (by simp) ?_
    clear hS; intro w hS; try dsimp only [List.set] at hS
    try simp only [List.take_zero, List.nil_append, List.append_nil, List.drop_succ_cons, List.drop_zero, List.drop_nil, Nat.zero_add] at hS
    refine .nil ?_
    clear hH
    have hH : ∃ R, Sat B w J3 (blk b16 [S q.ticket, S q.service, .bool q.renew, .bool q.proxies] 43 :: blk p.wb (wdC p (useW p.ps ω q).2) 52 :: R) := ⟨_, ((hS.pick 3 rfl).pick 8 rfl)⟩
    refine And.intro (by intro _ _; exact hH) ?_
    refine .takeP (i := 12) rfl (by kernel_rfl) (by kernel_rfl) (by kernel_rfl) (fun w => (.assign (.of rfl))) rfl (.done (by kernel_rfl) ?_)
    replace hS := Sat.box (T := wdT p (useW p.ps ω q).2) (a2, c2, ma2, mc2) (((((hS.pick 5 rfl).pick 5 rfl).pick 3 rfl).pick 3 rfl).pick 5 rfl)
    try dsimp only [List.eraseIdx] at hS
    exact ⟨b21, ⟨rfl, rfl, rfl, rfl, rfl, rfl, rfl, rfl, rfl, rfl, trivial⟩, (((((((hS.drop (k := 2) rfl).pick 5 rfl).pick 1 rfl).pick 5 rfl).pick 5 rfl).pick 5 rfl).pick 5 rfl)⟩
  rintro b21 w hS
  change WC _ _ _ _ [(3, .slice (some qp) asks.length qc), (4, .int .u16 nb), (11, .bool true), (13, ptr p.wb 0), (14, dv), (15, I64 (i : Nat)), (16, ptr b16 0), (17, ptr b17 0), (20, I64 (checkE p.ps ω q : Nat)), (21, ptr b21 0)] w
  refine .seq ?_
  have hos := once_step (ps := p.ps) hω q hdn
  obtain ⟨hs1, hs2, hs3, hs4, hs5⟩ := hos
  have hω2 := useW_ok (ps := p.ps) hω q
  obtain ⟨da, dc, hdv, hdc, _⟩ := hS.vecSlice (k := 3) rfl
  subst hdv
  refine .region (.run 1 rfl trivial ?_)
  first | refine WL.val (.fieldAddr 0 (.of rfl) Tryz.underlying43 rfl rfl Tryz.sizeOf9 rfl) rfl ?_ | refine WL.val (.fieldAddrI 0 (.of rfl) Tryz.underlying43 rfl rfl Tryz.sizeOf9 rfl) rfl ?_
  first | refine WL.val (.ld (.of rfl) hS (k := 0) rfl Tryz.isAgg9 rfl) rfl ?_ | refine WL.val (.ld (.of rfl) hS (k := 1) rfl Tryz.isAgg9 rfl) rfl ?_ | refine WL.val (.ld (.of rfl) hS (k := 2) rfl Tryz.isAgg9 rfl) rfl ?_ | refine WL.val (.ld (.of rfl) hS (k := 3) rfl Tryz.isAgg9 rfl) rfl ?_ | refine WL.val (.ld (.of rfl) hS (k := 4) rfl Tryz.isAgg9 rfl) rfl ?_ | refine WL.val (.ld (.of rfl) hS (k := 5) rfl Tryz.isAgg9 rfl) rfl ?_
  refine WL.call Tryz.func19 rfl (evs_cons (.of rfl) (evs_cons (.of rfl) evs_nil)) rfl (In_any da dc done (by omega) q.ticket B _ J3 _ (fun w h => rows_own (cells := tCells) (s := 1) (fun _ => rfl) h (k := 3) (by rw [rowsT]; rfl)) hS) ?_
  clear hS
  rintro _ w ⟨rfl, hS⟩
  refine .run 1 rfl trivial (.nil (.seq (.seq (.region (.run 3 rfl trivial (.gval rfl rfl (fun hg1 => (.move (.of rfl))) rfl (.val (.pand (.of rfl) (.of rfl) (.of rfl)) rfl (.nil ?_))))))))
  refine WC.cond rfl (fun hb83 => ?_) (fun hb83 => ?_)
  ·
   have hc83 := hb83; try simp only [Gk.cs0] at hc83
   refine .seq (.region (.run 1 rfl trivial (.nil (.ret (ret1 Tryz.results4 rfl ?_)))))
   exfalso
   have h9 := hb83
   simp only [Bool.and_eq_true, beq_iff_eq] at h9
   rw [hs1 (by omega)] at h9
   exact absurd h9.2 (by decide)
  have hc83 := hb83; try simp only [Gk.cs0] at hc83
  refine .skip (.seq (.seq (.region ?_)))
  refine WL.val (.lds (vs := recCells (getD (useW p.ps ω q).2.l q.ticket)) (.of rfl) hS (k := 0) rfl Tryz.isAgg45 Tryz.sizeOf45 rfl (fun j v hj => by rw [Nat.zero_add]; exact hj)) rfl ?_
  refine WL.val (.lds (vs := recCells (getD ω.l q.ticket)) (.of rfl) hS (k := 1) rfl Tryz.isAgg45 Tryz.sizeOf45 rfl (fun j v hj => by rw [Nat.zero_add]; exact hj)) rfl ?_
  refine .val (Ex.neRec (r := (getD (useW p.ps ω q).2.l q.ticket)) (s := (getD ω.l q.ticket)) (.of rfl) (.of rfl)) rfl (.nil ?_)
  refine WC.cond rfl (fun hb86 => ?_) (fun hb86 => ?_)
  ·
   have hc86 := hb86; try simp only [Gk.cs0] at hc86
   refine .seq (.seq (.region (.run 2 rfl trivial ?_)))
   refine WL.gval rfl rfl (fun hg1 => (by first | exact .fieldAddr 8 (.of rfl) Tryz.underlying45 rfl rfl Tryz.sizeOf3 rfl | exact .fieldAddrI 8 (.of rfl) Tryz.underlying45 rfl rfl Tryz.sizeOf3 rfl)) rfl ?_
   refine WL.gval rfl rfl (fun hg1 => (by first | exact (.ld (.gd hg1 rfl) hS (k := 0) rfl Tryz.isAgg3 rfl) | exact (.ld (.gd hg1 rfl) hS (k := 1) rfl Tryz.isAgg3 rfl) | exact (.ld (.gd hg1 rfl) hS (k := 2) rfl Tryz.isAgg3 rfl) | exact (.ld (.gd hg1 rfl) hS (k := 3) rfl Tryz.isAgg3 rfl) | exact (.ld (.gd hg1 rfl) hS (k := 4) rfl Tryz.isAgg3 rfl) | exact (.ld (.gd hg1 rfl) hS (k := 5) rfl Tryz.isAgg3 rfl))) rfl ?_
   refine .gval rfl rfl (fun hg1 => (.neq (.gd hg1 rfl) (.of rfl))) rfl (.val (.por (.of rfl) (.of rfl) (.of rfl)) rfl (.run 1 rfl trivial ?_))
   refine WL.gval rfl rfl (fun hg1 => (by first | exact .fieldAddr 8 (.of rfl) Tryz.underlying45 rfl rfl Tryz.sizeOf3 rfl | exact .fieldAddrI 8 (.of rfl) Tryz.underlying45 rfl rfl Tryz.sizeOf3 rfl)) rfl ?_
   refine WL.gval rfl rfl (fun hg1 => (by first | exact (.ld (.gd hg1 rfl) hS (k := 0) rfl Tryz.isAgg3 rfl) | exact (.ld (.gd hg1 rfl) hS (k := 1) rfl Tryz.isAgg3 rfl) | exact (.ld (.gd hg1 rfl) hS (k := 2) rfl Tryz.isAgg3 rfl) | exact (.ld (.gd hg1 rfl) hS (k := 3) rfl Tryz.isAgg3 rfl) | exact (.ld (.gd hg1 rfl) hS (k := 4) rfl Tryz.isAgg3 rfl) | exact (.ld (.gd hg1 rfl) hS (k := 5) rfl Tryz.isAgg3 rfl))) rfl ?_
   refine .gval rfl rfl (fun hg1 => (.neq (.gd hg1 rfl) (.of rfl))) rfl (.val (.por (.of rfl) (.of rfl) (.of rfl)) rfl (.nil ?_))
   refine WC.cond rfl (fun hb97 => ?_) (fun hb97 => ?_)
   ·
    have hc97 := hb97; try simp only [Gk.cs0] at hc97
    refine .seq (.region (.run 1 rfl trivial (.nil (.ret (ret1 Tryz.results4 rfl ?_)))))
    exfalso
    have h9 := hs2 (by simpa using hb86)
    rw [h9.1, h9.2.1, h9.2.2] at hb97
    exact absurd hb97 (by decide)
   have hc97 := hb97; try simp only [Gk.cs0] at hc97
   refine .skip ?_
   have hne : (getD (useW p.ps ω q).2.l q.ticket) ≠ (getD ω.l q.ticket) := by simpa using hb86
   refine .region (.run 1 rfl trivial ?_)
   first | refine WL.val (.fieldAddr 0 (.of rfl) Tryz.underlying43 rfl rfl Tryz.sizeOf9 rfl) rfl ?_ | refine WL.val (.fieldAddrI 0 (.of rfl) Tryz.underlying43 rfl rfl Tryz.sizeOf9 rfl) rfl ?_
   first | refine WL.val (.ld (.of rfl) hS (k := 0) rfl Tryz.isAgg9 rfl) rfl ?_ | refine WL.val (.ld (.of rfl) hS (k := 1) rfl Tryz.isAgg9 rfl) rfl ?_ | refine WL.val (.ld (.of rfl) hS (k := 2) rfl Tryz.isAgg9 rfl) rfl ?_ | refine WL.val (.ld (.of rfl) hS (k := 3) rfl Tryz.isAgg9 rfl) rfl ?_ | refine WL.val (.ld (.of rfl) hS (k := 4) rfl Tryz.isAgg9 rfl) rfl ?_ | refine WL.val (.ld (.of rfl) hS (k := 5) rfl Tryz.isAgg9 rfl) rfl ?_
   refine .buildSlice (cs := [_]) hS (parts_cons (.of rfl) parts_nil) Tryz.underlying41 Tryz.sizeOf9 Tryz.zeroValue9 rfl rfl rfl rfl ?_
   clear hS; intro b101 w hS
   first | refine WL.append (size := 1) (bytes := 16) hS (.of rfl) (.of rfl) (k := 0) rfl Tryz.underlying41 info9_y rfl rfl rfl rfl rfl rfl rfl ⟨by omega, by unfold maxLen; omega⟩ rfl ?_ | refine WL.append (size := 1) (bytes := 16) hS (.of rfl) (.of rfl) (k := 1) rfl Tryz.underlying41 info9_y rfl rfl rfl rfl rfl rfl rfl ⟨by omega, by unfold maxLen; omega⟩ rfl ?_ | refine WL.append (size := 1) (bytes := 16) hS (.of rfl) (.of rfl) (k := 2) rfl Tryz.underlying41 info9_y rfl rfl rfl rfl rfl rfl rfl ⟨by omega, by unfold maxLen; omega⟩ rfl ?_ | refine WL.append (size := 1) (bytes := 16) hS (.of rfl) (.of rfl) (k := 3) rfl Tryz.underlying41 info9_y rfl rfl rfl rfl rfl rfl rfl ⟨by omega, by unfold maxLen; omega⟩ rfl ?_ | refine WL.append (size := 1) (bytes := 16) hS (.of rfl) (.of rfl) (k := 4) rfl Tryz.underlying41 info9_y rfl rfl rfl rfl rfl rfl rfl ⟨by omega, by unfold maxLen; omega⟩ rfl ?_ | refine WL.append (size := 1) (bytes := 16) hS (.of rfl) (.of rfl) (k := 5) rfl Tryz.underlying41 info9_y rfl rfl rfl rfl rfl rfl rfl ⟨by omega, by unfold maxLen; omega⟩ rfl ?_
   clear hS; intro v102 w hS; try dsimp only [List.set] at hS
   first | obtain ⟨a102, c102, rfl, hcap102, _⟩ := hS.vecSlice (k := 0) (v := v102) rfl | obtain ⟨a102, c102, rfl, hcap102, _⟩ := hS.vecSlice (k := 1) (v := v102) rfl | obtain ⟨a102, c102, rfl, hcap102, _⟩ := hS.vecSlice (k := 2) (v := v102) rfl | obtain ⟨a102, c102, rfl, hcap102, _⟩ := hS.vecSlice (k := 3) (v := v102) rfl | obtain ⟨a102, c102, rfl, hcap102, _⟩ := hS.vecSlice (k := 4) (v := v102) rfl | obtain ⟨a102, c102, rfl, hcap102, _⟩ := hS.vecSlice (k := 5) (v := v102) rfl
   refine .run 1 rfl trivial (.nil (.seq (.seq (.region (.run 3 rfl trivial ?_)))))
   refine WL.gval rfl rfl (fun hg1 => .lds (vs := recCells (getD (useW p.ps ω q).2.l q.ticket)) (.of rfl) hS (k := 0) rfl Tryz.isAgg45 Tryz.sizeOf45 rfl (fun j v hj => by rw [Nat.zero_add]; exact hj)) rfl ?_
   refine WL.gval rfl rfl (fun hg1 => .lds (vs := recCells (getD ω.l q.ticket)) (.of rfl) hS (k := 1) rfl Tryz.isAgg45 Tryz.sizeOf45 rfl (fun j v hj => by rw [Nat.zero_add]; exact hj)) rfl ?_
   refine .gval rfl rfl (fun hg1 => Ex.eqRec (r := (getD (useW p.ps ω q).2.l q.ticket)) (s := (getD ω.l q.ticket)) (.gd hg1 rfl) (.gd hg1 rfl)) rfl (.val (.pand (.of rfl) (.of rfl) (.of rfl)) rfl (.nil ?_))
   refine WC.cond rfl (fun hb109 => ?_) (fun hb109 => ?_)
   ·
    have hc109 := hb109; try simp only [Gk.cs0] at hc109
    refine .seq (.region (.run 1 rfl trivial (.nil (.ret (ret1 Tryz.results4 rfl ?_)))))
    exfalso
    have h9 := hb109
    simp only [Bool.and_eq_true, beq_iff_eq, decide_eq_true_eq] at h9
    exact hs3 (by omega) h9.2
   have hc109 := hb109; try simp only [Gk.cs0] at hc109
   refine .skip (.region (.run 2 rfl trivial ?_))
   refine WL.val (.cvi (.of rfl) Tryz.underlying37 Tryz.underlying3 (by rw [IntKind.wrap_i64]; omega)) rfl ?_
   refine .call Tryz.func20 rfl (evs_cons (.of rfl) (evs_cons (.of rfl) evs_nil)) rfl (Tick_any p _ nb hω2 B _ J3 _ (hS.pick 4 rfl)) ?_
   clear hS
   rintro _ w ⟨rfl, hS⟩
   try dsimp only [List.eraseIdx] at hS
   refine .nil (.region (.run 3 rfl ⟨⟨by omega, by omega⟩, trivial⟩ (.nil ?_)))
   refine ⟨(tick (useW p.ps ω q).2 nb, i + 1, done ++ [q.ticket], .slice a102 (done.length + 1) c102, J3), ⟨rfl, rfl, rfl, rfl, rfl, rfl, trivial⟩, ⟨by (try dsimp only); omega, hJ2.trans hJ3, tick_ok hω2 nb, fun t ht => ?_, by (try dsimp only); rw [List.length_append, List.length_cons, List.length_nil]; omega, ?_⟩, by (try dsimp only); omega⟩
   ·rcases List.mem_append.1 ht with h | h
    ·exact hs4 t h
    ·rw [List.mem_singleton.1 h]; exact hs5 hne
   ·try dsimp only
    rw [List.length_append, List.length_cons, List.length_nil, List.map_append]
    exact ((((((hS.drop (k := 1) rfl).drop (k := 1) rfl).drop (k := 1) rfl).pick 2 rfl).pick 1 rfl).pick 2 rfl)
  have hc86 := hb86; try simp only [Gk.cs0] at hc86
  refine .skip (.seq (.seq (.region (.run 3 rfl trivial ?_))))
  refine WL.gval rfl rfl (fun hg1 => .lds (vs := recCells (getD (useW p.ps ω q).2.l q.ticket)) (.of rfl) hS (k := 0) rfl Tryz.isAgg45 Tryz.sizeOf45 rfl (fun j v hj => by rw [Nat.zero_add]; exact hj)) rfl ?_
  refine WL.gval rfl rfl (fun hg1 => .lds (vs := recCells (getD ω.l q.ticket)) (.of rfl) hS (k := 1) rfl Tryz.isAgg45 Tryz.sizeOf45 rfl (fun j v hj => by rw [Nat.zero_add]; exact hj)) rfl ?_
  refine .gval rfl rfl (fun hg1 => Ex.eqRec (r := (getD (useW p.ps ω q).2.l q.ticket)) (s := (getD ω.l q.ticket)) (.gd hg1 rfl) (.gd hg1 rfl)) rfl (.val (.pand (.of rfl) (.of rfl) (.of rfl)) rfl (.nil ?_))
  refine WC.cond rfl (fun hb109 => ?_) (fun hb109 => ?_)
  ·
   have hc109 := hb109; try simp only [Gk.cs0] at hc109
   refine .seq (.region (.run 1 rfl trivial (.nil (.ret (ret1 Tryz.results4 rfl ?_)))))
   exfalso
   have h9 := hb109
   simp only [Bool.and_eq_true, beq_iff_eq, decide_eq_true_eq] at h9
   exact hs3 (by omega) h9.2
  have hc109 := hb109; try simp only [Gk.cs0] at hc109
  refine .skip (.region (.run 2 rfl trivial ?_))
  refine WL.val (.cvi (.of rfl) Tryz.underlying37 Tryz.underlying3 (by rw [IntKind.wrap_i64]; omega)) rfl ?_
  refine .call Tryz.func20 rfl (evs_cons (.of rfl) (evs_cons (.of rfl) evs_nil)) rfl (Tick_any p _ nb hω2 B _ J3 _ (hS.pick 4 rfl)) ?_
  clear hS
  rintro _ w ⟨rfl, hS⟩
  try dsimp only [List.eraseIdx] at hS
  refine .nil (.region (.run 3 rfl ⟨⟨by omega, by omega⟩, trivial⟩ (.nil ?_)))
  refine ⟨(tick (useW p.ps ω q).2 nb, i + 1, done, .slice da done.length dc, J3), ⟨rfl, rfl, rfl, rfl, rfl, rfl, trivial⟩, ⟨by (try dsimp only); omega, hJ2.trans hJ3, tick_ok hω2 nb, hs4, by (try dsimp only); omega, ?_⟩, by (try dsimp only); omega⟩
  try dsimp only
  exact ((((((hS.drop (k := 1) rfl).drop (k := 1) rfl).drop (k := 1) rfl).pick 2 rfl).pick 1 rfl).pick 2 rfl)
 have hc42 := hb42; try simp only [Gk.cs0] at hc42
 refine .exit (.seq (.region (.run 2 rfl trivial (.nil (.ret (ret1 Tryz.results4 rfl ?_))))))
 exact ⟨_, rfl, rfl, J2, hJ.trans hJ2, ((hS.drop (k := 0) rfl).drop (k := 0) rfl).drop (k := 0) rfl⟩
theorem changes_at {ps : Nat → Int} {ω : Wd} (hω : WdOk ω) (q : Qr) : (useW ps ω q).2.l.length = ω.l.length ∧ (useW ps ω q).2.now = ω.now ∧ ∀ (i : Nat) (r : Rec), ω.l[i]? = some r → (useW ps ω q).2.l[i]? = some r ∨ (r.name = q.ticket ∧ r.uses = 0 ∧ (useW ps ω q).2.l[i]? = some (touchR r ω.now)) := by
 rcases use_case (ps := ps) hω q with ⟨_, h2, _⟩ | ⟨_, h2, h3, h4, h5, h6, h7, h8, _⟩
 ·rw [h2]; exact ⟨rfl, rfl, fun i r hr => .inl hr⟩
 ·rw [h7]
  obtain ⟨_, j, t, h11, h12, h13, _, h15⟩ := put_ok h8
  have hname : (touchR (getD ω.l q.ticket) ω.now).name = q.ticket := h5
  rw [hname] at h11 h13 h15
  have hp : put ω.l (touchR (getD ω.l q.ticket) ω.now) = ω.l.set j (touchR (getD ω.l q.ticket) ω.now) := by rw [put, if_pos h8, hname, h11, Int.toNat_natCast]
  refine ⟨put_length _ _, rfl, fun i r hr => ?_⟩
  show (put ω.l (touchR (getD ω.l q.ticket) ω.now))[i]? = some r ∨ _ ∧ _ ∧ (put ω.l (touchR (getD ω.l q.ticket) ω.now))[i]? = _
  rw [hp]
  have hj := (List.getElem?_eq_some_iff.1 h12).1
  by_cases e : i = j
  ·subst e
   have e2 : r = getD ω.l q.ticket := by rw [h2] at h15; rw [h12] at hr; cases hr; exact (Option.some.inj h15).symm
   rw [List.getElem?_set_self hj, ← e2]
   exact .inr ⟨by rw [e2]; exact h5, by rw [e2]; exact h4, rfl⟩
  ·rw [List.getElem?_set_ne (Ne.symm e)]; exact .inl hr
set_option maxRecDepth 20000 in
theorem ValidateChanges_any (c : Cf) (a : Option Addr) (cap : Nat) (ua : Option Addr) (ucap : Nat) (la : Option Addr) (lc : Nat) (l : List Rec) (hll : l.length ≤ 9223372036854775807) (q : Qr) (hqf0 : qrFit q) (now : Int) (B w : World) (I : Im) (hK : Known I) (hP : PreAt I) (hC : CfAt I c a cap ua ucap) (hR : RS I la 10 l.length (rowsC recCells l)) (As : List Assn) (hS : Sat B w I As) :
  Calls Tryz.prog 7 [.agg (cfCells c a cap ua ucap).toArray, .slice la l.length lc, I64 now, .agg (qrCells q).toArray].toArray w (Ret fun v w' => v = .bool true ∧ ∃ J, Le I J ∧ Sat B w' J As) := by
 refine calls Tryz.func7 rfl Tryz.ntmps7 rfl (.seq (.region (.boxA (cs := cfCells c a cap ua ucap) hS (.of rfl) rfl ?_)))
 clear hS; intro b4 w hS
 refine .boxA (cs := [S q.ticket, S q.service, .bool q.renew, .bool q.proxies]) hS (.of rfl) rfl ?_
 clear hS; intro b7 w hS
 refine .run 1 rfl trivial (.nil (.seq (.region (.call Tryz.func13 rfl evs_nil rfl (awake21_any B _ I hK hP _ hS) ?_))))
 clear hS
 rintro _ w ⟨rfl, hS⟩
 refine .run 1 rfl trivial (.nil (.seq (.region ?_)))
 refine WL.val (.lds (vs := cfCells c a cap ua ucap) (.of rfl) hS (k := 1) rfl Tryz.isAgg34 Tryz.sizeOf34 rfl (fun j v hj => by rw [Nat.zero_add]; exact hj)) rfl ?_
 refine .run 1 rfl trivial ?_
 first | refine WL.val (.ldsW (cs := [_, _, _, _]) (.of rfl) hS (k := 0) rfl Tryz.isAgg43 Tryz.sizeOf43 rfl) rfl ?_ | refine WL.val (.lds (vs := [_, _, _, _]) (.of rfl) hS (k := 0) rfl Tryz.isAgg43 Tryz.sizeOf43 rfl (fun _ _ h => h)) rfl ?_ | refine WL.val (.ldsW (cs := [_, _, _, _]) (.of rfl) hS (k := 1) rfl Tryz.isAgg43 Tryz.sizeOf43 rfl) rfl ?_ | refine WL.val (.lds (vs := [_, _, _, _]) (.of rfl) hS (k := 1) rfl Tryz.isAgg43 Tryz.sizeOf43 rfl (fun _ _ h => h)) rfl ?_
 refine .buildSlice (cs := [S q.ticket, S q.service, .bool q.renew, .bool q.proxies]) hS (parts_cons (.of rfl) parts_nil) Tryz.underlying36 Tryz.sizeOf43 Tryz.zeroValue43 rfl rfl rfl rfl ?_
 clear hS; intro b20 w hS
 obtain ⟨J1, hJ1, hb20, hS⟩ := hS.freeze (k := 0) rfl
 try dsimp only [List.eraseIdx] at hS
 have hQ1 : RS J1 (some (ad b20 0)) 4 [q].length (rowsC qrCells [q]) := ⟨rfl, fun _ => ⟨_, rfl, at_frozen hb20⟩⟩
 refine .call Tryz.func15 rfl (evs_cons (.of rfl) (evs_cons (.of rfl) (evs_cons (.of rfl) evs_nil))) rfl (few21_any c a cap ua ucap la lc l hll (some (ad b20 0)) 1 [q] (show (1 : Nat) ≤ 9223372036854775807 by decide) B _ J1 (hC.mono hJ1) (hR.mono hJ1) hQ1 _ hS) ?_
 clear hS
 rintro _ w ⟨rfl, hS⟩
 refine .run 1 rfl trivial (.nil (.seq (.seq (.region (.run 2 rfl trivial (.nil ?_))))))
 refine WC.cond rfl (fun hb23 => ?_) (fun hb23 => ?_)
 ·
  have hc23 := hb23; try simp only [Gk.cs0] at hc23
  refine .seq (.region (.run 2 rfl trivial (.nil (.ret (ret1 Tryz.results7 rfl ?_)))))
  exact ⟨_, rfl, rfl, J1, hJ1, (hS.drop (k := 0) rfl).drop (k := 0) rfl⟩
 have hc23 := hb23; try simp only [Gk.cs0] at hc23
 refine .skip (.seq ?_)
 have hfw := few21_facts (show few21 c l [q] = true by simpa using hb23)
 have hfw1 := hfw.1
 have hfw2 := hfw.2.1
 refine .region ?_
 refine WL.val (.lds (vs := cfCells c a cap ua ucap) (.of rfl) hS (k := 1) rfl Tryz.isAgg34 Tryz.sizeOf34 rfl (fun j v hj => by rw [Nat.zero_add]; exact hj)) rfl ?_
 refine .run 2 rfl trivial (.call Tryz.func16 rfl (evs_cons (.of rfl) (evs_cons (.of rfl) (evs_cons (.of rfl) evs_nil))) rfl (made21_any c a cap ua ucap (fewC_fits hC hfw1) la lc l hll hfw2 now B _ J1 (hK.mono hJ1) (hP.mono hJ1) (hC.mono hJ1) (hR.mono hJ1) _ hS) ?_)
 clear hS
 rintro _ w ⟨J, pv, hJ, rfl, hcs⟩
 refine .run 1 rfl trivial (.nil (.seq (.seq (.region (.run 1 rfl trivial (.val (.eqp (.of rfl) (.of rfl) Tryz.underlying39) rfl (.nil ?_)))))))
 refine WC.cond rfl (fun hb30 => ?_) (fun hb30 => ?_)
 ·
  have hc30 := hb30; try simp only [Gk.cs0] at hc30
  refine .seq (.region (.run 2 rfl trivial (.nil (.ret (ret1 Tryz.results7 rfl ?_)))))
  rcases hcs with ⟨_, rfl, hS⟩ | ⟨_, p, D, _, _, _, _, h9, _⟩
  ·exact ⟨_, rfl, rfl, J, hJ1.trans hJ, (hS.drop (k := 0) rfl).drop (k := 0) rfl⟩
  ·exfalso; rw [h9] at hb30; cases hb30
 have hc30 := hb30; try simp only [Gk.cs0] at hc30
 refine .skip (.seq ?_)
 rcases hcs with ⟨_, h9, _⟩ | ⟨hz, p, D, hD, hlo, hus, hps, hpv, hI, hS⟩
 ·exfalso; rw [h9] at hb30; cases hb30
 subst hpv
 have hω0 := madeW_ok c l now
 obtain ⟨⟨a5, c5, ma5, mc5⟩, hS⟩ := Sat.unbox hS
 replace hS : Sat B _ _ (blk p.wb (wdC p (madeW c l now)) 52 :: blk p.tb [I64 (madeW c l now).room, .slice a5 (madeW c l now).l.length c5] 127 :: Vec 45 10 (.slice a5 (madeW c l now).l.length c5) (madeW c l now).l.length (rowsR (madeW c l now).l) :: blk p.mb [.slice ma5 (madeW c l now).D.length mc5] 168 :: VecO 118 (.slice ma5 (madeW c l now).D.length mc5) ((madeW c l now).D.map fun d => U64 (d : Nat)) :: _) := hS
 have hlen := hω0.len
 refine .region (.run 2 rfl trivial ?_)
 first | refine WL.val (.fieldAddr 0 (.of rfl) Tryz.underlying52 rfl rfl Tryz.sizeOf47 rfl) rfl ?_ | refine WL.val (.fieldAddrI 0 (.of rfl) Tryz.underlying52 rfl rfl Tryz.sizeOf47 rfl) rfl ?_
 first | refine WL.val (.ld (.of rfl) hS (k := 0) rfl Tryz.isAgg47 rfl) rfl ?_ | refine WL.val (.ld (.of rfl) hS (k := 1) rfl Tryz.isAgg47 rfl) rfl ?_ | refine WL.val (.ld (.of rfl) hS (k := 2) rfl Tryz.isAgg47 rfl) rfl ?_ | refine WL.val (.ld (.of rfl) hS (k := 3) rfl Tryz.isAgg47 rfl) rfl ?_ | refine WL.val (.ld (.of rfl) hS (k := 4) rfl Tryz.isAgg47 rfl) rfl ?_ | refine WL.val (.ld (.of rfl) hS (k := 5) rfl Tryz.isAgg47 rfl) rfl ?_ | refine WL.val (.ld (.of rfl) hS (k := 6) rfl Tryz.isAgg47 rfl) rfl ?_
 refine .call Tryz.func29 rfl (evs_cons (.of rfl) evs_nil) rfl (TreeAll_any p.tb (madeW c l now).room a5 c5 (madeW c l now).l (by omega) B _ J _ ((hS.pick 2 rfl).pick 2 rfl)) ?_
 clear hS
 rintro _ w ⟨J2, wa, wc, rfl, hJ2, hwc, hRw0, hS⟩
 try dsimp only [List.eraseIdx] at hS
 refine .run 1 rfl trivial (.nil (.seq (.region (.run 1 rfl trivial ?_))))
 first | refine WL.val (.ldsW (cs := [_, _, _, _]) (.of rfl) hS (k := 0) rfl Tryz.isAgg43 Tryz.sizeOf43 rfl) rfl ?_ | refine WL.val (.lds (vs := [_, _, _, _]) (.of rfl) hS (k := 0) rfl Tryz.isAgg43 Tryz.sizeOf43 rfl (fun _ _ h => h)) rfl ?_ | refine WL.val (.ldsW (cs := [_, _, _, _]) (.of rfl) hS (k := 1) rfl Tryz.isAgg43 Tryz.sizeOf43 rfl) rfl ?_ | refine WL.val (.lds (vs := [_, _, _, _]) (.of rfl) hS (k := 1) rfl Tryz.isAgg43 Tryz.sizeOf43 rfl (fun _ _ h => h)) rfl ?_ | refine WL.val (.ldsW (cs := [_, _, _, _]) (.of rfl) hS (k := 2) rfl Tryz.isAgg43 Tryz.sizeOf43 rfl) rfl ?_ | refine WL.val (.lds (vs := [_, _, _, _]) (.of rfl) hS (k := 2) rfl Tryz.isAgg43 Tryz.sizeOf43 rfl (fun _ _ h => h)) rfl ?_ | refine WL.val (.ldsW (cs := [_, _, _, _]) (.of rfl) hS (k := 3) rfl Tryz.isAgg43 Tryz.sizeOf43 rfl) rfl ?_ | refine WL.val (.lds (vs := [_, _, _, _]) (.of rfl) hS (k := 3) rfl Tryz.isAgg43 Tryz.sizeOf43 rfl (fun _ _ h => h)) rfl ?_ | refine WL.val (.ldsW (cs := [_, _, _, _]) (.of rfl) hS (k := 4) rfl Tryz.isAgg43 Tryz.sizeOf43 rfl) rfl ?_ | refine WL.val (.lds (vs := [_, _, _, _]) (.of rfl) hS (k := 4) rfl Tryz.isAgg43 Tryz.sizeOf43 rfl (fun _ _ h => h)) rfl ?_ | refine WL.val (.ldsW (cs := [_, _, _, _]) (.of rfl) hS (k := 5) rfl Tryz.isAgg43 Tryz.sizeOf43 rfl) rfl ?_ | refine WL.val (.lds (vs := [_, _, _, _]) (.of rfl) hS (k := 5) rfl Tryz.isAgg43 Tryz.sizeOf43 rfl (fun _ _ h => h)) rfl ?_ | refine WL.val (.ldsW (cs := [_, _, _, _]) (.of rfl) hS (k := 6) rfl Tryz.isAgg43 Tryz.sizeOf43 rfl) rfl ?_ | refine WL.val (.lds (vs := [_, _, _, _]) (.of rfl) hS (k := 6) rfl Tryz.isAgg43 Tryz.sizeOf43 rfl (fun _ _ h => h)) rfl ?_
 have hqf := hfw.2.2.2.2 q (by simp)
 replace hS := Sat.box (T := wdT p (madeW c l now)) (a5, c5, ma5, mc5) (((((hS.pick 4 rfl).pick 4 rfl).pick 3 rfl).pick 3 rfl).pick 4 rfl)
 try dsimp only [List.eraseIdx] at hS
 refine WL.call Tryz.func18 rfl (evs_cons (.of rfl) (evs_cons (.of rfl) evs_nil)) rfl (vCheck_any q (by have := hqf.1; omega) (by have := hqf.2; omega) p (madeW c l now) hω0 B _ J2 (hI.mono hJ2) _ hS) ?_
 clear hS
 rintro _ w ⟨J3, _, hJ3, rfl, ⟨ka, kc, pa, pc, rfl, _, _, _, _⟩, hS⟩
 try dsimp only [List.eraseIdx] at hS
 refine .run 3 rfl trivial (.nil (.seq ?_))
 obtain ⟨⟨a6, c6, ma6, mc6⟩, hS⟩ := Sat.unbox hS
 replace hS : Sat B _ _ (blk p.wb (wdC p (useW p.ps (madeW c l now) q).2) 52 :: blk p.tb [I64 (useW p.ps (madeW c l now) q).2.room, .slice a6 (useW p.ps (madeW c l now) q).2.l.length c6] 127 :: Vec 45 10 (.slice a6 (useW p.ps (madeW c l now) q).2.l.length c6) (useW p.ps (madeW c l now) q).2.l.length (rowsR (useW p.ps (madeW c l now) q).2.l) :: blk p.mb [.slice ma6 (useW p.ps (madeW c l now) q).2.D.length mc6] 168 :: VecO 118 (.slice ma6 (useW p.ps (madeW c l now) q).2.D.length mc6) ((useW p.ps (madeW c l now) q).2.D.map fun d => U64 (d : Nat)) :: _) := hS
 have hω2 := useW_ok (ps := p.ps) hω0 q
 have hlen2 := hω2.len
 refine .region (.run 2 rfl trivial ?_)
 first | refine WL.val (.fieldAddr 0 (.of rfl) Tryz.underlying52 rfl rfl Tryz.sizeOf47 rfl) rfl ?_ | refine WL.val (.fieldAddrI 0 (.of rfl) Tryz.underlying52 rfl rfl Tryz.sizeOf47 rfl) rfl ?_
 first | refine WL.val (.ld (.of rfl) hS (k := 0) rfl Tryz.isAgg47 rfl) rfl ?_ | refine WL.val (.ld (.of rfl) hS (k := 1) rfl Tryz.isAgg47 rfl) rfl ?_ | refine WL.val (.ld (.of rfl) hS (k := 2) rfl Tryz.isAgg47 rfl) rfl ?_ | refine WL.val (.ld (.of rfl) hS (k := 3) rfl Tryz.isAgg47 rfl) rfl ?_ | refine WL.val (.ld (.of rfl) hS (k := 4) rfl Tryz.isAgg47 rfl) rfl ?_ | refine WL.val (.ld (.of rfl) hS (k := 5) rfl Tryz.isAgg47 rfl) rfl ?_ | refine WL.val (.ld (.of rfl) hS (k := 6) rfl Tryz.isAgg47 rfl) rfl ?_
 refine .call Tryz.func29 rfl (evs_cons (.of rfl) evs_nil) rfl (TreeAll_any p.tb (useW p.ps (madeW c l now) q).2.room a6 c6 (useW p.ps (madeW c l now) q).2.l (by omega) B _ J3 _ ((hS.pick 2 rfl).pick 2 rfl)) ?_
 clear hS
 rintro _ w ⟨J4, aa, ac, rfl, hJ4, hac, hRa0, hS⟩
 try dsimp only [List.eraseIdx] at hS
 refine .run 1 rfl trivial (.nil (.seq (.seq ?_)))
 have hch := changes_at (ps := p.ps) hω0 q
 refine .region (.run 5 rfl ⟨⟨_, Tryz.underlying35⟩, ⟨_, Tryz.underlying35⟩, trivial⟩ (.nil ?_))
 refine WC.cond rfl (fun hb52 => ?_) (fun hb52 => ?_)
 ·
  have hc52 := hb52; try simp only [Gk.cs0] at hc52
  refine .seq (.region (.run 1 rfl trivial (.nil (.ret (ret1 Tryz.results7 rfl ?_)))))
  exfalso
  rw [hch.1] at hb52
  simp at hb52
 have hc52 := hb52; try simp only [Gk.cs0] at hc52
 refine .skip (.seq (.seq (.region (.run 1 rfl trivial (.nil (.block ?_))))))
 replace hS := Sat.box (T := wdT p (useW p.ps (madeW c l now) q).2) (a6, c6, ma6, mc6) (((((hS.pick 4 rfl).pick 4 rfl).pick 3 rfl).pick 3 rfl).pick 4 rfl)
 try dsimp only [List.eraseIdx] at hS
 have hRw : RS J4 wa 10 (madeW c l now).l.length (rowsC recCells (madeW c l now).l) := hRw0.mono (hJ3.trans hJ4)
 have hRa : RS J4 aa 10 (useW p.ps (madeW c l now) q).2.l.length (rowsC recCells (useW p.ps (madeW c l now) q).2.l) := hRa0
 refine .loop (σ := Nat) (fun i => [(7, ptr b7 0), (9, .bool true), (11, ptr p.wb 0), (12, .slice wa (madeW c l now).l.length wc), (13, .slice aa (useW p.ps (madeW c l now) q).2.l.length ac), (14, I64 (i : Nat))]) (fun i w => i ≤ (useW p.ps (madeW c l now) q).2.l.length ∧ Sat B w J4 (wdA p (useW p.ps (madeW c l now) q).2 :: blk b7 [S q.ticket, S q.service, .bool q.renew, .bool q.proxies] 43 :: blk b4 (cfCells c a cap ua ucap) 34 :: As)) (fun i => (useW p.ps (madeW c l now) q).2.l.length - i) 0 ⟨rfl, rfl, rfl, rfl, rfl, rfl, trivial⟩ ⟨Nat.zero_le _, hS⟩ ?_
 rintro i w ⟨hi, hS⟩
 change WC _ _ _ _ [(7, ptr b7 0), (9, .bool true), (11, ptr p.wb 0), (12, .slice wa (madeW c l now).l.length wc), (13, .slice aa (useW p.ps (madeW c l now) q).2.l.length ac), (14, I64 (i : Nat))] w
 refine .seq (.seq (.region (.run 4 rfl ⟨⟨_, Tryz.underlying35⟩, trivial⟩ (.nil ?_))))
 refine WC.cond rfl (fun hb56 => ?_) (fun hb56 => ?_)
 ·
  have hc56 := hb56; try simp only [Gk.cs0] at hc56
  refine .skip (.seq (.block (.seq ?_)))
  obtain ⟨r, hr⟩ : ∃ r, (madeW c l now).l[i]? = some r := ⟨_, List.getElem?_eq_getElem (by omega)⟩
  obtain ⟨wp, hw9, hxw⟩ := rs_at (cells := recCells) (s := 10) (fun _ => rfl) hRw hr
  obtain ⟨r2, hr2⟩ : ∃ r2, (useW p.ps (madeW c l now) q).2.l[i]? = some r2 := ⟨_, List.getElem?_eq_getElem (by omega)⟩
  obtain ⟨ap, ha9, hxa⟩ := rs_at (cells := recCells) (s := 10) (fun _ => rfl) hRa hr2
  have hcr := hch.2.2 i r hr
  have hur := right_times (hω0.wf.right r (List.mem_of_getElem? hr))
  subst hw9
  subst ha9
  refine .region (.run 2 rfl trivial ?_)
  first | refine WL.val (.indexAddr (.of rfl) (.of rfl) (by omega) (by omega) Tryz.underlying35 Tryz.sizeOf45) rfl ?_ | refine WL.val (.indexAddrI (.of rfl) (.of rfl) (by omega) (by omega) Tryz.underlying35 Tryz.sizeOf45) rfl ?_
  refine .val (.ldsI (.of rfl) hS hxw Tryz.isAgg45 Tryz.sizeOf45 rfl (fun _ _ h => h)) rfl ?_
  unfold recCells
  refine .allocA (cs := [_, _, _, _, _, _, _, _, _, _]) hS Tryz.zeroValue45 rfl ?_
  clear hS; intro b15 w hS
  first | refine WL.stA hS (k := 0) rfl (.of rfl) (.of rfl) rfl Tryz.sizeOf45 rfl (by simp) ?_ | refine WL.stA hS (k := 1) rfl (.of rfl) (.of rfl) rfl Tryz.sizeOf45 rfl (by simp) ?_ | refine WL.stA hS (k := 2) rfl (.of rfl) (.of rfl) rfl Tryz.sizeOf45 rfl (by simp) ?_ | refine WL.stA hS (k := 3) rfl (.of rfl) (.of rfl) rfl Tryz.sizeOf45 rfl (by simp) ?_
  clear hS; intro w hS; try dsimp only [List.set] at hS
  try simp only [List.take_zero, List.nil_append, List.append_nil, List.drop_succ_cons, List.drop_zero, List.drop_nil, Nat.zero_add] at hS
  refine .nil (.seq (.seq (.quiet (by kernel_rfl) (by kernel_rfl) hS ?_)))
  refine WQ.val (fun w hS => (by first | exact .fieldAddr 1 (.of rfl) Tryz.underlying45 rfl rfl Tryz.sizeOf9 rfl | exact .fieldAddrI 1 (.of rfl) Tryz.underlying45 rfl rfl Tryz.sizeOf9 rfl)) rfl ?_
  refine WQ.val (fun w hS => (by first | exact (.ld (.of rfl) hS (k := 0) rfl Tryz.isAgg9 rfl) | exact (.ld (.of rfl) hS (k := 1) rfl Tryz.isAgg9 rfl) | exact (.ld (.of rfl) hS (k := 2) rfl Tryz.isAgg9 rfl) | exact (.ld (.of rfl) hS (k := 3) rfl Tryz.isAgg9 rfl))) rfl ?_
  refine WQ.val (fun w hS => (by first | exact .fieldAddr 0 (.of rfl) Tryz.underlying43 rfl rfl Tryz.sizeOf9 rfl | exact .fieldAddrI 0 (.of rfl) Tryz.underlying43 rfl rfl Tryz.sizeOf9 rfl)) rfl ?_
  refine WQ.val (fun w hS => (by first | exact (.ld (.of rfl) hS (k := 0) rfl Tryz.isAgg9 rfl) | exact (.ld (.of rfl) hS (k := 1) rfl Tryz.isAgg9 rfl) | exact (.ld (.of rfl) hS (k := 2) rfl Tryz.isAgg9 rfl) | exact (.ld (.of rfl) hS (k := 3) rfl Tryz.isAgg9 rfl))) rfl ?_
  refine .val (fun w hS => (.eqs (.of rfl) (.of rfl))) rfl (.val (fun w hS => (.move (.of rfl))) rfl (.gval rfl rfl rfl (fun hg1 w hS => (.move (.of rfl))) rfl (.gval rfl rfl rfl (fun hg1 w hS => (.move (.of rfl))) rfl ?_)))
  refine WQ.gval rfl rfl rfl (fun hg1 w hS => (by first | exact .indexAddr (.gd hg1 rfl) (.gd hg1 rfl) (by (try simp only [Gk.cs0] at hg1); omega) (by (try simp only [Gk.cs0] at hg1); omega) Tryz.underlying35 Tryz.sizeOf45 | exact .indexAddrI (.gd hg1 rfl) (.gd hg1 rfl) (by (try simp only [Gk.cs0] at hg1); omega) (by (try simp only [Gk.cs0] at hg1); omega) Tryz.underlying35 Tryz.sizeOf45)) rfl ?_
  refine .gval rfl rfl rfl (fun hg1 w hS => .ldsI (.gd hg1 rfl) hS hxa Tryz.isAgg45 Tryz.sizeOf45 rfl (fun _ _ h => h)) rfl ?_
  refine WQ.gval rfl rfl rfl (fun hg1 w hS => .lds (vs := recCells r) (.of rfl) hS (k := 0) rfl Tryz.isAgg45 Tryz.sizeOf45 rfl (fun j v hj => by rw [Nat.zero_add]; exact hj)) rfl ?_
  refine .gval rfl rfl rfl (fun hg1 w hS => Ex.neRec (r := r2) (s := r) (.gd hg1 rfl) (.gd hg1 rfl)) rfl (.val (fun w hS => (.pand (.of rfl) (.of rfl) (.of rfl))) rfl (.nil ?_))
  clear hS; intro w hS
  refine WC.cond rfl (fun hb75 => ?_) (fun hb75 => ?_)
  ·
   have hc75 := hb75; try simp only [Gk.cs0] at hc75
   refine .seq (.region ?_)
   first | refine WL.val (.fieldAddr 8 (.of rfl) Tryz.underlying45 rfl rfl Tryz.sizeOf3 rfl) rfl ?_ | refine WL.val (.fieldAddrI 8 (.of rfl) Tryz.underlying45 rfl rfl Tryz.sizeOf3 rfl) rfl ?_
   first | refine WL.val (.ld (.of rfl) hS (k := 0) rfl Tryz.isAgg3 rfl) rfl ?_ | refine WL.val (.ld (.of rfl) hS (k := 1) rfl Tryz.isAgg3 rfl) rfl ?_ | refine WL.val (.ld (.of rfl) hS (k := 2) rfl Tryz.isAgg3 rfl) rfl ?_ | refine WL.val (.ld (.of rfl) hS (k := 3) rfl Tryz.isAgg3 rfl) rfl ?_
   refine .run 1 rfl ⟨⟨by omega, by omega⟩, trivial⟩ ?_
   first | refine WL.val (.fieldAddr 8 (.of rfl) Tryz.underlying45 rfl rfl Tryz.sizeOf3 rfl) rfl ?_ | refine WL.val (.fieldAddrI 8 (.of rfl) Tryz.underlying45 rfl rfl Tryz.sizeOf3 rfl) rfl ?_
   first | refine WL.st1 hS (k := 0) rfl (.of rfl) (.of rfl) rfl Tryz.sizeOf3 (by simp) ?_ | refine WL.st1 hS (k := 1) rfl (.of rfl) (.of rfl) rfl Tryz.sizeOf3 (by simp) ?_ | refine WL.st1 hS (k := 2) rfl (.of rfl) (.of rfl) rfl Tryz.sizeOf3 (by simp) ?_ | refine WL.st1 hS (k := 3) rfl (.of rfl) (.of rfl) rfl Tryz.sizeOf3 (by simp) ?_
   clear hS; intro w hS; try dsimp only [List.set] at hS
   refine .nil ?_
   replace hS := (hS.pick 1 rfl)
   try dsimp only [List.eraseIdx] at hS
   obtain ⟨⟨a7, c7, ma7, mc7⟩, hS⟩ := Sat.unbox hS
   replace hS : Sat B _ _ (blk p.wb (wdC p (useW p.ps (madeW c l now) q).2) 52 :: blk p.tb [I64 (useW p.ps (madeW c l now) q).2.room, .slice a7 (useW p.ps (madeW c l now) q).2.l.length c7] 127 :: Vec 45 10 (.slice a7 (useW p.ps (madeW c l now) q).2.l.length c7) (useW p.ps (madeW c l now) q).2.l.length (rowsR (useW p.ps (madeW c l now) q).2.l) :: blk p.mb [.slice ma7 (useW p.ps (madeW c l now) q).2.D.length mc7] 168 :: VecO 118 (.slice ma7 (useW p.ps (madeW c l now) q).2.D.length mc7) ((useW p.ps (madeW c l now) q).2.D.map fun d => U64 (d : Nat)) :: _) := hS
   refine .drawn (fun w => ∃ R, Sat B w J4 (blk b15 [I64 r.kind, S r.name, S r.parent, S r.user, S r.service, S r.url, I64 r.made, I64 r.used, I64 (r.uses + 1), .bool r.fresh] 45 :: blk p.wb (wdC p (useW p.ps (madeW c l now) q).2) 52 :: R)) (fun j => !([8].contains j)) (by kernel_rfl) ?_
   replace hS := hS.drew; generalize w.drew = w at hS ⊢
   have hH : ∃ R, Sat B w J4 (blk b15 [I64 r.kind, S r.name, S r.parent, S r.user, S r.service, S r.url, I64 r.made, I64 r.used, I64 (r.uses + 1), .bool r.fresh] 45 :: blk p.wb (wdC p (useW p.ps (madeW c l now) q).2) 52 :: R) := ⟨_, ((hS.pick 0 rfl).pick 5 rfl)⟩
   refine WD.takeP (i := 0) rfl (by kernel_rfl) (by kernel_rfl) (by kernel_rfl) (fun w => (by first | exact .fieldAddr 7 (.of rfl) Tryz.underlying45 rfl rfl Tryz.sizeOf3 rfl | exact .fieldAddrI 7 (.of rfl) Tryz.underlying45 rfl rfl Tryz.sizeOf3 rfl)) rfl ?_
   refine WD.take (i := 1) rfl (by kernel_rfl) (by kernel_rfl) (by kernel_rfl) (by kernel_rfl) hH (fun w ⟨R, hS⟩ => (by first | exact (.ld (.of rfl) hS (k := 0) rfl Tryz.isAgg3 rfl) | exact (.ld (.of rfl) hS (k := 1) rfl Tryz.isAgg3 rfl))) rfl ?_
   refine .takeP (i := 2) rfl (by kernel_rfl) (by kernel_rfl) (by kernel_rfl) (fun w => (.move (.of rfl))) rfl (.takeP (i := 3) rfl (by kernel_rfl) (by kernel_rfl) (by kernel_rfl) (fun w => (.nilCheck (.of rfl))) rfl ?_)
   refine WD.takeP (i := 4) rfl (by kernel_rfl) (by kernel_rfl) (by kernel_rfl) (fun w => (by first | exact .fieldAddr 25 (.of rfl) Tryz.underlying52 rfl rfl Tryz.sizeOf3 rfl | exact .fieldAddrI 25 (.of rfl) Tryz.underlying52 rfl rfl Tryz.sizeOf3 rfl)) rfl ?_
   refine WD.take (i := 5) rfl (by kernel_rfl) (by kernel_rfl) (by kernel_rfl) (by kernel_rfl) hH (fun w ⟨R, hS⟩ => (by first | exact (.ld (.of rfl) hS (k := 0) rfl Tryz.isAgg3 rfl) | exact (.ld (.of rfl) hS (k := 1) rfl Tryz.isAgg3 rfl))) rfl ?_
   refine .takeP (i := 6) rfl (by kernel_rfl) (by kernel_rfl) (by kernel_rfl) (fun w => (.max2 (.of rfl) (.of rfl))) rfl ?_
   refine WD.takeP (i := 7) rfl (by kernel_rfl) (by kernel_rfl) (by kernel_rfl) (fun w => (by first | exact .fieldAddr 7 (.of rfl) Tryz.underlying45 rfl rfl Tryz.sizeOf3 rfl | exact .fieldAddrI 7 (.of rfl) Tryz.underlying45 rfl rfl Tryz.sizeOf3 rfl)) rfl ?_
   refine WD.branch [8] (by kernel_rfl) rfl (WO.cons rfl ?_ (WO.nil))
   first | refine WL.st1 hS (k := 0) rfl (.of rfl) (.of rfl) rfl Tryz.sizeOf3 (by simp) ?_ | refine WL.st1 hS (k := 1) rfl (.of rfl) (.of rfl) rfl Tryz.sizeOf3 (by simp) ?_ | refine WL.st1 hS (k := 2) rfl (.of rfl) (.of rfl) rfl Tryz.sizeOf3 (by simp) ?_ | refine WL.st1 hS (k := 3) rfl (.of rfl) (.of rfl) rfl Tryz.sizeOf3 (by simp) ?_ | refine WL.st1 hS (k := 4) rfl (.of rfl) (.of rfl) rfl Tryz.sizeOf3 (by simp) ?_ | refine WL.st1 hS (k := 5) rfl (.of rfl) (.of rfl) rfl Tryz.sizeOf3 (by simp) ?_ | refine WL.st1 hS (k := 6) rfl (.of rfl) (.of rfl) rfl Tryz.sizeOf3 (by simp) ?_ | refine WL.st1 hS (k := 7) rfl (.of rfl) (.of rfl) rfl Tryz.sizeOf3 (by simp) ?_
   clear hS; intro w hS; try dsimp only [List.set] at hS
   refine .nil ?_
   refine And.intro (by intro h; cases h) ?_
   refine .done (by kernel_rfl) (.seq (.quiet (by kernel_rfl) (by kernel_rfl) hS (.val (fun w hS => (.move (.of rfl))) rfl (.val (fun w hS => (.move (.of rfl))) rfl ?_))))
   refine WQ.val (fun w hS => (by first | exact .indexAddr (.of rfl) (.of rfl) (by omega) (by omega) Tryz.underlying35 Tryz.sizeOf45 | exact .indexAddrI (.of rfl) (.of rfl) (by omega) (by omega) Tryz.underlying35 Tryz.sizeOf45)) rfl ?_
   refine .val (fun w hS => .ldsI (.of rfl) hS hxa Tryz.isAgg45 Tryz.sizeOf45 rfl (fun _ _ h => h)) rfl ?_
   refine WQ.val (fun w hS => .lds (vs := recCells ({ r with uses := r.uses + 1, used := max r.used (useW p.ps (madeW c l now) q).2.now } : Rec)) (.of rfl) hS (k := 5) rfl Tryz.isAgg45 Tryz.sizeOf45 rfl (fun j v hj => by rw [Nat.zero_add]; exact hj)) rfl ?_
   refine .val (fun w hS => Ex.neRec (r := r2) (s := ({ r with uses := r.uses + 1, used := max r.used (useW p.ps (madeW c l now) q).2.now } : Rec)) (.of rfl) (.of rfl)) rfl (.nil ?_)
   clear hS; intro w hS
   refine WC.cond rfl (fun hb93 => ?_) (fun hb93 => ?_)
   ·
    have hc93 := hb93; try simp only [Gk.cs0] at hc93
    refine .seq (.region (.run 1 rfl trivial (.nil (.ret (ret1 Tryz.results7 rfl ?_)))))
    exfalso
    have h9 : ¬ (r2 = ({ r with uses := r.uses + 1, used := max r.used (useW p.ps (madeW c l now) q).2.now } : Rec)) := by simpa using hb93
    simp only [Bool.and_eq_true, beq_iff_eq, Bool.not_eq_true', decide_eq_false_iff_not] at hb75
    rw [hr2] at hcr
    rcases hcr with e | ⟨_, h0, e⟩
    ·exact hb75.2 (Option.some.inj e)
    ·apply h9
     rw [Option.some.inj e, hch.2.1]
     unfold touchR
     rw [h0]; rfl
   have hc93 := hb93; try simp only [Gk.cs0] at hc93
   refine .skip (.region (.run 3 rfl ⟨⟨by omega, by omega⟩, trivial⟩ (.nil ?_)))
   replace hS := Sat.box (T := wdT p (useW p.ps (madeW c l now) q).2) (a7, c7, ma7, mc7) (((((hS.pick 4 rfl).pick 4 rfl).pick 4 rfl).pick 4 rfl).pick 4 rfl)
   try dsimp only [List.eraseIdx] at hS
   exact ⟨i + 1, ⟨rfl, rfl, rfl, rfl, rfl, rfl, trivial⟩, ⟨by (try dsimp only); omega, ((((hS.drop (k := 1) rfl).pick 2 rfl).pick 2 rfl).pick 2 rfl)⟩, by (try dsimp only); omega⟩
  have hc75 := hb75; try simp only [Gk.cs0] at hc75
  refine .skip (.seq (.quiet (by kernel_rfl) (by kernel_rfl) hS (.val (fun w hS => (.move (.of rfl))) rfl (.val (fun w hS => (.move (.of rfl))) rfl ?_))))
  refine WQ.val (fun w hS => (by first | exact .indexAddr (.of rfl) (.of rfl) (by omega) (by omega) Tryz.underlying35 Tryz.sizeOf45 | exact .indexAddrI (.of rfl) (.of rfl) (by omega) (by omega) Tryz.underlying35 Tryz.sizeOf45)) rfl ?_
  refine .val (fun w hS => .ldsI (.of rfl) hS hxa Tryz.isAgg45 Tryz.sizeOf45 rfl (fun _ _ h => h)) rfl ?_
  refine WQ.val (fun w hS => .lds (vs := recCells r) (.of rfl) hS (k := 0) rfl Tryz.isAgg45 Tryz.sizeOf45 rfl (fun j v hj => by rw [Nat.zero_add]; exact hj)) rfl ?_
  refine .val (fun w hS => Ex.neRec (r := r2) (s := r) (.of rfl) (.of rfl)) rfl (.nil ?_)
  clear hS; intro w hS
  refine WC.cond rfl (fun hb93 => ?_) (fun hb93 => ?_)
  ·
   have hc93 := hb93; try simp only [Gk.cs0] at hc93
   refine .seq (.region (.run 1 rfl trivial (.nil (.ret (ret1 Tryz.results7 rfl ?_)))))
   exfalso
   have h9 : ¬ (r2 = r) := by simpa using hb93
   rw [hr2] at hcr
   rcases hcr with e | ⟨hn, _, e⟩
   ·exact h9 (Option.some.inj e)
   ·have h8 : ((r.name == q.ticket) && !decide (r2 = r)) = true := by simp [hn, h9]
    rw [h8] at hb75; cases hb75
  have hc93 := hb93; try simp only [Gk.cs0] at hc93
  refine .skip (.region (.run 3 rfl ⟨⟨by omega, by omega⟩, trivial⟩ (.nil ?_)))
  exact ⟨i + 1, ⟨rfl, rfl, rfl, rfl, rfl, rfl, trivial⟩, ⟨by (try dsimp only); omega, ((((hS.drop (k := 0) rfl).pick 2 rfl).pick 2 rfl).pick 2 rfl)⟩, by (try dsimp only); omega⟩
 have hc56 := hb56; try simp only [Gk.cs0] at hc56
 refine .exit (.seq (.region (.run 2 rfl trivial (.nil (.ret (ret1 Tryz.results7 rfl ?_))))))
 exact ⟨_, rfl, rfl, J4, hJ1.trans (hJ.trans (hJ2.trans (hJ3.trans hJ4))), ((hS.drop (k := 0) rfl).drop (k := 0) rfl).drop (k := 0) rfl⟩
end Go.Proofs.YtadhiihnnkcagaaGreatDoor
