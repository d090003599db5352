/- Part 8 of what the proof stands on: W20h, GkK, Kn2, Op20. -/
import Derived.Test.YtadhiihnnkcagaaGreatDoorM2PG
import Derived.Lib.LaidTab
import Derived.Lib.LaidU8
import Derived.Lay
import Derived.Shelf.Vars
import Derived.HandedShaped
import Derived.MakeChecks
import Derived.Test.YtadhiihnnkcagaaGreatDoorRows
import Derived.KernelRfl
import Derived.OpenShut
namespace Go.Proofs.YtadhiihnnkcagaaGreatDoor
open Gk Ul Pc Tk Tr
set_option linter.unusedVariables false
set_option linter.unusedSimpArgs false
theorem info9_H : Tryz.prog.info? 9 = some Tryz.t9 := by kernel_rfl
set_option maxRecDepth 20000 in
theorem GrantPasswords_any (c : Cf) (a : Option Addr) (cap : Nat) (ua : Option Addr) (ucap : Nat) (oa : Option Addr) (oc : Nat) (l : List Op) (hol : l.length ≤ 9223372036854775807) (hfit : ∀ o ∈ l, o.fits) (B w : World) (I : Im) (hK : Known I) (hP : PreAt I) (hC : CfAt I c a cap ua ucap) (hO : OpsAt I oa l) (As : List Assn) (hS : Sat B w I As) :
  Calls Tryz.prog 10 [.agg (cfCells c a cap ua ucap).toArray, .slice oa l.length oc].toArray w (Ret fun v w' => v = .bool true ∧ ∃ J, Le I J ∧ Sat B w' J As) := by
 refine calls Tryz.func10 rfl Tryz.ntmps10 rfl (.seq (.region (.boxA (cs := cfCells c a cap ua ucap) hS (.of rfl) rfl ?_)))
 clear hS; intro b2 w hS
 refine .run 1 rfl trivial (.nil (.seq (.region (.call Tryz.func34 rfl evs_nil rfl (awake20_any B _ I hK hP _ hS) ?_))))
 clear hS
 rintro _ w ⟨rfl, hS⟩
 refine .run 1 rfl trivial (.nil (.seq (.region ?_)))
 refine WL.val (.lds (vs := cfCells c a cap ua ucap) (.of rfl) hS (k := 0) rfl Tryz.isAgg34 Tryz.sizeOf34 rfl (fun j v hj => by rw [Nat.zero_add]; exact hj)) rfl ?_
 refine .run 1 rfl trivial (.call Tryz.func35 rfl (evs_cons (.of rfl) (evs_cons (.of rfl) evs_nil)) rfl (few20_any c a cap ua ucap oa oc l hol B _ I hC hO _ hS) ?_)
 clear hS
 rintro _ w ⟨rfl, hS⟩
 refine .run 1 rfl trivial (.nil (.seq (.seq (.region (.run 2 rfl trivial (.nil ?_))))))
 refine WC.cond rfl (fun hb29 => ?_) (fun hb29 => ?_)
 ·
  have hc29 := hb29; try simp only [Gk.cs0] at hc29
  refine .seq (.region (.run 2 rfl trivial (.nil (.ret (ret1 Tryz.results10 rfl ?_)))))
  exact ⟨_, rfl, rfl, I, Le.refl _, hS.drop (k := 0) rfl⟩
 have hc29 := hb29; try simp only [Gk.cs0] at hc29
 refine .skip (.seq ?_)
 have hf : few20 c l = true := by simpa using hb29
 refine .region ?_
 refine WL.val (.lds (vs := cfCells c a cap ua ucap) (.of rfl) hS (k := 0) rfl Tryz.isAgg34 Tryz.sizeOf34 rfl (fun j v hj => by rw [Nat.zero_add]; exact hj)) rfl ?_
 have hc := fewC_fits hC (few20_facts hf).1
 refine .call Tryz.func41 rfl (evs_cons (.of rfl) evs_nil) rfl (grantNew_any c hc a cap ua ucap B _ I hK hP hC.svs hC.us _ hS) ?_
 clear hS
 rintro v w ⟨J, hJ, hcase⟩
 obtain ⟨pv, e9, rfl, hcs⟩ : ∃ (pv : Option Addr) (e9 : Nat), v = .tuple #[.pointer pv, I64 (e9 : Nat)] ∧ ((newE c ≠ 0 ∧ pv = none ∧ Sat B w J (blk b2 (cfCells c a cap ua ucap) 34 :: As)) ∨ (newE c = 0 ∧ ∃ p D, Srt.Ord (kx (ords c.svs)) c.svs.length D ∧ p.lo = pickS c.svs D ∧ p.us = c.us ∧ p.ps = c.ps ∧ pv = some (ad p.wb 0) ∧ WpOk J p ∧ Sat B w J (wdA p (w0 c) :: blk b2 (cfCells c a cap ua ucap) 34 :: As))) := by
  rcases hcase with ⟨h1, h2, h3⟩ | ⟨h1, p, D, h2, h3, h4, h5, h6, h7, h8⟩
  ·exact ⟨_, _, h2, .inl ⟨h1, rfl, h3⟩⟩
  ·exact ⟨_, 0, h6, .inr ⟨h1, p, D, h2, h3, h4, h5, rfl, h7, h8⟩⟩
 refine .run 5 rfl trivial (.nil (.seq (.seq (.region (.run 1 rfl trivial (.val (.eqp (.of rfl) (.of rfl) Tryz.underlying39) rfl (.nil ?_)))))))
 refine WC.cond rfl (fun hb37 => ?_) (fun hb37 => ?_)
 ·
  have hc37 := hb37; try simp only [Gk.cs0] at hc37
  refine .seq (.region (.run 2 rfl trivial (.nil (.ret (ret1 Tryz.results10 rfl ?_)))))
  rcases hcs with ⟨_, rfl, hS⟩ | ⟨_, p, D, _, _, _, _, h9, _⟩
  ·exact ⟨_, rfl, rfl, J, hJ, hS.drop (k := 0) rfl⟩
  ·exfalso; rw [h9] at hb37; cases hb37
 have hc37 := hb37; try simp only [Gk.cs0] at hc37
 refine .skip (.seq ?_)
 rcases hcs with ⟨_, h9, _⟩ | ⟨hz, p, D, hD, hlo, hus, hps, hpv, hI, hS⟩
 ·exfalso; rw [h9] at hb37; cases hb37
 subst hpv
 have hfw := few20_facts hf
 refine .region (.run 1 rfl trivial (.nil (.seq (.region (.run 1 rfl trivial (.nil (.seq (.seq (.region (.run 1 rfl trivial (.nil (.block ?_))))))))))))
 replace hS := hS.vecNil 9 1
 replace hS := hS.vecNil 9 1
 refine .loop (σ := (Wd × List (List UInt8)) × List (List UInt8) × Nat × Value × Value × Im) (fun ⟨s, vs, i, dv, uv, J2⟩ => [(1, .slice oa l.length oc), (2, ptr b2 0), (5, .bool true), (7, ptr p.wb 0), (9, dv), (10, uv), (11, I64 (i : Nat))]) (fun ⟨s, vs, i, dv, uv, J2⟩ w => i ≤ l.length ∧ Le J J2 ∧ WkOk i s ∧ PwOk p.lo s.1.l vs ∧ vs.length ≤ i ∧ Sat B w J2 (Vec 9 1 dv s.2.length (s.2.map S) :: Vec 9 1 uv vs.length (vs.map S) :: wdA p s.1 :: blk b2 (cfCells c a cap ua ucap) 34 :: As)) (fun ⟨s, vs, i, dv, uv, J2⟩ => l.length - i) ((w0 c, []), [], 0, .slice none 0 0, .slice none 0 0, J) ⟨rfl, rfl, rfl, rfl, rfl, rfl, rfl, trivial⟩ ⟨Nat.zero_le _, Le.refl _, w0_wk c, fun r h => absurd h (by simp [w0]), Nat.zero_le _, hS⟩ ?_
 rintro ⟨s, vs, i, dv, uv, J2⟩ w ⟨hi, hJ2, hwk, hpw, hvl, hS⟩
 change WC _ _ _ _ [(1, .slice oa l.length oc), (2, ptr b2 0), (5, .bool true), (7, ptr p.wb 0), (9, dv), (10, uv), (11, I64 (i : Nat))] w
 refine .seq (.seq (.region (.run 4 rfl ⟨⟨_, Tryz.underlying88⟩, trivial⟩ (.nil ?_))))
 refine WC.cond rfl (fun hb42 => ?_) (fun hb42 => ?_)
 ·
  have hc42 := hb42; try simp only [Gk.cs0] at hc42
  refine .skip (.seq (.block (.seq ?_)))
  obtain ⟨o, ho⟩ : ∃ o, l[i]? = some o := ⟨_, List.getElem?_eq_getElem (by omega)⟩
  obtain ⟨pp, cs, hp9, hx, da, dc, rfl, hdc, hdm, hd⟩ := (hO.mono (hJ.trans hJ2)).at i o ho
  subst hp9
  unfold opCells at hx
  have hof := hfit o (List.mem_of_getElem? ho)
  have hob := hfw.2.2 o (List.mem_of_getElem? ho)
  have hb9 := hof.b
  have hc9 := hof.c
  unfold maxLen at hb9 hc9
  have hω := hwk.ok
  have hnl := hwk.nl
  have hdl := hwk.dl
  have htn := toldN_len hwk.nm o.a
  have hI2 := hI.mono hJ2
  obtain ⟨va, vc, hdv, hvc, _⟩ := hS.vecSlice (k := 0) rfl
  subst hdv
  obtain ⟨ua9, uc9, huv, huc, _⟩ := hS.vecSlice (k := 1) rfl
  subst huv
  refine .region (.run 2 rfl trivial ?_)
  first | refine WL.val (.indexAddr (.of rfl) (.of rfl) (by omega) (by omega) Tryz.underlying88 Tryz.sizeOf97) rfl ?_ | refine WL.val (.indexAddrI (.of rfl) (.of rfl) (by omega) (by omega) Tryz.underlying88 Tryz.sizeOf97) rfl ?_
  first | refine WL.val (.ldsW (cs := [_, _, _, _, _, _, _, _, _, _, _, _, _, _, _, _, _, _, _, _, _, _, _]) (.of rfl) hS (k := 0) rfl Tryz.isAgg97 Tryz.sizeOf97 rfl) rfl ?_ | refine WL.val (.lds (vs := [_, _, _, _, _, _, _, _, _, _, _, _, _, _, _, _, _, _, _, _, _, _, _]) (.of rfl) hS (k := 0) rfl Tryz.isAgg97 Tryz.sizeOf97 rfl (fun _ _ h => h)) rfl ?_ | refine WL.val (.ldsW (cs := [_, _, _, _, _, _, _, _, _, _, _, _, _, _, _, _, _, _, _, _, _, _, _]) (.of rfl) hS (k := 1) rfl Tryz.isAgg97 Tryz.sizeOf97 rfl) rfl ?_ | refine WL.val (.lds (vs := [_, _, _, _, _, _, _, _, _, _, _, _, _, _, _, _, _, _, _, _, _, _, _]) (.of rfl) hS (k := 1) rfl Tryz.isAgg97 Tryz.sizeOf97 rfl (fun _ _ h => h)) rfl ?_ | refine WL.val (.ldsW (cs := [_, _, _, _, _, _, _, _, _, _, _, _, _, _, _, _, _, _, _, _, _, _, _]) (.of rfl) hS (k := 2) rfl Tryz.isAgg97 Tryz.sizeOf97 rfl) rfl ?_ | refine WL.val (.lds (vs := [_, _, _, _, _, _, _, _, _, _, _, _, _, _, _, _, _, _, _, _, _, _, _]) (.of rfl) hS (k := 2) rfl Tryz.isAgg97 Tryz.sizeOf97 rfl (fun _ _ h => h)) rfl ?_ | refine WL.val (.ldsW (cs := [_, _, _, _, _, _, _, _, _, _, _, _, _, _, _, _, _, _, _, _, _, _, _]) (.of rfl) hS (k := 3) rfl Tryz.isAgg97 Tryz.sizeOf97 rfl) rfl ?_ | refine WL.val (.lds (vs := [_, _, _, _, _, _, _, _, _, _, _, _, _, _, _, _, _, _, _, _, _, _, _]) (.of rfl) hS (k := 3) rfl Tryz.isAgg97 Tryz.sizeOf97 rfl (fun _ _ h => h)) rfl ?_ | refine WL.val (.ldsI (.of rfl) hS hx Tryz.isAgg97 Tryz.sizeOf97 rfl (fun _ _ h => h)) rfl ?_ | refine WL.val (.ldsI (.of rfl) hS (At.add hx _) Tryz.isAgg97 Tryz.sizeOf97 rfl (fun _ _ h => h)) rfl ?_ | refine WL.val (.ldsI (.of rfl) hS hx2 Tryz.isAgg97 Tryz.sizeOf97 rfl (fun _ _ h => h)) rfl ?_ | refine WL.val (.ldsI (.of rfl) hS (At.add hx2 _) Tryz.isAgg97 Tryz.sizeOf97 rfl (fun _ _ h => h)) rfl ?_
  refine .allocA (cs := [_, _, _, _, _, _, _, _, _, _, _, _, _, _, _, _, _, _, _, _, _, _, _]) hS Tryz.zeroValue97 rfl ?_
  clear hS; intro b12 w hS
  first | refine WL.stA hS (k := 0) rfl (.of rfl) (.of rfl) rfl Tryz.sizeOf97 rfl (by simp) ?_ | refine WL.stA hS (k := 1) rfl (.of rfl) (.of rfl) rfl Tryz.sizeOf97 rfl (by simp) ?_ | refine WL.stA hS (k := 2) rfl (.of rfl) (.of rfl) rfl Tryz.sizeOf97 rfl (by simp) ?_ | refine WL.stA hS (k := 3) rfl (.of rfl) (.of rfl) rfl Tryz.sizeOf97 rfl (by simp) ?_ | refine WL.stA hS (k := 4) rfl (.of rfl) (.of rfl) rfl Tryz.sizeOf97 rfl (by simp) ?_
  clear hS; intro w hS; try dsimp only [List.set] at hS
  try simp only [List.take_zero, List.nil_append, List.append_nil, List.drop_succ_cons, List.drop_zero, List.drop_nil, Nat.zero_add] at hS
  refine .nil (.seq (.region (.run 1 rfl trivial (.nil (.seq (.region (.run 1 rfl trivial (.nil ?_))))))))
  refine WC.cutS (σ := Value × List (List UInt8)) (fun ⟨uv2, vs2⟩ => [(1, .slice (some pp) l.length oc), (2, ptr b2 0), (5, .bool true), (7, ptr p.wb 0), (9, .slice va s.2.length vc), (10, uv2), (11, I64 (i : Nat)), (12, ptr b12 0), (13, S (actW p.lo p.us p.ps s.1 s.2 o).1.1), (14, I64 (((actW p.lo p.us p.ps s.1 s.2 o).1.2 : Nat) : Int))]) (fun ⟨uv2, vs2⟩ w => PwOk p.lo (actW p.lo p.us p.ps s.1 s.2 o).2.l vs2 ∧ vs2.length ≤ i + 1 ∧ Sat B w J2 (wdA p (actW p.lo p.us p.ps s.1 s.2 o).2 :: blk b12 [I64 o.act, I64 o.n, .slice da o.d.length dc, I64 o.a, S o.b, S o.c, .bool o.f, I64 o.r.kind, S o.r.name, S o.r.parent, S o.r.user, S o.r.service, S o.r.url, I64 o.r.made, I64 o.r.used, I64 o.r.uses, .bool o.r.fresh, S o.q.service, S o.q.cookie, .bool o.q.has, .bool o.q.renew, .bool o.q.gateway, .bool o.q.warn] 97 :: Vec 9 1 (.slice va s.2.length vc) s.2.length (s.2.map S) :: Vec 9 1 uv2 vs2.length (vs2.map S) :: blk b2 (cfCells c a cap ua ucap) 34 :: As)) ?_ ?_
  ·
   refine .seq (.region ?_)
   first | refine WL.val (.fieldAddr 0 (.of rfl) Tryz.underlying97 rfl rfl Tryz.sizeOf3 rfl) rfl ?_ | refine WL.val (.fieldAddrI 0 (.of rfl) Tryz.underlying97 rfl rfl Tryz.sizeOf3 rfl) rfl ?_
   first | refine WL.val (.ld (.of rfl) hS (k := 0) rfl Tryz.isAgg3 rfl) rfl ?_ | refine WL.val (.ld (.of rfl) hS (k := 1) rfl Tryz.isAgg3 rfl) rfl ?_ | refine WL.val (.ld (.of rfl) hS (k := 2) rfl Tryz.isAgg3 rfl) rfl ?_ | refine WL.val (.ld (.of rfl) hS (k := 3) rfl Tryz.isAgg3 rfl) rfl ?_ | refine WL.val (.ld (.of rfl) hS (k := 4) rfl Tryz.isAgg3 rfl) rfl ?_ | refine WL.val (.ldI (.of rfl) hS (At.add hx _) Tryz.isAgg3 rfl) rfl ?_ | refine WL.val (.ldI (.of rfl) hS (At.add hx2 _) Tryz.isAgg3 rfl) rfl ?_
   refine .nil (.block (.seq (.region (.run 2 rfl trivial (.nil ?_)))))
   refine WC.cond rfl (fun hb51 => ?_) (fun hb51 => ?_)
   ·
    have hc51 := hb51; try simp only [Gk.cs0] at hc51
    replace hS := (hS.pick 3 rfl)
    try dsimp only [List.eraseIdx] at hS
    obtain ⟨⟨a5, c5, ma5, mc5⟩, hS⟩ := Sat.unbox hS
    replace hS : Sat B _ _ (blk p.wb (wdC p s.1) 52 :: blk p.tb [I64 s.1.room, .slice a5 s.1.l.length c5] 127 :: Vec 45 10 (.slice a5 s.1.l.length c5) s.1.l.length (rowsR s.1.l) :: blk p.mb [.slice ma5 s.1.D.length mc5] 168 :: VecO 118 (.slice ma5 s.1.D.length mc5) (s.1.D.map fun d => U64 (d : Nat)) :: _) := hS
    refine .drawn (fun w => ∃ R, Sat B w J2 (blk b12 [I64 o.act, I64 o.n, .slice da o.d.length dc, I64 o.a, S o.b, S o.c, .bool o.f, I64 o.r.kind, S o.r.name, S o.r.parent, S o.r.user, S o.r.service, S o.r.url, I64 o.r.made, I64 o.r.used, I64 o.r.uses, .bool o.r.fresh, S o.q.service, S o.q.cookie, .bool o.q.has, .bool o.q.renew, .bool o.q.gateway, .bool o.q.warn] 97 :: blk p.wb (wdC p s.1) 52 :: R)) (fun j => !([].contains j)) (by kernel_rfl) ?_
    replace hS := hS.drew; generalize w.drew = w at hS ⊢
    have hH : ∃ R, Sat B w J2 (blk b12 [I64 o.act, I64 o.n, .slice da o.d.length dc, I64 o.a, S o.b, S o.c, .bool o.f, I64 o.r.kind, S o.r.name, S o.r.parent, S o.r.user, S o.r.service, S o.r.url, I64 o.r.made, I64 o.r.used, I64 o.r.uses, .bool o.r.fresh, S o.q.service, S o.q.cookie, .bool o.q.has, .bool o.q.renew, .bool o.q.gateway, .bool o.q.warn] 97 :: blk p.wb (wdC p s.1) 52 :: R) := ⟨_, ((hS.pick 0 rfl).pick 5 rfl)⟩
    refine .takeP (i := 0) rfl (by kernel_rfl) (by kernel_rfl) (by kernel_rfl) (fun w => (.move (.of rfl))) rfl (.takeP (i := 1) rfl (by kernel_rfl) (by kernel_rfl) (by kernel_rfl) (fun w => (.nilCheck (.of rfl))) rfl ?_)
    refine WD.takeP (i := 2) rfl (by kernel_rfl) (by kernel_rfl) (by kernel_rfl) (fun w => (by first | exact .fieldAddr 1 (.of rfl) Tryz.underlying52 rfl rfl Tryz.sizeOf48 rfl | exact .fieldAddrI 1 (.of rfl) Tryz.underlying52 rfl rfl Tryz.sizeOf48 rfl)) rfl ?_
    refine WD.take (i := 3) rfl (by kernel_rfl) (by kernel_rfl) (by kernel_rfl) (by kernel_rfl) hH (fun w ⟨R, hS⟩ => (by first | exact (.ld (.of rfl) hS (k := 0) rfl Tryz.isAgg48 rfl) | exact (.ld (.of rfl) hS (k := 1) rfl Tryz.isAgg48 rfl) | exact (.ldI (.of rfl) hS (At.add hx _) Tryz.isAgg48 rfl) | exact (.ldI (.of rfl) hS (At.add hx2 _) Tryz.isAgg48 rfl))) rfl ?_
    refine WD.takeP (i := 4) rfl (by kernel_rfl) (by kernel_rfl) (by kernel_rfl) (fun w => (by first | exact .fieldAddr 2 (.of rfl) Tryz.underlying97 rfl rfl Tryz.sizeOf81 rfl | exact .fieldAddrI 2 (.of rfl) Tryz.underlying97 rfl rfl Tryz.sizeOf81 rfl)) rfl ?_
    refine WD.take (i := 5) rfl (by kernel_rfl) (by kernel_rfl) (by kernel_rfl) (by kernel_rfl) hH (fun w ⟨R, hS⟩ => (by first | exact (.ld (.of rfl) hS (k := 0) rfl Tryz.isAgg81 rfl) | exact (.ld (.of rfl) hS (k := 1) rfl Tryz.isAgg81 rfl) | exact (.ldI (.of rfl) hS (At.add hx _) Tryz.isAgg81 rfl) | exact (.ldI (.of rfl) hS (At.add hx2 _) Tryz.isAgg81 rfl))) rfl ?_
    refine WD.branch [6] (by kernel_rfl) rfl (WO.cons rfl ?_ (WO.nil))
    refine .call Tryz.func42 rfl (evs_cons (.of rfl) (evs_cons (.of rfl) evs_nil)) rfl (Feed_any p.mb ma5 mc5 s.1.D (by omega) da dc o.d (by omega) B _ J2 hd _ ((hS.pick 4 rfl).pick 4 rfl)) ?_
    clear hS
    rintro _ w ⟨rfl, ma6, mc6, hS⟩
    try dsimp only [List.eraseIdx] at hS
    refine .nil ?_
    clear hH
    have hH : ∃ R, Sat B w J2 (blk b12 [I64 o.act, I64 o.n, .slice da o.d.length dc, I64 o.a, S o.b, S o.c, .bool o.f, I64 o.r.kind, S o.r.name, S o.r.parent, S o.r.user, S o.r.service, S o.r.url, I64 o.r.made, I64 o.r.used, I64 o.r.uses, .bool o.r.fresh, S o.q.service, S o.q.cookie, .bool o.q.has, .bool o.q.renew, .bool o.q.gateway, .bool o.q.warn] 97 :: blk p.wb (wdC p s.1) 52 :: R) := ⟨_, ((hS.pick 2 rfl).pick 5 rfl)⟩
    refine And.intro (by intro _ _; exact hH) ?_
    refine .done (by kernel_rfl) ?_
    replace hS := Sat.box (T := wdT p (feedW s.1 o.d)) (a5, c5, ma6, mc6) (((((hS.pick 1 rfl).pick 1 rfl).pick 4 rfl).pick 4 rfl).pick 4 rfl)
    try dsimp only [List.eraseIdx] at hS
    have hA9 : actW p.lo p.us p.ps s.1 s.2 o = (([], 0), feedW s.1 o.d) := by
     unfold actW
     rw [if_pos (by simpa using hb51)]
    have hp9 := pw_step (us := p.us) (ps := p.ps) hω hpw s.2 o
    rw [hA9] at hp9
    rw [if_neg (fun h => by have h2 := h.1; have h3 : o.act = 1 := (by simpa using hb51); omega)] at hp9
    refine ⟨(.slice ua9 vs.length uc9, vs), ?_⟩
    rw [hA9]
    exact ⟨⟨rfl, rfl, rfl, rfl, rfl, rfl, rfl, rfl, rfl, rfl, trivial⟩, hp9, Nat.le_succ_of_le hvl, (((((hS.pick 4 rfl).pick 4 rfl).pick 4 rfl).pick 4 rfl).pick 4 rfl)⟩
   have hc51 := hb51; try simp only [Gk.cs0] at hc51
   refine .seq (.region (.run 2 rfl trivial (.nil ?_)))
   refine WC.cond rfl (fun hb60 => ?_) (fun hb60 => ?_)
   ·
    have hc60 := hb60; try simp only [Gk.cs0] at hc60
    refine .region (.run 1 rfl trivial ?_)
    first | refine WL.val (.fieldAddr 1 (.of rfl) Tryz.underlying97 rfl rfl Tryz.sizeOf3 rfl) rfl ?_ | refine WL.val (.fieldAddrI 1 (.of rfl) Tryz.underlying97 rfl rfl Tryz.sizeOf3 rfl) rfl ?_
    first | refine WL.val (.ld (.of rfl) hS (k := 0) rfl Tryz.isAgg3 rfl) rfl ?_ | refine WL.val (.ld (.of rfl) hS (k := 1) rfl Tryz.isAgg3 rfl) rfl ?_ | refine WL.val (.ld (.of rfl) hS (k := 2) rfl Tryz.isAgg3 rfl) rfl ?_ | refine WL.val (.ld (.of rfl) hS (k := 3) rfl Tryz.isAgg3 rfl) rfl ?_ | refine WL.val (.ld (.of rfl) hS (k := 4) rfl Tryz.isAgg3 rfl) rfl ?_ | refine WL.val (.ldI (.of rfl) hS (At.add hx _) Tryz.isAgg3 rfl) rfl ?_ | refine WL.val (.ldI (.of rfl) hS (At.add hx2 _) Tryz.isAgg3 rfl) rfl ?_
    refine .call Tryz.func20 rfl (evs_cons (.of rfl) (evs_cons (.of rfl) evs_nil)) rfl (Tick_any p s.1 o.n hω B _ J2 _ (hS.pick 3 rfl)) ?_
    clear hS
    rintro _ w ⟨rfl, hS⟩
    try dsimp only [List.eraseIdx] at hS
    refine .nil ?_
    have hA9 : actW p.lo p.us p.ps s.1 s.2 o = (([], 0), tick s.1 o.n) := by
     unfold actW
     rw [if_neg (by simpa using hb51), if_pos (by simpa using hb60)]
    have hp9 := pw_step (us := p.us) (ps := p.ps) hω hpw s.2 o
    rw [hA9] at hp9
    rw [if_neg (fun h => by have h2 := h.1; have h3 : o.act = 2 := (by simpa using hb60); omega)] at hp9
    refine ⟨(.slice ua9 vs.length uc9, vs), ?_⟩
    rw [hA9]
    exact ⟨⟨rfl, rfl, rfl, rfl, rfl, rfl, rfl, rfl, rfl, rfl, trivial⟩, hp9, Nat.le_succ_of_le hvl, (((((hS.pick 4 rfl).pick 4 rfl).pick 4 rfl).pick 4 rfl).pick 4 rfl)⟩
   have hc60 := hb60; try simp only [Gk.cs0] at hc60
   refine .seq (.region (.run 2 rfl trivial (.nil ?_)))
   refine WC.cond rfl (fun hb66 => ?_) (fun hb66 => ?_)
   ·
    have hc66 := hb66; try simp only [Gk.cs0] at hc66
    refine .region (.run 1 rfl trivial (.call Tryz.func43 rfl (evs_cons (.of rfl) evs_nil) rfl (LoginTicket_any p s.1 hω B _ J2 hI2 _ (hS.pick 3 rfl)) ?_))
    clear hS
    rintro _ w ⟨rfl, hS⟩
    try dsimp only [List.eraseIdx] at hS
    refine .run 5 rfl trivial (.nil ?_)
    have hA9 : actW p.lo p.us p.ps s.1 s.2 o = mkW s.1 LTr := by
     unfold actW
     rw [if_neg (by simpa using hb51), if_neg (by simpa using hb60), if_pos (by simpa using hb66)]
    have hp9 := pw_step (us := p.us) (ps := p.ps) hω hpw s.2 o
    rw [hA9] at hp9
    rw [if_neg (fun h => by have h2 := h.1; have h3 : o.act = 3 := (by simpa using hb66); omega)] at hp9
    refine ⟨(.slice ua9 vs.length uc9, vs), ?_⟩
    rw [hA9]
    exact ⟨⟨rfl, rfl, rfl, rfl, rfl, rfl, rfl, rfl, rfl, rfl, trivial⟩, hp9, Nat.le_succ_of_le hvl, (((((hS.pick 4 rfl).pick 4 rfl).pick 4 rfl).pick 4 rfl).pick 4 rfl)⟩
   have hc66 := hb66; try simp only [Gk.cs0] at hc66
   refine .seq (.region (.run 2 rfl trivial (.nil ?_)))
   refine WC.cond rfl (fun hb73 => ?_) (fun hb73 => ?_)
   ·
    have hc73 := hb73; try simp only [Gk.cs0] at hc73
    refine .seq (.drawn (fun w => ∃ R, Sat B w J2 (blk b12 [I64 o.act, I64 o.n, .slice da o.d.length dc, I64 o.a, S o.b, S o.c, .bool o.f, I64 o.r.kind, S o.r.name, S o.r.parent, S o.r.user, S o.r.service, S o.r.url, I64 o.r.made, I64 o.r.used, I64 o.r.uses, .bool o.r.fresh, S o.q.service, S o.q.cookie, .bool o.q.has, .bool o.q.renew, .bool o.q.gateway, .bool o.q.warn] 97 :: R)) (fun j => !([].contains j)) (by kernel_rfl) ?_)
    replace hS := hS.drew; generalize w.drew = w at hS ⊢
    have hH : ∃ R, Sat B w J2 (blk b12 [I64 o.act, I64 o.n, .slice da o.d.length dc, I64 o.a, S o.b, S o.c, .bool o.f, I64 o.r.kind, S o.r.name, S o.r.parent, S o.r.user, S o.r.service, S o.r.url, I64 o.r.made, I64 o.r.used, I64 o.r.uses, .bool o.r.fresh, S o.q.service, S o.q.cookie, .bool o.q.has, .bool o.q.renew, .bool o.q.gateway, .bool o.q.warn] 97 :: R) := ⟨_, (hS.pick 0 rfl)⟩
    refine .takeP (i := 0) rfl (by kernel_rfl) (by kernel_rfl) (by kernel_rfl) (fun w => (.move (.of rfl))) rfl (.takeP (i := 1) rfl (by kernel_rfl) (by kernel_rfl) (by kernel_rfl) (fun w => (.move (.of rfl))) rfl ?_)
    refine WD.takeP (i := 2) rfl (by kernel_rfl) (by kernel_rfl) (by kernel_rfl) (fun w => (by first | exact .fieldAddr 3 (.of rfl) Tryz.underlying97 rfl rfl Tryz.sizeOf3 rfl | exact .fieldAddrI 3 (.of rfl) Tryz.underlying97 rfl rfl Tryz.sizeOf3 rfl)) rfl ?_
    refine WD.take (i := 3) rfl (by kernel_rfl) (by kernel_rfl) (by kernel_rfl) (by kernel_rfl) hH (fun w ⟨R, hS⟩ => (by first | exact (.ld (.of rfl) hS (k := 0) rfl Tryz.isAgg3 rfl) | exact (.ldI (.of rfl) hS (At.add hx _) Tryz.isAgg3 rfl) | exact (.ldI (.of rfl) hS (At.add hx2 _) Tryz.isAgg3 rfl))) rfl ?_
    refine WD.takeP (i := 5) rfl (by kernel_rfl) (by kernel_rfl) (by kernel_rfl) (fun w => (by first | exact .fieldAddr 4 (.of rfl) Tryz.underlying97 rfl rfl Tryz.sizeOf9 rfl | exact .fieldAddrI 4 (.of rfl) Tryz.underlying97 rfl rfl Tryz.sizeOf9 rfl)) rfl ?_
    refine WD.take (i := 6) rfl (by kernel_rfl) (by kernel_rfl) (by kernel_rfl) (by kernel_rfl) hH (fun w ⟨R, hS⟩ => (by first | exact (.ld (.of rfl) hS (k := 0) rfl Tryz.isAgg9 rfl) | exact (.ldI (.of rfl) hS (At.add hx _) Tryz.isAgg9 rfl) | exact (.ldI (.of rfl) hS (At.add hx2 _) Tryz.isAgg9 rfl))) rfl ?_
    refine WD.takeP (i := 7) rfl (by kernel_rfl) (by kernel_rfl) (by kernel_rfl) (fun w => (by first | exact .fieldAddr 5 (.of rfl) Tryz.underlying97 rfl rfl Tryz.sizeOf9 rfl | exact .fieldAddrI 5 (.of rfl) Tryz.underlying97 rfl rfl Tryz.sizeOf9 rfl)) rfl ?_
    refine WD.take (i := 8) rfl (by kernel_rfl) (by kernel_rfl) (by kernel_rfl) (by kernel_rfl) hH (fun w ⟨R, hS⟩ => (by first | exact (.ld (.of rfl) hS (k := 0) rfl Tryz.isAgg9 rfl) | exact (.ldI (.of rfl) hS (At.add hx _) Tryz.isAgg9 rfl) | exact (.ldI (.of rfl) hS (At.add hx2 _) Tryz.isAgg9 rfl))) rfl ?_
    refine WD.branch [4] (by kernel_rfl) rfl (WO.cons rfl ?_ (WO.nil))
    refine WL.call Tryz.func38 rfl (evs_cons (.of rfl) (evs_cons (.of rfl) evs_nil)) rfl (toldN_any va vc s.2 (by omega) o.a B _ J2 _ (fun w h => rows_own (cells := tCells) (s := 1) (fun _ => rfl) h (k := 1) (by rw [rowsT]; rfl)) hS) ?_
    clear hS
    rintro _ w ⟨rfl, hS⟩
    refine .nil ?_
    clear hH
    have hH : ∃ R, Sat B w J2 (blk b12 [I64 o.act, I64 o.n, .slice da o.d.length dc, I64 o.a, S o.b, S o.c, .bool o.f, I64 o.r.kind, S o.r.name, S o.r.parent, S o.r.user, S o.r.service, S o.r.url, I64 o.r.made, I64 o.r.used, I64 o.r.uses, .bool o.r.fresh, S o.q.service, S o.q.cookie, .bool o.q.has, .bool o.q.renew, .bool o.q.gateway, .bool o.q.warn] 97 :: R) := ⟨_, (hS.pick 0 rfl)⟩
    refine And.intro (by intro _ _; exact hH) ?_
    refine WD.branch [9] (by kernel_rfl) rfl (WO.cons rfl ?_ (WO.nil))
    refine .call Tryz.func37 rfl (evs_cons (.of rfl) (evs_cons (.of rfl) (evs_cons (.of rfl) (evs_cons (.of rfl) evs_nil)))) rfl (Login_any (toldN s.2 o.a) o.b o.c (by omega) p s.1 hω B _ J2 hI2 _ (hS.pick 3 rfl)) ?_
    clear hS
    rintro _ w ⟨rfl, hS⟩
    try dsimp only [List.eraseIdx] at hS
    refine .nil ?_
    clear hH
    have hH : ∃ R, Sat B w J2 (blk b12 [I64 o.act, I64 o.n, .slice da o.d.length dc, I64 o.a, S o.b, S o.c, .bool o.f, I64 o.r.kind, S o.r.name, S o.r.parent, S o.r.user, S o.r.service, S o.r.url, I64 o.r.made, I64 o.r.used, I64 o.r.uses, .bool o.r.fresh, S o.q.service, S o.q.cookie, .bool o.q.has, .bool o.q.renew, .bool o.q.gateway, .bool o.q.warn] 97 :: R) := ⟨_, (hS.pick 1 rfl)⟩
    refine And.intro (by intro _ _; exact hH) ?_
    refine .takeP (i := 10) rfl (by kernel_rfl) (by kernel_rfl) (by kernel_rfl) (fun w => (.move (.of rfl))) rfl (.takeP (i := 11) rfl (by kernel_rfl) (by kernel_rfl) (by kernel_rfl) (fun w => (.extract (.of rfl) rfl)) rfl (.takeP (i := 12) rfl (by kernel_rfl) (by kernel_rfl) (by kernel_rfl) (fun w => (.extract (.of rfl) rfl)) rfl (.takeP (i := 13) rfl (by kernel_rfl) (by kernel_rfl) (by kernel_rfl) (fun w => (.assign (.of rfl))) rfl (.takeP (i := 14) rfl (by kernel_rfl) (by kernel_rfl) (by kernel_rfl) (fun w => (.assign (.of rfl))) rfl (.done (by kernel_rfl) (.seq (.region ?_)))))))
    first | refine WL.val (.fieldAddr 1 (.of rfl) Tryz.underlying34 rfl rfl Tryz.sizeOf28 rfl) rfl ?_ | refine WL.val (.fieldAddrI 1 (.of rfl) Tryz.underlying34 rfl rfl Tryz.sizeOf28 rfl) rfl ?_
    first | refine WL.val (.ld (.of rfl) hS (k := 0) rfl Tryz.isAgg28 rfl) rfl ?_ | refine WL.val (.ld (.of rfl) hS (k := 1) rfl Tryz.isAgg28 rfl) rfl ?_ | refine WL.val (.ld (.of rfl) hS (k := 2) rfl Tryz.isAgg28 rfl) rfl ?_ | refine WL.val (.ld (.of rfl) hS (k := 3) rfl Tryz.isAgg28 rfl) rfl ?_ | refine WL.val (.ld (.of rfl) hS (k := 4) rfl Tryz.isAgg28 rfl) rfl ?_ | refine WL.val (.ldI (.of rfl) hS (At.add hx _) Tryz.isAgg28 rfl) rfl ?_ | refine WL.val (.ldI (.of rfl) hS (At.add hx2 _) Tryz.isAgg28 rfl) rfl ?_
    first | refine WL.val (.fieldAddr 4 (.of rfl) Tryz.underlying97 rfl rfl Tryz.sizeOf9 rfl) rfl ?_ | refine WL.val (.fieldAddrI 4 (.of rfl) Tryz.underlying97 rfl rfl Tryz.sizeOf9 rfl) rfl ?_
    first | refine WL.val (.ld (.of rfl) hS (k := 0) rfl Tryz.isAgg9 rfl) rfl ?_ | refine WL.val (.ld (.of rfl) hS (k := 1) rfl Tryz.isAgg9 rfl) rfl ?_ | refine WL.val (.ld (.of rfl) hS (k := 2) rfl Tryz.isAgg9 rfl) rfl ?_ | refine WL.val (.ld (.of rfl) hS (k := 3) rfl Tryz.isAgg9 rfl) rfl ?_ | refine WL.val (.ld (.of rfl) hS (k := 4) rfl Tryz.isAgg9 rfl) rfl ?_ | refine WL.val (.ldI (.of rfl) hS (At.add hx _) Tryz.isAgg9 rfl) rfl ?_ | refine WL.val (.ldI (.of rfl) hS (At.add hx2 _) Tryz.isAgg9 rfl) rfl ?_
    first | refine WL.val (.fieldAddr 5 (.of rfl) Tryz.underlying97 rfl rfl Tryz.sizeOf9 rfl) rfl ?_ | refine WL.val (.fieldAddrI 5 (.of rfl) Tryz.underlying97 rfl rfl Tryz.sizeOf9 rfl) rfl ?_
    first | refine WL.val (.ld (.of rfl) hS (k := 0) rfl Tryz.isAgg9 rfl) rfl ?_ | refine WL.val (.ld (.of rfl) hS (k := 1) rfl Tryz.isAgg9 rfl) rfl ?_ | refine WL.val (.ld (.of rfl) hS (k := 2) rfl Tryz.isAgg9 rfl) rfl ?_ | refine WL.val (.ld (.of rfl) hS (k := 3) rfl Tryz.isAgg9 rfl) rfl ?_ | refine WL.val (.ld (.of rfl) hS (k := 4) rfl Tryz.isAgg9 rfl) rfl ?_ | refine WL.val (.ldI (.of rfl) hS (At.add hx _) Tryz.isAgg9 rfl) rfl ?_ | refine WL.val (.ldI (.of rfl) hS (At.add hx2 _) Tryz.isAgg9 rfl) rfl ?_
    refine .call Tryz.func44 rfl (evs_cons (.of rfl) (evs_cons (.of rfl) (evs_cons (.of rfl) evs_nil))) rfl (refUCheck_any ua ucap c.us hC.un o.b o.c B _ J2 (hC.us.mono (hJ.trans hJ2)) _ hS) ?_
    clear hS
    rintro _ w ⟨rfl, hS⟩
    refine .run 1 rfl trivial (.nil (.seq (.seq (.region (.run 3 rfl trivial (.gval rfl rfl (fun hg1 => (.move (.of rfl))) rfl (.gval rfl rfl (fun hg1 => (.not (.gd hg1 rfl))) rfl (.val (.pand (.of rfl) (.of rfl) (.of rfl)) rfl (.run 1 rfl trivial (.gval rfl rfl (fun hg1 => (.move (.of rfl))) rfl (.gval rfl rfl (fun hg1 => (.eql (.gd hg1 rfl) (.of rfl))) rfl (.gval rfl rfl (fun hg1 => (.move (.gd hg1 rfl))) rfl (.gval2 rfl rfl rfl (fun hg1 hg2 => (.move (.of rfl))) rfl (.gval rfl rfl (fun hg1 => (.pand (.gd hg1 rfl) (.gd hg1 rfl) (.of rfl))) rfl (.val (.por (.of rfl) (.of rfl) (.of rfl)) rfl (.nil ?_))))))))))))))))
    refine WC.cond rfl (fun hb107 => ?_) (fun hb107 => ?_)
    ·
     have hc107 := hb107; try simp only [Gk.cs0] at hc107
     refine .seq (.region (.run 1 rfl trivial (.nil (.ret (ret1 Tryz.results10 rfl ?_)))))
     exfalso
     have hlr := login_right (us := p.us) (ps := p.ps) (ω := s.1) (lt := (toldN s.2 o.a)) (user := o.b) (pw := o.c)
     rw [hus] at hlr hb107
     clear hS
     generalize (loginW c.us p.ps s.1 (toldN s.2 o.a) o.b o.c).1.2 = e at hlr hb107
     generalize checkU c.us o.b o.c = ck at hlr hb107
     by_cases h1 : e = 0
     ·subst h1; have h2 := hlr.1 rfl; subst h2; simp at hb107
     ·by_cases h3 : e = 37
      ·subst h3; have h2 := hlr.2 rfl; subst h2; simp at hb107
      ·have h4 : ((e : Nat) : Int) ≠ 0 := by omega
       have h5 : ((e : Nat) : Int) ≠ 37 := by omega
       simp [h1, h3, h4, h5] at hb107
    have hc107 := hb107; try simp only [Gk.cs0] at hc107
    refine .skip (.seq (.region (.run 2 rfl trivial (.nil ?_))))
    refine WC.cond rfl (fun hb109 => ?_) (fun hb109 => ?_)
    ·
     have hc109 := hb109; try simp only [Gk.cs0] at hc109
     refine .region (.run 1 rfl trivial ?_)
     first | refine WL.val (.fieldAddr 4 (.of rfl) Tryz.underlying97 rfl rfl Tryz.sizeOf9 rfl) rfl ?_ | refine WL.val (.fieldAddrI 4 (.of rfl) Tryz.underlying97 rfl rfl Tryz.sizeOf9 rfl) rfl ?_
     first | refine WL.val (.ld (.of rfl) hS (k := 0) rfl Tryz.isAgg9 rfl) rfl ?_ | refine WL.val (.ld (.of rfl) hS (k := 1) rfl Tryz.isAgg9 rfl) rfl ?_ | refine WL.val (.ld (.of rfl) hS (k := 2) rfl Tryz.isAgg9 rfl) rfl ?_ | refine WL.val (.ld (.of rfl) hS (k := 3) rfl Tryz.isAgg9 rfl) rfl ?_ | refine WL.val (.ld (.of rfl) hS (k := 4) rfl Tryz.isAgg9 rfl) rfl ?_ | refine WL.val (.ldI (.of rfl) hS (At.add hx _) Tryz.isAgg9 rfl) rfl ?_ | refine WL.val (.ldI (.of rfl) hS (At.add hx2 _) Tryz.isAgg9 rfl) rfl ?_
     refine .buildSlice (cs := [_]) hS (parts_cons (.of rfl) parts_nil) Tryz.underlying41 Tryz.sizeOf9 Tryz.zeroValue9 rfl rfl rfl rfl ?_
     clear hS; intro b113 w hS
     first | refine WL.append (size := 1) (bytes := 16) hS (.of rfl) (.of rfl) (k := 0) rfl Tryz.underlying41 info9_H rfl rfl rfl rfl rfl rfl rfl ⟨by omega, by unfold maxLen; omega⟩ rfl ?_ | refine WL.append (size := 1) (bytes := 16) hS (.of rfl) (.of rfl) (k := 1) rfl Tryz.underlying41 info9_H rfl rfl rfl rfl rfl rfl rfl ⟨by omega, by unfold maxLen; omega⟩ rfl ?_ | refine WL.append (size := 1) (bytes := 16) hS (.of rfl) (.of rfl) (k := 2) rfl Tryz.underlying41 info9_H rfl rfl rfl rfl rfl rfl rfl ⟨by omega, by unfold maxLen; omega⟩ rfl ?_ | refine WL.append (size := 1) (bytes := 16) hS (.of rfl) (.of rfl) (k := 3) rfl Tryz.underlying41 info9_H rfl rfl rfl rfl rfl rfl rfl ⟨by omega, by unfold maxLen; omega⟩ rfl ?_ | refine WL.append (size := 1) (bytes := 16) hS (.of rfl) (.of rfl) (k := 4) rfl Tryz.underlying41 info9_H rfl rfl rfl rfl rfl rfl rfl ⟨by omega, by unfold maxLen; omega⟩ rfl ?_
     clear hS; intro v114 w hS; try dsimp only [List.set] at hS
     first | obtain ⟨a114, c114, rfl, hcap114, _⟩ := hS.vecSlice (k := 0) (v := v114) rfl | obtain ⟨a114, c114, rfl, hcap114, _⟩ := hS.vecSlice (k := 1) (v := v114) rfl | obtain ⟨a114, c114, rfl, hcap114, _⟩ := hS.vecSlice (k := 2) (v := v114) rfl | obtain ⟨a114, c114, rfl, hcap114, _⟩ := hS.vecSlice (k := 3) (v := v114) rfl | obtain ⟨a114, c114, rfl, hcap114, _⟩ := hS.vecSlice (k := 4) (v := v114) rfl
     refine .run 1 rfl trivial (.nil ?_)
     have hA9 : actW p.lo p.us p.ps s.1 s.2 o = loginW p.us p.ps s.1 (toldN s.2 o.a) o.b o.c := by
      unfold actW
      rw [if_neg (by simpa using hb51), if_neg (by simpa using hb60), if_neg (by simpa using hb66), if_pos (by simpa using hb73)]
     have hp9 := pw_step (us := p.us) (ps := p.ps) hω hpw s.2 o
     rw [hA9] at hp9
     rw [if_pos ⟨by simpa using hb73, by simpa using hb109⟩] at hp9
     refine ⟨(.slice a114 (vs.length + 1) c114, vs ++ [o.b]), ?_⟩
     rw [hA9]
     exact ⟨⟨rfl, rfl, rfl, rfl, rfl, rfl, rfl, rfl, rfl, rfl, trivial⟩, hp9, by (try dsimp only); rw [List.length_append]; exact Nat.succ_le_succ hvl, (by (try dsimp only); rw [List.length_append, List.length_cons, List.length_nil, List.map_append]; exact (((((hS.pick 4 rfl).pick 4 rfl).pick 4 rfl).pick 4 rfl).pick 4 rfl))⟩
    have hc109 := hb109; try simp only [Gk.cs0] at hc109
    refine .skip ?_
    have hA9 : actW p.lo p.us p.ps s.1 s.2 o = loginW p.us p.ps s.1 (toldN s.2 o.a) o.b o.c := by
     unfold actW
     rw [if_neg (by simpa using hb51), if_neg (by simpa using hb60), if_neg (by simpa using hb66), if_pos (by simpa using hb73)]
    have hp9 := pw_step (us := p.us) (ps := p.ps) hω hpw s.2 o
    rw [hA9] at hp9
    rw [if_neg (fun h => absurd h.2 (by simpa using hb109))] at hp9
    refine ⟨(.slice ua9 vs.length uc9, vs), ?_⟩
    rw [hA9]
    exact ⟨⟨rfl, rfl, rfl, rfl, rfl, rfl, rfl, rfl, rfl, rfl, trivial⟩, hp9, Nat.le_succ_of_le hvl, (((((hS.pick 4 rfl).pick 4 rfl).pick 4 rfl).pick 4 rfl).pick 4 rfl)⟩
   have hc73 := hb73; try simp only [Gk.cs0] at hc73
   refine .seq (.region (.run 2 rfl trivial (.nil ?_)))
   refine WC.cond rfl (fun hb115 => ?_) (fun hb115 => ?_)
   ·
    have hc115 := hb115; try simp only [Gk.cs0] at hc115
    refine .drawn (fun w => ∃ R, Sat B w J2 (blk b12 [I64 o.act, I64 o.n, .slice da o.d.length dc, I64 o.a, S o.b, S o.c, .bool o.f, I64 o.r.kind, S o.r.name, S o.r.parent, S o.r.user, S o.r.service, S o.r.url, I64 o.r.made, I64 o.r.used, I64 o.r.uses, .bool o.r.fresh, S o.q.service, S o.q.cookie, .bool o.q.has, .bool o.q.renew, .bool o.q.gateway, .bool o.q.warn] 97 :: R)) (fun j => !([].contains j)) (by kernel_rfl) ?_
    replace hS := hS.drew; generalize w.drew = w at hS ⊢
    have hH : ∃ R, Sat B w J2 (blk b12 [I64 o.act, I64 o.n, .slice da o.d.length dc, I64 o.a, S o.b, S o.c, .bool o.f, I64 o.r.kind, S o.r.name, S o.r.parent, S o.r.user, S o.r.service, S o.r.url, I64 o.r.made, I64 o.r.used, I64 o.r.uses, .bool o.r.fresh, S o.q.service, S o.q.cookie, .bool o.q.has, .bool o.q.renew, .bool o.q.gateway, .bool o.q.warn] 97 :: R) := ⟨_, (hS.pick 0 rfl)⟩
    refine .takeP (i := 0) rfl (by kernel_rfl) (by kernel_rfl) (by kernel_rfl) (fun w => (.move (.of rfl))) rfl (.takeP (i := 1) rfl (by kernel_rfl) (by kernel_rfl) (by kernel_rfl) (fun w => (.move (.of rfl))) rfl ?_)
    refine WD.takeP (i := 2) rfl (by kernel_rfl) (by kernel_rfl) (by kernel_rfl) (fun w => (by first | exact .fieldAddr 3 (.of rfl) Tryz.underlying97 rfl rfl Tryz.sizeOf3 rfl | exact .fieldAddrI 3 (.of rfl) Tryz.underlying97 rfl rfl Tryz.sizeOf3 rfl)) rfl ?_
    refine WD.take (i := 3) rfl (by kernel_rfl) (by kernel_rfl) (by kernel_rfl) (by kernel_rfl) hH (fun w ⟨R, hS⟩ => (by first | exact (.ld (.of rfl) hS (k := 0) rfl Tryz.isAgg3 rfl) | exact (.ldI (.of rfl) hS (At.add hx _) Tryz.isAgg3 rfl) | exact (.ldI (.of rfl) hS (At.add hx2 _) Tryz.isAgg3 rfl))) rfl ?_
    refine WD.takeP (i := 5) rfl (by kernel_rfl) (by kernel_rfl) (by kernel_rfl) (fun w => (by first | exact .fieldAddr 4 (.of rfl) Tryz.underlying97 rfl rfl Tryz.sizeOf9 rfl | exact .fieldAddrI 4 (.of rfl) Tryz.underlying97 rfl rfl Tryz.sizeOf9 rfl)) rfl ?_
    refine WD.take (i := 6) rfl (by kernel_rfl) (by kernel_rfl) (by kernel_rfl) (by kernel_rfl) hH (fun w ⟨R, hS⟩ => (by first | exact (.ld (.of rfl) hS (k := 0) rfl Tryz.isAgg9 rfl) | exact (.ldI (.of rfl) hS (At.add hx _) Tryz.isAgg9 rfl) | exact (.ldI (.of rfl) hS (At.add hx2 _) Tryz.isAgg9 rfl))) rfl ?_
    refine WD.takeP (i := 7) rfl (by kernel_rfl) (by kernel_rfl) (by kernel_rfl) (fun w => (by first | exact .fieldAddr 6 (.of rfl) Tryz.underlying97 rfl rfl Tryz.sizeOf4 rfl | exact .fieldAddrI 6 (.of rfl) Tryz.underlying97 rfl rfl Tryz.sizeOf4 rfl)) rfl ?_
    refine WD.take (i := 8) rfl (by kernel_rfl) (by kernel_rfl) (by kernel_rfl) (by kernel_rfl) hH (fun w ⟨R, hS⟩ => (by first | exact (.ld (.of rfl) hS (k := 0) rfl Tryz.isAgg4 rfl) | exact (.ldI (.of rfl) hS (At.add hx _) Tryz.isAgg4 rfl) | exact (.ldI (.of rfl) hS (At.add hx2 _) Tryz.isAgg4 rfl))) rfl ?_
    refine WD.branch [4] (by kernel_rfl) rfl (WO.cons rfl ?_ (WO.nil))
    refine WL.call Tryz.func38 rfl (evs_cons (.of rfl) (evs_cons (.of rfl) evs_nil)) rfl (toldN_any va vc s.2 (by omega) o.a B _ J2 _ (fun w h => rows_own (cells := tCells) (s := 1) (fun _ => rfl) h (k := 1) (by rw [rowsT]; rfl)) hS) ?_
    clear hS
    rintro _ w ⟨rfl, hS⟩
    refine .nil ?_
    clear hH
    have hH : ∃ R, Sat B w J2 (blk b12 [I64 o.act, I64 o.n, .slice da o.d.length dc, I64 o.a, S o.b, S o.c, .bool o.f, I64 o.r.kind, S o.r.name, S o.r.parent, S o.r.user, S o.r.service, S o.r.url, I64 o.r.made, I64 o.r.used, I64 o.r.uses, .bool o.r.fresh, S o.q.service, S o.q.cookie, .bool o.q.has, .bool o.q.renew, .bool o.q.gateway, .bool o.q.warn] 97 :: R) := ⟨_, (hS.pick 0 rfl)⟩
    refine And.intro (by intro _ _; exact hH) ?_
    refine WD.branch [9] (by kernel_rfl) rfl (WO.cons rfl ?_ (WO.nil))
    refine .call Tryz.func45 rfl (evs_cons (.of rfl) (evs_cons (.of rfl) (evs_cons (.of rfl) (evs_cons (.of rfl) evs_nil)))) rfl (Grant_any (toldN s.2 o.a) o.b o.f (by omega) (by omega) p s.1 hω B _ J2 hI2 _ (hS.pick 3 rfl)) ?_
    clear hS
    rintro _ w ⟨rfl, hS⟩
    try dsimp only [List.eraseIdx] at hS
    refine .nil ?_
    clear hH
    have hH : ∃ R, Sat B w J2 (blk b12 [I64 o.act, I64 o.n, .slice da o.d.length dc, I64 o.a, S o.b, S o.c, .bool o.f, I64 o.r.kind, S o.r.name, S o.r.parent, S o.r.user, S o.r.service, S o.r.url, I64 o.r.made, I64 o.r.used, I64 o.r.uses, .bool o.r.fresh, S o.q.service, S o.q.cookie, .bool o.q.has, .bool o.q.renew, .bool o.q.gateway, .bool o.q.warn] 97 :: R) := ⟨_, (hS.pick 1 rfl)⟩
    refine And.intro (by intro _ _; exact hH) ?_
    refine .takeP (i := 10) rfl (by kernel_rfl) (by kernel_rfl) (by kernel_rfl) (fun w => (.move (.of rfl))) rfl (.takeP (i := 11) rfl (by kernel_rfl) (by kernel_rfl) (by kernel_rfl) (fun w => (.extract (.of rfl) rfl)) rfl (.takeP (i := 12) rfl (by kernel_rfl) (by kernel_rfl) (by kernel_rfl) (fun w => (.extract (.of rfl) rfl)) rfl (.takeP (i := 13) rfl (by kernel_rfl) (by kernel_rfl) (by kernel_rfl) (fun w => (.extract (.of rfl) rfl)) rfl (.takeP (i := 14) rfl (by kernel_rfl) (by kernel_rfl) (by kernel_rfl) (fun w => (.assign (.of rfl))) rfl (.takeP (i := 15) rfl (by kernel_rfl) (by kernel_rfl) (by kernel_rfl) (fun w => (.assign (.of rfl))) rfl (.done (by kernel_rfl) ?_))))))
    have hA9 : actW p.lo p.us p.ps s.1 s.2 o = (((grantW p.lo p.ps s.1 (toldN s.2 o.a) o.b o.f).1.1.1, (grantW p.lo p.ps s.1 (toldN s.2 o.a) o.b o.f).1.2), (grantW p.lo p.ps s.1 (toldN s.2 o.a) o.b o.f).2) := by
     unfold actW
     rw [if_neg (by simpa using hb51), if_neg (by simpa using hb60), if_neg (by simpa using hb66), if_neg (by simpa using hb73), if_pos (by simpa using hb115)]
    have hp9 := pw_step (us := p.us) (ps := p.ps) hω hpw s.2 o
    rw [hA9] at hp9
    rw [if_neg (fun h => by have h2 := h.1; have h3 : o.act = 5 := (by simpa using hb115); omega)] at hp9
    refine ⟨(.slice ua9 vs.length uc9, vs), ?_⟩
    rw [hA9]
    exact ⟨⟨rfl, rfl, rfl, rfl, rfl, rfl, rfl, rfl, rfl, rfl, trivial⟩, hp9, Nat.le_succ_of_le hvl, (((((hS.pick 4 rfl).pick 4 rfl).pick 4 rfl).pick 4 rfl).pick 4 rfl)⟩
   have hc115 := hb115; try simp only [Gk.cs0] at hc115
   refine .skip ?_
   have hA9 : actW p.lo p.us p.ps s.1 s.2 o = (([], 0), s.1) := by
    unfold actW
    rw [if_neg (by simpa using hb51), if_neg (by simpa using hb60), if_neg (by simpa using hb66), if_neg (by simpa using hb73), if_neg (by simpa using hb115)]
   have hp9 := pw_step (us := p.us) (ps := p.ps) hω hpw s.2 o
   rw [hA9] at hp9
   rw [if_neg (fun h => absurd h.1 (by simpa using hb73))] at hp9
   refine ⟨(.slice ua9 vs.length uc9, vs), ?_⟩
   rw [hA9]
   exact ⟨⟨rfl, rfl, rfl, rfl, rfl, rfl, rfl, rfl, rfl, rfl, trivial⟩, hp9, Nat.le_succ_of_le hvl, (((((hS.pick 4 rfl).pick 3 rfl).pick 3 rfl).pick 3 rfl).pick 4 rfl)⟩
  rintro ⟨uv2, vs2⟩ w ⟨hp2, hvl2, hS⟩
  change WC _ _ _ _ [(1, .slice (some pp) l.length oc), (2, ptr b2 0), (5, .bool true), (7, ptr p.wb 0), (9, .slice va s.2.length vc), (10, uv2), (11, I64 (i : Nat)), (12, ptr b12 0), (13, S (actW p.lo p.us p.ps s.1 s.2 o).1.1), (14, I64 (((actW p.lo p.us p.ps s.1 s.2 o).1.2 : Nat) : Int))] w
  refine .seq (.seq (.region (.run 5 rfl trivial ?_)))
  refine WL.gval rfl rfl (fun hg1 => (by first | exact .fieldAddr 0 (.of rfl) Tryz.underlying97 rfl rfl Tryz.sizeOf3 rfl | exact .fieldAddrI 0 (.of rfl) Tryz.underlying97 rfl rfl Tryz.sizeOf3 rfl)) rfl ?_
  refine WL.gval rfl rfl (fun hg1 => (by first | exact (.ld (.gd hg1 rfl) hS (k := 0) rfl Tryz.isAgg3 rfl) | exact (.ld (.gd hg1 rfl) hS (k := 1) rfl Tryz.isAgg3 rfl) | exact (.ld (.gd hg1 rfl) hS (k := 2) rfl Tryz.isAgg3 rfl) | exact (.ld (.gd hg1 rfl) hS (k := 3) rfl Tryz.isAgg3 rfl) | exact (.ld (.gd hg1 rfl) hS (k := 4) rfl Tryz.isAgg3 rfl) | exact (.ldI (.gd hg1 rfl) hS (At.add hx _) Tryz.isAgg3 rfl) | exact (.ldI (.gd hg1 rfl) hS (At.add hx2 _) Tryz.isAgg3 rfl))) rfl ?_
  refine .gval rfl rfl (fun hg1 => (.geq (.gd hg1 rfl) (.of rfl))) rfl (.val (.pand (.of rfl) (.of rfl) (.of rfl)) rfl (.run 1 rfl trivial ?_))
  refine WL.gval rfl rfl (fun hg1 => (by first | exact .fieldAddr 0 (.of rfl) Tryz.underlying97 rfl rfl Tryz.sizeOf3 rfl | exact .fieldAddrI 0 (.of rfl) Tryz.underlying97 rfl rfl Tryz.sizeOf3 rfl)) rfl ?_
  refine WL.gval rfl rfl (fun hg1 => (by first | exact (.ld (.gd hg1 rfl) hS (k := 0) rfl Tryz.isAgg3 rfl) | exact (.ld (.gd hg1 rfl) hS (k := 1) rfl Tryz.isAgg3 rfl) | exact (.ld (.gd hg1 rfl) hS (k := 2) rfl Tryz.isAgg3 rfl) | exact (.ld (.gd hg1 rfl) hS (k := 3) rfl Tryz.isAgg3 rfl) | exact (.ld (.gd hg1 rfl) hS (k := 4) rfl Tryz.isAgg3 rfl) | exact (.ldI (.gd hg1 rfl) hS (At.add hx _) Tryz.isAgg3 rfl) | exact (.ldI (.gd hg1 rfl) hS (At.add hx2 _) Tryz.isAgg3 rfl))) rfl ?_
  refine .gval rfl rfl (fun hg1 => (.leq (.gd hg1 rfl) (.of rfl))) rfl (.val (.pand (.of rfl) (.of rfl) (.of rfl)) rfl (.val (.neb (.of rfl) (.of rfl) Tryz.underlying4) rfl (.nil ?_)))
  refine WC.cond rfl (fun hb145 => ?_) (fun hb145 => ?_)
  ·
   have hc145 := hb145; try simp only [Gk.cs0] at hc145
   refine .seq (.region (.run 1 rfl trivial (.nil (.ret (ret1 Tryz.results10 rfl ?_)))))
   exfalso
   have hn := act_name (lo := p.lo) (us := p.us) (ps := p.ps) (ω := s.1) (ns := s.2) (o := o)
   clear hS hp2
   generalize (actW p.lo p.us p.ps s.1 s.2 o) = x at hn hb145
   rcases x with ⟨⟨a1, e1⟩, w1⟩
   dsimp only at hn hb145
   by_cases h1 : a1 = []
   ·have h2 : ¬(e1 = 0 ∧ 3 ≤ o.act ∧ o.act ≤ 5) := fun h => hn.2 h h1
    simp [h1] at hb145
    omega
   ·obtain ⟨h2, h3, h4⟩ := hn.1 h1
    simp [h1, h2, h3, h4] at hb145
  have hc145 := hb145; try simp only [Gk.cs0] at hc145
  refine .skip ?_
  refine WC.cutS (σ := Value) (fun dv2 => [(1, .slice (some pp) l.length oc), (2, ptr b2 0), (5, .bool true), (7, ptr p.wb 0), (9, dv2), (10, uv2), (11, I64 (i : Nat))]) (fun dv2 w => Sat B w J2 (Vec 9 1 dv2 (addN s.2 (actW p.lo p.us p.ps s.1 s.2 o).1.1).length ((addN s.2 (actW p.lo p.us p.ps s.1 s.2 o).1.1).map S) :: Vec 9 1 uv2 vs2.length (vs2.map S) :: wdA p (actW p.lo p.us p.ps s.1 s.2 o).2 :: blk b2 (cfCells c a cap ua ucap) 34 :: As)) ?_ ?_
  ·
   refine .seq (.region (.run 2 rfl trivial (.nil ?_)))
   refine WC.cond rfl (fun hb147 => ?_) (fun hb147 => ?_)
   ·
    have hc147 := hb147; try simp only [Gk.cs0] at hc147
    refine .region (.run 2 rfl trivial (.buildSlice (cs := [_]) hS (parts_cons (.of rfl) parts_nil) Tryz.underlying41 Tryz.sizeOf9 Tryz.zeroValue9 rfl rfl rfl rfl ?_))
    clear hS; intro b150 w hS
    first | refine WL.append (size := 1) (bytes := 16) hS (.of rfl) (.of rfl) (k := 0) rfl Tryz.underlying41 info9_H rfl rfl rfl rfl rfl rfl rfl ⟨by omega, by unfold maxLen; omega⟩ rfl ?_ | refine WL.append (size := 1) (bytes := 16) hS (.of rfl) (.of rfl) (k := 1) rfl Tryz.underlying41 info9_H rfl rfl rfl rfl rfl rfl rfl ⟨by omega, by unfold maxLen; omega⟩ rfl ?_ | refine WL.append (size := 1) (bytes := 16) hS (.of rfl) (.of rfl) (k := 2) rfl Tryz.underlying41 info9_H rfl rfl rfl rfl rfl rfl rfl ⟨by omega, by unfold maxLen; omega⟩ rfl ?_ | refine WL.append (size := 1) (bytes := 16) hS (.of rfl) (.of rfl) (k := 3) rfl Tryz.underlying41 info9_H rfl rfl rfl rfl rfl rfl rfl ⟨by omega, by unfold maxLen; omega⟩ rfl ?_ | refine WL.append (size := 1) (bytes := 16) hS (.of rfl) (.of rfl) (k := 4) rfl Tryz.underlying41 info9_H rfl rfl rfl rfl rfl rfl rfl ⟨by omega, by unfold maxLen; omega⟩ rfl ?_
    clear hS; intro v151 w hS; try dsimp only [List.set] at hS
    first | obtain ⟨a151, c151, rfl, hcap151, _⟩ := hS.vecSlice (k := 0) (v := v151) rfl | obtain ⟨a151, c151, rfl, hcap151, _⟩ := hS.vecSlice (k := 1) (v := v151) rfl | obtain ⟨a151, c151, rfl, hcap151, _⟩ := hS.vecSlice (k := 2) (v := v151) rfl | obtain ⟨a151, c151, rfl, hcap151, _⟩ := hS.vecSlice (k := 3) (v := v151) rfl | obtain ⟨a151, c151, rfl, hcap151, _⟩ := hS.vecSlice (k := 4) (v := v151) rfl
    refine .run 1 rfl trivial (.nil ?_)
    refine ⟨.slice a151 (s.2.length + 1) c151, ⟨rfl, rfl, rfl, rfl, rfl, rfl, rfl, trivial⟩, ?_⟩
    rw [addN, if_pos (by simpa using hb147), List.length_append, List.length_cons, List.length_nil, List.map_append]
    exact (((((hS.pick 4 rfl).pick 1 rfl).pick 4 rfl).pick 4 rfl).drop (k := 4) rfl)
   have hc147 := hb147; try simp only [Gk.cs0] at hc147
   refine .skip ?_
   refine ⟨.slice va s.2.length vc, ⟨rfl, rfl, rfl, rfl, rfl, rfl, rfl, trivial⟩, ?_⟩
   rw [addN, if_neg (by simpa using hb147)]
   exact (((((hS.pick 4 rfl).pick 1 rfl).pick 4 rfl).pick 4 rfl).drop (k := 4) rfl)
  rintro dv2 w hS
  change WC _ _ _ _ [(1, .slice (some pp) l.length oc), (2, ptr b2 0), (5, .bool true), (7, ptr p.wb 0), (9, dv2), (10, uv2), (11, I64 (i : Nat))] w
  refine .seq ?_
  obtain ⟨ub9, ud9, huv2, huc2, _⟩ := hS.vecSlice (k := 1) rfl
  subst huv2
  have hω2 := actW_ok (lo := p.lo) (us := p.us) (ps := p.ps) (ns := s.2) (o := o) hω hof.d
  have hlen2 := hω2.len
  replace hS := (hS.pick 2 rfl)
  try dsimp only [List.eraseIdx] at hS
  obtain ⟨⟨a6, c6, ma6, mc6⟩, hS⟩ := Sat.unbox hS
  replace hS : Sat B _ _ (blk p.wb (wdC p (actW p.lo p.us p.ps s.1 s.2 o).2) 52 :: blk p.tb [I64 (actW p.lo p.us p.ps s.1 s.2 o).2.room, .slice a6 (actW p.lo p.us p.ps s.1 s.2 o).2.l.length c6] 127 :: Vec 45 10 (.slice a6 (actW p.lo p.us p.ps s.1 s.2 o).2.l.length c6) (actW p.lo p.us p.ps s.1 s.2 o).2.l.length (rowsR (actW p.lo p.us p.ps s.1 s.2 o).2.l) :: blk p.mb [.slice ma6 (actW p.lo p.us p.ps s.1 s.2 o).2.D.length mc6] 168 :: VecO 118 (.slice ma6 (actW p.lo p.us p.ps s.1 s.2 o).2.D.length mc6) ((actW p.lo p.us p.ps s.1 s.2 o).2.D.map fun d => U64 (d : Nat)) :: _) := hS
  refine .region (.run 2 rfl trivial ?_)
  first | refine WL.val (.fieldAddr 0 (.of rfl) Tryz.underlying52 rfl rfl Tryz.sizeOf47 rfl) rfl ?_ | refine WL.val (.fieldAddrI 0 (.of rfl) Tryz.underlying52 rfl rfl Tryz.sizeOf47 rfl) rfl ?_
  first | refine WL.val (.ld (.of rfl) hS (k := 0) rfl Tryz.isAgg47 rfl) rfl ?_ | refine WL.val (.ld (.of rfl) hS (k := 1) rfl Tryz.isAgg47 rfl) rfl ?_ | refine WL.val (.ld (.of rfl) hS (k := 2) rfl Tryz.isAgg47 rfl) rfl ?_ | refine WL.val (.ld (.of rfl) hS (k := 3) rfl Tryz.isAgg47 rfl) rfl ?_ | refine WL.val (.ld (.of rfl) hS (k := 4) rfl Tryz.isAgg47 rfl) rfl ?_ | refine WL.val (.ld (.of rfl) hS (k := 5) rfl Tryz.isAgg47 rfl) rfl ?_ | refine WL.val (.ld (.of rfl) hS (k := 6) rfl Tryz.isAgg47 rfl) rfl ?_ | refine WL.val (.ld (.of rfl) hS (k := 7) rfl Tryz.isAgg47 rfl) rfl ?_ | refine WL.val (.ldI (.of rfl) hS (At.add hx _) Tryz.isAgg47 rfl) rfl ?_ | refine WL.val (.ldI (.of rfl) hS (At.add hx2 _) Tryz.isAgg47 rfl) rfl ?_
  refine .call Tryz.func29 rfl (evs_cons (.of rfl) evs_nil) rfl (TreeAll_any p.tb (actW p.lo p.us p.ps s.1 s.2 o).2.room a6 c6 (actW p.lo p.us p.ps s.1 s.2 o).2.l (by omega) B _ J2 _ ((hS.pick 2 rfl).pick 2 rfl)) ?_
  clear hS
  rintro _ w ⟨J3, wa, wc, rfl, hJ3, hwc, hRw, hS⟩
  try dsimp only [List.eraseIdx] at hS
  refine .run 1 rfl trivial (.nil (.seq ?_))
  replace hS := Sat.box (T := wdT p (actW p.lo p.us p.ps s.1 s.2 o).2) (a6, c6, ma6, mc6) (((((hS.pick 4 rfl).pick 4 rfl).pick 3 rfl).pick 3 rfl).pick 4 rfl)
  try dsimp only [List.eraseIdx] at hS
  replace hS := ((((hS.pick 3 rfl).pick 1 rfl).pick 3 rfl).pick 3 rfl)
  try dsimp only [List.eraseIdx] at hS
  refine .region (.run 1 rfl trivial (.nil (.block (.loop (σ := Nat) (fun k => [(1, .slice (some pp) l.length oc), (2, ptr b2 0), (5, .bool true), (7, ptr p.wb 0), (9, dv2), (10, .slice ub9 vs2.length ud9), (11, I64 (i : Nat)), (16, .slice wa (actW p.lo p.us p.ps s.1 s.2 o).2.l.length wc), (17, I64 (k : Nat))]) (fun k w => k ≤ (actW p.lo p.us p.ps s.1 s.2 o).2.l.length ∧ Sat B w J3 (Vec 9 1 dv2 (addN s.2 (actW p.lo p.us p.ps s.1 s.2 o).1.1).length ((addN s.2 (actW p.lo p.us p.ps s.1 s.2 o).1.1).map S) :: Vec 9 1 (.slice ub9 vs2.length ud9) vs2.length (vs2.map S) :: wdA p (actW p.lo p.us p.ps s.1 s.2 o).2 :: blk b2 (cfCells c a cap ua ucap) 34 :: As)) (fun k => (actW p.lo p.us p.ps s.1 s.2 o).2.l.length - k) 0 ⟨rfl, rfl, rfl, rfl, rfl, rfl, rfl, rfl, rfl, trivial⟩ ⟨Nat.zero_le _, hS⟩ ?_))))
  rintro k w ⟨hk, hS⟩
  change WC _ _ _ _ [(1, .slice (some pp) l.length oc), (2, ptr b2 0), (5, .bool true), (7, ptr p.wb 0), (9, dv2), (10, .slice ub9 vs2.length ud9), (11, I64 (i : Nat)), (16, .slice wa (actW p.lo p.us p.ps s.1 s.2 o).2.l.length wc), (17, I64 (k : Nat))] w
  refine .seq (.seq (.region (.run 4 rfl ⟨⟨_, Tryz.underlying35⟩, trivial⟩ (.nil ?_))))
  refine WC.cond rfl (fun hb160 => ?_) (fun hb160 => ?_)
  ·
   have hc160 := hb160; try simp only [Gk.cs0] at hc160
   refine .skip (.seq (.block (.seq ?_)))
   obtain ⟨r, hr0⟩ : ∃ r, (actW p.lo p.us p.ps s.1 s.2 o).2.l[k]? = some r := ⟨_, List.getElem?_eq_getElem (by omega)⟩
   have hRw1 : RS J3 wa 10 (actW p.lo p.us p.ps s.1 s.2 o).2.l.length (rowsC recCells (actW p.lo p.us p.ps s.1 s.2 o).2.l) := hRw
   obtain ⟨wp, hq9, hx2⟩ := rs_at (cells := recCells) (s := 10) (fun _ => rfl) hRw1 hr0
   subst hq9
   unfold recCells at hx2
   have hpr := hp2 r (List.mem_of_getElem? hr0)
   have hsv : r.service.length ≤ 100 := by
    have h := hω2.wf.right r (List.mem_of_getElem? hr0)
    unfold rightR at h
    simp only [Bool.and_eq_true, decide_eq_true_eq] at h
    omega
   refine .region (.run 2 rfl trivial ?_)
   first | refine WL.val (.indexAddr (.of rfl) (.of rfl) (by omega) (by omega) Tryz.underlying35 Tryz.sizeOf45) rfl ?_ | refine WL.val (.indexAddrI (.of rfl) (.of rfl) (by omega) (by omega) Tryz.underlying35 Tryz.sizeOf45) rfl ?_
   first | refine WL.val (.ldsW (cs := [_, _, _, _, _, _, _, _, _, _]) (.of rfl) hS (k := 0) rfl Tryz.isAgg45 Tryz.sizeOf45 rfl) rfl ?_ | refine WL.val (.lds (vs := [_, _, _, _, _, _, _, _, _, _]) (.of rfl) hS (k := 0) rfl Tryz.isAgg45 Tryz.sizeOf45 rfl (fun _ _ h => h)) rfl ?_ | refine WL.val (.ldsW (cs := [_, _, _, _, _, _, _, _, _, _]) (.of rfl) hS (k := 1) rfl Tryz.isAgg45 Tryz.sizeOf45 rfl) rfl ?_ | refine WL.val (.lds (vs := [_, _, _, _, _, _, _, _, _, _]) (.of rfl) hS (k := 1) rfl Tryz.isAgg45 Tryz.sizeOf45 rfl (fun _ _ h => h)) rfl ?_ | refine WL.val (.ldsW (cs := [_, _, _, _, _, _, _, _, _, _]) (.of rfl) hS (k := 2) rfl Tryz.isAgg45 Tryz.sizeOf45 rfl) rfl ?_ | refine WL.val (.lds (vs := [_, _, _, _, _, _, _, _, _, _]) (.of rfl) hS (k := 2) rfl Tryz.isAgg45 Tryz.sizeOf45 rfl (fun _ _ h => h)) rfl ?_ | refine WL.val (.ldsW (cs := [_, _, _, _, _, _, _, _, _, _]) (.of rfl) hS (k := 3) rfl Tryz.isAgg45 Tryz.sizeOf45 rfl) rfl ?_ | refine WL.val (.lds (vs := [_, _, _, _, _, _, _, _, _, _]) (.of rfl) hS (k := 3) rfl Tryz.isAgg45 Tryz.sizeOf45 rfl (fun _ _ h => h)) rfl ?_ | refine WL.val (.ldsI (.of rfl) hS hx Tryz.isAgg45 Tryz.sizeOf45 rfl (fun _ _ h => h)) rfl ?_ | refine WL.val (.ldsI (.of rfl) hS (At.add hx _) Tryz.isAgg45 Tryz.sizeOf45 rfl (fun _ _ h => h)) rfl ?_ | refine WL.val (.ldsI (.of rfl) hS hx2 Tryz.isAgg45 Tryz.sizeOf45 rfl (fun _ _ h => h)) rfl ?_ | refine WL.val (.ldsI (.of rfl) hS (At.add hx2 _) Tryz.isAgg45 Tryz.sizeOf45 rfl (fun _ _ h => h)) rfl ?_
   refine .allocA (cs := [_, _, _, _, _, _, _, _, _, _]) hS Tryz.zeroValue45 rfl ?_
   clear hS; intro b18 w hS
   first | refine WL.stA hS (k := 0) rfl (.of rfl) (.of rfl) rfl Tryz.sizeOf45 rfl (by simp) ?_ | refine WL.stA hS (k := 1) rfl (.of rfl) (.of rfl) rfl Tryz.sizeOf45 rfl (by simp) ?_ | refine WL.stA hS (k := 2) rfl (.of rfl) (.of rfl) rfl Tryz.sizeOf45 rfl (by simp) ?_ | refine WL.stA hS (k := 3) rfl (.of rfl) (.of rfl) rfl Tryz.sizeOf45 rfl (by simp) ?_ | refine WL.stA hS (k := 4) rfl (.of rfl) (.of rfl) rfl Tryz.sizeOf45 rfl (by simp) ?_
   clear hS; intro w hS; try dsimp only [List.set] at hS
   try simp only [List.take_zero, List.nil_append, List.append_nil, List.drop_succ_cons, List.drop_zero, List.drop_nil, Nat.zero_add] at hS
   refine .nil (.seq (.seq (.region ?_)))
   first | refine WL.val (.fieldAddr 0 (.of rfl) Tryz.underlying45 rfl rfl Tryz.sizeOf3 rfl) rfl ?_ | refine WL.val (.fieldAddrI 0 (.of rfl) Tryz.underlying45 rfl rfl Tryz.sizeOf3 rfl) rfl ?_
   first | refine WL.val (.ld (.of rfl) hS (k := 0) rfl Tryz.isAgg3 rfl) rfl ?_ | refine WL.val (.ld (.of rfl) hS (k := 1) rfl Tryz.isAgg3 rfl) rfl ?_ | refine WL.val (.ld (.of rfl) hS (k := 2) rfl Tryz.isAgg3 rfl) rfl ?_ | refine WL.val (.ld (.of rfl) hS (k := 3) rfl Tryz.isAgg3 rfl) rfl ?_ | refine WL.val (.ld (.of rfl) hS (k := 4) rfl Tryz.isAgg3 rfl) rfl ?_ | refine WL.val (.ldI (.of rfl) hS (At.add hx _) Tryz.isAgg3 rfl) rfl ?_ | refine WL.val (.ldI (.of rfl) hS (At.add hx2 _) Tryz.isAgg3 rfl) rfl ?_
   refine .run 2 rfl trivial (.gval rfl rfl (fun hg1 => (.move (.of rfl))) rfl ?_)
   refine WL.gval rfl rfl (fun hg1 => (by first | exact .fieldAddr 3 (.of rfl) Tryz.underlying45 rfl rfl Tryz.sizeOf9 rfl | exact .fieldAddrI 3 (.of rfl) Tryz.underlying45 rfl rfl Tryz.sizeOf9 rfl)) rfl ?_
   refine WL.gval rfl rfl (fun hg1 => (by first | exact (.ld (.gd hg1 rfl) hS (k := 0) rfl Tryz.isAgg9 rfl) | exact (.ld (.gd hg1 rfl) hS (k := 1) rfl Tryz.isAgg9 rfl) | exact (.ld (.gd hg1 rfl) hS (k := 2) rfl Tryz.isAgg9 rfl) | exact (.ld (.gd hg1 rfl) hS (k := 3) rfl Tryz.isAgg9 rfl) | exact (.ld (.gd hg1 rfl) hS (k := 4) rfl Tryz.isAgg9 rfl) | exact (.ldI (.gd hg1 rfl) hS (At.add hx _) Tryz.isAgg9 rfl) | exact (.ldI (.gd hg1 rfl) hS (At.add hx2 _) Tryz.isAgg9 rfl))) rfl ?_
   refine WL.gcall (T := fun w => Sat B w J3 _) rfl rfl rfl Tryz.func19 rfl (fun hg1 => (evs_cons (.gd hg1 rfl) (evs_cons (.gd hg1 rfl) evs_nil))) rfl (fun hg1 => In_any ub9 ud9 vs2 (by omega) r.user B _ J3 _ (fun w h => rows_own (cells := tCells) (s := 1) (fun _ => rfl) h (k := 2) (by rw [rowsT]; rfl)) hS) hS ?_
   clear hS; rintro w hS
   refine .gval rfl rfl (fun hg1 => (.not (.gd hg1 rfl))) rfl (.val (.pand (.of rfl) (.of rfl) (.of rfl)) rfl (.nil ?_))
   refine WC.cond rfl (fun hb176 => ?_) (fun hb176 => ?_)
   ·
    have hc176 := hb176; try simp only [Gk.cs0] at hc176
    refine .seq (.region (.run 1 rfl trivial (.nil (.ret (ret1 Tryz.results10 rfl ?_)))))
    exfalso
    have hk1 : r.kind = 1 := by
     simp at hb176
     exact hb176.1
    have hm := hpr.1 hk1
    simp [hm] at hb176
   have hc176 := hb176; try simp only [Gk.cs0] at hc176
   refine .skip (.seq (.region ?_))
   first | refine WL.val (.fieldAddr 0 (.of rfl) Tryz.underlying45 rfl rfl Tryz.sizeOf3 rfl) rfl ?_ | refine WL.val (.fieldAddrI 0 (.of rfl) Tryz.underlying45 rfl rfl Tryz.sizeOf3 rfl) rfl ?_
   first | refine WL.val (.ld (.of rfl) hS (k := 0) rfl Tryz.isAgg3 rfl) rfl ?_ | refine WL.val (.ld (.of rfl) hS (k := 1) rfl Tryz.isAgg3 rfl) rfl ?_ | refine WL.val (.ld (.of rfl) hS (k := 2) rfl Tryz.isAgg3 rfl) rfl ?_ | refine WL.val (.ld (.of rfl) hS (k := 3) rfl Tryz.isAgg3 rfl) rfl ?_ | refine WL.val (.ld (.of rfl) hS (k := 4) rfl Tryz.isAgg3 rfl) rfl ?_ | refine WL.val (.ldI (.of rfl) hS (At.add hx _) Tryz.isAgg3 rfl) rfl ?_ | refine WL.val (.ldI (.of rfl) hS (At.add hx2 _) Tryz.isAgg3 rfl) rfl ?_
   refine .run 1 rfl trivial (.nil ?_)
   refine WC.cond rfl (fun hb179 => ?_) (fun hb179 => ?_)
   ·
    have hc179 := hb179; try simp only [Gk.cs0] at hc179
    refine WC.cutS (σ := Nat) (fun b19 => [(1, .slice (some pp) l.length oc), (2, ptr b2 0), (5, .bool true), (7, ptr p.wb 0), (9, dv2), (10, .slice ub9 vs2.length ud9), (11, I64 (i : Nat)), (16, .slice (some wp) (actW p.lo p.us p.ps s.1 s.2 o).2.l.length wc), (17, I64 (k : Nat)), (18, ptr b18 0), (19, ptr b19 0), (20, .bool (get (actW p.lo p.us p.ps s.1 s.2 o).2.l r.parent).isSome)]) (fun b19 w => Sat B w J3 (blk b19 [I64 (getD (actW p.lo p.us p.ps s.1 s.2 o).2.l r.parent).kind, S (getD (actW p.lo p.us p.ps s.1 s.2 o).2.l r.parent).name, S (getD (actW p.lo p.us p.ps s.1 s.2 o).2.l r.parent).parent, S (getD (actW p.lo p.us p.ps s.1 s.2 o).2.l r.parent).user, S (getD (actW p.lo p.us p.ps s.1 s.2 o).2.l r.parent).service, S (getD (actW p.lo p.us p.ps s.1 s.2 o).2.l r.parent).url, I64 (getD (actW p.lo p.us p.ps s.1 s.2 o).2.l r.parent).made, I64 (getD (actW p.lo p.us p.ps s.1 s.2 o).2.l r.parent).used, I64 (getD (actW p.lo p.us p.ps s.1 s.2 o).2.l r.parent).uses, .bool (getD (actW p.lo p.us p.ps s.1 s.2 o).2.l r.parent).fresh] 45 :: blk b18 [I64 r.kind, S r.name, S r.parent, S r.user, S r.service, S r.url, I64 r.made, I64 r.used, I64 r.uses, .bool r.fresh] 45 :: Vec 9 1 dv2 (addN s.2 (actW p.lo p.us p.ps s.1 s.2 o).1.1).length ((addN s.2 (actW p.lo p.us p.ps s.1 s.2 o).1.1).map S) :: Vec 9 1 (.slice ub9 vs2.length ud9) vs2.length (vs2.map S) :: wdA p (actW p.lo p.us p.ps s.1 s.2 o).2 :: blk b2 (cfCells c a cap ua ucap) 34 :: As)) ?_ ?_
    ·
     replace hS := (hS.pick 3 rfl)
     try dsimp only [List.eraseIdx] at hS
     obtain ⟨⟨a7, c7, ma7, mc7⟩, hS⟩ := Sat.unbox hS
     replace hS : Sat B _ _ (blk p.wb (wdC p (actW p.lo p.us p.ps s.1 s.2 o).2) 52 :: blk p.tb [I64 (actW p.lo p.us p.ps s.1 s.2 o).2.room, .slice a7 (actW p.lo p.us p.ps s.1 s.2 o).2.l.length c7] 127 :: Vec 45 10 (.slice a7 (actW p.lo p.us p.ps s.1 s.2 o).2.l.length c7) (actW p.lo p.us p.ps s.1 s.2 o).2.l.length (rowsR (actW p.lo p.us p.ps s.1 s.2 o).2.l) :: blk p.mb [.slice ma7 (actW p.lo p.us p.ps s.1 s.2 o).2.D.length mc7] 168 :: VecO 118 (.slice ma7 (actW p.lo p.us p.ps s.1 s.2 o).2.D.length mc7) ((actW p.lo p.us p.ps s.1 s.2 o).2.D.map fun d => U64 (d : Nat)) :: _) := hS
     refine .drawn (fun w => ∃ R, Sat B w J3 (blk b18 [I64 r.kind, S r.name, S r.parent, S r.user, S r.service, S r.url, I64 r.made, I64 r.used, I64 r.uses, .bool r.fresh] 45 :: blk p.wb (wdC p (actW p.lo p.us p.ps s.1 s.2 o).2) 52 :: R)) (fun j => !([].contains j)) (by kernel_rfl) ?_
     replace hS := hS.drew; generalize w.drew = w at hS ⊢
     have hH : ∃ R, Sat B w J3 (blk b18 [I64 r.kind, S r.name, S r.parent, S r.user, S r.service, S r.url, I64 r.made, I64 r.used, I64 r.uses, .bool r.fresh] 45 :: blk p.wb (wdC p (actW p.lo p.us p.ps s.1 s.2 o).2) 52 :: R) := ⟨_, ((hS.pick 0 rfl).pick 5 rfl)⟩
     refine .takeP (i := 0) rfl (by kernel_rfl) (by kernel_rfl) (by kernel_rfl) (fun w => (.move (.of rfl))) rfl (.takeP (i := 1) rfl (by kernel_rfl) (by kernel_rfl) (by kernel_rfl) (fun w => (.nilCheck (.of rfl))) rfl ?_)
     refine WD.takeP (i := 2) rfl (by kernel_rfl) (by kernel_rfl) (by kernel_rfl) (fun w => (by first | exact .fieldAddr 0 (.of rfl) Tryz.underlying52 rfl rfl Tryz.sizeOf47 rfl | exact .fieldAddrI 0 (.of rfl) Tryz.underlying52 rfl rfl Tryz.sizeOf47 rfl)) rfl ?_
     refine WD.take (i := 3) rfl (by kernel_rfl) (by kernel_rfl) (by kernel_rfl) (by kernel_rfl) hH (fun w ⟨R, hS⟩ => (by first | exact (.ld (.of rfl) hS (k := 0) rfl Tryz.isAgg47 rfl) | exact (.ld (.of rfl) hS (k := 1) rfl Tryz.isAgg47 rfl) | exact (.ldI (.of rfl) hS (At.add hx _) Tryz.isAgg47 rfl) | exact (.ldI (.of rfl) hS (At.add hx2 _) Tryz.isAgg47 rfl))) rfl ?_
     refine WD.takeP (i := 4) rfl (by kernel_rfl) (by kernel_rfl) (by kernel_rfl) (fun w => (by first | exact .fieldAddr 2 (.of rfl) Tryz.underlying45 rfl rfl Tryz.sizeOf9 rfl | exact .fieldAddrI 2 (.of rfl) Tryz.underlying45 rfl rfl Tryz.sizeOf9 rfl)) rfl ?_
     refine WD.take (i := 5) rfl (by kernel_rfl) (by kernel_rfl) (by kernel_rfl) (by kernel_rfl) hH (fun w ⟨R, hS⟩ => (by first | exact (.ld (.of rfl) hS (k := 0) rfl Tryz.isAgg9 rfl) | exact (.ld (.of rfl) hS (k := 1) rfl Tryz.isAgg9 rfl) | exact (.ldI (.of rfl) hS (At.add hx _) Tryz.isAgg9 rfl) | exact (.ldI (.of rfl) hS (At.add hx2 _) Tryz.isAgg9 rfl))) rfl ?_
     refine WD.branch [6, 10] (by kernel_rfl) rfl (WO.cons rfl ?_ (WO.cons rfl ?_ (WO.nil)))
     ·
      refine .call Tryz.func17 rfl (evs_cons (.of rfl) (evs_cons (.of rfl) evs_nil)) rfl (Get_any p.tb (actW p.lo p.us p.ps s.1 s.2 o).2.room a7 c7 (actW p.lo p.us p.ps s.1 s.2 o).2.l (by omega) r.parent B _ J3 _ ((hS.pick 2 rfl).pick 2 rfl)) ?_
      clear hS
      rintro _ w ⟨rfl, hS⟩
      try dsimp only [List.eraseIdx] at hS
      refine .nil ?_
      clear hH
      have hH : ∃ R, Sat B w J3 (blk b18 [I64 r.kind, S r.name, S r.parent, S r.user, S r.service, S r.url, I64 r.made, I64 r.used, I64 r.uses, .bool r.fresh] 45 :: blk p.wb (wdC p (actW p.lo p.us p.ps s.1 s.2 o).2) 52 :: R) := ⟨_, ((hS.pick 2 rfl).pick 5 rfl)⟩
      refine And.intro (by intro _ _; exact hH) ?_
      refine .takeP (i := 7) rfl (by kernel_rfl) (by kernel_rfl) (by kernel_rfl) (fun w => (.move (.of rfl))) rfl (.takeP (i := 8) rfl (by kernel_rfl) (by kernel_rfl) (by kernel_rfl) (fun w => (.extract (.of rfl) rfl)) rfl (.takeP (i := 9) rfl (by kernel_rfl) (by kernel_rfl) (by kernel_rfl) (fun w => (.extract (.of rfl) rfl)) rfl ?_))
      refine WD.branch [10] (by kernel_rfl) rfl (WO.cons rfl ?_ (WO.nil))
      refine .allocA (cs := [_, _, _, _, _, _, _, _, _, _]) hS Tryz.zeroValue45 rfl ?_
      clear hS; intro b19 w hS
      refine .nil ?_
      clear hH
      have hH : ∃ R, Sat B w J3 (blk b18 [I64 r.kind, S r.name, S r.parent, S r.user, S r.service, S r.url, I64 r.made, I64 r.used, I64 r.uses, .bool r.fresh] 45 :: blk p.wb (wdC p (actW p.lo p.us p.ps s.1 s.2 o).2) 52 :: R) := ⟨_, ((hS.pick 3 rfl).pick 6 rfl)⟩
      refine And.intro (by intro _ _; exact hH) ?_
      refine WD.branch [11] (by kernel_rfl) rfl (WO.cons rfl ?_ (WO.nil))
      first | refine WL.stA hS (k := 0) rfl (.of rfl) (.of rfl) rfl Tryz.sizeOf45 rfl (by simp) ?_ | refine WL.stA hS (k := 1) rfl (.of rfl) (.of rfl) rfl Tryz.sizeOf45 rfl (by simp) ?_ | refine WL.stA hS (k := 2) rfl (.of rfl) (.of rfl) rfl Tryz.sizeOf45 rfl (by simp) ?_ | refine WL.stA hS (k := 3) rfl (.of rfl) (.of rfl) rfl Tryz.sizeOf45 rfl (by simp) ?_ | refine WL.stA hS (k := 4) rfl (.of rfl) (.of rfl) rfl Tryz.sizeOf45 rfl (by simp) ?_ | refine WL.stA hS (k := 5) rfl (.of rfl) (.of rfl) rfl Tryz.sizeOf45 rfl (by simp) ?_ | refine WL.stA hS (k := 6) rfl (.of rfl) (.of rfl) rfl Tryz.sizeOf45 rfl (by simp) ?_ | refine WL.stA hS (k := 7) rfl (.of rfl) (.of rfl) rfl Tryz.sizeOf45 rfl (by simp) ?_ | refine WL.stA hS (k := 8) rfl (.of rfl) (.of rfl) rfl Tryz.sizeOf45 rfl (by simp) ?_ | refine WL.stA hS (k := 9) rfl (.of rfl) (.of rfl) rfl Tryz.sizeOf45 rfl (by simp) ?_
      clear hS; intro w hS; try dsimp only [List.set] at hS
      try simp only [List.take_zero, List.nil_append, List.append_nil, List.drop_succ_cons, List.drop_zero, List.drop_nil, Nat.zero_add] at hS
      refine .nil ?_
      clear hH
      have hH : ∃ R, Sat B w J3 (blk b18 [I64 r.kind, S r.name, S r.parent, S r.user, S r.service, S r.url, I64 r.made, I64 r.used, I64 r.uses, .bool r.fresh] 45 :: blk p.wb (wdC p (actW p.lo p.us p.ps s.1 s.2 o).2) 52 :: R) := ⟨_, ((hS.pick 3 rfl).pick 6 rfl)⟩
      refine And.intro (by intro _ _; exact hH) ?_
      refine .takeP (i := 12) rfl (by kernel_rfl) (by kernel_rfl) (by kernel_rfl) (fun w => (.assign (.of rfl))) rfl (.done (by kernel_rfl) ?_)
      replace hS := Sat.box (T := wdT p (actW p.lo p.us p.ps s.1 s.2 o).2) (a7, c7, ma7, mc7) (((((hS.pick 5 rfl).pick 5 rfl).pick 4 rfl).pick 4 rfl).pick 5 rfl)
      try dsimp only [List.eraseIdx] at hS
      exact ⟨b19, ⟨rfl, rfl, rfl, rfl, rfl, rfl, rfl, rfl, rfl, rfl, rfl, rfl, trivial⟩, ((((((hS.pick 5 rfl).pick 1 rfl).pick 5 rfl).pick 5 rfl).pick 5 rfl).pick 5 rfl)⟩
     ·
      refine .allocA (cs := [_, _, _, _, _, _, _, _, _, _]) hS Tryz.zeroValue45 rfl ?_
      clear hS; intro b19 w hS
      refine .nil ?_
      clear hH
      have hH : ∃ R, Sat B w J3 (blk b18 [I64 r.kind, S r.name, S r.parent, S r.user, S r.service, S r.url, I64 r.made, I64 r.used, I64 r.uses, .bool r.fresh] 45 :: blk p.wb (wdC p (actW p.lo p.us p.ps s.1 s.2 o).2) 52 :: R) := ⟨_, ((hS.pick 1 rfl).pick 6 rfl)⟩
      refine And.intro (by intro _ _; exact hH) ?_
      refine WD.branch [6] (by kernel_rfl) rfl (WO.cons rfl ?_ (WO.nil))
      refine .call Tryz.func17 rfl (evs_cons (.of rfl) (evs_cons (.of rfl) evs_nil)) rfl (Get_any p.tb (actW p.lo p.us p.ps s.1 s.2 o).2.room a7 c7 (actW p.lo p.us p.ps s.1 s.2 o).2.l (by omega) r.parent B _ J3 _ ((hS.pick 3 rfl).pick 3 rfl)) ?_
      clear hS
      rintro _ w ⟨rfl, hS⟩
      try dsimp only [List.eraseIdx] at hS
      refine .nil ?_
      clear hH
      have hH : ∃ R, Sat B w J3 (blk b18 [I64 r.kind, S r.name, S r.parent, S r.user, S r.service, S r.url, I64 r.made, I64 r.used, I64 r.uses, .bool r.fresh] 45 :: blk p.wb (wdC p (actW p.lo p.us p.ps s.1 s.2 o).2) 52 :: R) := ⟨_, ((hS.pick 3 rfl).pick 6 rfl)⟩
      refine And.intro (by intro _ _; exact hH) ?_
      refine .takeP (i := 7) rfl (by kernel_rfl) (by kernel_rfl) (by kernel_rfl) (fun w => (.move (.of rfl))) rfl (.takeP (i := 8) rfl (by kernel_rfl) (by kernel_rfl) (by kernel_rfl) (fun w => (.extract (.of rfl) rfl)) rfl (.takeP (i := 9) rfl (by kernel_rfl) (by kernel_rfl) (by kernel_rfl) (fun w => (.extract (.of rfl) rfl)) rfl ?_))
      refine WD.branch [11] (by kernel_rfl) rfl (WO.cons rfl ?_ (WO.nil))
      first | refine WL.stA hS (k := 0) rfl (.of rfl) (.of rfl) rfl Tryz.sizeOf45 rfl (by simp) ?_ | refine WL.stA hS (k := 1) rfl (.of rfl) (.of rfl) rfl Tryz.sizeOf45 rfl (by simp) ?_ | refine WL.stA hS (k := 2) rfl (.of rfl) (.of rfl) rfl Tryz.sizeOf45 rfl (by simp) ?_ | refine WL.stA hS (k := 3) rfl (.of rfl) (.of rfl) rfl Tryz.sizeOf45 rfl (by simp) ?_ | refine WL.stA hS (k := 4) rfl (.of rfl) (.of rfl) rfl Tryz.sizeOf45 rfl (by simp) ?_ | refine WL.stA hS (k := 5) rfl (.of rfl) (.of rfl) rfl Tryz.sizeOf45 rfl (by simp) ?_ | refine WL.stA hS (k := 6) rfl (.of rfl) (.of rfl) rfl Tryz.sizeOf45 rfl (by simp) ?_ | refine WL.stA hS (k := 7) rfl (.of rfl) (.of rfl) rfl Tryz.sizeOf45 rfl (by simp) ?_ | refine WL.stA hS (k := 8) rfl (.of rfl) (.of rfl) rfl Tryz.sizeOf45 rfl (by simp) ?_ | refine WL.stA hS (k := 9) rfl (.of rfl) (.of rfl) rfl Tryz.sizeOf45 rfl (by simp) ?_
      clear hS; intro w hS; try dsimp only [List.set] at hS
      try simp only [List.take_zero, List.nil_append, List.append_nil, List.drop_succ_cons, List.drop_zero, List.drop_nil, Nat.zero_add] at hS
      refine .nil ?_
      clear hH
      have hH : ∃ R, Sat B w J3 (blk b18 [I64 r.kind, S r.name, S r.parent, S r.user, S r.service, S r.url, I64 r.made, I64 r.used, I64 r.uses, .bool r.fresh] 45 :: blk p.wb (wdC p (actW p.lo p.us p.ps s.1 s.2 o).2) 52 :: R) := ⟨_, ((hS.pick 3 rfl).pick 6 rfl)⟩
      refine And.intro (by intro _ _; exact hH) ?_
      refine .takeP (i := 12) rfl (by kernel_rfl) (by kernel_rfl) (by kernel_rfl) (fun w => (.assign (.of rfl))) rfl (.done (by kernel_rfl) ?_)
      replace hS := Sat.box (T := wdT p (actW p.lo p.us p.ps s.1 s.2 o).2) (a7, c7, ma7, mc7) (((((hS.pick 5 rfl).pick 5 rfl).pick 3 rfl).pick 3 rfl).pick 5 rfl)
      try dsimp only [List.eraseIdx] at hS
      exact ⟨b19, ⟨rfl, rfl, rfl, rfl, rfl, rfl, rfl, rfl, rfl, rfl, rfl, rfl, trivial⟩, ((((((hS.pick 5 rfl).pick 1 rfl).pick 5 rfl).pick 5 rfl).pick 5 rfl).pick 5 rfl)⟩
    rintro b19 w hS
    change WC _ _ _ _ [(1, .slice (some pp) l.length oc), (2, ptr b2 0), (5, .bool true), (7, ptr p.wb 0), (9, dv2), (10, .slice ub9 vs2.length ud9), (11, I64 (i : Nat)), (16, .slice (some wp) (actW p.lo p.us p.ps s.1 s.2 o).2.l.length wc), (17, I64 (k : Nat)), (18, ptr b18 0), (19, ptr b19 0), (20, .bool (get (actW p.lo p.us p.ps s.1 s.2 o).2.l r.parent).isSome)] w
    refine WC.cutS (σ := Nat × Option Addr × Nat) (fun ⟨b21, ra, rc⟩ => [(1, .slice (some pp) l.length oc), (2, ptr b2 0), (5, .bool true), (7, ptr p.wb 0), (9, dv2), (10, .slice ub9 vs2.length ud9), (11, I64 (i : Nat)), (16, .slice (some wp) (actW p.lo p.us p.ps s.1 s.2 o).2.l.length wc), (17, I64 (k : Nat)), (18, ptr b18 0), (19, ptr b19 0), (20, .bool (get (actW p.lo p.us p.ps s.1 s.2 o).2.l r.parent).isSome), (21, ptr b21 0), (22, S (findR p.lo r.service).2.1), (23, I64 (((findR p.lo r.service).2.2 : Nat) : Int))]) (fun ⟨b21, ra, rc⟩ w => Sat B w J3 (blk b21 (svCells (findR p.lo r.service).1 ra rc) 101 :: blk b19 [I64 (getD (actW p.lo p.us p.ps s.1 s.2 o).2.l r.parent).kind, S (getD (actW p.lo p.us p.ps s.1 s.2 o).2.l r.parent).name, S (getD (actW p.lo p.us p.ps s.1 s.2 o).2.l r.parent).parent, S (getD (actW p.lo p.us p.ps s.1 s.2 o).2.l r.parent).user, S (getD (actW p.lo p.us p.ps s.1 s.2 o).2.l r.parent).service, S (getD (actW p.lo p.us p.ps s.1 s.2 o).2.l r.parent).url, I64 (getD (actW p.lo p.us p.ps s.1 s.2 o).2.l r.parent).made, I64 (getD (actW p.lo p.us p.ps s.1 s.2 o).2.l r.parent).used, I64 (getD (actW p.lo p.us p.ps s.1 s.2 o).2.l r.parent).uses, .bool (getD (actW p.lo p.us p.ps s.1 s.2 o).2.l r.parent).fresh] 45 :: blk b18 [I64 r.kind, S r.name, S r.parent, S r.user, S r.service, S r.url, I64 r.made, I64 r.used, I64 r.uses, .bool r.fresh] 45 :: Vec 9 1 dv2 (addN s.2 (actW p.lo p.us p.ps s.1 s.2 o).1.1).length ((addN s.2 (actW p.lo p.us p.ps s.1 s.2 o).1.1).map S) :: Vec 9 1 (.slice ub9 vs2.length ud9) vs2.length (vs2.map S) :: wdA p (actW p.lo p.us p.ps s.1 s.2 o).2 :: blk b2 (cfCells c a cap ua ucap) 34 :: As)) ?_ ?_
    ·
     replace hS := (hS.pick 4 rfl)
     try dsimp only [List.eraseIdx] at hS
     obtain ⟨⟨a8, c8, ma8, mc8⟩, hS⟩ := Sat.unbox hS
     replace hS : Sat B _ _ (blk p.wb (wdC p (actW p.lo p.us p.ps s.1 s.2 o).2) 52 :: blk p.tb [I64 (actW p.lo p.us p.ps s.1 s.2 o).2.room, .slice a8 (actW p.lo p.us p.ps s.1 s.2 o).2.l.length c8] 127 :: Vec 45 10 (.slice a8 (actW p.lo p.us p.ps s.1 s.2 o).2.l.length c8) (actW p.lo p.us p.ps s.1 s.2 o).2.l.length (rowsR (actW p.lo p.us p.ps s.1 s.2 o).2.l) :: blk p.mb [.slice ma8 (actW p.lo p.us p.ps s.1 s.2 o).2.D.length mc8] 168 :: VecO 118 (.slice ma8 (actW p.lo p.us p.ps s.1 s.2 o).2.D.length mc8) ((actW p.lo p.us p.ps s.1 s.2 o).2.D.map fun d => U64 (d : Nat)) :: _) := hS
     refine .drawn (fun w => ∃ R, Sat B w J3 (blk b18 [I64 r.kind, S r.name, S r.parent, S r.user, S r.service, S r.url, I64 r.made, I64 r.used, I64 r.uses, .bool r.fresh] 45 :: blk p.wb (wdC p (actW p.lo p.us p.ps s.1 s.2 o).2) 52 :: R)) (fun j => !([].contains j)) (by kernel_rfl) ?_
     replace hS := hS.drew; generalize w.drew = w at hS ⊢
     have hH : ∃ R, Sat B w J3 (blk b18 [I64 r.kind, S r.name, S r.parent, S r.user, S r.service, S r.url, I64 r.made, I64 r.used, I64 r.uses, .bool r.fresh] 45 :: blk p.wb (wdC p (actW p.lo p.us p.ps s.1 s.2 o).2) 52 :: R) := ⟨_, ((hS.pick 0 rfl).pick 6 rfl)⟩
     refine .takeP (i := 0) rfl (by kernel_rfl) (by kernel_rfl) (by kernel_rfl) (fun w => (.move (.of rfl))) rfl (.takeP (i := 1) rfl (by kernel_rfl) (by kernel_rfl) (by kernel_rfl) (fun w => (.nilCheck (.of rfl))) rfl ?_)
     refine WD.takeP (i := 2) rfl (by kernel_rfl) (by kernel_rfl) (by kernel_rfl) (fun w => (by first | exact .fieldAddr 2 (.of rfl) Tryz.underlying52 rfl rfl Tryz.sizeOf49 rfl | exact .fieldAddrI 2 (.of rfl) Tryz.underlying52 rfl rfl Tryz.sizeOf49 rfl)) rfl ?_
     refine WD.take (i := 3) rfl (by kernel_rfl) (by kernel_rfl) (by kernel_rfl) (by kernel_rfl) hH (fun w ⟨R, hS⟩ => (by first | exact (.ld (.of rfl) hS (k := 0) rfl Tryz.isAgg49 rfl) | exact (.ld (.of rfl) hS (k := 1) rfl Tryz.isAgg49 rfl) | exact (.ldI (.of rfl) hS (At.add hx _) Tryz.isAgg49 rfl) | exact (.ldI (.of rfl) hS (At.add hx2 _) Tryz.isAgg49 rfl))) rfl ?_
     refine WD.takeP (i := 4) rfl (by kernel_rfl) (by kernel_rfl) (by kernel_rfl) (fun w => (by first | exact .fieldAddr 4 (.of rfl) Tryz.underlying45 rfl rfl Tryz.sizeOf9 rfl | exact .fieldAddrI 4 (.of rfl) Tryz.underlying45 rfl rfl Tryz.sizeOf9 rfl)) rfl ?_
     refine WD.take (i := 5) rfl (by kernel_rfl) (by kernel_rfl) (by kernel_rfl) (by kernel_rfl) hH (fun w ⟨R, hS⟩ => (by first | exact (.ld (.of rfl) hS (k := 0) rfl Tryz.isAgg9 rfl) | exact (.ld (.of rfl) hS (k := 1) rfl Tryz.isAgg9 rfl) | exact (.ldI (.of rfl) hS (At.add hx _) Tryz.isAgg9 rfl) | exact (.ldI (.of rfl) hS (At.add hx2 _) Tryz.isAgg9 rfl))) rfl ?_
     refine WD.branch [6, 11] (by kernel_rfl) rfl (WO.cons rfl ?_ (WO.cons rfl ?_ (WO.nil)))
     ·
      refine .call Tryz.func40 rfl (evs_cons (.of rfl) (evs_cons (.of rfl) evs_nil)) rfl (Find_any r.service (by omega) p B _ J3 (hI2.mono hJ3) _ hS) ?_
      clear hS
      rintro _ w ⟨ra, rc, rfl, hS⟩
      refine .nil ?_
      clear hH
      have hH : ∃ R, Sat B w J3 (blk b18 [I64 r.kind, S r.name, S r.parent, S r.user, S r.service, S r.url, I64 r.made, I64 r.used, I64 r.uses, .bool r.fresh] 45 :: blk p.wb (wdC p (actW p.lo p.us p.ps s.1 s.2 o).2) 52 :: R) := ⟨_, ((hS.pick 0 rfl).pick 6 rfl)⟩
      refine And.intro (by intro _ _; exact hH) ?_
      refine .takeP (i := 7) rfl (by kernel_rfl) (by kernel_rfl) (by kernel_rfl) (fun w => (.move (.of rfl))) rfl (.takeP (i := 8) rfl (by kernel_rfl) (by kernel_rfl) (by kernel_rfl) (fun w => (.extract (.of rfl) rfl)) rfl (.takeP (i := 9) rfl (by kernel_rfl) (by kernel_rfl) (by kernel_rfl) (fun w => (.extract (.of rfl) rfl)) rfl (.takeP (i := 10) rfl (by kernel_rfl) (by kernel_rfl) (by kernel_rfl) (fun w => (.extract (.of rfl) rfl)) rfl ?_)))
      refine WD.branch [11] (by kernel_rfl) rfl (WO.cons rfl ?_ (WO.nil))
      refine .allocA (cs := [_, _, _, _, _, _, _, _]) hS Tryz.zeroValue101 rfl ?_
      clear hS; intro b21 w hS
      refine .nil ?_
      clear hH
      have hH : ∃ R, Sat B w J3 (blk b18 [I64 r.kind, S r.name, S r.parent, S r.user, S r.service, S r.url, I64 r.made, I64 r.used, I64 r.uses, .bool r.fresh] 45 :: blk p.wb (wdC p (actW p.lo p.us p.ps s.1 s.2 o).2) 52 :: R) := ⟨_, ((hS.pick 1 rfl).pick 7 rfl)⟩
      refine And.intro (by intro _ _; exact hH) ?_
      refine WD.branch [12] (by kernel_rfl) rfl (WO.cons rfl ?_ (WO.nil))
      first | refine WL.stA hS (k := 0) rfl (.of rfl) (.of rfl) rfl Tryz.sizeOf101 rfl (by simp) ?_ | refine WL.stA hS (k := 1) rfl (.of rfl) (.of rfl) rfl Tryz.sizeOf101 rfl (by simp) ?_ | refine WL.stA hS (k := 2) rfl (.of rfl) (.of rfl) rfl Tryz.sizeOf101 rfl (by simp) ?_ | refine WL.stA hS (k := 3) rfl (.of rfl) (.of rfl) rfl Tryz.sizeOf101 rfl (by simp) ?_ | refine WL.stA hS (k := 4) rfl (.of rfl) (.of rfl) rfl Tryz.sizeOf101 rfl (by simp) ?_ | refine WL.stA hS (k := 5) rfl (.of rfl) (.of rfl) rfl Tryz.sizeOf101 rfl (by simp) ?_ | refine WL.stA hS (k := 6) rfl (.of rfl) (.of rfl) rfl Tryz.sizeOf101 rfl (by simp) ?_ | refine WL.stA hS (k := 7) rfl (.of rfl) (.of rfl) rfl Tryz.sizeOf101 rfl (by simp) ?_ | refine WL.stA hS (k := 8) rfl (.of rfl) (.of rfl) rfl Tryz.sizeOf101 rfl (by simp) ?_ | refine WL.stA hS (k := 9) rfl (.of rfl) (.of rfl) rfl Tryz.sizeOf101 rfl (by simp) ?_ | refine WL.stA hS (k := 10) rfl (.of rfl) (.of rfl) rfl Tryz.sizeOf101 rfl (by simp) ?_
      clear hS; intro w hS; try dsimp only [List.set] at hS
      try simp only [List.take_zero, List.nil_append, List.append_nil, List.drop_succ_cons, List.drop_zero, List.drop_nil, Nat.zero_add] at hS
      refine .nil ?_
      clear hH
      have hH : ∃ R, Sat B w J3 (blk b18 [I64 r.kind, S r.name, S r.parent, S r.user, S r.service, S r.url, I64 r.made, I64 r.used, I64 r.uses, .bool r.fresh] 45 :: blk p.wb (wdC p (actW p.lo p.us p.ps s.1 s.2 o).2) 52 :: R) := ⟨_, ((hS.pick 1 rfl).pick 7 rfl)⟩
      refine And.intro (by intro _ _; exact hH) ?_
      refine .takeP (i := 13) rfl (by kernel_rfl) (by kernel_rfl) (by kernel_rfl) (fun w => (.assign (.of rfl))) rfl (.takeP (i := 14) rfl (by kernel_rfl) (by kernel_rfl) (by kernel_rfl) (fun w => (.assign (.of rfl))) rfl (.done (by kernel_rfl) ?_))
      replace hS := Sat.box (T := wdT p (actW p.lo p.us p.ps s.1 s.2 o).2) (a8, c8, ma8, mc8) (((((hS.pick 5 rfl).pick 5 rfl).pick 5 rfl).pick 5 rfl).pick 5 rfl)
      try dsimp only [List.eraseIdx] at hS
      exact ⟨(b21, ra, rc), ⟨rfl, rfl, rfl, rfl, rfl, rfl, rfl, rfl, rfl, rfl, rfl, rfl, rfl, rfl, rfl, trivial⟩, (((((((hS.pick 6 rfl).pick 1 rfl).pick 6 rfl).pick 6 rfl).pick 6 rfl).pick 6 rfl).pick 6 rfl)⟩
     ·
      refine .allocA (cs := [_, _, _, _, _, _, _, _]) hS Tryz.zeroValue101 rfl ?_
      clear hS; intro b21 w hS
      refine .nil ?_
      clear hH
      have hH : ∃ R, Sat B w J3 (blk b18 [I64 r.kind, S r.name, S r.parent, S r.user, S r.service, S r.url, I64 r.made, I64 r.used, I64 r.uses, .bool r.fresh] 45 :: blk p.wb (wdC p (actW p.lo p.us p.ps s.1 s.2 o).2) 52 :: R) := ⟨_, ((hS.pick 1 rfl).pick 7 rfl)⟩
      refine And.intro (by intro _ _; exact hH) ?_
      refine WD.branch [6] (by kernel_rfl) rfl (WO.cons rfl ?_ (WO.nil))
      refine .call Tryz.func40 rfl (evs_cons (.of rfl) (evs_cons (.of rfl) evs_nil)) rfl (Find_any r.service (by omega) p B _ J3 (hI2.mono hJ3) _ hS) ?_
      clear hS
      rintro _ w ⟨ra, rc, rfl, hS⟩
      refine .nil ?_
      clear hH
      have hH : ∃ R, Sat B w J3 (blk b18 [I64 r.kind, S r.name, S r.parent, S r.user, S r.service, S r.url, I64 r.made, I64 r.used, I64 r.uses, .bool r.fresh] 45 :: blk p.wb (wdC p (actW p.lo p.us p.ps s.1 s.2 o).2) 52 :: R) := ⟨_, ((hS.pick 1 rfl).pick 7 rfl)⟩
      refine And.intro (by intro _ _; exact hH) ?_
      refine .takeP (i := 7) rfl (by kernel_rfl) (by kernel_rfl) (by kernel_rfl) (fun w => (.move (.of rfl))) rfl (.takeP (i := 8) rfl (by kernel_rfl) (by kernel_rfl) (by kernel_rfl) (fun w => (.extract (.of rfl) rfl)) rfl (.takeP (i := 9) rfl (by kernel_rfl) (by kernel_rfl) (by kernel_rfl) (fun w => (.extract (.of rfl) rfl)) rfl (.takeP (i := 10) rfl (by kernel_rfl) (by kernel_rfl) (by kernel_rfl) (fun w => (.extract (.of rfl) rfl)) rfl ?_)))
      refine WD.branch [12] (by kernel_rfl) rfl (WO.cons rfl ?_ (WO.nil))
      first | refine WL.stA hS (k := 0) rfl (.of rfl) (.of rfl) rfl Tryz.sizeOf101 rfl (by simp) ?_ | refine WL.stA hS (k := 1) rfl (.of rfl) (.of rfl) rfl Tryz.sizeOf101 rfl (by simp) ?_ | refine WL.stA hS (k := 2) rfl (.of rfl) (.of rfl) rfl Tryz.sizeOf101 rfl (by simp) ?_ | refine WL.stA hS (k := 3) rfl (.of rfl) (.of rfl) rfl Tryz.sizeOf101 rfl (by simp) ?_ | refine WL.stA hS (k := 4) rfl (.of rfl) (.of rfl) rfl Tryz.sizeOf101 rfl (by simp) ?_ | refine WL.stA hS (k := 5) rfl (.of rfl) (.of rfl) rfl Tryz.sizeOf101 rfl (by simp) ?_ | refine WL.stA hS (k := 6) rfl (.of rfl) (.of rfl) rfl Tryz.sizeOf101 rfl (by simp) ?_ | refine WL.stA hS (k := 7) rfl (.of rfl) (.of rfl) rfl Tryz.sizeOf101 rfl (by simp) ?_ | refine WL.stA hS (k := 8) rfl (.of rfl) (.of rfl) rfl Tryz.sizeOf101 rfl (by simp) ?_ | refine WL.stA hS (k := 9) rfl (.of rfl) (.of rfl) rfl Tryz.sizeOf101 rfl (by simp) ?_ | refine WL.stA hS (k := 10) rfl (.of rfl) (.of rfl) rfl Tryz.sizeOf101 rfl (by simp) ?_
      clear hS; intro w hS; try dsimp only [List.set] at hS
      try simp only [List.take_zero, List.nil_append, List.append_nil, List.drop_succ_cons, List.drop_zero, List.drop_nil, Nat.zero_add] at hS
      refine .nil ?_
      clear hH
      have hH : ∃ R, Sat B w J3 (blk b18 [I64 r.kind, S r.name, S r.parent, S r.user, S r.service, S r.url, I64 r.made, I64 r.used, I64 r.uses, .bool r.fresh] 45 :: blk p.wb (wdC p (actW p.lo p.us p.ps s.1 s.2 o).2) 52 :: R) := ⟨_, ((hS.pick 1 rfl).pick 7 rfl)⟩
      refine And.intro (by intro _ _; exact hH) ?_
      refine .takeP (i := 13) rfl (by kernel_rfl) (by kernel_rfl) (by kernel_rfl) (fun w => (.assign (.of rfl))) rfl (.takeP (i := 14) rfl (by kernel_rfl) (by kernel_rfl) (by kernel_rfl) (fun w => (.assign (.of rfl))) rfl (.done (by kernel_rfl) ?_))
      replace hS := Sat.box (T := wdT p (actW p.lo p.us p.ps s.1 s.2 o).2) (a8, c8, ma8, mc8) (((((hS.pick 5 rfl).pick 5 rfl).pick 5 rfl).pick 5 rfl).pick 5 rfl)
      try dsimp only [List.eraseIdx] at hS
      exact ⟨(b21, ra, rc), ⟨rfl, rfl, rfl, rfl, rfl, rfl, rfl, rfl, rfl, rfl, rfl, rfl, rfl, rfl, rfl, trivial⟩, (((((((hS.pick 6 rfl).pick 1 rfl).pick 6 rfl).pick 6 rfl).pick 6 rfl).pick 6 rfl).pick 6 rfl)⟩
    rintro ⟨b21, ra, rc⟩ w hS
    change WC _ _ _ _ [(1, .slice (some pp) l.length oc), (2, ptr b2 0), (5, .bool true), (7, ptr p.wb 0), (9, dv2), (10, .slice ub9 vs2.length ud9), (11, I64 (i : Nat)), (16, .slice (some wp) (actW p.lo p.us p.ps s.1 s.2 o).2.l.length wc), (17, I64 (k : Nat)), (18, ptr b18 0), (19, ptr b19 0), (20, .bool (get (actW p.lo p.us p.ps s.1 s.2 o).2.l r.parent).isSome), (21, ptr b21 0), (22, S (findR p.lo r.service).2.1), (23, I64 (((findR p.lo r.service).2.2 : Nat) : Int))] w
    refine .seq (.region (.run 3 rfl trivial ?_))
    refine WL.gval rfl rfl (fun hg1 => (by first | exact .fieldAddr 0 (.of rfl) Tryz.underlying45 rfl rfl Tryz.sizeOf3 rfl | exact .fieldAddrI 0 (.of rfl) Tryz.underlying45 rfl rfl Tryz.sizeOf3 rfl)) rfl ?_
    refine WL.gval rfl rfl (fun hg1 => (by first | exact (.ld (.gd hg1 rfl) hS (k := 0) rfl Tryz.isAgg3 rfl) | exact (.ld (.gd hg1 rfl) hS (k := 1) rfl Tryz.isAgg3 rfl) | exact (.ld (.gd hg1 rfl) hS (k := 2) rfl Tryz.isAgg3 rfl) | exact (.ld (.gd hg1 rfl) hS (k := 3) rfl Tryz.isAgg3 rfl) | exact (.ld (.gd hg1 rfl) hS (k := 4) rfl Tryz.isAgg3 rfl) | exact (.ld (.gd hg1 rfl) hS (k := 5) rfl Tryz.isAgg3 rfl) | exact (.ld (.gd hg1 rfl) hS (k := 6) rfl Tryz.isAgg3 rfl) | exact (.ldI (.gd hg1 rfl) hS (At.add hx _) Tryz.isAgg3 rfl) | exact (.ldI (.gd hg1 rfl) hS (At.add hx2 _) Tryz.isAgg3 rfl))) rfl ?_
    refine .gval rfl rfl (fun hg1 => (.neq (.gd hg1 rfl) (.of rfl))) rfl (.val (.por (.of rfl) (.of rfl) (.of rfl)) rfl (.run 1 rfl trivial ?_))
    refine WL.gval rfl rfl (fun hg1 => (by first | exact .fieldAddr 3 (.of rfl) Tryz.underlying45 rfl rfl Tryz.sizeOf9 rfl | exact .fieldAddrI 3 (.of rfl) Tryz.underlying45 rfl rfl Tryz.sizeOf9 rfl)) rfl ?_
    refine WL.gval rfl rfl (fun hg1 => (by first | exact (.ld (.gd hg1 rfl) hS (k := 0) rfl Tryz.isAgg9 rfl) | exact (.ld (.gd hg1 rfl) hS (k := 1) rfl Tryz.isAgg9 rfl) | exact (.ld (.gd hg1 rfl) hS (k := 2) rfl Tryz.isAgg9 rfl) | exact (.ld (.gd hg1 rfl) hS (k := 3) rfl Tryz.isAgg9 rfl) | exact (.ld (.gd hg1 rfl) hS (k := 4) rfl Tryz.isAgg9 rfl) | exact (.ld (.gd hg1 rfl) hS (k := 5) rfl Tryz.isAgg9 rfl) | exact (.ld (.gd hg1 rfl) hS (k := 6) rfl Tryz.isAgg9 rfl) | exact (.ldI (.gd hg1 rfl) hS (At.add hx _) Tryz.isAgg9 rfl) | exact (.ldI (.gd hg1 rfl) hS (At.add hx2 _) Tryz.isAgg9 rfl))) rfl ?_
    refine WL.gval rfl rfl (fun hg1 => (by first | exact .fieldAddr 3 (.of rfl) Tryz.underlying45 rfl rfl Tryz.sizeOf9 rfl | exact .fieldAddrI 3 (.of rfl) Tryz.underlying45 rfl rfl Tryz.sizeOf9 rfl)) rfl ?_
    refine WL.gval rfl rfl (fun hg1 => (by first | exact (.ld (.gd hg1 rfl) hS (k := 0) rfl Tryz.isAgg9 rfl) | exact (.ld (.gd hg1 rfl) hS (k := 1) rfl Tryz.isAgg9 rfl) | exact (.ld (.gd hg1 rfl) hS (k := 2) rfl Tryz.isAgg9 rfl) | exact (.ld (.gd hg1 rfl) hS (k := 3) rfl Tryz.isAgg9 rfl) | exact (.ld (.gd hg1 rfl) hS (k := 4) rfl Tryz.isAgg9 rfl) | exact (.ld (.gd hg1 rfl) hS (k := 5) rfl Tryz.isAgg9 rfl) | exact (.ld (.gd hg1 rfl) hS (k := 6) rfl Tryz.isAgg9 rfl) | exact (.ldI (.gd hg1 rfl) hS (At.add hx _) Tryz.isAgg9 rfl) | exact (.ldI (.gd hg1 rfl) hS (At.add hx2 _) Tryz.isAgg9 rfl))) rfl ?_
    refine .gval rfl rfl (fun hg1 => (.nes (.gd hg1 rfl) (.gd hg1 rfl))) rfl (.val (.por (.of rfl) (.of rfl) (.of rfl)) rfl (.run 1 rfl trivial (.gval rfl rfl (fun hg1 => (.move (.of rfl))) rfl (.gval rfl rfl (fun hg1 => (.neq (.gd hg1 rfl) (.of rfl))) rfl (.val (.por (.of rfl) (.of rfl) (.of rfl)) rfl (.run 1 rfl trivial (.gval rfl rfl (fun hg1 => (.move (.of rfl))) rfl ?_)))))))
    refine WL.gval rfl rfl (fun hg1 => (by first | exact .fieldAddr 4 (.of rfl) Tryz.underlying45 rfl rfl Tryz.sizeOf9 rfl | exact .fieldAddrI 4 (.of rfl) Tryz.underlying45 rfl rfl Tryz.sizeOf9 rfl)) rfl ?_
    refine WL.gval rfl rfl (fun hg1 => (by first | exact (.ld (.gd hg1 rfl) hS (k := 0) rfl Tryz.isAgg9 rfl) | exact (.ld (.gd hg1 rfl) hS (k := 1) rfl Tryz.isAgg9 rfl) | exact (.ld (.gd hg1 rfl) hS (k := 2) rfl Tryz.isAgg9 rfl) | exact (.ld (.gd hg1 rfl) hS (k := 3) rfl Tryz.isAgg9 rfl) | exact (.ld (.gd hg1 rfl) hS (k := 4) rfl Tryz.isAgg9 rfl) | exact (.ld (.gd hg1 rfl) hS (k := 5) rfl Tryz.isAgg9 rfl) | exact (.ld (.gd hg1 rfl) hS (k := 6) rfl Tryz.isAgg9 rfl) | exact (.ldI (.gd hg1 rfl) hS (At.add hx _) Tryz.isAgg9 rfl) | exact (.ldI (.gd hg1 rfl) hS (At.add hx2 _) Tryz.isAgg9 rfl))) rfl ?_
    refine .gval rfl rfl (fun hg1 => (.nes (.gd hg1 rfl) (.gd hg1 rfl))) rfl (.val (.por (.of rfl) (.of rfl) (.of rfl)) rfl (.run 1 rfl trivial ?_))
    refine WL.gval rfl rfl (fun hg1 => (by first | exact .fieldAddr 9 (.of rfl) Tryz.underlying45 rfl rfl Tryz.sizeOf4 rfl | exact .fieldAddrI 9 (.of rfl) Tryz.underlying45 rfl rfl Tryz.sizeOf4 rfl)) rfl ?_
    refine WL.gval rfl rfl (fun hg1 => (by first | exact (.ld (.gd hg1 rfl) hS (k := 0) rfl Tryz.isAgg4 rfl) | exact (.ld (.gd hg1 rfl) hS (k := 1) rfl Tryz.isAgg4 rfl) | exact (.ld (.gd hg1 rfl) hS (k := 2) rfl Tryz.isAgg4 rfl) | exact (.ld (.gd hg1 rfl) hS (k := 3) rfl Tryz.isAgg4 rfl) | exact (.ld (.gd hg1 rfl) hS (k := 4) rfl Tryz.isAgg4 rfl) | exact (.ld (.gd hg1 rfl) hS (k := 5) rfl Tryz.isAgg4 rfl) | exact (.ld (.gd hg1 rfl) hS (k := 6) rfl Tryz.isAgg4 rfl) | exact (.ldI (.gd hg1 rfl) hS (At.add hx _) Tryz.isAgg4 rfl) | exact (.ldI (.gd hg1 rfl) hS (At.add hx2 _) Tryz.isAgg4 rfl))) rfl ?_
    refine .gval rfl rfl (fun hg1 => (.not (.gd hg1 rfl))) rfl (.gval rfl rfl (fun hg1 => (.move (.gd hg1 rfl))) rfl ?_)
    refine WL.gval2 rfl rfl rfl (fun hg1 hg2 => (by first | exact .fieldAddr 3 (.of rfl) Tryz.underlying101 rfl rfl Tryz.sizeOf4 rfl | exact .fieldAddrI 3 (.of rfl) Tryz.underlying101 rfl rfl Tryz.sizeOf4 rfl)) rfl ?_
    refine WL.gval2 rfl rfl rfl (fun hg1 hg2 => (by first | exact (.ld (.gd2 hg1 hg2 rfl) hS (k := 0) rfl Tryz.isAgg4 rfl) | exact (.ld (.gd2 hg1 hg2 rfl) hS (k := 1) rfl Tryz.isAgg4 rfl) | exact (.ld (.gd2 hg1 hg2 rfl) hS (k := 2) rfl Tryz.isAgg4 rfl) | exact (.ld (.gd2 hg1 hg2 rfl) hS (k := 3) rfl Tryz.isAgg4 rfl) | exact (.ld (.gd2 hg1 hg2 rfl) hS (k := 4) rfl Tryz.isAgg4 rfl) | exact (.ld (.gd2 hg1 hg2 rfl) hS (k := 5) rfl Tryz.isAgg4 rfl) | exact (.ld (.gd2 hg1 hg2 rfl) hS (k := 6) rfl Tryz.isAgg4 rfl) | exact (.ldI (.gd2 hg1 hg2 rfl) hS (At.add hx _) Tryz.isAgg4 rfl) | exact (.ldI (.gd2 hg1 hg2 rfl) hS (At.add hx2 _) Tryz.isAgg4 rfl))) rfl ?_
    refine .gval2 rfl rfl rfl (fun hg1 hg2 => (.not (.gd2 hg1 hg2 rfl))) rfl (.gval rfl rfl (fun hg1 => (.pand (.gd hg1 rfl) (.gd hg1 rfl) (.of rfl))) rfl (.val (.por (.of rfl) (.of rfl) (.of rfl)) rfl (.nil ?_)))
    refine WC.cond rfl (fun hb234 => ?_) (fun hb234 => ?_)
    ·
     have hc234 := hb234; try simp only [Gk.cs0] at hc234
     refine .seq (.region (.run 1 rfl trivial (.nil (.ret (ret1 Tryz.results10 rfl ?_)))))
     exfalso
     obtain ⟨q1, q2, q3, q4, q5⟩ := hpr.2 (by simpa using hb179)
     have q6 := get_kind q1 (by decide)
     cases hfr : r.fresh with
     | true => simp [q1, q2, q3, q4, q6, hfr] at hb234
     | false =>
      have q7 := q5 hfr
      simp [q1, q2, q3, q4, q6, q7, hfr] at hb234
    have hc234 := hb234; try simp only [Gk.cs0] at hc234
    refine .skip (.region (.run 3 rfl ⟨⟨by omega, by omega⟩, trivial⟩ (.nil ?_)))
    refine ⟨k + 1, ⟨rfl, rfl, rfl, rfl, rfl, rfl, rfl, rfl, rfl, trivial⟩, ⟨by (try dsimp only); omega, (((((((hS.pick 6 rfl).pick 6 rfl).pick 6 rfl).pick 6 rfl).drop (k := 4) rfl).drop (k := 4) rfl).drop (k := 4) rfl)⟩, by (try dsimp only); omega⟩
   have hc179 := hb179; try simp only [Gk.cs0] at hc179
   refine .skip (.region (.run 3 rfl ⟨⟨by omega, by omega⟩, trivial⟩ (.nil ?_)))
   refine ⟨k + 1, ⟨rfl, rfl, rfl, rfl, rfl, rfl, rfl, rfl, rfl, trivial⟩, ⟨by (try dsimp only); omega, (((((hS.pick 4 rfl).pick 4 rfl).pick 4 rfl).pick 4 rfl).drop (k := 4) rfl)⟩, by (try dsimp only); omega⟩
  have hc160 := hb160; try simp only [Gk.cs0] at hc160
  refine .exit (.region (.run 3 rfl ⟨⟨by omega, by omega⟩, trivial⟩ (.nil ?_)))
  refine ⟨(stepW p.lo p.us p.ps s o, vs2, i + 1, dv2, .slice ub9 vs2.length ud9, J3), ⟨rfl, rfl, rfl, rfl, rfl, rfl, rfl, trivial⟩, ⟨by (try dsimp only); omega, hJ2.trans hJ3, stepW_ok hwk hof.d (by omega), hp2, hvl2, ?_⟩, by (try dsimp only); omega⟩
  exact ((((hS.pick 3 rfl).pick 3 rfl).pick 3 rfl).pick 3 rfl)
 have hc42 := hb42; try simp only [Gk.cs0] at hc42
 refine .exit (.seq (.region (.run 2 rfl trivial (.nil (.ret (ret1 Tryz.results10 rfl ?_))))))
 exact ⟨_, rfl, rfl, J2, hJ.trans hJ2, (((hS.drop (k := 0) rfl).drop (k := 0) rfl).drop (k := 0) rfl).drop (k := 0) rfl⟩
end Go.Proofs.YtadhiihnnkcagaaGreatDoor
namespace Gk
set_option linter.unusedVariables false
set_option linter.unusedSimpArgs false
open Go Go.RowKit Go.WideShapes Go.ChangeShapes
section
variable {H : Type} {enc : TypeId × Value → H}
def WitT (enc : TypeId × Value → H) (a : Assume) (C : Checked) (os : Os) (f : FuncId) (fn : Func) (s : ChangeSpec) (conds : List PathCond) (apart : Bool) (X : World → Array Value → Prop) : Prop :=
  ∃ (w : World) (tape : Tape) (i : Input), w.os = os ∧ (w.forCall tape i).Shaped C.prog ∧ i.vars = [] ∧ Input.okWide C.prog (w.forCall tape i) .any w.heap.size f i ∧
   ((s.pre enc C.prog fn conds apart (w.forCall tape i).memory i.args ∧ X (w.forCall tape i).memory i.args) ∧ sizedMet enc C.prog fn (OpenSpec.ofChange s) apart (w.forCall tape i).memory i.args) ∧ a.holds C.prog (lone (Frame.enter C.prog f i.args .normal) [] (w.forCall tape i))
theorem returns_and_shaped {a : Assume} {C : Checked} {os : Os} {f : FuncId} {fn : Func} {s : ChangeSpec} {conds : List PathCond} {apart fresh handsOn again : Bool} {X : World → Array Value → Prop}
  (hX : ∀ (w w' : World) (args : Array Value), w.heap = w'.heap → X w args → X w' args)
  (own : ownKnob C.prog.godebug = none) (started : os.Started) (noInit : C.prog.inits.idxOf? f = none) (hfn : C.prog.funcs[f]? = some fn)
  (witness : WitT enc a C os f fn s conds apart X)
  (contract : ∀ (W : World) (base : Nat) (args : Array Value) (ds gs : List (DataW H)) (before : List MemPlace),
   (∀ (j : Nat) t v, fn.params[j]? = some t → args[j]? = some v → Value.okWide C.prog W .any base t v) →
   DataW.Whole enc C.prog fn.params.toList s.vars apart W args.toList ds gs before → X W args → W.ShapedOpen C.prog →
   Calls C.prog f args W fun e W' => ∃ v, e = .returned v ∧ s.post enc C.prog fn apart fresh handsOn again W args v W') :
  ReturnsInHanded a C os f .any (fun w args => (s.pre enc C.prog fn conds apart w args ∧ X w args) ∧ sizedMet enc C.prog fn (OpenSpec.ofChange s) apart w args) (s.post enc C.prog fn apart fresh handsOn again) := by
 refine returnsInHanded_of_calls own started noInit witness ?_
 intro w tape i _ hsh _ hok hpre _
 obtain ⟨_, _, _, fn', hfn', _, _, _, _, hval⟩ := hok
 have e : fn' = fn := Option.some.inj (hfn'.symm.trans hfn)
 subst e
 obtain ⟨⟨⟨ds, gs, before, hw, hc⟩, hx⟩, hz⟩ := hpre
 have hw' := DataW.Whole.of_heap (w' := w.forCall tape i) (by rfl) hw
 refine (contract (w.forCall tape i) w.heap.size i.args ds gs before hval hw' (hX _ _ _ (by rfl) hx) hsh).mono fun e W' ⟨v, he, hp⟩ => ?_
 subst he
 exact ChangeSpec.post_blind hp
end
section
variable {P : Program} {W : World}
theorem tabIs_of_reads {name : String} {k : IntKind} {zs : List Int} {g : Nat} {t e : TypeId} {n : Nat}
  (hg : P.globalNamed name = some g) (hty : (P.globals[g]?).map (·.type) = some t) (ht : P.underlying t = some (.array n e)) (he : P.underlying e = some (.int k)) (hce : P.cellsOf e = 1) (hct : P.cellsOf t = n)
  (h : Lib.VarReads P W name (Lib.tabData k zs)) : Lib.TabIs P W name k zs := by
 obtain ⟨g', t', cs, fuel, p, hg', ht', hvar, hd⟩ := h
 obtain rfl := Option.some.inj (hg.symm.trans hg')
 obtain rfl := Option.some.inj (hty.symm.trans ht')
 unfold Lib.TabIs
 rw [hvar, ← Lib.cells_of_tab ht he hce hct hd]
theorem tab_at {name : String} {k : IntKind} {zs : List Int} {g : Nat} (hg : P.globalNamed name = some g) (h : Lib.TabIs P W name k zs) (h0 : 0 < zs.length) : At (im0 W) (ad g 0) (zs.map fun z => .int k z) := by
 refine at_im0 (by rw [List.length_map]; exact h0) fun j v hj => ?_
 rw [List.getElem?_map] at hj
 cases hz : zs[j]? with
 | none => rw [hz] at hj; cases hj
 | some z =>
  rw [hz] at hj
  have hjl := (List.getElem?_eq_some_iff.1 hz).1
  have hc := h.cell hg j hjl
  rw [add_ad, Nat.zero_add, hc, List.getD_eq_getElem?_getD, hz, ← hj]
  rfl
variable {B w : World} {As : List Assn}
theorem block_sat {b : Nat} {o : Obj} (h : W.heap[b]? = some o) (hS : Sat B w (im0 W) As) : w.heap[b]? = some o := by
 obtain ⟨_, _, hg⟩ := hS
 exact hg.imm b o h
theorem tab_sat {name : String} {k : IntKind} {zs : List Int} (h : Lib.TabIs P W name k zs) (hS : Sat B w (im0 W) As) : Lib.TabIs P w name k zs := by
 unfold Lib.TabIs World.var? at h ⊢
 cases hg : P.globalNamed name with
 | none => rw [hg] at h; cases h
 | some g =>
  rw [hg] at h
  simp only [Option.bind_some] at h ⊢
  cases hb : W.heap[g]? with
  | none => rw [hb] at h; cases h
  | some o =>
   rw [block_sat hb hS]
   rw [hb] at h
   exact h
theorem cell_sat {a : Addr} {v : Value} (h : W.cell? a = some v) (hS : Sat B w (im0 W) As) : w.cell? a = some v := by
 unfold World.cell? at h ⊢
 cases hb : W.heap[a.block]? with
 | none => rw [hb] at h; cases h
 | some o => rw [block_sat hb hS]; rw [hb] at h; exact h
end
end Gk
namespace Go.Proofs.YtadhiihnnkcagaaGreatDoor
open Gk Pc
set_option linter.unusedVariables false
theorem digits_tab : Rows.laid_matricula_pct_digits (H := Unit) = Lib.tabData .u8 (HIGH.map fun c => (c.toNat : Int)) := by kernel_rfl
theorem pow_tab : Rows.laid_internal_strconv_uint64pow10 (H := Unit) = Lib.tabData .u64 Lib.pow10Tab := by kernel_rfl
def textData {H : Type} (zs : List (List UInt8)) : DataW H := .agg (zs.map fun z => .lit (.string z))
theorem pre_tab : Rows.laid_matricula_ticket_prefixes (H := Unit) = textData PREV := by kernel_rfl
theorem cells_of_texts {H : Type} {enc : TypeId × Value → H} {P : Program} {w : World} {base : Nat} {sp : Nat → Bool} {held : Bool} {fuel : Nat} {t e : TypeId} {n : Nat} {cs : List Value} {zs : List (List UInt8)} {p : List MemPlace}
  (ht : P.underlying t = some (.array n e)) (he : P.underlying e = some .string) (hce : P.cellsOf e = 1) (hct : P.cellsOf t = n)
  (h : DataW.trod enc P w base sp held fuel t cs = some (textData zs, p)) : cs = zs.map S := by
 cases fuel with
 | zero => simp [DataW.trod] at h
 | succ fuel =>
  simp only [DataW.trod, ht, hce, hct, Nat.mul_one] at h
  split at h
  ·rename_i hl
   obtain ⟨xs, hm, hx⟩ := Option.map_eq_some_iff.1 h
   have hxs : xs.map (·.1) = zs.map fun z => (DataW.lit (.string z) : DataW H) := by
    have := congrArg Prod.fst hx
    simpa [textData] using this
   have hxl : xs.length = n := by simpa using Lib.mapM_length hm
   have hzl : zs.length = n := by
    have := congrArg List.length hxs
    simp at this
    omega
   apply List.ext_getElem?
   intro i
   by_cases hi : i < n
   ·obtain ⟨b, hb, hf⟩ := Lib.mapM_at hm i i (by simp [hi])
    obtain ⟨z, hc, rfl, _⟩ := DataW.trod_string he hf
    have h1 : cs[i]? = some (.string z) := by
     have := congrArg (·[0]?) hc
     simpa [List.getElem?_take, List.getElem?_drop] using this
    have h2 : (xs.map (·.1))[i]? = some (DataW.lit (.string z.data.toList) : DataW H) := by simp [hb]
    rw [hxs] at h2
    simp only [List.getElem?_map, Option.map_eq_some_iff, DataW.lit.injEq, Lit.string.injEq] at h2
    obtain ⟨z', hz', e'⟩ := h2
    rw [h1, List.getElem?_map, hz', e']
    rfl
   ·rw [List.getElem?_eq_none (by omega), List.getElem?_eq_none (by simp; omega)]
  ·cases h
theorem pre_at {W : World} (h : Lib.VarReads Tryz.prog W "matricula/ticket.prefixes" Rows.laid_matricula_ticket_prefixes) : PreAt (im0 W) := by
 rw [pre_tab] at h
 obtain ⟨g', t', cs, fuel, p, hg', ht', hvar, hd⟩ := h
 obtain rfl := Option.some.inj ((show Tryz.prog.globalNamed "matricula/ticket.prefixes" = some 0 by kernel_rfl).symm.trans hg')
 obtain rfl := Option.some.inj ((show (Tryz.prog.globals[0]?).map (·.type) = some 208 by kernel_rfl).symm.trans ht')
 have hcs := cells_of_texts Tryz.underlying208 Tryz.underlying9 (by kernel_rfl) (by kernel_rfl) hd
 refine at_im0 (by decide) fun j v hj => ?_
 have h2 := World.var?_cell hg' hvar j
 rw [add_ad, Nat.zero_add]
 rw [← Array.getElem?_toList, hcs, hj] at h2
 exact h2
theorem known_of {W : World} (h1 : Lib.VarReads Tryz.prog W "matricula/pct.digits" Rows.laid_matricula_pct_digits) (h2 : Lib.VarReads Tryz.prog W "internal/strconv.uint64pow10" Rows.laid_internal_strconv_uint64pow10) (h3 : Lib.VarReads Tryz.prog W "matricula/ticket.prefixes" Rows.laid_matricula_ticket_prefixes) (hsh : W.ShapedOpen Tryz.prog) : Known (im0 W) ∧ PreAt (im0 W) := by
 refine ⟨?_, pre_at h3⟩
 rw [digits_tab] at h1
 rw [pow_tab] at h2
 have t1 := tabIs_of_reads (g := 3) (by kernel_rfl) (by kernel_rfl) Tryz.underlying279 Tryz.underlying5 (by kernel_rfl) (by kernel_rfl) h1
 have t2 := tabIs_of_reads (g := 4) (by kernel_rfl) (by kernel_rfl) Tryz.underlying296 Tryz.underlying118 (by kernel_rfl) (by kernel_rfl) h2
 refine ⟨tab_at (g := 3) (by kernel_rfl) t1 (by decide), fun B w As hS => tab_sat t2 hS, fun B w As hS => ?_⟩
 obtain ⟨m, hm⟩ := Go.Proofs.cell_of_shapedOpen_int (g := 2) (t := 3) (zero := #[.int .i64 0]) (k := .i64) hsh (by decide +kernel) (by kernel_rfl) (by kernel_rfl) (by kernel_rfl) (by kernel_rfl) Tryz.underlying3
 exact ⟨m, cell_sat hm hS⟩
end Go.Proofs.YtadhiihnnkcagaaGreatDoor
namespace Go.Proofs.YtadhiihnnkcagaaGreatDoor
open Gk Ul Pc Tk Tr Go.RowKit Go.WideShapes Go.ChangeShapes
set_option linter.unusedVariables false
set_option linter.unusedSimpArgs false
def akFit (q : Ak) : Prop := q.service.length ≤ maxLen ∧ q.cookie.length ≤ maxLen
set_option maxRecDepth 20000 in
theorem open_ask {H : Type} {enc : TypeId × Value → H} {W : World} {spare : Nat → Bool} {held : Bool} {fuel : Nat} {cs : List Value} {x : DataW H × List MemPlace} (h : DataW.trod enc Tryz.prog W 0 spare held fuel 95 cs = some x) : ∃ z : Ak, cs = akCells z ∧ akFit z := by
 obtain ⟨xs, n, _, _, hcl, hxl, hf⟩ := DataW.trod_struct Tryz.underlying95 h
 rw [show Tryz.prog.cellsOf 95 = 6 from by kernel_rfl] at hcl
 obtain ⟨y0, hy0⟩ : ∃ y, DataW.trod enc Tryz.prog W 0 spare held n 9 ((cs.drop 0).take (Tryz.prog.cellsOf 9)) = some y := ⟨_, (hf 0 _ rfl).trans (List.getElem?_eq_getElem (by rw [hxl]; decide))⟩
 rw [show Tryz.prog.cellsOf 9 = 1 from by kernel_rfl] at hy0
 obtain ⟨y1, hy1⟩ : ∃ y, DataW.trod enc Tryz.prog W 0 spare held n 9 ((cs.drop 1).take (Tryz.prog.cellsOf 9)) = some y := ⟨_, (hf 1 _ rfl).trans (List.getElem?_eq_getElem (by rw [hxl]; decide))⟩
 rw [show Tryz.prog.cellsOf 9 = 1 from by kernel_rfl] at hy1
 obtain ⟨y2, hy2⟩ : ∃ y, DataW.trod enc Tryz.prog W 0 spare held n 4 ((cs.drop 2).take (Tryz.prog.cellsOf 4)) = some y := ⟨_, (hf 2 _ rfl).trans (List.getElem?_eq_getElem (by rw [hxl]; decide))⟩
 rw [show Tryz.prog.cellsOf 4 = 1 from by kernel_rfl] at hy2
 obtain ⟨y3, hy3⟩ : ∃ y, DataW.trod enc Tryz.prog W 0 spare held n 4 ((cs.drop 3).take (Tryz.prog.cellsOf 4)) = some y := ⟨_, (hf 3 _ rfl).trans (List.getElem?_eq_getElem (by rw [hxl]; decide))⟩
 rw [show Tryz.prog.cellsOf 4 = 1 from by kernel_rfl] at hy3
 obtain ⟨y4, hy4⟩ : ∃ y, DataW.trod enc Tryz.prog W 0 spare held n 4 ((cs.drop 4).take (Tryz.prog.cellsOf 4)) = some y := ⟨_, (hf 4 _ rfl).trans (List.getElem?_eq_getElem (by rw [hxl]; decide))⟩
 rw [show Tryz.prog.cellsOf 4 = 1 from by kernel_rfl] at hy4
 obtain ⟨y5, hy5⟩ : ∃ y, DataW.trod enc Tryz.prog W 0 spare held n 4 ((cs.drop 5).take (Tryz.prog.cellsOf 4)) = some y := ⟨_, (hf 5 _ rfl).trans (List.getElem?_eq_getElem (by rw [hxl]; decide))⟩
 rw [show Tryz.prog.cellsOf 4 = 1 from by kernel_rfl] at hy5
 obtain ⟨v0, v1, v2, v3, v4, v5, rfl⟩ : ∃ v0 v1 v2 v3 v4 v5, cs = [v0, v1, v2, v3, v4, v5] := by
  match cs, hcl with
  | [v0, v1, v2, v3, v4, v5], _ => exact ⟨v0, v1, v2, v3, v4, v5, rfl⟩
 simp only [List.drop_succ_cons, List.drop_zero, List.take_succ_cons, List.take_zero] at hy0 hy1 hy2 hy3 hy4 hy5
 obtain ⟨z0, e0, _, w0⟩ := DataW.trod_string Tryz.underlying9 hy0
 obtain ⟨z1, e1, _, w1⟩ := DataW.trod_string Tryz.underlying9 hy1
 obtain ⟨z2, e2, _⟩ := DataW.trod_bool Tryz.underlying4 hy2
 obtain ⟨z3, e3, _⟩ := DataW.trod_bool Tryz.underlying4 hy3
 obtain ⟨z4, e4, _⟩ := DataW.trod_bool Tryz.underlying4 hy4
 obtain ⟨z5, e5, _⟩ := DataW.trod_bool Tryz.underlying4 hy5
 simp only [List.cons.injEq, and_true] at e0 e1 e2 e3 e4 e5
 subst e0 e1 e2 e3 e4 e5
 exact ⟨⟨z0.data.toList, z1.data.toList, z2, z3, z4, z5⟩, rfl, ⟨w0, w1⟩⟩
def wCells (d : Nat) : List Value := [U64 (d : Nat)]
theorem rowsW64 (l : List Nat) : rowsC wCells l = l.map fun d => U64 (d : Nat) := by
 unfold rowsC
 induction l with
 | nil => rfl
 | cons x l ih => rw [List.map_cons, List.flatten_cons, ih]; rfl
theorem open_word {H : Type} {enc : TypeId × Value → H} {W : World} {spare : Nat → Bool} {held : Bool} {fuel : Nat} {cs : List Value} {x : DataW H × List MemPlace} (h : DataW.trod enc Tryz.prog W 0 spare held fuel 118 cs = some x) : ∃ z : Nat, cs = wCells z ∧ z < 18446744073709551616 := by
 obtain ⟨z, e, _, w⟩ := DataW.trod_int Tryz.underlying118 h
 have w2 := w
 simp only [Lit.wf, Bool.and_eq_true, decide_eq_true_eq] at w2
 have h0 : (0 : Int) ≤ z := w2.1
 have h9 : z ≤ 18446744073709551615 := w2.2
 refine ⟨z.toNat, ?_, by omega⟩
 rw [e, wCells, Int.toNat_of_nonneg h0]
set_option maxRecDepth 20000 in
theorem open_op {H : Type} {enc : TypeId × Value → H} {W : World} {spare : Nat → Bool} {held : Bool} {fuel : Nat} {cs : List Value} {x : DataW H × List MemPlace} (h : DataW.trod enc Tryz.prog W 0 spare held fuel 97 cs = some x) : ∃ o : Op, OpAt (im0 W) o cs ∧ o.fits := by
 obtain ⟨xs, n, _, _, hcl, hxl, hf⟩ := DataW.trod_struct Tryz.underlying97 h
 rw [show Tryz.prog.cellsOf 97 = 23 from by kernel_rfl] at hcl
 obtain ⟨y0, hy0⟩ : ∃ y, DataW.trod enc Tryz.prog W 0 spare held n 3 ((cs.drop 0).take (Tryz.prog.cellsOf 3)) = some y := ⟨_, (hf 0 _ rfl).trans (List.getElem?_eq_getElem (by rw [hxl]; decide))⟩
 rw [show Tryz.prog.cellsOf 3 = 1 from by kernel_rfl] at hy0
 obtain ⟨y1, hy1⟩ : ∃ y, DataW.trod enc Tryz.prog W 0 spare held n 3 ((cs.drop 1).take (Tryz.prog.cellsOf 3)) = some y := ⟨_, (hf 1 _ rfl).trans (List.getElem?_eq_getElem (by rw [hxl]; decide))⟩
 rw [show Tryz.prog.cellsOf 3 = 1 from by kernel_rfl] at hy1
 obtain ⟨y2, hy2⟩ : ∃ y, DataW.trod enc Tryz.prog W 0 spare held n 81 ((cs.drop 2).take (Tryz.prog.cellsOf 81)) = some y := ⟨_, (hf 2 _ rfl).trans (List.getElem?_eq_getElem (by rw [hxl]; decide))⟩
 rw [show Tryz.prog.cellsOf 81 = 1 from by kernel_rfl] at hy2
 obtain ⟨y3, hy3⟩ : ∃ y, DataW.trod enc Tryz.prog W 0 spare held n 3 ((cs.drop 3).take (Tryz.prog.cellsOf 3)) = some y := ⟨_, (hf 3 _ rfl).trans (List.getElem?_eq_getElem (by rw [hxl]; decide))⟩
 rw [show Tryz.prog.cellsOf 3 = 1 from by kernel_rfl] at hy3
 obtain ⟨y4, hy4⟩ : ∃ y, DataW.trod enc Tryz.prog W 0 spare held n 9 ((cs.drop 4).take (Tryz.prog.cellsOf 9)) = some y := ⟨_, (hf 4 _ rfl).trans (List.getElem?_eq_getElem (by rw [hxl]; decide))⟩
 rw [show Tryz.prog.cellsOf 9 = 1 from by kernel_rfl] at hy4
 obtain ⟨y5, hy5⟩ : ∃ y, DataW.trod enc Tryz.prog W 0 spare held n 9 ((cs.drop 5).take (Tryz.prog.cellsOf 9)) = some y := ⟨_, (hf 5 _ rfl).trans (List.getElem?_eq_getElem (by rw [hxl]; decide))⟩
 rw [show Tryz.prog.cellsOf 9 = 1 from by kernel_rfl] at hy5
 obtain ⟨y6, hy6⟩ : ∃ y, DataW.trod enc Tryz.prog W 0 spare held n 4 ((cs.drop 6).take (Tryz.prog.cellsOf 4)) = some y := ⟨_, (hf 6 _ rfl).trans (List.getElem?_eq_getElem (by rw [hxl]; decide))⟩
 rw [show Tryz.prog.cellsOf 4 = 1 from by kernel_rfl] at hy6
 obtain ⟨y7, hy7⟩ : ∃ y, DataW.trod enc Tryz.prog W 0 spare held n 45 ((cs.drop 7).take (Tryz.prog.cellsOf 45)) = some y := ⟨_, (hf 7 _ rfl).trans (List.getElem?_eq_getElem (by rw [hxl]; decide))⟩
 rw [show Tryz.prog.cellsOf 45 = 10 from by kernel_rfl] at hy7
 obtain ⟨y8, hy8⟩ : ∃ y, DataW.trod enc Tryz.prog W 0 spare held n 95 ((cs.drop 17).take (Tryz.prog.cellsOf 95)) = some y := ⟨_, (hf 8 _ rfl).trans (List.getElem?_eq_getElem (by rw [hxl]; decide))⟩
 rw [show Tryz.prog.cellsOf 95 = 6 from by kernel_rfl] at hy8
 obtain ⟨v0, v1, v2, v3, v4, v5, v6, v7, v8, v9, v10, v11, v12, v13, v14, v15, v16, v17, v18, v19, v20, v21, v22, rfl⟩ : ∃ v0 v1 v2 v3 v4 v5 v6 v7 v8 v9 v10 v11 v12 v13 v14 v15 v16 v17 v18 v19 v20 v21 v22, cs = [v0, v1, v2, v3, v4, v5, v6, v7, v8, v9, v10, v11, v12, v13, v14, v15, v16, v17, v18, v19, v20, v21, v22] := by
  match cs, hcl with
  | [v0, v1, v2, v3, v4, v5, v6, v7, v8, v9, v10, v11, v12, v13, v14, v15, v16, v17, v18, v19, v20, v21, v22], _ => exact ⟨v0, v1, v2, v3, v4, v5, v6, v7, v8, v9, v10, v11, v12, v13, v14, v15, v16, v17, v18, v19, v20, v21, v22, rfl⟩
 simp only [List.drop_succ_cons, List.drop_zero, List.take_succ_cons, List.take_zero] at hy0 hy1 hy2 hy3 hy4 hy5 hy6 hy7 hy8
 obtain ⟨z0, e0, _, _⟩ := DataW.trod_int Tryz.underlying3 hy0
 obtain ⟨z1, e1, _, _⟩ := DataW.trod_int Tryz.underlying3 hy1
 obtain ⟨a, c, l, e2, h1, h2, h3, h4⟩ := open_flat (cells := wCells) (c := 1) (fit := fun z => z < 18446744073709551616) Tryz.underlying81 (by kernel_rfl) (by decide) (fun n cs y h => open_word h) hy2
 obtain ⟨z3, e3, _, _⟩ := DataW.trod_int Tryz.underlying3 hy3
 obtain ⟨z4, e4, _, w4⟩ := DataW.trod_string Tryz.underlying9 hy4
 obtain ⟨z5, e5, _, w5⟩ := DataW.trod_string Tryz.underlying9 hy5
 obtain ⟨z6, e6, _⟩ := DataW.trod_bool Tryz.underlying4 hy6
 obtain ⟨r, e7, _⟩ := open_rec hy7
 obtain ⟨q, e8, _⟩ := open_ask hy8
 unfold recCells at e7
 unfold akCells at e8
 simp only [List.cons.injEq, and_true] at e0 e1 e2 e3 e4 e5 e6 e7 e8
 subst e0 e1 e2 e3 e4 e5 e6
 obtain ⟨rfl, rfl, rfl, rfl, rfl, rfl, rfl, rfl, rfl, rfl⟩ := e7
 obtain ⟨rfl, rfl, rfl, rfl, rfl, rfl⟩ := e8
 exact ⟨⟨z0, z1, l, z3, z4.data.toList, z5.data.toList, z6, r, q⟩, ⟨a, c, rfl, h1, h2, by rw [← rowsW64]; exact h3⟩, ⟨h4, w4, w5⟩⟩
set_option maxRecDepth 20000 in
theorem open_ops {H : Type} {enc : TypeId × Value → H} {W : World} {spare : Nat → Bool} {held : Bool} {fuel : Nat} {cs : List Value} {x : DataW H × List MemPlace} (h : DataW.trod enc Tryz.prog W 0 spare held fuel 88 cs = some x) : ∃ (a : Option Addr) (cap : Nat) (l : List Op), cs = [.slice a l.length cap] ∧ l.length ≤ cap ∧ cap ≤ maxLen ∧ OpsAt (im0 W) a l ∧ ∀ o ∈ l, o.fits := by
 obtain ⟨a, cap, L, n, rfl, h1, h2, h3, h4, h5⟩ := open_rows (c := 23) Tryz.underlying88 (by kernel_rfl) (by decide) h
 have key : ∀ L : List (List Value), (∀ l ∈ L, ∃ y, DataW.trod enc Tryz.prog W 0 spare held n 97 l = some y) → ∃ l : List Op, L.length = l.length ∧ ∀ (i : Nat) (u : Op), l[i]? = some u → u.fits ∧ ∃ c, L[i]? = some c ∧ OpAt (im0 W) u c := by
  intro L
  induction L with
  | nil => intro _; exact ⟨[], rfl, fun i s h => by simp at h⟩
  | cons c L ih =>
   intro h
   obtain ⟨y, hy⟩ := h c (by simp)
   obtain ⟨s, hs, hf⟩ := open_op hy
   obtain ⟨l, e1, e2⟩ := ih (fun c hc => h c (by simp [hc]))
   refine ⟨s :: l, by simp [e1], fun i u hu => ?_⟩
   cases i with
   | zero => simp at hu; subst hu; exact ⟨hf, c, rfl, hs⟩
   | succ i => simpa using e2 i u (by simpa using hu)
 obtain ⟨l, e1, e2⟩ := key L h5
 refine ⟨a, cap, l, by rw [e1], by rw [← e1]; exact h1, h2, ⟨L, e1, h3, by rw [← e1]; exact h4, fun i u hu => (e2 i u hu).2⟩, fun u hu => ?_⟩
 obtain ⟨i, hi⟩ := List.mem_iff_getElem?.1 hu
 exact (e2 i u hi).1
end Go.Proofs.YtadhiihnnkcagaaGreatDoor
