/- Part 5 of what the proof stands on: W21e, W21h, W21i, W21j, Tbw, W21k, W21l, GkM, GkN, W21m, W21n, W18s, W18t, W18u. -/
import Derived.Test.YtadhiihnnkcagaaGreatDoorM2PD
import Derived.WideMake
namespace Go.Proofs.YtadhiihnnkcagaaGreatDoor
open Gk Ul Pc Tk Tr
set_option linter.unusedVariables false
set_option linter.unusedSimpArgs false
theorem info45_92 : Tryz.prog.info? 45 = some Tryz.t45 := by kernel_rfl
theorem bld127_92 : Bld Tryz.prog 127 [(0, 1), (1, 1)] [.int .i64 0, .slice none 0 0] := bld_of Tryz.underlying127 Tryz.zeroValue127 (fun w => by simp [go_sem])
theorem rowsR_snoc (l : List Rec) (r : Rec) : rowsR (l ++ [r]) = rowsR l ++ recCells r := by unfold rowsR; simp
theorem rowsR_set {r : Rec} : ∀ {l : List Rec} {j : Nat}, j < l.length → rowsR (l.set j r) = (rowsR l).take (j * 10) ++ recCells r ++ (rowsR l).drop (j * 10 + 10)
 | [], j, h => absurd h (by simp)
 | t :: l, 0, h => by
  unfold rowsR
  rw [List.set_cons_zero, List.map_cons, List.flatten_cons, List.map_cons, List.flatten_cons, List.drop_append_of_le_length (by exact Nat.le_refl 10)]
  rfl
 | t :: l, j + 1, h => by
  have h1 := rowsR_set (r := r) (l := l) (j := j) (by simpa using h)
  have e : ∀ l : List Rec, rowsR (t :: l) = recCells t ++ rowsR l := fun l => rfl
  rw [List.set_cons_succ, e, e, h1, show (j + 1) * 10 = (recCells t).length + j * 10 by show (j + 1) * 10 = 10 + j * 10; omega, List.take_length_add_append, Nat.add_assoc, List.drop_length_add_append]
  simp only [List.append_assoc]
theorem rec_one (r : Rec) : (recCells r).all Value.oneCell' = true := rfl
theorem rows_one : ∀ (l : List Rec), (rowsR l).all Value.oneCell' = true
 | [] => rfl
 | r :: l => by
  show (recCells r ++ rowsR l).all Value.oneCell' = true
  rw [List.all_append, rec_one, rows_one l]; rfl
theorem put_length (l : List Rec) (r : Rec) : (put l r).length = l.length := by
 unfold put
 split
 ·rw [List.length_set]
 ·rfl
def roomI (n : Int) : Int := max 0 (min n 64)
theorem treeNew_any (n : Int) (B w : World) (I : Im) (As : List Assn) (hS : Sat B w I As) :
  Calls Tryz.prog 92 [I64 n].toArray w (Ret fun v w' => ∃ tb, v = ptr tb 0 ∧ Sat B w' I (blk tb [I64 (roomI n), .slice none (([] : List Rec)).length 0] 127 :: Vec 45 10 (.slice none (([] : List Rec)).length 0) (([] : List Rec)).length (rowsR (([] : List Rec))) :: As)) := by
 refine calls Tryz.func92 rfl Tryz.ntmps92 rfl (.seq (.region (.run 1 rfl trivial (.nil (.seq (.region (.run 1 rfl trivial (.val (.min2 (.of rfl) (.of rfl)) rfl (.val (.max2 (.of rfl) (.of rfl)) rfl (.val (.build (cs := [_, _]) (parts_cons (.of rfl) parts_nil) bld127_92 rfl) rfl (.boxA (cs := [_, _]) hS (.of rfl) rfl ?_)))))))))))
 clear hS; intro b7 w hS
 refine .run 1 rfl trivial (.nil (.ret (ret1 Tryz.results92 rfl ?_)))
 refine ⟨_, rfl, _, rfl, ?_⟩
 exact (hS.vecNil 45 10).pick 1 rfl
theorem Put_any (tb : Nat) (room : Int) (a : Option Addr) (c : Nat) (l : List Rec) (hl : l.length ≤ 100000) (r : Rec) (hn : r.name.length ≤ 1000000) (hp : r.parent.length ≤ 1000000) (B w : World) (I : Im) (hK : Known I) (hP : PreAt I) (As : List Assn) (hS : Sat B w I (blk tb [I64 room, .slice a l.length c] 127 :: Vec 45 10 (.slice a l.length c) l.length (rowsR l) :: As)) :
  Calls Tryz.prog 95 [ptr tb 0, .agg (recCells r).toArray].toArray w (Ret fun v w' => v = I64 (putE l r : Nat) ∧ Sat B w' I (blk tb [I64 room, .slice a (put l r).length c] 127 :: Vec 45 10 (.slice a (put l r).length c) (put l r).length (rowsR (put l r)) :: As)) := by
 refine calls Tryz.func95 rfl Tryz.ntmps95 rfl (.seq (.region (.boxA (cs := [_, _, _, _, _, _, _, _, _, _]) hS (.of rfl) rfl ?_)))
 clear hS; intro b3 w hS
 refine .run 1 rfl trivial (.nil (.seq (.seq (.region ?_))))
 first | refine WL.val (.ldsW (cs := [_, _, _, _, _, _, _, _, _, _]) (.of rfl) hS (k := 0) rfl Tryz.isAgg45 Tryz.sizeOf45 rfl) rfl ?_ | refine WL.val (.lds (vs := [_, _, _, _, _, _, _, _, _, _]) (.of rfl) hS (k := 0) rfl Tryz.isAgg45 Tryz.sizeOf45 rfl (fun _ _ h => h)) rfl ?_ | refine WL.val (.ldsW (cs := [_, _, _, _, _, _, _, _, _, _]) (.of rfl) hS (k := 1) rfl Tryz.isAgg45 Tryz.sizeOf45 rfl) rfl ?_ | refine WL.val (.lds (vs := [_, _, _, _, _, _, _, _, _, _]) (.of rfl) hS (k := 1) rfl Tryz.isAgg45 Tryz.sizeOf45 rfl (fun _ _ h => h)) rfl ?_ | refine WL.val (.ldsW (cs := [_, _, _, _, _, _, _, _, _, _]) (.of rfl) hS (k := 2) rfl Tryz.isAgg45 Tryz.sizeOf45 rfl) rfl ?_ | refine WL.val (.lds (vs := [_, _, _, _, _, _, _, _, _, _]) (.of rfl) hS (k := 2) rfl Tryz.isAgg45 Tryz.sizeOf45 rfl (fun _ _ h => h)) rfl ?_ | refine WL.val (.ldsW (cs := [_, _, _, _, _, _, _, _, _, _]) (.of rfl) hS (k := 3) rfl Tryz.isAgg45 Tryz.sizeOf45 rfl) rfl ?_ | refine WL.val (.lds (vs := [_, _, _, _, _, _, _, _, _, _]) (.of rfl) hS (k := 3) rfl Tryz.isAgg45 Tryz.sizeOf45 rfl (fun _ _ h => h)) rfl ?_
 refine .call Tryz.func106 rfl (evs_cons (.of rfl) evs_nil) rfl (Right_any r hn hp B _ I hK hP _ hS) ?_
 clear hS
 rintro _ w ⟨rfl, hS⟩
 refine .run 1 rfl trivial (.nil ?_)
 refine WC.cond rfl (fun hb8 => ?_) (fun hb8 => ?_)
 ·
  have hc8 := hb8; try simp only [Gk.cs0] at hc8
  refine .seq (.region (.run 1 rfl trivial (.nil (.ret (ret1 Tryz.results95 rfl ?_)))))
  have h1 : rightR r = false := by simpa using hb8
  have hE : putE l r = 1 := by rw [putE, if_pos h1]
  have hQ : put l r = l := by rw [put, if_neg (by rw [hE]; decide)]
  rw [hE, hQ]
  exact ⟨_, rfl, rfl, hS.drop (k := 0) rfl⟩
 have hc8 := hb8; try simp only [Gk.cs0] at hc8
 refine .skip (.seq (.region (.run 1 rfl trivial ?_)))
 first | refine WL.val (.fieldAddr 1 (.of rfl) Tryz.underlying45 rfl rfl Tryz.sizeOf9 rfl) rfl ?_ | refine WL.val (.fieldAddrI 1 (.of rfl) Tryz.underlying45 rfl rfl Tryz.sizeOf9 rfl) rfl ?_
 first | refine WL.val (.ld (.of rfl) hS (k := 0) rfl Tryz.isAgg9 rfl) rfl ?_ | refine WL.val (.ld (.of rfl) hS (k := 1) rfl Tryz.isAgg9 rfl) rfl ?_ | refine WL.val (.ld (.of rfl) hS (k := 2) rfl Tryz.isAgg9 rfl) rfl ?_ | refine WL.val (.ld (.of rfl) hS (k := 3) rfl Tryz.isAgg9 rfl) rfl ?_
 refine .call Tryz.func61 rfl (evs_cons (.of rfl) (evs_cons (.of rfl) evs_nil)) rfl (at_any tb room a c l hl r.name B _ I _ ((hS.pick 2 rfl).pick 2 rfl)) ?_
 clear hS
 rintro _ w ⟨rfl, hS⟩
 replace hS := hS.pick 2 rfl
 refine .run 1 rfl trivial (.nil (.seq (.block (.seq (.region (.run 3 rfl trivial (.nil ?_)))))))
 refine WC.cond rfl (fun hb13 => ?_) (fun hb13 => ?_)
 ·
  have hc13 := hb13; try simp only [Gk.cs0] at hc13
  refine .seq (.region (.run 1 rfl trivial (.nil (.ret (ret1 Tryz.results95 rfl ?_)))))
  have h1 : ¬ rightR r = false := by simpa using hb8
  have h2 : get l r.name = none := by
   rcases Tr.get_at l r.name with ⟨_, h2⟩ | ⟨j, t, h2, _⟩
   ·exact h2
   ·exfalso; rw [h2] at hb13; have := of_decide_eq_true hb13; omega
  have hE : putE l r = 6 := by rw [putE, if_neg h1, h2]
  have hQ : put l r = l := by rw [put, if_neg (by rw [hE]; decide)]
  rw [hE, hQ]
  exact ⟨_, rfl, rfl, hS.drop (k := 0) rfl⟩
 have hc13 := hb13; try simp only [Gk.cs0] at hc13
 refine .seq ?_
 obtain ⟨j, t, hj, ht, hn2⟩ : ∃ (j : Nat) (t : Rec), at0 l r.name = (j : Int) ∧ l[j]? = some t ∧ get l r.name = some t := by
  rcases Tr.get_at l r.name with ⟨h1, _⟩ | ⟨j, t, h1, h2, _, h3⟩
  ·exfalso; rw [h1] at hb13; simp at hb13
  ·exact ⟨j, t, h1, h2, h3⟩
 have hjl := (List.getElem?_eq_some_iff.1 ht).1
 obtain ⟨p, rfl, _⟩ := recs_vec hS (k := 2) rfl j t ht
 rw [hj]
 refine .quiet (by kernel_rfl) (by kernel_rfl) hS (.val (fun w hS => (.move (.of rfl))) rfl (.val (fun w hS => (.nilCheck (.of rfl))) rfl ?_))
 refine WQ.val (fun w hS => (by first | exact .fieldAddr 1 (.of rfl) Tryz.underlying127 rfl rfl Tryz.sizeOf35 rfl | exact .fieldAddrI 1 (.of rfl) Tryz.underlying127 rfl rfl Tryz.sizeOf35 rfl)) rfl ?_
 refine WQ.val (fun w hS => (by first | exact (.ld (.of rfl) hS (k := 0) rfl Tryz.isAgg35 rfl) | exact (.ld (.of rfl) hS (k := 1) rfl Tryz.isAgg35 rfl) | exact (.ld (.of rfl) hS (k := 2) rfl Tryz.isAgg35 rfl) | exact (.ld (.of rfl) hS (k := 3) rfl Tryz.isAgg35 rfl))) rfl ?_
 refine .val (fun w hS => (.move (.of rfl))) rfl ?_
 refine WQ.val (fun w hS => (by first | exact .indexAddr (.of rfl) (.of rfl) (by omega) (by omega) Tryz.underlying35 Tryz.sizeOf45 | exact .indexAddrI (.of rfl) (.of rfl) (by omega) (by omega) Tryz.underlying35 Tryz.sizeOf45)) rfl ?_
 refine WQ.val (fun w hS => (by first | exact .fieldAddr 2 (.of rfl) Tryz.underlying45 rfl rfl Tryz.sizeOf9 rfl | exact .fieldAddrI 2 (.of rfl) Tryz.underlying45 rfl rfl Tryz.sizeOf9 rfl)) rfl ?_
 refine WQ.val (fun w hS => ldC (.of rfl) (by obtain ⟨p9, hp9, hx⟩ := recs_vec hS (k := 2) rfl j t ht; cases hp9; exact hx 2 _ rfl) Tryz.isAgg9) rfl ?_
 refine WQ.val (fun w hS => (by first | exact .fieldAddr 2 (.of rfl) Tryz.underlying45 rfl rfl Tryz.sizeOf9 rfl | exact .fieldAddrI 2 (.of rfl) Tryz.underlying45 rfl rfl Tryz.sizeOf9 rfl)) rfl ?_
 refine WQ.val (fun w hS => (by first | exact (.ld (.of rfl) hS (k := 0) rfl Tryz.isAgg9 rfl) | exact (.ld (.of rfl) hS (k := 1) rfl Tryz.isAgg9 rfl) | exact (.ld (.of rfl) hS (k := 2) rfl Tryz.isAgg9 rfl) | exact (.ld (.of rfl) hS (k := 3) rfl Tryz.isAgg9 rfl))) rfl ?_
 refine .val (fun w hS => (.nes (.of rfl) (.of rfl))) rfl (.val (fun w hS => (.assign (.of rfl))) rfl (.nil ?_))
 clear hS; intro w hS
 refine WC.cond rfl (fun hb16 => ?_) (fun hb16 => ?_)
 ·
  have hc16 := hb16; try simp only [Gk.cs0] at hc16
  refine .seq (.region (.run 1 rfl trivial (.nil (.ret (ret1 Tryz.results95 rfl ?_)))))
  have h1 : ¬ rightR r = false := by simpa using hb8
  have h2 : t.parent ≠ r.parent := by simpa using hb16
  have hE : putE l r = 8 := by rw [putE, if_neg h1, hn2]; exact if_pos h2
  have hQ : put l r = l := by rw [put, if_neg (by rw [hE]; decide)]
  rw [hE, hQ]
  exact ⟨_, rfl, rfl, hS.drop (k := 0) rfl⟩
 have hc16 := hb16; try simp only [Gk.cs0] at hc16
 refine .skip (.seq ?_)
 obtain ⟨gb, cap9, rest9, hv9, hc1, hc2, hl1, hl2, hS⟩ := hS.vecOpen (k := 2) rfl (by omega)
 injection hv9 with hv1 hv2 hv3
 injection hv1 with hv1
 subst hv1
 subst hv3
 try dsimp only [List.set] at hS
 refine .drawn (fun w => ∃ R, Sat B w I (blk b3 [I64 r.kind, S r.name, S r.parent, S r.user, S r.service, S r.url, I64 r.made, I64 r.used, I64 r.uses, .bool r.fresh] 45 :: blk tb [I64 room, .slice (some ⟨gb, 0, none⟩) l.length c] 127 :: blk gb (rowsR l ++ rest9) 45 :: R)) (fun j => !([7].contains j)) (by kernel_rfl) ?_
 replace hS := hS.drew; generalize w.drew = w at hS ⊢
 have hH : ∃ R, Sat B w I (blk b3 [I64 r.kind, S r.name, S r.parent, S r.user, S r.service, S r.url, I64 r.made, I64 r.used, I64 r.uses, .bool r.fresh] 45 :: blk tb [I64 room, .slice (some ⟨gb, 0, none⟩) l.length c] 127 :: blk gb (rowsR l ++ rest9) 45 :: R) := ⟨_, (((hS.pick 2 rfl).pick 2 rfl).pick 2 rfl)⟩
 refine .takeP (i := 0) rfl (by kernel_rfl) (by kernel_rfl) (by kernel_rfl) (fun w => (.move (.of rfl))) rfl (.takeP (i := 1) rfl (by kernel_rfl) (by kernel_rfl) (by kernel_rfl) (fun w => (.nilCheck (.of rfl))) rfl ?_)
 refine WD.takeP (i := 2) rfl (by kernel_rfl) (by kernel_rfl) (by kernel_rfl) (fun w => (by first | exact .fieldAddr 1 (.of rfl) Tryz.underlying127 rfl rfl Tryz.sizeOf35 rfl | exact .fieldAddrI 1 (.of rfl) Tryz.underlying127 rfl rfl Tryz.sizeOf35 rfl)) rfl ?_
 refine WD.take (i := 3) rfl (by kernel_rfl) (by kernel_rfl) (by kernel_rfl) (by kernel_rfl) hH (fun w ⟨R, hS⟩ => (by first | exact (.ld (.of rfl) hS (k := 0) rfl Tryz.isAgg35 rfl) | exact (.ld (.of rfl) hS (k := 1) rfl Tryz.isAgg35 rfl) | exact (.ld (.of rfl) hS (k := 2) rfl Tryz.isAgg35 rfl))) rfl ?_
 refine .takeP (i := 4) rfl (by kernel_rfl) (by kernel_rfl) (by kernel_rfl) (fun w => (.move (.of rfl))) rfl ?_
 refine WD.take (i := 5) rfl (by kernel_rfl) (by kernel_rfl) (by kernel_rfl) (by kernel_rfl) hH (fun w ⟨R, hS⟩ => (by first | exact (.ldsW (cs := [_, _, _, _, _, _, _, _, _, _]) (.of rfl) hS (k := 0) rfl Tryz.isAgg45 Tryz.sizeOf45 rfl) | exact (.lds (vs := [_, _, _, _, _, _, _, _, _, _]) (.of rfl) hS (k := 0) rfl Tryz.isAgg45 Tryz.sizeOf45 rfl (fun _ _ h => h)) | exact (.ldsW (cs := [_, _, _, _, _, _, _, _, _, _]) (.of rfl) hS (k := 1) rfl Tryz.isAgg45 Tryz.sizeOf45 rfl) | exact (.lds (vs := [_, _, _, _, _, _, _, _, _, _]) (.of rfl) hS (k := 1) rfl Tryz.isAgg45 Tryz.sizeOf45 rfl (fun _ _ h => h)) | exact (.ldsW (cs := [_, _, _, _, _, _, _, _, _, _]) (.of rfl) hS (k := 2) rfl Tryz.isAgg45 Tryz.sizeOf45 rfl) | exact (.lds (vs := [_, _, _, _, _, _, _, _, _, _]) (.of rfl) hS (k := 2) rfl Tryz.isAgg45 Tryz.sizeOf45 rfl (fun _ _ h => h)))) rfl ?_
 refine WD.takeP (i := 6) rfl (by kernel_rfl) (by kernel_rfl) (by kernel_rfl) (fun w => (by first | exact .indexAddr (.of rfl) (.of rfl) (by omega) (by omega) Tryz.underlying35 Tryz.sizeOf45 | exact .indexAddrI (.of rfl) (.of rfl) (by omega) (by omega) Tryz.underlying35 Tryz.sizeOf45)) rfl ?_
 refine WD.branch [7] (by kernel_rfl) rfl (WO.cons rfl ?_ (WO.nil))
 refine WL.stA hS (k := 2) rfl (.of rfl) (.of rfl) rfl Tryz.sizeOf45 rfl (by simp only [List.length_append]; omega) ?_
 clear hS; intro w hS; try dsimp only [List.set] at hS
 rw [Nat.zero_add, List.take_append_of_le_length (by omega), List.drop_append_of_le_length (by omega), ← List.append_assoc] at hS
 replace hS := hS.drop (k := 0) rfl
 try dsimp only [List.eraseIdx] at hS
 replace hS := hS.vecShut (n := l.length) (size := 10) (k := 1) rfl hc1 hc2 (by simp only [List.length_append, List.length_take, List.length_drop, List.length_cons, List.length_nil]; omega) (by simp only [List.length_append, List.length_take, List.length_drop, List.length_cons, List.length_nil]; omega)
 try dsimp only [List.set] at hS
 refine .nil ?_
 refine And.intro (by intro h; cases h) ?_
 refine .done (by kernel_rfl) (.seq (.region (.run 1 rfl trivial (.nil (.ret (ret1 Tryz.results95 rfl ?_))))))
 have h1 : ¬ rightR r = false := by simpa using hb8
 have h2 : ¬ t.parent ≠ r.parent := by simpa using hb16
 have hE : putE l r = 0 := by rw [putE, if_neg h1, hn2]; exact if_neg h2
 have hQ : put l r = l.set j r := by rw [put, if_pos hE, hj, Int.toNat_natCast]
 rw [hE, put_length, hQ, rowsR_set hjl]
 exact ⟨_, rfl, rfl, hS⟩
theorem Add_any (tb : Nat) (room : Int) (a : Option Addr) (c : Nat) (l : List Rec) (hl : l.length ≤ 100000) (r : Rec) (hn : r.name.length ≤ 1000000) (hp : r.parent.length ≤ 1000000) (B w : World) (I : Im) (hK : Known I) (hP : PreAt I) (As : List Assn) (hS : Sat B w I (blk tb [I64 room, .slice a l.length c] 127 :: Vec 45 10 (.slice a l.length c) l.length (rowsR l) :: As)) :
  Calls Tryz.prog 57 [ptr tb 0, .agg (recCells r).toArray].toArray w (Ret fun v w' => v = I64 (addE room l r : Nat) ∧ ∃ a c, Sat B w' I (blk tb [I64 room, .slice a (add room l r).length c] 127 :: Vec 45 10 (.slice a (add room l r).length c) (add room l r).length (rowsR (add room l r)) :: As)) := by
 refine calls Tryz.func57 rfl Tryz.ntmps57 rfl (.seq (.region (.boxA (cs := [_, _, _, _, _, _, _, _, _, _]) hS (.of rfl) rfl ?_)))
 clear hS; intro b3 w hS
 refine .run 1 rfl trivial (.nil (.seq (.block (.seq (.region ?_)))))
 first | refine WL.val (.ldsW (cs := [_, _, _, _, _, _, _, _, _, _]) (.of rfl) hS (k := 0) rfl Tryz.isAgg45 Tryz.sizeOf45 rfl) rfl ?_ | refine WL.val (.lds (vs := [_, _, _, _, _, _, _, _, _, _]) (.of rfl) hS (k := 0) rfl Tryz.isAgg45 Tryz.sizeOf45 rfl (fun _ _ h => h)) rfl ?_ | refine WL.val (.ldsW (cs := [_, _, _, _, _, _, _, _, _, _]) (.of rfl) hS (k := 1) rfl Tryz.isAgg45 Tryz.sizeOf45 rfl) rfl ?_ | refine WL.val (.lds (vs := [_, _, _, _, _, _, _, _, _, _]) (.of rfl) hS (k := 1) rfl Tryz.isAgg45 Tryz.sizeOf45 rfl (fun _ _ h => h)) rfl ?_ | refine WL.val (.ldsW (cs := [_, _, _, _, _, _, _, _, _, _]) (.of rfl) hS (k := 2) rfl Tryz.isAgg45 Tryz.sizeOf45 rfl) rfl ?_ | refine WL.val (.lds (vs := [_, _, _, _, _, _, _, _, _, _]) (.of rfl) hS (k := 2) rfl Tryz.isAgg45 Tryz.sizeOf45 rfl (fun _ _ h => h)) rfl ?_ | refine WL.val (.ldsW (cs := [_, _, _, _, _, _, _, _, _, _]) (.of rfl) hS (k := 3) rfl Tryz.isAgg45 Tryz.sizeOf45 rfl) rfl ?_ | refine WL.val (.lds (vs := [_, _, _, _, _, _, _, _, _, _]) (.of rfl) hS (k := 3) rfl Tryz.isAgg45 Tryz.sizeOf45 rfl (fun _ _ h => h)) rfl ?_
 refine .call Tryz.func106 rfl (evs_cons (.of rfl) evs_nil) rfl (Right_any r hn hp B _ I hK hP _ hS) ?_
 clear hS
 rintro _ w ⟨rfl, hS⟩
 refine .run 2 rfl trivial (.nil ?_)
 refine WC.cond rfl (fun hb5 => ?_) (fun hb5 => ?_)
 ·
  have hc5 := hb5; try simp only [Gk.cs0] at hc5
  refine .seq (.region (.run 1 rfl trivial (.nil (.ret (ret1 Tryz.results57 rfl ?_)))))
  have hE : addE room l r = 1 := by rw [addE, if_pos (by simpa using hb5)]
  have hQ : add room l r = l := by rw [add, if_neg (by rw [hE]; decide)]
  rw [hE, hQ]
  exact ⟨_, rfl, rfl, a, c, hS.drop (k := 0) rfl⟩
 have hc5 := hb5; try simp only [Gk.cs0] at hc5
 refine .seq (.region (.run 1 rfl trivial ?_))
 first | refine WL.val (.fieldAddr 1 (.of rfl) Tryz.underlying45 rfl rfl Tryz.sizeOf9 rfl) rfl ?_ | refine WL.val (.fieldAddrI 1 (.of rfl) Tryz.underlying45 rfl rfl Tryz.sizeOf9 rfl) rfl ?_
 first | refine WL.val (.ld (.of rfl) hS (k := 0) rfl Tryz.isAgg9 rfl) rfl ?_ | refine WL.val (.ld (.of rfl) hS (k := 1) rfl Tryz.isAgg9 rfl) rfl ?_ | refine WL.val (.ld (.of rfl) hS (k := 2) rfl Tryz.isAgg9 rfl) rfl ?_ | refine WL.val (.ld (.of rfl) hS (k := 3) rfl Tryz.isAgg9 rfl) rfl ?_
 refine .call Tryz.func61 rfl (evs_cons (.of rfl) (evs_cons (.of rfl) evs_nil)) rfl (at_any tb room a c l hl r.name B _ I _ ((hS.pick 2 rfl).pick 2 rfl)) ?_
 clear hS
 rintro _ w ⟨rfl, hS⟩
 refine .run 2 rfl trivial (.nil ?_)
 refine WC.cond rfl (fun hb9 => ?_) (fun hb9 => ?_)
 ·
  have hc9 := hb9; try simp only [Gk.cs0] at hc9
  refine .seq (.region (.run 1 rfl trivial (.nil (.ret (ret1 Tryz.results57 rfl ?_)))))
  have h1 : ¬ rightR r = false := by simpa using hb5
  have hE : addE room l r = 7 := by rw [addE, if_neg h1, if_pos (by simpa using hb9)]
  have hQ : add room l r = l := by rw [add, if_neg (by rw [hE]; decide)]
  rw [hE, hQ]
  exact ⟨_, rfl, rfl, a, c, hS.drop (k := 2) rfl⟩
 have hc9 := hb9; try simp only [Gk.cs0] at hc9
 refine .seq (.region ?_)
 first | refine WL.val (.fieldAddr 2 (.of rfl) Tryz.underlying45 rfl rfl Tryz.sizeOf9 rfl) rfl ?_ | refine WL.val (.fieldAddrI 2 (.of rfl) Tryz.underlying45 rfl rfl Tryz.sizeOf9 rfl) rfl ?_
 first | refine WL.val (.ld (.of rfl) hS (k := 0) rfl Tryz.isAgg9 rfl) rfl ?_ | refine WL.val (.ld (.of rfl) hS (k := 1) rfl Tryz.isAgg9 rfl) rfl ?_ | refine WL.val (.ld (.of rfl) hS (k := 2) rfl Tryz.isAgg9 rfl) rfl ?_ | refine WL.val (.ld (.of rfl) hS (k := 3) rfl Tryz.isAgg9 rfl) rfl ?_
 refine .run 2 rfl trivial (.gval rfl rfl (fun hg1 => (.move (.of rfl))) rfl ?_)
 refine WL.gval rfl rfl (fun hg1 => (by first | exact .fieldAddr 2 (.of rfl) Tryz.underlying45 rfl rfl Tryz.sizeOf9 rfl | exact .fieldAddrI 2 (.of rfl) Tryz.underlying45 rfl rfl Tryz.sizeOf9 rfl)) rfl ?_
 refine WL.gval rfl rfl (fun hg1 => (by first | exact (.ld (.gd hg1 rfl) hS (k := 0) rfl Tryz.isAgg9 rfl) | exact (.ld (.gd hg1 rfl) hS (k := 1) rfl Tryz.isAgg9 rfl) | exact (.ld (.gd hg1 rfl) hS (k := 2) rfl Tryz.isAgg9 rfl) | exact (.ld (.gd hg1 rfl) hS (k := 3) rfl Tryz.isAgg9 rfl))) rfl ?_
 refine .gcall (T := fun w => Sat B w I (blk tb [I64 room, .slice a l.length c] 127 :: Vec 45 10 (.slice a l.length c) l.length (rowsR l) :: blk b3 [I64 r.kind, S r.name, S r.parent, S r.user, S r.service, S r.url, I64 r.made, I64 r.used, I64 r.uses, .bool r.fresh] 45 :: As)) rfl rfl rfl Tryz.func61 rfl (fun hg1 => (evs_cons (.gd hg1 rfl) (evs_cons (.gd hg1 rfl) evs_nil))) rfl (fun hg1 => at_any tb room a c l hl r.parent B _ I _ hS) hS ?_
 clear hS; rintro w hS
 refine .gval rfl rfl (fun hg1 => (.lss (.gd hg1 rfl) (.of rfl))) rfl (.val (.pand (.of rfl) (.of rfl) (.of rfl)) rfl (.run 1 rfl trivial (.nil ?_)))
 refine WC.cond rfl (fun hb15 => ?_) (fun hb15 => ?_)
 ·
  have hc15 := hb15; try simp only [Gk.cs0] at hc15
  refine .seq (.region (.run 1 rfl trivial (.nil (.ret (ret1 Tryz.results57 rfl ?_)))))
  have h1 : ¬ rightR r = false := by simpa using hb5
  have h2 : ¬ 0 ≤ at0 l r.name := by simpa using hb9
  have hE : addE room l r = 6 := by rw [addE, if_neg h1, if_neg h2, if_pos (by simpa using hb15)]
  have hQ : add room l r = l := by rw [add, if_neg (by rw [hE]; decide)]
  rw [hE, hQ]
  exact ⟨_, rfl, rfl, a, c, hS.drop (k := 2) rfl⟩
 have hc15 := hb15; try simp only [Gk.cs0] at hc15
 refine .seq (.quiet (by kernel_rfl) (by kernel_rfl) hS (.val (fun w hS => (.move (.of rfl))) rfl (.val (fun w hS => (.nilCheck (.of rfl))) rfl ?_)))
 refine WQ.val (fun w hS => (by first | exact .fieldAddr 1 (.of rfl) Tryz.underlying127 rfl rfl Tryz.sizeOf35 rfl | exact .fieldAddrI 1 (.of rfl) Tryz.underlying127 rfl rfl Tryz.sizeOf35 rfl)) rfl ?_
 refine WQ.val (fun w hS => (by first | exact (.ld (.of rfl) hS (k := 0) rfl Tryz.isAgg35 rfl) | exact (.ld (.of rfl) hS (k := 1) rfl Tryz.isAgg35 rfl) | exact (.ld (.of rfl) hS (k := 2) rfl Tryz.isAgg35 rfl) | exact (.ld (.of rfl) hS (k := 3) rfl Tryz.isAgg35 rfl))) rfl ?_
 refine .val (fun w hS => (.lenSlice (.of rfl) Tryz.underlying35)) rfl (.val (fun w hS => (.move (.of rfl))) rfl (.val (fun w hS => (.nilCheck (.of rfl))) rfl ?_))
 refine WQ.val (fun w hS => (by first | exact .fieldAddr 0 (.of rfl) Tryz.underlying127 rfl rfl Tryz.sizeOf3 rfl | exact .fieldAddrI 0 (.of rfl) Tryz.underlying127 rfl rfl Tryz.sizeOf3 rfl)) rfl ?_
 refine WQ.val (fun w hS => (by first | exact (.ld (.of rfl) hS (k := 0) rfl Tryz.isAgg3 rfl) | exact (.ld (.of rfl) hS (k := 1) rfl Tryz.isAgg3 rfl) | exact (.ld (.of rfl) hS (k := 2) rfl Tryz.isAgg3 rfl) | exact (.ld (.of rfl) hS (k := 3) rfl Tryz.isAgg3 rfl))) rfl ?_
 refine .val (fun w hS => (.geq (.of rfl) (.of rfl))) rfl (.val (fun w hS => (.assign (.of rfl))) rfl (.nil ?_))
 clear hS; intro w hS
 refine WC.cond rfl (fun hb26 => ?_) (fun hb26 => ?_)
 ·
  have hc26 := hb26; try simp only [Gk.cs0] at hc26
  refine .seq (.region (.run 1 rfl trivial (.nil (.ret (ret1 Tryz.results57 rfl ?_)))))
  have h1 : ¬ rightR r = false := by simpa using hb5
  have h2 : ¬ 0 ≤ at0 l r.name := by simpa using hb9
  have h3 : ¬ (r.parent ≠ [] ∧ at0 l r.parent < 0) := fun h => by
   rcases hc15 with e | e
   ·exact h.1 e
   ·omega
  have hE : addE room l r = 5 := by rw [addE, if_neg h1, if_neg h2, if_neg h3, if_pos (by simpa using hb26)]
  have hQ : add room l r = l := by rw [add, if_neg (by rw [hE]; decide)]
  rw [hE, hQ]
  exact ⟨_, rfl, rfl, a, c, hS.drop (k := 2) rfl⟩
 have hc26 := hb26; try simp only [Gk.cs0] at hc26
 refine .skip (.seq (.drawn (fun w => ∃ R, Sat B w I (blk b3 [I64 r.kind, S r.name, S r.parent, S r.user, S r.service, S r.url, I64 r.made, I64 r.used, I64 r.uses, .bool r.fresh] 45 :: blk tb [I64 room, .slice a l.length c] 127 :: R)) (fun j => !([10].contains j)) (by kernel_rfl) ?_))
 replace hS := hS.drew; generalize w.drew = w at hS ⊢
 have hH : ∃ R, Sat B w I (blk b3 [I64 r.kind, S r.name, S r.parent, S r.user, S r.service, S r.url, I64 r.made, I64 r.used, I64 r.uses, .bool r.fresh] 45 :: blk tb [I64 room, .slice a l.length c] 127 :: R) := ⟨_, ((hS.pick 0 rfl).pick 2 rfl)⟩
 refine .takeP (i := 0) rfl (by kernel_rfl) (by kernel_rfl) (by kernel_rfl) (fun w => (.move (.of rfl))) rfl (.takeP (i := 1) rfl (by kernel_rfl) (by kernel_rfl) (by kernel_rfl) (fun w => (.move (.of rfl))) rfl (.takeP (i := 2) rfl (by kernel_rfl) (by kernel_rfl) (by kernel_rfl) (fun w => (.nilCheck (.of rfl))) rfl ?_))
 refine WD.takeP (i := 3) rfl (by kernel_rfl) (by kernel_rfl) (by kernel_rfl) (fun w => (by first | exact .fieldAddr 1 (.of rfl) Tryz.underlying127 rfl rfl Tryz.sizeOf35 rfl | exact .fieldAddrI 1 (.of rfl) Tryz.underlying127 rfl rfl Tryz.sizeOf35 rfl)) rfl ?_
 refine WD.take (i := 4) rfl (by kernel_rfl) (by kernel_rfl) (by kernel_rfl) (by kernel_rfl) hH (fun w ⟨R, hS⟩ => (by first | exact (.ld (.of rfl) hS (k := 0) rfl Tryz.isAgg35 rfl) | exact (.ld (.of rfl) hS (k := 1) rfl Tryz.isAgg35 rfl))) rfl ?_
 refine WD.take (i := 5) rfl (by kernel_rfl) (by kernel_rfl) (by kernel_rfl) (by kernel_rfl) hH (fun w ⟨R, hS⟩ => (by first | exact (.ldsW (cs := [_, _, _, _, _, _, _, _, _, _]) (.of rfl) hS (k := 0) rfl Tryz.isAgg45 Tryz.sizeOf45 rfl) | exact (.lds (vs := [_, _, _, _, _, _, _, _, _, _]) (.of rfl) hS (k := 0) rfl Tryz.isAgg45 Tryz.sizeOf45 rfl (fun _ _ h => h)) | exact (.ldsW (cs := [_, _, _, _, _, _, _, _, _, _]) (.of rfl) hS (k := 1) rfl Tryz.isAgg45 Tryz.sizeOf45 rfl) | exact (.lds (vs := [_, _, _, _, _, _, _, _, _, _]) (.of rfl) hS (k := 1) rfl Tryz.isAgg45 Tryz.sizeOf45 rfl (fun _ _ h => h)))) rfl ?_
 refine WD.branch [6] (by kernel_rfl) rfl (WO.cons rfl ?_ (WO.nil))
 refine .buildSlice (cs := [_, _, _, _, _, _, _, _, _, _]) hS (parts_cons (.of rfl) parts_nil) Tryz.underlying35 Tryz.sizeOf45 Tryz.zeroValue45 rfl rfl rfl rfl ?_
 clear hS; intro b43 w hS
 refine .nil ?_
 clear hH
 have hH : ∃ R, Sat B w I (blk b3 [I64 r.kind, S r.name, S r.parent, S r.user, S r.service, S r.url, I64 r.made, I64 r.used, I64 r.uses, .bool r.fresh] 45 :: blk tb [I64 room, .slice a l.length c] 127 :: R) := ⟨_, ((hS.pick 1 rfl).pick 3 rfl)⟩
 refine And.intro (by intro _ _; exact hH) ?_
 refine WD.branch [7] (by kernel_rfl) rfl (WO.cons rfl ?_ (WO.nil))
 first | refine WL.append (size := 10) (bytes := 120) hS (.of rfl) (.of rfl) (k := 0) rfl Tryz.underlying35 info45_92 rfl rfl rfl rfl rfl rfl rfl ⟨by omega, by unfold maxLen; omega⟩ rfl ?_ | refine WL.append (size := 10) (bytes := 120) hS (.of rfl) (.of rfl) (k := 1) rfl Tryz.underlying35 info45_92 rfl rfl rfl rfl rfl rfl rfl ⟨by omega, by unfold maxLen; omega⟩ rfl ?_ | refine WL.append (size := 10) (bytes := 120) hS (.of rfl) (.of rfl) (k := 2) rfl Tryz.underlying35 info45_92 rfl rfl rfl rfl rfl rfl rfl ⟨by omega, by unfold maxLen; omega⟩ rfl ?_
 clear hS; intro v44 w hS; try dsimp only [List.set] at hS
 first | obtain ⟨a44, c44, rfl, hcap44, _⟩ := hS.vecSlice (k := 0) (v := v44) rfl | obtain ⟨a44, c44, rfl, hcap44, _⟩ := hS.vecSlice (k := 1) (v := v44) rfl | obtain ⟨a44, c44, rfl, hcap44, _⟩ := hS.vecSlice (k := 2) (v := v44) rfl
 refine .nil ?_
 clear hH
 have hH : ∃ R, Sat B w I (blk b3 [I64 r.kind, S r.name, S r.parent, S r.user, S r.service, S r.url, I64 r.made, I64 r.used, I64 r.uses, .bool r.fresh] 45 :: blk tb [I64 room, .slice a l.length c] 127 :: R) := ⟨_, ((hS.pick 0 rfl).pick 2 rfl)⟩
 refine And.intro (by intro _ _; exact hH) ?_
 refine .takeP (i := 8) rfl (by kernel_rfl) (by kernel_rfl) (by kernel_rfl) (fun w => (.nilCheck (.of rfl))) rfl ?_
 refine WD.takeP (i := 9) rfl (by kernel_rfl) (by kernel_rfl) (by kernel_rfl) (fun w => (by first | exact .fieldAddr 1 (.of rfl) Tryz.underlying127 rfl rfl Tryz.sizeOf35 rfl | exact .fieldAddrI 1 (.of rfl) Tryz.underlying127 rfl rfl Tryz.sizeOf35 rfl)) rfl ?_
 refine WD.branch [10] (by kernel_rfl) rfl (WO.cons rfl ?_ (WO.nil))
 first | refine WL.st1 hS (k := 0) rfl (.of rfl) (.of rfl) rfl Tryz.sizeOf35 (by simp) ?_ | refine WL.st1 hS (k := 1) rfl (.of rfl) (.of rfl) rfl Tryz.sizeOf35 (by simp) ?_ | refine WL.st1 hS (k := 2) rfl (.of rfl) (.of rfl) rfl Tryz.sizeOf35 (by simp) ?_
 clear hS; intro w hS; try dsimp only [List.set] at hS
 refine .nil ?_
 refine And.intro (by intro h; cases h) ?_
 refine .done (by kernel_rfl) (.seq (.region (.run 1 rfl trivial (.nil (.ret (ret1 Tryz.results57 rfl ?_))))))
 have h1 : ¬ rightR r = false := by simpa using hb5
 have h2 : ¬ 0 ≤ at0 l r.name := by simpa using hb9
 have h3 : ¬ (r.parent ≠ [] ∧ at0 l r.parent < 0) := fun h => by
  rcases hc15 with e | e
  ·exact h.1 e
  ·omega
 have hE : addE room l r = 0 := by rw [addE, if_neg h1, if_neg h2, if_neg h3, if_neg (by simpa using hb26)]
 have hQ : add room l r = l ++ [r] := by rw [add, if_pos hE]
 rw [hE, hQ]
 refine ⟨_, rfl, rfl, a44, c44, ?_⟩
 rw [rowsR_snoc, List.length_append]
 exact hS.drop (k := 2) rfl
theorem CloneR_any (a : Option Addr) (c : Nat) (l : List Rec) (hl : l.length ≤ 100000) (B w : World) (I : Im) (As : List Assn) (hS : Sat B w I (Vec 45 10 (.slice a l.length c) l.length (rowsR l) :: As)) :
  Calls Tryz.prog 79 [.slice a l.length c].toArray w (Ret fun v w' => ∃ v', v = v' ∧ Sat B w' I (Vec 45 10 v' l.length (rowsR l) :: Vec 45 10 (.slice a l.length c) l.length (rowsR l) :: As)) := by
 refine calls Tryz.func79 rfl Tryz.ntmps79 rfl (.seq (.region (.run 1 rfl trivial (.nil (.seq (.seq (.region (.run 1 rfl trivial (.val (Ex.slNil (.of rfl) (.of rfl) Tryz.underlying35) rfl (.nil ?_))))))))))
 refine WC.cond rfl (fun hb4 => ?_) (fun hb4 => ?_)
 ·
  have hc4 := hb4; try simp only [Gk.cs0] at hc4
  refine .seq (.region (.run 1 rfl trivial (.nil (.ret (ret1 Tryz.results79 rfl ?_)))))
  cases a with
  | some p => simp at hb4
  | none =>
  have h0 : l = [] := hS.pure_ (k := 0) rfl fun _ ⟨_, hh⟩ => by
   rcases hh with ⟨_, h, _⟩ | ⟨b, cap, r, hv, _⟩
   ·exact List.eq_nil_of_length_eq_zero h
   ·cases hv
  subst h0
  exact ⟨_, rfl, .slice none 0 0, rfl, hS.vecNil 45 10⟩
 have hc4 := hb4; try simp only [Gk.cs0] at hc4
 refine .skip (.seq (.region (.buildSlice (cs := []) hS parts_nil Tryz.underlying35 Tryz.sizeOf45 Tryz.zeroValue45 rfl rfl rfl rfl ?_)))
 clear hS; intro b5 w hS
 refine .run 1 rfl trivial ?_
 replace hS := hS.vecOf (k := 0) (E := 45) (size := 10) (n := 0) rfl rfl (Nat.zero_le _)
 try dsimp only [List.set] at hS
 refine WL.appendV (size := 10) (bytes := 120) hS (.of rfl) (.of rfl) (k := 0) (j := 1) rfl rfl Tryz.underlying35 (i := Tryz.t45) (by kernel_rfl) rfl rfl rfl rfl (rows_one l) ⟨by omega, by unfold maxLen; omega⟩ rfl ?_
 clear hS; intro v7 w hS
 rw [Nat.zero_add, List.nil_append] at hS
 refine .run 1 rfl trivial (.nil (.ret (ret1 Tryz.results79 rfl ?_)))
 exact ⟨_, rfl, v7, rfl, hS⟩
theorem TreeAll_any (tb : Nat) (room : Int) (a : Option Addr) (c : Nat) (l : List Rec) (hl : l.length ≤ 100000) (B w : World) (I : Im) (As : List Assn) (hS : Sat B w I (blk tb [I64 room, .slice a l.length c] 127 :: Vec 45 10 (.slice a l.length c) l.length (rowsR l) :: As)) :
  Calls Tryz.prog 29 [ptr tb 0].toArray w (Ret fun v w' => ∃ J ra rc, v = .slice ra l.length rc ∧ Le I J ∧ l.length ≤ rc ∧ RS J ra 10 l.length (rowsR l) ∧ Sat B w' J (blk tb [I64 room, .slice a l.length c] 127 :: Vec 45 10 (.slice a l.length c) l.length (rowsR l) :: As)) := by
 refine calls Tryz.func29 rfl Tryz.ntmps29 rfl (.seq (.region (.run 1 rfl trivial (.nil (.seq (.region (.run 2 rfl trivial ?_)))))))
 first | refine WL.val (.fieldAddr 1 (.of rfl) Tryz.underlying127 rfl rfl Tryz.sizeOf35 rfl) rfl ?_ | refine WL.val (.fieldAddrI 1 (.of rfl) Tryz.underlying127 rfl rfl Tryz.sizeOf35 rfl) rfl ?_
 first | refine WL.val (.ld (.of rfl) hS (k := 0) rfl Tryz.isAgg35 rfl) rfl ?_ | refine WL.val (.ld (.of rfl) hS (k := 1) rfl Tryz.isAgg35 rfl) rfl ?_
 refine .call Tryz.func79 rfl (evs_cons (.of rfl) evs_nil) rfl (CloneR_any a c l hl B _ I _ (hS.pick 1 rfl)) ?_
 clear hS
 rintro _ w ⟨v7, rfl, hS⟩
 refine .run 1 rfl trivial (.nil (.ret (ret1 Tryz.results29 rfl ?_)))
 obtain ⟨ra, rc, rfl, hrc, _⟩ := hS.vecSlice (k := 0) rfl
 obtain ⟨J, hJ, hRS, hS⟩ := hS.freezeVec (k := 0) rfl
 exact ⟨_, rfl, J, ra, rc, rfl, hJ, hrc, hRS, hS.pick 1 rfl⟩
end Go.Proofs.YtadhiihnnkcagaaGreatDoor
namespace Go.Proofs.YtadhiihnnkcagaaGreatDoor
open Gk Ul Pc Tk Tr
set_option linter.unusedVariables false
set_option linter.unusedSimpArgs false
def belowL (n limit : Int) : Bool := limit == 0 || decide (n < limit)
def holdsK (kind : Int) : Bool := kind == 1 || kind == 4
def liveR (ps : List Int) (r : Rec) (now : Int) : Bool := decide (1 ≤ r.kind) && decide (r.kind ≤ 6) && (belowL (now - r.made) (ps.getD r.kind.toNat 0) && belowL (now - r.used) (ps.getD (7 + r.kind.toNat) 0) && belowL r.uses (ps.getD (14 + r.kind.toNat) 0))
def touchR (r : Rec) (now : Int) : Rec := { r with uses := min (r.uses + 1) 255, used := max r.used now }
theorem below_any (n limit : Int) (w : World) :
  Calls Tryz.prog 156 [I64 n, I64 limit].toArray w (Ret fun v w' => v = .bool (belowL n limit) ∧ w = w') := by
 refine calls Tryz.func156 rfl Tryz.ntmps156 rfl (.seq (.region (.run 1 rfl trivial (.nil (.seq (.region (.run 3 rfl trivial (.gval rfl rfl (fun hg1 => (.move (.of rfl))) rfl (.gval rfl rfl (fun hg1 => (.move (.of rfl))) rfl (.gval rfl rfl (fun hg1 => (.lss (.gd hg1 rfl) (.gd hg1 rfl))) rfl (.val (.por (.of rfl) (.of rfl) (.of rfl)) rfl (.run 1 rfl trivial (.nil (.ret (ret1 Tryz.results156 rfl ?_)))))))))))))))
 exact ⟨_, rfl, rfl, rfl⟩
theorem holds_any (kind : Int) (w : World) :
  Calls Tryz.prog 114 [I64 kind].toArray w (Ret fun v w' => v = .bool (holdsK kind) ∧ w = w') := by
 refine calls Tryz.func114 rfl Tryz.ntmps114 rfl (.seq (.region (.run 1 rfl trivial (.nil (.seq (.region (.run 3 rfl trivial (.gval rfl rfl (fun hg1 => (.move (.of rfl))) rfl (.gval rfl rfl (fun hg1 => (.eql (.gd hg1 rfl) (.of rfl))) rfl (.val (.por (.of rfl) (.of rfl) (.of rfl)) rfl (.run 1 rfl trivial (.nil (.ret (ret1 Tryz.results114 rfl ?_))))))))))))))
 exact ⟨_, rfl, rfl, rfl⟩
theorem Touch_any (r : Rec) (now : Int) (hu : 0 ≤ r.uses) (hu2 : r.uses ≤ 255) (B w : World) (I : Im) (As : List Assn) (hS : Sat B w I As) :
  Calls Tryz.prog 96 [.agg (recCells r).toArray, I64 now].toArray w (Ret fun v w' => v = .agg (recCells (touchR r now)).toArray ∧ Sat B w' I As) := by
 refine calls Tryz.func96 rfl Tryz.ntmps96 rfl (.seq (.region (.boxA (cs := [_, _, _, _, _, _, _, _, _, _]) hS (.of rfl) rfl ?_)))
 clear hS; intro b2 w hS
 refine .allocA (cs := [_, _, _, _, _, _, _, _, _, _]) hS Tryz.zeroValue45 rfl ?_
 clear hS; intro b4 w hS
 refine .nil (.seq (.region ?_))
 first | refine WL.val (.fieldAddr 8 (.of rfl) Tryz.underlying45 rfl rfl Tryz.sizeOf3 rfl) rfl ?_ | refine WL.val (.fieldAddrI 8 (.of rfl) Tryz.underlying45 rfl rfl Tryz.sizeOf3 rfl) rfl ?_
 first | refine WL.val (.ld (.of rfl) hS (k := 0) rfl Tryz.isAgg3 rfl) rfl ?_ | refine WL.val (.ld (.of rfl) hS (k := 1) rfl Tryz.isAgg3 rfl) rfl ?_
 refine .run 1 rfl ⟨⟨by omega, by omega⟩, trivial⟩ (.val (.min2 (.of rfl) (.of rfl)) rfl ?_)
 first | refine WL.val (.fieldAddr 8 (.of rfl) Tryz.underlying45 rfl rfl Tryz.sizeOf3 rfl) rfl ?_ | refine WL.val (.fieldAddrI 8 (.of rfl) Tryz.underlying45 rfl rfl Tryz.sizeOf3 rfl) rfl ?_
 first | refine WL.st1 hS (k := 0) rfl (.of rfl) (.of rfl) rfl Tryz.sizeOf3 (by simp) ?_ | refine WL.st1 hS (k := 1) rfl (.of rfl) (.of rfl) rfl Tryz.sizeOf3 (by simp) ?_
 clear hS; intro w hS; try dsimp only [List.set] at hS
 refine .nil (.seq (.region ?_))
 first | refine WL.val (.fieldAddr 7 (.of rfl) Tryz.underlying45 rfl rfl Tryz.sizeOf3 rfl) rfl ?_ | refine WL.val (.fieldAddrI 7 (.of rfl) Tryz.underlying45 rfl rfl Tryz.sizeOf3 rfl) rfl ?_
 first | refine WL.val (.ld (.of rfl) hS (k := 0) rfl Tryz.isAgg3 rfl) rfl ?_ | refine WL.val (.ld (.of rfl) hS (k := 1) rfl Tryz.isAgg3 rfl) rfl ?_
 refine .run 1 rfl trivial (.val (.max2 (.of rfl) (.of rfl)) rfl ?_)
 first | refine WL.val (.fieldAddr 7 (.of rfl) Tryz.underlying45 rfl rfl Tryz.sizeOf3 rfl) rfl ?_ | refine WL.val (.fieldAddrI 7 (.of rfl) Tryz.underlying45 rfl rfl Tryz.sizeOf3 rfl) rfl ?_
 first | refine WL.st1 hS (k := 0) rfl (.of rfl) (.of rfl) rfl Tryz.sizeOf3 (by simp) ?_ | refine WL.st1 hS (k := 1) rfl (.of rfl) (.of rfl) rfl Tryz.sizeOf3 (by simp) ?_
 clear hS; intro w hS; try dsimp only [List.set] at hS
 refine .nil (.seq (.region ?_))
 first | refine WL.val (.ldsW (cs := [_, _, _, _, _, _, _, _, _, _]) (.of rfl) hS (k := 0) rfl Tryz.isAgg45 Tryz.sizeOf45 rfl) rfl ?_ | refine WL.val (.lds (vs := [_, _, _, _, _, _, _, _, _, _]) (.of rfl) hS (k := 0) rfl Tryz.isAgg45 Tryz.sizeOf45 rfl (fun _ _ h => h)) rfl ?_ | refine WL.val (.ldsW (cs := [_, _, _, _, _, _, _, _, _, _]) (.of rfl) hS (k := 1) rfl Tryz.isAgg45 Tryz.sizeOf45 rfl) rfl ?_ | refine WL.val (.lds (vs := [_, _, _, _, _, _, _, _, _, _]) (.of rfl) hS (k := 1) rfl Tryz.isAgg45 Tryz.sizeOf45 rfl (fun _ _ h => h)) rfl ?_
 first | refine WL.stA hS (k := 0) rfl (.of rfl) (.of rfl) rfl Tryz.sizeOf45 rfl (by simp) ?_ | refine WL.stA hS (k := 1) rfl (.of rfl) (.of rfl) rfl Tryz.sizeOf45 rfl (by simp) ?_
 clear hS; intro w hS; try dsimp only [List.set] at hS
 try simp only [List.take_zero, List.nil_append, List.append_nil, List.drop_succ_cons, List.drop_zero, List.drop_nil, Nat.zero_add] at hS
 refine .nil (.ret ?_)
 first | refine ret1c (b := _) (cs := [_, _, _, _, _, _, _, _, _, _]) Tryz.results96 hS (k := 0) rfl Tryz.isAgg45 Tryz.sizeOf45 rfl rfl ?_ | refine ret1c (b := _) (cs := [_, _, _, _, _, _, _, _, _, _]) Tryz.results96 hS (k := 1) rfl Tryz.isAgg45 Tryz.sizeOf45 rfl rfl ?_
 exact ⟨_, rfl, rfl, (hS.drop (k := 0) rfl).drop (k := 0) rfl⟩
theorem Ex.arrAddrO {P : Program} {n : Nat} {L : Env} {w : World} {ty t : TypeId} {pos : String} {af : Array Edge} {g : Option (Nat × Bool)} {x y : Operand} {d : Option Nat} {b o : Nat} {m s : Nat} {e : TypeId} {i : Int} {q : IntKind} (hx : Ev n L x (ptr b o)) (hy : Ev n L y (.int q i)) (hi : 0 ≤ i) (hl : i < (m : Int)) (ht : P.underlying t = some (.array m e)) (hs : ∀ w, (Go.sizeOf e).run P w = .ok s w) :
  Ex P n L w ⟨d, .indexAddr t x y, ty, pos, af, g⟩ (ptr b (o + i.toNat * s)) w := by
 have h := Ex.arrAddrI (P := P) (w := w) (d := d) (ty := ty) (pos := pos) (af := af) (g := g) hx hy hi hl ht hs
 rw [show (⟨b, o, none⟩ : Addr).add (i.toNat * s) = ⟨b, o + i.toNat * s, none⟩ from add_ad b o _] at h
 exact h
theorem pol_get {ps : List Int} (hps : ps.length = 21) {o k : Nat} (e : o = k) (h : k < 21) : (ps.map I64)[o]? = some (I64 (ps.getD k 0)) := by
 subst e
 rw [List.getElem?_map, List.getD_eq_getElem?_getD, List.getElem?_eq_getElem (by omega)]
 rfl
theorem Live_any (ps : List Int) (hps : ps.length = 21) (r : Rec) (now : Int) (hm : 0 ≤ r.made ∧ r.made ≤ 1099511627776) (hu : 0 ≤ r.used ∧ r.used ≤ 1099511627776) (hn : 0 ≤ now ∧ now ≤ 1099511627776) (B w : World) (I : Im) (As : List Assn) (hS : Sat B w I As) :
  Calls Tryz.prog 115 [.agg (ps.map I64).toArray, .agg (recCells r).toArray, I64 now].toArray w (Ret fun v w' => v = .bool (liveR ps r now) ∧ Sat B w' I As) := by
 refine calls Tryz.func115 rfl Tryz.ntmps115 rfl (.seq (.region (.boxA (cs := ps.map I64) hS (.of rfl) rfl ?_)))
 clear hS; intro b3 w hS
 refine .boxA (cs := [_, _, _, _, _, _, _, _, _, _]) hS (.of rfl) rfl ?_
 clear hS; intro b4 w hS
 refine .run 1 rfl trivial (.nil (.seq (.seq (.region ?_))))
 first | refine WL.val (.fieldAddr 0 (.of rfl) Tryz.underlying45 rfl rfl Tryz.sizeOf3 rfl) rfl ?_ | refine WL.val (.fieldAddrI 0 (.of rfl) Tryz.underlying45 rfl rfl Tryz.sizeOf3 rfl) rfl ?_
 refine .val (.ld (.of rfl) hS (k := 0) rfl Tryz.isAgg3 rfl) rfl (.run 2 rfl trivial ?_)
 refine WL.gval rfl rfl (fun hg1 => (by first | exact .fieldAddr 0 (.of rfl) Tryz.underlying45 rfl rfl Tryz.sizeOf3 rfl | exact .fieldAddrI 0 (.of rfl) Tryz.underlying45 rfl rfl Tryz.sizeOf3 rfl)) rfl ?_
 refine .gval rfl rfl (fun hg1 => (.ld (.gd hg1 rfl) hS (k := 0) rfl Tryz.isAgg3 rfl)) rfl (.gval rfl rfl (fun hg1 => (.gtr (.gd hg1 rfl) (.of rfl))) rfl (.val (.por (.of rfl) (.of rfl) (.of rfl)) rfl (.nil ?_)))
 refine WC.cond rfl (fun hb14 => ?_) (fun hb14 => ?_)
 ·
  have hc14 := hb14; try simp only [Gk.cs0] at hc14
  refine .seq (.region (.run 1 rfl trivial (.nil (.ret (ret1 Tryz.results115 rfl ?_)))))
  refine ⟨_, rfl, congrArg Value.bool ?_, (hS.drop (k := 0) rfl).drop (k := 0) rfl⟩
  have : (decide (1 ≤ r.kind) && decide (r.kind ≤ 6)) = false := by
   rcases hc14 with e | e
   ·rw [decide_eq_false (by omega)]; rfl
   ·rw [decide_eq_false (p := r.kind ≤ 6) (by omega), Bool.and_false]
  rw [liveR, this]; rfl
 have hc14 := hb14; try simp only [Gk.cs0] at hc14
 refine .skip (.seq ?_)
 have hk1 : 1 ≤ r.kind ∧ r.kind ≤ 6 := by omega
 refine .quiet (by kernel_rfl) (by kernel_rfl) hS (.val (fun w hS => (.move (.of rfl))) rfl ?_)
 refine WQ.val (fun w hS => (by first | exact .fieldAddr 6 (.of rfl) Tryz.underlying45 rfl rfl Tryz.sizeOf3 rfl | exact .fieldAddrI 6 (.of rfl) Tryz.underlying45 rfl rfl Tryz.sizeOf3 rfl)) rfl ?_
 refine .val (fun w hS => (.ld (.of rfl) hS (k := 0) rfl Tryz.isAgg3 rfl)) rfl (.val (fun w hS => (.sub (.of rfl) (.of rfl) ⟨by omega, by omega⟩)) rfl ?_)
 refine WQ.val (fun w hS => (by first | exact .fieldAddr 0 (.of rfl) Tryz.underlying45 rfl rfl Tryz.sizeOf3 rfl | exact .fieldAddrI 0 (.of rfl) Tryz.underlying45 rfl rfl Tryz.sizeOf3 rfl)) rfl ?_
 refine .val (fun w hS => (.ld (.of rfl) hS (k := 0) rfl Tryz.isAgg3 rfl)) rfl ?_
 refine WQ.val (fun w hS => (by first | exact .fieldAddr 0 (.of rfl) Tryz.underlying31 rfl rfl Tryz.sizeOf29 rfl | exact .fieldAddrI 0 (.of rfl) Tryz.underlying31 rfl rfl Tryz.sizeOf29 rfl)) rfl ?_
 refine .val (fun w hS => (Ex.arrAddrO (i := r.kind) (.of rfl) (.of rfl) (by omega) (by omega) Tryz.underlying29 Tryz.sizeOf3)) rfl (.val (fun w hS => (.ld (.of rfl) hS (k := 1) rfl Tryz.isAgg3 (pol_get hps (o := 0 + 0 + r.kind.toNat * 1) (k := r.kind.toNat) (by omega) (by omega)))) rfl (.call Tryz.func156 rfl (evs_cons (.of rfl) (evs_cons (.of rfl) evs_nil)) rfl (fun w hS => quiet_of (below_any _ _ w) hS) (.val (fun w hS => (.move (.of rfl))) rfl (.gval rfl rfl rfl (fun hg1 w hS => (.move (.of rfl))) rfl ?_))))
 refine WQ.gval rfl rfl rfl (fun hg1 w hS => (by first | exact .fieldAddr 7 (.of rfl) Tryz.underlying45 rfl rfl Tryz.sizeOf3 rfl | exact .fieldAddrI 7 (.of rfl) Tryz.underlying45 rfl rfl Tryz.sizeOf3 rfl)) rfl ?_
 refine .gval rfl rfl rfl (fun hg1 w hS => (.ld (.gd hg1 rfl) hS (k := 0) rfl Tryz.isAgg3 rfl)) rfl (.gval rfl rfl rfl (fun hg1 w hS => (.sub (.gd hg1 rfl) (.gd hg1 rfl) ⟨by omega, by omega⟩)) rfl ?_)
 refine WQ.gval rfl rfl rfl (fun hg1 w hS => (by first | exact .fieldAddr 0 (.of rfl) Tryz.underlying45 rfl rfl Tryz.sizeOf3 rfl | exact .fieldAddrI 0 (.of rfl) Tryz.underlying45 rfl rfl Tryz.sizeOf3 rfl)) rfl ?_
 refine .gval rfl rfl rfl (fun hg1 w hS => (.ld (.gd hg1 rfl) hS (k := 0) rfl Tryz.isAgg3 rfl)) rfl ?_
 refine WQ.gval rfl rfl rfl (fun hg1 w hS => (by first | exact .fieldAddr 7 (.of rfl) Tryz.underlying31 rfl rfl Tryz.sizeOf29 rfl | exact .fieldAddrI 7 (.of rfl) Tryz.underlying31 rfl rfl Tryz.sizeOf29 rfl)) rfl ?_
 refine .gval rfl rfl rfl (fun hg1 w hS => (Ex.arrAddrO (i := r.kind) (.gd hg1 rfl) (.gd hg1 rfl) (by omega) (by omega) Tryz.underlying29 Tryz.sizeOf3)) rfl (.gval rfl rfl rfl (fun hg1 w hS => (.ld (.gd hg1 rfl) hS (k := 1) rfl Tryz.isAgg3 (pol_get hps (o := 0 + 7 + r.kind.toNat * 1) (k := 7 + r.kind.toNat) (by omega) (by omega)))) rfl (.gcall rfl rfl rfl Tryz.func156 rfl (fun hg1 => (evs_cons (.gd hg1 rfl) (evs_cons (.gd hg1 rfl) evs_nil))) rfl (fun hg1 w hS => quiet_of (below_any _ _ w) hS) (.val (fun w hS => (.pand (.of rfl) (.of rfl) (.of rfl))) rfl (.val (fun w hS => (.move (.of rfl))) rfl ?_))))
 refine WQ.gval rfl rfl rfl (fun hg1 w hS => (by first | exact .fieldAddr 8 (.of rfl) Tryz.underlying45 rfl rfl Tryz.sizeOf3 rfl | exact .fieldAddrI 8 (.of rfl) Tryz.underlying45 rfl rfl Tryz.sizeOf3 rfl)) rfl ?_
 refine .gval rfl rfl rfl (fun hg1 w hS => (.ld (.gd hg1 rfl) hS (k := 0) rfl Tryz.isAgg3 rfl)) rfl ?_
 refine WQ.gval rfl rfl rfl (fun hg1 w hS => (by first | exact .fieldAddr 0 (.of rfl) Tryz.underlying45 rfl rfl Tryz.sizeOf3 rfl | exact .fieldAddrI 0 (.of rfl) Tryz.underlying45 rfl rfl Tryz.sizeOf3 rfl)) rfl ?_
 refine .gval rfl rfl rfl (fun hg1 w hS => (.ld (.gd hg1 rfl) hS (k := 0) rfl Tryz.isAgg3 rfl)) rfl ?_
 refine WQ.gval rfl rfl rfl (fun hg1 w hS => (by first | exact .fieldAddr 14 (.of rfl) Tryz.underlying31 rfl rfl Tryz.sizeOf29 rfl | exact .fieldAddrI 14 (.of rfl) Tryz.underlying31 rfl rfl Tryz.sizeOf29 rfl)) rfl ?_
 refine .gval rfl rfl rfl (fun hg1 w hS => (Ex.arrAddrO (i := r.kind) (.gd hg1 rfl) (.gd hg1 rfl) (by omega) (by omega) Tryz.underlying29 Tryz.sizeOf3)) rfl (.gval rfl rfl rfl (fun hg1 w hS => (.ld (.gd hg1 rfl) hS (k := 1) rfl Tryz.isAgg3 (pol_get hps (o := 0 + 14 + r.kind.toNat * 1) (k := 14 + r.kind.toNat) (by omega) (by omega)))) rfl (.gcall rfl rfl rfl Tryz.func156 rfl (fun hg1 => (evs_cons (.gd hg1 rfl) (evs_cons (.gd hg1 rfl) evs_nil))) rfl (fun hg1 w hS => quiet_of (below_any _ _ w) hS) (.val (fun w hS => (.pand (.of rfl) (.of rfl) (.of rfl))) rfl (.val (fun w hS => (.assign (.of rfl))) rfl (.nil ?_)))))
 clear hS; intro w hS
 refine .ret (ret1 Tryz.results115 rfl ?_)
 refine ⟨_, rfl, congrArg Value.bool ?_, (hS.drop (k := 0) rfl).drop (k := 0) rfl⟩
 rw [liveR, decide_eq_true hk1.1, decide_eq_true hk1.2]
 rfl
end Go.Proofs.YtadhiihnnkcagaaGreatDoor
namespace Go.Proofs.YtadhiihnnkcagaaGreatDoor
open Gk Ul Pc Tk Tr
set_option linter.unusedVariables false
set_option linter.unusedSimpArgs false
def badR (ps : List Int) (name : List UInt8) (now : Int) (r : Rec) : Bool := ((r.name == name) || holdsK r.kind) && !liveR ps r now
def aliveT (ps : List Int) (l : List Rec) (name : List UInt8) (now : Int) : Bool := !(path l name).any (badR ps name now) && decide (0 < (path l name).length)
theorem pathF_mem (l : List Rec) : ∀ (f : Nat) (i : Int) (r : Rec), r ∈ pathF l f i → ∃ j : Nat, l[j]? = some r
 | 0, _, r, h => by simp [pathF] at h
 | f + 1, i, r, h => by
  rw [pathF] at h
  split at h
  ·simp at h
  ·split at h
   ·rename_i t ht
    rcases List.mem_cons.1 h with e | e
    ·subst e; exact ⟨_, ht⟩
    ·exact pathF_mem l f _ r e
   ·simp at h
theorem path_mem {l : List Rec} {name : List UInt8} {r : Rec} (h : r ∈ path l name) : ∃ j : Nat, l[j]? = some r := pathF_mem l _ _ r h
theorem right_times {r : Rec} (h : rightR r = true) : (0 ≤ r.made ∧ r.made ≤ 1099511627776) ∧ (0 ≤ r.used ∧ r.used ≤ 1099511627776) ∧ 0 ≤ r.uses ∧ r.uses ≤ 255 := by
 unfold rightR at h
 simp only [Bool.and_eq_true, decide_eq_true_eq] at h
 omega
theorem eAlive_any (tb : Nat) (room : Int) (a : Option Addr) (c : Nat) (l : List Rec) (hl : l.length ≤ 100000) (hwf : Wf l) (ps : List Int) (hps : ps.length = 21) (name : List UInt8) (now : Int) (hn : 0 ≤ now ∧ now ≤ 1099511627776) (B w : World) (I : Im) (As : List Assn) (hS : Sat B w I (blk tb [I64 room, .slice a l.length c] 127 :: Vec 45 10 (.slice a l.length c) l.length (rowsR l) :: As)) :
  Calls Tryz.prog 65 [ptr tb 0, .agg (ps.map I64).toArray, S name, I64 now].toArray w (Ret fun v w' => ∃ J, Le I J ∧ v = .bool (aliveT ps l name now) ∧ Sat B w' J (blk tb [I64 room, .slice a l.length c] 127 :: Vec 45 10 (.slice a l.length c) l.length (rowsR l) :: As)) := by
 refine calls Tryz.func65 rfl Tryz.ntmps65 rfl (.seq (.region (.boxA (cs := ps.map I64) hS (.of rfl) rfl ?_)))
 clear hS; intro b5 w hS
 refine .run 1 rfl trivial (.nil (.seq (.region (.run 2 rfl trivial (.call Tryz.func80 rfl (evs_cons (.of rfl) (evs_cons (.of rfl) evs_nil)) rfl (Path_any tb room a c l hl hwf name B _ I _ ((hS.pick 2 rfl).pick 2 rfl)) ?_)))))
 clear hS
 rintro _ w ⟨J, pa, pc, rfl, hJ, hpc, hRS, hS⟩
 have hpl := path_le hwf name
 refine .run 1 rfl trivial (.nil (.seq (.seq (.region (.run 3 rfl ⟨⟨_, Tryz.underlying41⟩, trivial⟩ (.nil (.block (.loop (σ := Nat) (fun i => [(0, ptr tb 0), (2, S name), (3, I64 now), (5, ptr b5 0), (9, .slice pa (path l name).length pc), (17, .slice pa (path l name).length pc), (18, I64 ((path l name).length : Nat)), (19, I64 (i : Nat))]) (fun i w => i ≤ (path l name).length ∧ (∀ (j : Nat) r, j < i → (path l name)[j]? = some r → badR ps name now r = false) ∧ Sat B w J (blk tb [I64 room, .slice a l.length c] 127 :: Vec 45 10 (.slice a l.length c) l.length (rowsR l) :: blk b5 (ps.map I64) 31 :: As)) (fun i => (path l name).length - i) 0 ⟨rfl, rfl, rfl, rfl, rfl, rfl, rfl, rfl, trivial⟩ ⟨Nat.zero_le _, fun _ _ h => absurd h (by omega), hS⟩ ?_))))))))
 rintro i w ⟨hi, hno, hS⟩
 change WC _ _ _ _ [(0, ptr tb 0), (2, S name), (3, I64 now), (5, ptr b5 0), (9, .slice pa (path l name).length pc), (17, .slice pa (path l name).length pc), (18, I64 ((path l name).length : Nat)), (19, I64 (i : Nat))] w
 refine .seq (.region (.run 1 rfl trivial (.nil (.seq ?_))))
 refine WC.cond rfl (fun hb20 => ?_) (fun hb20 => ?_)
 ·
  have hc20 := hb20; try simp only [Gk.cs0] at hc20
  refine .skip (.seq (.block (.seq ?_)))
  obtain ⟨r, hr⟩ : ∃ r, (path l name)[i]? = some r := ⟨_, List.getElem?_eq_getElem (by omega)⟩
  obtain ⟨q, hq⟩ := path_mem (List.mem_of_getElem? hr)
  have hgd : getD l r.name = r := by rw [getD, hwf.get_ hq]; rfl
  obtain ⟨ht1, ht2, _⟩ := right_times (hwf.right r (List.mem_of_getElem? hq))
  obtain ⟨p, rfl, hA⟩ := hRS.2 (by omega)
  have hnm : ((path l name).map fun r => S r.name)[i]? = some (S r.name) := by rw [List.getElem?_map, hr]; rfl
  refine .region ?_
  first | refine WL.val (.indexAddr (.of rfl) (.of rfl) (by omega) (by omega) Tryz.underlying41 Tryz.sizeOf9) rfl ?_ | refine WL.val (.indexAddrI (.of rfl) (.of rfl) (by omega) (by omega) Tryz.underlying41 Tryz.sizeOf9) rfl ?_
  refine WL.val (ldC (.of rfl) (by have h9 := cell_at hS hA hnm; simpa using h9) Tryz.isAgg9) rfl ?_
  refine .run 1 rfl trivial (.nil (.seq (.region (.run 2 rfl trivial (.call Tryz.func17 rfl (evs_cons (.of rfl) (evs_cons (.of rfl) evs_nil)) rfl (Get_any tb room _ c l hl r.name B _ J _ hS) ?_)))))
  clear hS
  rintro _ w ⟨rfl, hS⟩
  rw [hgd]
  refine .run 3 rfl trivial (.allocA (cs := [_, _, _, _, _, _, _, _, _, _]) hS Tryz.zeroValue45 rfl ?_)
  clear hS; intro b12 w hS
  first | refine WL.stA hS (k := 0) rfl (.of rfl) (.of rfl) rfl Tryz.sizeOf45 rfl (by simp) ?_ | refine WL.stA hS (k := 1) rfl (.of rfl) (.of rfl) rfl Tryz.sizeOf45 rfl (by simp) ?_ | refine WL.stA hS (k := 2) rfl (.of rfl) (.of rfl) rfl Tryz.sizeOf45 rfl (by simp) ?_ | refine WL.stA hS (k := 3) rfl (.of rfl) (.of rfl) rfl Tryz.sizeOf45 rfl (by simp) ?_
  clear hS; intro w hS; try dsimp only [List.set] at hS
  try simp only [List.take_zero, List.nil_append, List.append_nil, List.drop_succ_cons, List.drop_zero, List.drop_nil, Nat.zero_add] at hS
  refine .run 1 rfl trivial (.nil (.seq (.region (.run 4 rfl trivial ?_))))
  refine WL.gval rfl rfl (fun hg1 => (by first | exact .fieldAddr 0 (.of rfl) Tryz.underlying45 rfl rfl Tryz.sizeOf3 rfl | exact .fieldAddrI 0 (.of rfl) Tryz.underlying45 rfl rfl Tryz.sizeOf3 rfl)) rfl ?_
  refine WL.gval rfl rfl (fun hg1 => (by first | exact (.ld (.gd hg1 rfl) hS (k := 0) rfl Tryz.isAgg3 rfl) | exact (.ld (.gd hg1 rfl) hS (k := 1) rfl Tryz.isAgg3 rfl) | exact (.ld (.gd hg1 rfl) hS (k := 2) rfl Tryz.isAgg3 rfl) | exact (.ld (.gd hg1 rfl) hS (k := 3) rfl Tryz.isAgg3 rfl))) rfl ?_
  refine .gcall (T := fun w => Sat B w J (blk b12 [I64 r.kind, S r.name, S r.parent, S r.user, S r.service, S r.url, I64 r.made, I64 r.used, I64 r.uses, .bool r.fresh] 45 :: blk tb [I64 room, .slice a l.length c] 127 :: Vec 45 10 (.slice a l.length c) l.length (rowsR l) :: blk b5 (ps.map I64) 31 :: As)) rfl rfl rfl Tryz.func114 rfl (fun hg1 => (evs_cons (.gd hg1 rfl) evs_nil)) rfl (fun hg1 => quiet_of (holds_any _ w) hS) hS ?_
  clear hS; rintro w hS
  refine .val (.por (.of rfl) (.of rfl) (.of rfl)) rfl (.run 1 rfl trivial ?_)
  refine WL.gval rfl rfl (fun hg1 => (.lds (vs := ps.map I64) (.of rfl) hS (k := 3) rfl Tryz.isAgg31 Tryz.sizeOf31 (by rw [List.length_map]; exact hps) (fun j v hj => by rw [Nat.zero_add]; exact hj))) rfl ?_
  refine WL.gval rfl rfl (fun hg1 => (by first | exact (.ldsW (cs := [_, _, _, _, _, _, _, _, _, _]) (.of rfl) hS (k := 0) rfl Tryz.isAgg45 Tryz.sizeOf45 rfl) | exact (.lds (vs := [_, _, _, _, _, _, _, _, _, _]) (.of rfl) hS (k := 0) rfl Tryz.isAgg45 Tryz.sizeOf45 rfl (fun _ _ h => h)) | exact (.ldsW (cs := [_, _, _, _, _, _, _, _, _, _]) (.of rfl) hS (k := 1) rfl Tryz.isAgg45 Tryz.sizeOf45 rfl) | exact (.lds (vs := [_, _, _, _, _, _, _, _, _, _]) (.of rfl) hS (k := 1) rfl Tryz.isAgg45 Tryz.sizeOf45 rfl (fun _ _ h => h)) | exact (.ldsW (cs := [_, _, _, _, _, _, _, _, _, _]) (.of rfl) hS (k := 2) rfl Tryz.isAgg45 Tryz.sizeOf45 rfl) | exact (.lds (vs := [_, _, _, _, _, _, _, _, _, _]) (.of rfl) hS (k := 2) rfl Tryz.isAgg45 Tryz.sizeOf45 rfl (fun _ _ h => h)) | exact (.ldsW (cs := [_, _, _, _, _, _, _, _, _, _]) (.of rfl) hS (k := 3) rfl Tryz.isAgg45 Tryz.sizeOf45 rfl) | exact (.lds (vs := [_, _, _, _, _, _, _, _, _, _]) (.of rfl) hS (k := 3) rfl Tryz.isAgg45 Tryz.sizeOf45 rfl (fun _ _ h => h)))) rfl ?_
  refine .gval rfl rfl (fun hg1 => (.move (.of rfl))) rfl (.gcall (T := fun w => Sat B w J (blk b12 [I64 r.kind, S r.name, S r.parent, S r.user, S r.service, S r.url, I64 r.made, I64 r.used, I64 r.uses, .bool r.fresh] 45 :: blk tb [I64 room, .slice a l.length c] 127 :: Vec 45 10 (.slice a l.length c) l.length (rowsR l) :: blk b5 (ps.map I64) 31 :: As)) rfl rfl rfl Tryz.func115 rfl (fun hg1 => (evs_cons (.gd hg1 rfl) (evs_cons (.gd hg1 rfl) (evs_cons (.gd hg1 rfl) evs_nil)))) rfl (fun hg1 => Live_any ps hps r now ht1 ht2 hn B _ J _ hS) hS ?_)
  clear hS; rintro w hS
  refine .gval rfl rfl (fun hg1 => (.not (.gd hg1 rfl))) rfl (.val (.pand (.of rfl) (.of rfl) (.of rfl)) rfl (.nil ?_))
  refine WC.cond rfl (fun hb43 => ?_) (fun hb43 => ?_)
  ·
   have hc43 := hb43; try simp only [Gk.cs0] at hc43
   refine .seq (.region (.run 1 rfl trivial (.nil (.ret (ret1 Tryz.results65 rfl ?_)))))
   refine ⟨_, rfl, J, hJ, congrArg Value.bool ?_, (hS.drop (k := 0) rfl).drop (k := 2) rfl⟩
   have : (path l name).any (badR ps name now) = true := List.any_eq_true.2 ⟨r, List.mem_of_getElem? hr, hb43⟩
   rw [aliveT, this]; rfl
  have hc43 := hb43; try simp only [Gk.cs0] at hc43
  refine .skip (.region (.run 2 rfl ⟨⟨by omega, by omega⟩, trivial⟩ (.nil ?_)))
  refine ⟨i + 1, ⟨rfl, rfl, rfl, rfl, rfl, rfl, rfl, rfl, trivial⟩, ⟨by (try dsimp only); omega, fun j t hj ht => ?_, hS.drop (k := 0) rfl⟩, by (try dsimp only); omega⟩
  rcases Nat.lt_or_ge j i with h1 | h1
  ·exact hno j t h1 ht
  ·have e : j = i := by omega
   subst e
   rw [hr] at ht; cases ht
   exact hb43
 have hc20 := hb20; try simp only [Gk.cs0] at hc20
 refine .exit (.seq (.region (.run 4 rfl ⟨⟨_, Tryz.underlying41⟩, trivial⟩ (.nil (.ret (ret1 Tryz.results65 rfl ?_))))))
 refine ⟨_, rfl, J, hJ, congrArg Value.bool ?_, hS.drop (k := 2) rfl⟩
 have : (path l name).any (badR ps name now) = false := by
  rw [List.any_eq_false]
  intro r hr
  obtain ⟨j, hj, hjr⟩ := List.getElem_of_mem hr
  rw [hno j r (by omega) (by rw [List.getElem?_eq_getElem hj, hjr])]
  decide
 rw [aliveT, this]
 simp
end Go.Proofs.YtadhiihnnkcagaaGreatDoor
namespace Go.Proofs.YtadhiihnnkcagaaGreatDoor
open Gk Ul Pc Tk Tr
set_option linter.unusedVariables false
set_option linter.unusedSimpArgs false
def letC (c : UInt8) : Bool := (decide ((97 : Int) ≤ (c.toNat : Int)) && decide ((c.toNat : Int) ≤ 122)) || (decide ((65 : Int) ≤ (c.toNat : Int)) && decide ((c.toNat : Int) ≤ 90))
def withinT (s : List UInt8) (lo least most : Int) : Bool := (s.all fun c => !(decide ((c.toNat : Int) < lo) || decide ((126 : Int) < (c.toNat : Int)))) && (decide (least ≤ (s.length : Int)) && decide ((s.length : Int) ≤ most))
theorem letter_any (c : UInt8) (w : World) :
  Calls Tryz.prog 202 [U8 c.toNat].toArray w (Ret fun v w' => v = .bool (letC c) ∧ w = w') := by
 refine calls Tryz.func202 rfl Tryz.ntmps202 rfl (.seq (.region (.run 1 rfl trivial (.nil (.seq (.region (.run 3 rfl trivial (.gval rfl rfl (fun hg1 => (.move (.of rfl))) rfl (.gval rfl rfl (fun hg1 => (.leq (.gd hg1 rfl) (.of rfl))) rfl (.val (.pand (.of rfl) (.of rfl) (.of rfl)) rfl (.run 1 rfl trivial (.gval rfl rfl (fun hg1 => (.move (.of rfl))) rfl (.gval rfl rfl (fun hg1 => (.geq (.gd hg1 rfl) (.of rfl))) rfl (.gval rfl rfl (fun hg1 => (.move (.gd hg1 rfl))) rfl (.gval2 rfl rfl rfl (fun hg1 hg2 => (.move (.of rfl))) rfl (.gval2 rfl rfl rfl (fun hg1 hg2 => (.leq (.gd2 hg1 hg2 rfl) (.of rfl))) rfl (.gval rfl rfl (fun hg1 => (.pand (.gd hg1 rfl) (.gd hg1 rfl) (.of rfl))) rfl (.val (.por (.of rfl) (.of rfl) (.of rfl)) rfl (.run 1 rfl trivial (.nil (.ret (ret1 Tryz.results202 rfl ?_))))))))))))))))))))))
 exact ⟨_, rfl, rfl, rfl⟩
theorem within_any (s : List UInt8) (lo least most : Int) (hs : s.length ≤ 9223372036854775807) (B w : World) (I : Im) (As : List Assn) (hS : Sat B w I As) :
  Calls Tryz.prog 176 [S s, .int .u8 lo, I64 least, I64 most].toArray w (Ret fun v w' => v = .bool (withinT s lo least most) ∧ Sat B w' I As) := by
 refine calls Tryz.func176 rfl Tryz.ntmps176 rfl (.seq (.region (.run 1 rfl trivial (.nil (.seq (.seq (.region (.run 3 rfl ⟨Tryz.underlying9, trivial⟩ (.nil (.block (.loop (σ := Nat) (fun i => [(0, S s), (1, .int .u8 lo), (2, I64 least), (3, I64 most), (11, I64 (s.length : Nat)), (12, I64 (i : Nat))]) (fun i w => i ≤ s.length ∧ (∀ (j : Nat) c, j < i → s[j]? = some c → (decide ((c.toNat : Int) < lo) || decide ((126 : Int) < (c.toNat : Int))) = false) ∧ Sat B w I As) (fun i => s.length - i) 0 ⟨rfl, rfl, rfl, rfl, rfl, rfl, trivial⟩ ⟨Nat.zero_le _, fun _ _ h => absurd h (by omega), hS⟩ ?_)))))))))))
 rintro i w ⟨hi, hno, hS⟩
 change WC _ _ _ _ [(0, S s), (1, .int .u8 lo), (2, I64 least), (3, I64 most), (11, I64 (s.length : Nat)), (12, I64 (i : Nat))] w
 refine .seq (.region (.run 1 rfl trivial (.nil (.seq ?_))))
 refine WC.cond rfl (fun hb13 => ?_) (fun hb13 => ?_)
 ·
  have hc13 := hb13; try simp only [Gk.cs0] at hc13
  refine .skip (.seq (.block (.seq (.region (.run 2 rfl trivial (.nil (.seq (.region (.run 6 rfl ⟨⟨⟨by omega, by omega⟩, Tryz.underlying9⟩, trivial⟩ (.gval rfl rfl (fun hg1 => (.move (.of rfl))) rfl (.gval rfl rfl (fun hg1 => (.move (.of rfl))) rfl ?_)))))))))))
  refine WL.gval rfl rfl (fun hg1 => (.index (.gd hg1 rfl) (.gd hg1 rfl) (by (try simp only [Gk.cs0] at hg1); omega) (by (try simp only [Gk.cs0] at hg1); omega) Tryz.underlying9)) rfl ?_
  refine .gval rfl rfl (fun hg1 => (.gtr (.gd hg1 rfl) (.of rfl))) rfl (.val (.por (.of rfl) (.of rfl) (.of rfl)) rfl (.nil ?_))
  refine WC.cond rfl (fun hb25 => ?_) (fun hb25 => ?_)
  ·
   have hc25 := hb25; try simp only [Gk.cs0] at hc25
   refine .seq (.region (.run 1 rfl trivial (.nil (.ret (ret1 Tryz.results176 rfl ?_)))))
   refine ⟨_, rfl, congrArg Value.bool ?_, hS⟩
   have : (s.all fun c => !(decide ((c.toNat : Int) < lo) || decide ((126 : Int) < (c.toNat : Int)))) = false := by
    rw [List.all_eq_false]
    exact ⟨_, List.mem_of_getElem? (at_some (show i < s.length by omega)), by rw [hb25]; decide⟩
   rw [withinT, this]; rfl
  have hc25 := hb25; try simp only [Gk.cs0] at hc25
  refine .skip (.region (.run 2 rfl ⟨⟨by omega, by omega⟩, trivial⟩ (.nil ?_)))
  refine ⟨i + 1, ⟨rfl, rfl, rfl, rfl, rfl, rfl, trivial⟩, ⟨by (try dsimp only); omega, fun j c hj hc => ?_, hS⟩, by (try dsimp only); omega⟩
  rcases Nat.lt_or_ge j i with h1 | h1
  ·exact hno j c h1 hc
  ·have e : j = i := by omega
   subst e
   rw [at_some (show j < s.length by omega)] at hc; cases hc
   exact hb25
 have hc13 := hb13; try simp only [Gk.cs0] at hc13
 refine .exit (.seq (.region (.run 5 rfl ⟨Tryz.underlying9, trivial⟩ (.gval rfl rfl (fun hg1 => (.move (.of rfl))) rfl (.gval rfl rfl (fun hg1 => (.len (.gd hg1 rfl) Tryz.underlying9)) rfl (.gval rfl rfl (fun hg1 => (.move (.of rfl))) rfl (.gval rfl rfl (fun hg1 => (.leq (.gd hg1 rfl) (.gd hg1 rfl))) rfl (.val (.pand (.of rfl) (.of rfl) (.of rfl)) rfl (.run 1 rfl trivial (.nil (.ret (ret1 Tryz.results176 rfl ?_))))))))))))
 refine ⟨_, rfl, congrArg Value.bool ?_, hS⟩
 have : (s.all fun c => !(decide ((c.toNat : Int) < lo) || decide ((126 : Int) < (c.toNat : Int)))) = true := by
  rw [List.all_eq_true]
  intro c hc
  obtain ⟨j, hj, hjr⟩ := List.getElem_of_mem hc
  rw [hno j c (by omega) (by rw [List.getElem?_eq_getElem hj, hjr])]
  rfl
 rw [withinT, this]
 rfl
end Go.Proofs.YtadhiihnnkcagaaGreatDoor
namespace Tr
open Tk
set_option linter.unusedVariables false
set_option linter.unusedSimpArgs false
inductive Und (l : List Rec) (k : List UInt8) : List UInt8 → Prop
 | self : Und l k k
 | step {i : Nat} {r : Rec} (hr : l[i]? = some r) (h : Und l k r.parent) : Und l k r.name
theorem Und.trans {l : List Rec} {a b c : List UInt8} (h : Und l a b) (k : Und l b c) : Und l a c := by
 induction k with
 | self => exact h
 | step hr _ ih => exact .step hr ih
theorem mem_kids {l : List Rec} {name x : List UInt8} (h : x ∈ kids l name) : name ≠ [] ∧ ∃ (i : Nat) (r : Rec), l[i]? = some r ∧ r.parent = name ∧ r.name = x := by
 unfold kids kidsR at h
 obtain ⟨r, hr, hx⟩ := List.mem_map.1 h
 obtain ⟨h1, h2⟩ := List.mem_filter.1 hr
 simp only [Bool.and_eq_true, decide_eq_true_eq] at h2
 obtain ⟨i, hi, he⟩ := List.getElem_of_mem h1
 exact ⟨h2.1, i, r, by rw [List.getElem?_eq_getElem hi, he], h2.2, hx⟩
theorem kid_at {l : List Rec} (hw : Wf l) {name k : List UInt8} (h : k ∈ kids l name) : at0 l name < at0 l k ∧ 0 ≤ at0 l k ∧ 0 ≤ at0 l name := by
 obtain ⟨h0, i, r, hr, hp, hn⟩ := mem_kids h
 have h1 := (hw.up i r hr)
 have h2 := hw.at_ hr
 subst hp; subst hn
 rcases h1.1 with e | e
 ·exact absurd e h0
 ·rw [h2]; exact ⟨h1.2, by omega, e⟩
theorem below_und {l : List Rec} : ∀ (n : Nat) (name x : List UInt8), x ∈ belowF l n name → Und l name x
 | 0, _, _, h => by simp [belowF] at h
 | n + 1, name, x, h => by
  rw [belowF, List.mem_cons] at h
  rcases h with e | h
  ·subst e; exact .self
  ·obtain ⟨k, hk, hx⟩ := List.mem_flatMap.1 h
   obtain ⟨_, i, r, hr, hp, hn⟩ := mem_kids hk
   subst hp; subst hn
   exact (Und.step hr .self).trans (below_und n _ _ hx)
theorem und_at {l : List Rec} (hw : Wf l) {k x : List UInt8} (h : Und l k x) : k = x ∨ at0 l k < at0 l x := by
 induction h with
 | self => exact .inl rfl
 | step hr _ ih =>
  have h1 := (hw.up _ _ hr).2
  rw [hw.at_ hr]
  rcases ih with e | e
  ·rw [← e] at h1; exact .inr h1
  ·exact .inr (by omega)
theorem und_cmp {l : List Rec} (hw : Wf l) {a b x : List UInt8} (h : Und l a x) : Und l b x → Und l a b ∨ Und l b a := by
 induction h with
 | self => exact fun k => .inr k
 | @step i r hr h ih =>
  intro k
  generalize hy : r.name = y at k
  cases k with
  | self => rw [← hy]; exact .inl (.step hr h)
  | step hs hp =>
   have e := hw.one _ _ _ _ hr hs hy
   subst e
   rw [hr] at hs
   cases hs
   exact ih hp
theorem kids_nodup {l : List Rec} (hw : Wf l) (name : List UInt8) : (kids l name).Nodup := by
 unfold kids kidsR
 have h1 : (l.map Rec.name).Nodup := by
  rw [List.Nodup, List.pairwise_iff_getElem]
  intro i j hi hj hij e
  simp only [List.length_map] at hi hj
  simp only [List.getElem_map] at e
  have := hw.one i j l[i] l[j] (List.getElem?_eq_getElem hi) (List.getElem?_eq_getElem hj) e
  omega
 exact h1.sublist ((List.filter_sublist (l := l)).map Rec.name)
theorem belowF_nodup {l : List Rec} (hw : Wf l) : ∀ (n : Nat) (name : List UInt8), (belowF l n name).Nodup
 | 0, _ => by simp [belowF]
 | n + 1, name => by
  rw [belowF, List.nodup_cons]
  constructor
  ·intro h
   obtain ⟨k, hk, hx⟩ := List.mem_flatMap.1 h
   have h1 := kid_at hw hk
   rcases und_at hw (below_und n k name hx) with e | e
   ·rw [e] at h1; omega
   ·omega
  ·rw [List.Nodup, List.pairwise_flatMap]
   refine ⟨fun k _ => belowF_nodup hw n k, ?_⟩
   refine List.Pairwise.imp_of_mem ?_ (kids_nodup hw name)
   intro a b ha hb hne x hx y hy e
   subst e
   have key : ∀ {p q : List UInt8}, p ∈ kids l name → q ∈ kids l name → p ≠ q → Und l p q → False := by
    intro p q hp hq hpq hu
    cases hu with
    | self => exact hpq rfl
    | step hr h =>
     rename_i r
     obtain ⟨_, i, s, hs, hsp, hsn⟩ := mem_kids hq
     have e := hw.one _ _ _ _ hr hs hsn.symm
     subst e
     rw [hr] at hs
     cases hs
     rw [hsp] at h
     have h1 := kid_at hw hp
     rcases und_at hw h with e | e
     ·rw [e] at h1; omega
     ·omega
   rcases und_cmp hw (below_und n a x hx) (below_und n b x hy) with h | h
   ·exact key ha hb hne h
   ·exact key hb ha (Ne.symm hne) h
theorem belowF_mem {l : List Rec} : ∀ (n : Nat) (name x : List UInt8), x ∈ belowF l n name → x = name ∨ ∃ r ∈ l, r.name = x
 | 0, _, _, h => by simp [belowF] at h
 | n + 1, name, x, h => by
  rw [belowF, List.mem_cons] at h
  rcases h with e | h
  ·exact .inl e
  ·obtain ⟨k, hk, hx⟩ := List.mem_flatMap.1 h
   obtain ⟨_, i, r, hr, hp, hn⟩ := mem_kids hk
   rcases belowF_mem n k x hx with e | e
   ·exact .inr ⟨r, List.mem_of_getElem? hr, by rw [hn, e]⟩
   ·exact .inr e
theorem nodup_sub {α : Type} [DecidableEq α] : ∀ (a b : List α), a.Nodup → (∀ x ∈ a, x ∈ b) → a.length ≤ b.length
 | [], _, _, _ => Nat.zero_le _
 | x :: a, b, hn, hs => by
  rw [List.nodup_cons] at hn
  have hx : x ∈ b := hs x (by simp)
  have h1 := nodup_sub a (b.erase x) hn.2 (fun y hy => (List.mem_erase_of_ne (by intro e; subst e; exact hn.1 hy)).2 (hs y (by simp [hy])))
  rw [List.length_erase_of_mem hx] at h1
  have := List.length_pos_of_mem hx
  rw [List.length_cons]; omega
theorem belowF_le {l : List Rec} (hw : Wf l) (n : Nat) (name : List UInt8) : (belowF l n name).length ≤ l.length + 1 := by
 have h := nodup_sub (belowF l n name) (name :: l.map Rec.name) (belowF_nodup hw n name) (fun x hx => by
  rcases belowF_mem n name x hx with e | ⟨r, hr, e⟩
  ·simp [e]
  ·exact List.mem_cons_of_mem _ (List.mem_map.2 ⟨r, hr, e⟩))
 simpa using h
theorem belowF_fuel {l : List Rec} (hw : Wf l) : ∀ (n m : Nat) (name : List UInt8), 0 ≤ at0 l name → (l.length : Int) - at0 l name ≤ n → (l.length : Int) - at0 l name ≤ m → belowF l n name = belowF l m name
 | 0, _, name, _, h, _ => by have := at_lt l name; omega
 | _ + 1, 0, name, _, _, h => by have := at_lt l name; omega
 | n + 1, m + 1, name, h0, hn, hm => by
  rw [belowF, belowF]
  congr 1
  rw [List.flatMap_def, List.flatMap_def]
  congr 1
  refine List.map_congr_left fun k hk => ?_
  have := kid_at hw hk
  exact belowF_fuel hw n m k this.2.1 (by omega) (by omega)
theorem below_le {l : List Rec} (hw : Wf l) (name : List UInt8) : (below l name).length ≤ l.length := by
 unfold below
 split
 ·rename_i h0
  have h := nodup_sub (belowF l l.length name) (l.map Rec.name) (belowF_nodup hw _ name) (fun x hx => by
   rcases belowF_mem _ name x hx with e | ⟨r, hr, e⟩
   ·rcases at_case l name with ⟨h1, _⟩ | ⟨j, r, _, h2, h3, _⟩
    ·omega
    ·exact List.mem_map.2 ⟨r, List.mem_of_getElem? h2, by rw [h3, e]⟩
   ·exact List.mem_map.2 ⟨r, hr, e⟩)
  simpa using h
 ·simp
theorem below_step {l : List Rec} {i : Nat} {r : Rec} (hr : l[i]? = some r) (h0 : r.parent ≠ []) : ∀ (n : Nat) (name : List UInt8), r.parent ∈ belowF l n name → r.name ∈ belowF l (n + 1) name
 | 0, _, h => by simp [belowF] at h
 | n + 1, name, h => by
  rw [belowF, List.mem_cons] at h ⊢
  refine .inr (List.mem_flatMap.2 ?_)
  rcases h with e | h
  ·refine ⟨r.name, ?_, by rw [belowF]; simp⟩
   unfold kids kidsR
   exact List.mem_map.2 ⟨r, List.mem_filter.2 ⟨List.mem_of_getElem? hr, by simp [← e, h0]⟩, rfl⟩
  ·obtain ⟨k, hk, hx⟩ := List.mem_flatMap.1 h
   exact ⟨k, hk, below_step hr h0 n k hx⟩
theorem below_up {l : List Rec} (hw : Wf l) {name : List UInt8} {i : Nat} {r : Rec} (hr : l[i]? = some r) (h0 : r.parent ≠ []) (h : r.parent ∈ below l name) : r.name ∈ below l name := by
 unfold below at h ⊢
 split at h
 ·rename_i h1
  rw [if_pos h1, belowF_fuel hw l.length (l.length + 1) name h1 (by omega) (by omega)]
  exact below_step hr h0 _ _ h
 ·simp at h
theorem Wf.names {l : List Rec} (hw : Wf l) : (l.map Rec.name).Nodup := by
 rw [List.Nodup, List.pairwise_iff_getElem]
 intro i j hi hj hij e
 simp only [List.length_map] at hi hj
 simp only [List.getElem_map] at e
 have := hw.one i j l[i] l[j] (List.getElem?_eq_getElem hi) (List.getElem?_eq_getElem hj) e
 omega
theorem Wf.split {l : List Rec} (hw : Wf l) {xs ys : List Rec} {r : Rec} (h : l = xs ++ r :: ys) : r.parent = [] ∨ ∃ t ∈ xs, t.name = r.parent := by
 have hr : l[xs.length]? = some r := by rw [h]; simp
 obtain ⟨h1, h2⟩ := hw.up _ _ hr
 rcases h1 with e | e
 ·exact .inl e
 ·rcases at_case l r.parent with ⟨h3, _⟩ | ⟨j, t, h3, h4, h5, _⟩
  ·omega
  ·refine .inr ⟨t, ?_, h5⟩
   rw [h, List.getElem?_append_left (by omega)] at h4
   exact List.mem_of_getElem? h4
theorem Wf.of {l : List Rec} (h1 : ∀ r ∈ l, rightR r = true) (h2 : (l.map Rec.name).Nodup) (h3 : ∀ xs r ys, l = xs ++ r :: ys → r.parent = [] ∨ ∃ t ∈ xs, t.name = r.parent) : Wf l := by
 refine ⟨h1, fun i j r s hr hs e => ?_, fun i r hr => ?_⟩
 ·rw [List.Nodup, List.pairwise_iff_getElem] at h2
  obtain ⟨hi, e1⟩ := List.getElem?_eq_some_iff.1 hr
  obtain ⟨hj, e2⟩ := List.getElem?_eq_some_iff.1 hs
  rcases Nat.lt_trichotomy i j with h | h | h
  ·exact absurd (by rw [List.getElem_map, List.getElem_map, e1, e2, e]) (h2 i j (by simpa using hi) (by simpa using hj) h)
  ·exact h
  ·exact absurd (by rw [List.getElem_map, List.getElem_map, e1, e2, e]) (h2 j i (by simpa using hj) (by simpa using hi) h)
 ·obtain ⟨hi, e1⟩ := List.getElem?_eq_some_iff.1 hr
  have hsp : l = l.take i ++ r :: l.drop (i + 1) := by
   rw [← e1, ← List.drop_eq_getElem_cons hi]; exact (List.take_append_drop i l).symm
  rcases h3 _ _ _ hsp with e | ⟨t, ht, e⟩
  ·refine ⟨.inl e, ?_⟩
   rcases at_case l r.parent with ⟨h4, _⟩ | ⟨j, t, h4, h5, h6, _⟩
   ·omega
   ·exact absurd (h6.trans e) (right_name (h1 t (List.mem_of_getElem? h5)))
  ·obtain ⟨j, hj, e2⟩ := List.getElem_of_mem ht
   rw [List.length_take] at hj
   have h7 : l[j]? = some t := by rw [← e2, List.getElem_take]; exact List.getElem?_eq_getElem (by omega)
   rcases at_case l r.parent with ⟨_, h5⟩ | ⟨q, u, h4, h5, h6, h8⟩
   ·exact absurd e (h5 t (List.mem_of_getElem? h7))
   ·have : q ≤ j := Nat.le_of_not_lt fun hh => h8 j t hh h7 e
    exact ⟨.inr (by omega), by omega⟩
theorem Wf.drop {l : List Rec} (hw : Wf l) (name : List UInt8) : Wf (drop l name) := by
 refine Wf.of (fun r hr => hw.right r (List.mem_filter.1 hr).1) (hw.names.sublist (List.filter_sublist.map Rec.name)) fun xs r ys h => ?_
 obtain ⟨l1, l2, e1, e2, e3⟩ := List.filter_eq_append_iff.1 h
 obtain ⟨m1, m2, e4, e5, e6, _⟩ := List.filter_eq_cons_iff.1 e3
 have hsp : l = (l1 ++ m1) ++ r :: m2 := by rw [e1, e4, List.append_assoc]
 have hr : l[(l1 ++ m1).length]? = some r := by rw [hsp]; simp
 rcases hw.split hsp with e | ⟨t, ht, e⟩
 ·exact .inl e
 ·by_cases h0 : r.parent = []
  ·exact .inl h0
  ·refine .inr ⟨t, ?_, e⟩
   have hk : ((below l name).contains t.name) = false := by
    cases hc : (below l name).contains t.name with
    | false => rfl
    | true =>
     have h1 := below_up hw hr h0 (by rw [← e]; simpa using hc)
     have h2 : (below l name).contains r.name = true := by simpa using h1
     rw [h2] at e6; cases e6
   rcases List.mem_append.1 ht with h1 | h1
   ·rw [← e2]; exact List.mem_filter.2 ⟨h1, by rw [hk]; rfl⟩
   ·exact absurd (by rw [hk]; rfl) (e5 t h1)
theorem get_drop (l : List Rec) (name x : List UInt8) : get (drop l name) x = if (below l name).contains x then none else get l x := by
 unfold get drop
 rw [List.find?_filter]
 by_cases h : (below l name).contains x = true
 ·rw [if_pos h, List.find?_eq_none]
  intro r _ e
  simp only [Bool.and_eq_true, decide_eq_true_eq] at e
  obtain ⟨e1, e2⟩ := e
  rw [e2, h] at e1; cases e1
 ·rw [if_neg h]
  congr 1
  funext r
  by_cases e : r.name = x
  ·have h' : (below l name).contains x = false := by simpa using h
   simp only [e, h']; decide
  ·simp [e]
theorem drop_sub (l : List Rec) (name : List UInt8) : (drop l name).Sublist l := List.filter_sublist
end Tr
namespace Go.Proofs.YtadhiihnnkcagaaGreatDoor
open Gk Ul Pc Tk Tr
set_option linter.unusedVariables false
set_option linter.unusedSimpArgs false
theorem info9_139 : Tryz.prog.info? 9 = some Tryz.t9 := by kernel_rfl
theorem belowC_any (tb : Nat) (room : Int) (a : Option Addr) (c : Nat) (l : List Rec) (hl : l.length ≤ 100000) (hwf : Wf l) (ob tx wx : Nat) (As : List Assn) : ∀ (n : Nat) (name : List UInt8) (out : List (List UInt8)) (v : Value) (B w : World) (I : Im) (h0 : 0 ≤ at0 l name) (hn : (l.length : Int) - at0 l name ≤ n) (hob : out.length + (belowF l n name).length ≤ 1000000) (hS : Sat B w I (blk ob [v] 41 :: Vec 9 1 (v) (out).length ((out).map S) :: blk tx [ptr tb 0] 47 :: blk wx [.func (.func 139) #[] [ptr ob 0, ptr tx 0, ptr wx 0].toArray] 200 :: blk tb [I64 room, .slice a l.length c] 127 :: Vec 45 10 (.slice a l.length c) l.length (rowsR l) :: As)),
  Calls Tryz.prog 139 [S name, ptr ob 0, ptr tx 0, ptr wx 0].toArray w (Ret fun _ w' => ∃ J v', Le I J ∧ Sat B w' J (blk ob [v'] 41 :: Vec 9 1 (v') ((out ++ belowF l n name)).length (((out ++ belowF l n name)).map S) :: blk tx [ptr tb 0] 47 :: blk wx [.func (.func 139) #[] [ptr ob 0, ptr tx 0, ptr wx 0].toArray] 200 :: blk tb [I64 room, .slice a l.length c] 127 :: Vec 45 10 (.slice a l.length c) l.length (rowsR l) :: As)) := by
 intro n
 induction n with
 | zero => intro name out v B w I h0 hn; have := at_lt l name; omega
 | succ n ih =>
  intro name out v B w I h0 hn hob hS
  have hob2 := hob
  rw [belowF, List.length_cons] at hob2
  refine calls Tryz.func139 rfl Tryz.ntmps139 rfl (.seq (.region ?_))
  first | refine WL.val (.ld (.of rfl) hS (k := 0) rfl Tryz.isAgg41 rfl) rfl ?_ | refine WL.val (.ld (.of rfl) hS (k := 1) rfl Tryz.isAgg41 rfl) rfl ?_ | refine WL.val (.ld (.of rfl) hS (k := 2) rfl Tryz.isAgg41 rfl) rfl ?_ | refine WL.val (.ld (.of rfl) hS (k := 3) rfl Tryz.isAgg41 rfl) rfl ?_ | refine WL.val (.ld (.of rfl) hS (k := 4) rfl Tryz.isAgg41 rfl) rfl ?_ | refine WL.val (.ld (.of rfl) hS (k := 5) rfl Tryz.isAgg41 rfl) rfl ?_
  refine .run 1 rfl trivial (.buildSlice (cs := [_]) hS (parts_cons (.of rfl) parts_nil) Tryz.underlying41 Tryz.sizeOf9 Tryz.zeroValue9 rfl rfl rfl rfl ?_)
  clear hS; intro b9 w hS
  first | refine WL.append (size := 1) (bytes := 16) hS (.of rfl) (.of rfl) (k := 0) rfl Tryz.underlying41 info9_139 rfl rfl rfl rfl rfl rfl rfl ⟨by omega, by unfold maxLen; omega⟩ rfl ?_ | refine WL.append (size := 1) (bytes := 16) hS (.of rfl) (.of rfl) (k := 1) rfl Tryz.underlying41 info9_139 rfl rfl rfl rfl rfl rfl rfl ⟨by omega, by unfold maxLen; omega⟩ rfl ?_ | refine WL.append (size := 1) (bytes := 16) hS (.of rfl) (.of rfl) (k := 2) rfl Tryz.underlying41 info9_139 rfl rfl rfl rfl rfl rfl rfl ⟨by omega, by unfold maxLen; omega⟩ rfl ?_ | refine WL.append (size := 1) (bytes := 16) hS (.of rfl) (.of rfl) (k := 3) rfl Tryz.underlying41 info9_139 rfl rfl rfl rfl rfl rfl rfl ⟨by omega, by unfold maxLen; omega⟩ rfl ?_ | refine WL.append (size := 1) (bytes := 16) hS (.of rfl) (.of rfl) (k := 4) rfl Tryz.underlying41 info9_139 rfl rfl rfl rfl rfl rfl rfl ⟨by omega, by unfold maxLen; omega⟩ rfl ?_ | refine WL.append (size := 1) (bytes := 16) hS (.of rfl) (.of rfl) (k := 5) rfl Tryz.underlying41 info9_139 rfl rfl rfl rfl rfl rfl rfl ⟨by omega, by unfold maxLen; omega⟩ rfl ?_
  clear hS; intro v10 w hS; try dsimp only [List.set] at hS
  first | obtain ⟨a10, c10, rfl, hcap10, _⟩ := hS.vecSlice (k := 0) (v := v10) rfl | obtain ⟨a10, c10, rfl, hcap10, _⟩ := hS.vecSlice (k := 1) (v := v10) rfl | obtain ⟨a10, c10, rfl, hcap10, _⟩ := hS.vecSlice (k := 2) (v := v10) rfl | obtain ⟨a10, c10, rfl, hcap10, _⟩ := hS.vecSlice (k := 3) (v := v10) rfl | obtain ⟨a10, c10, rfl, hcap10, _⟩ := hS.vecSlice (k := 4) (v := v10) rfl | obtain ⟨a10, c10, rfl, hcap10, _⟩ := hS.vecSlice (k := 5) (v := v10) rfl
  first | refine WL.st1 hS (k := 0) rfl (.of rfl) (.of rfl) rfl Tryz.sizeOf41 (by simp) ?_ | refine WL.st1 hS (k := 1) rfl (.of rfl) (.of rfl) rfl Tryz.sizeOf41 (by simp) ?_ | refine WL.st1 hS (k := 2) rfl (.of rfl) (.of rfl) rfl Tryz.sizeOf41 (by simp) ?_ | refine WL.st1 hS (k := 3) rfl (.of rfl) (.of rfl) rfl Tryz.sizeOf41 (by simp) ?_ | refine WL.st1 hS (k := 4) rfl (.of rfl) (.of rfl) rfl Tryz.sizeOf41 (by simp) ?_ | refine WL.st1 hS (k := 5) rfl (.of rfl) (.of rfl) rfl Tryz.sizeOf41 (by simp) ?_
  clear hS; intro w hS; try dsimp only [List.set] at hS
  refine .nil (.seq (.region ?_))
  first | refine WL.val (.ld (.of rfl) hS (k := 0) rfl Tryz.isAgg47 rfl) rfl ?_ | refine WL.val (.ld (.of rfl) hS (k := 1) rfl Tryz.isAgg47 rfl) rfl ?_ | refine WL.val (.ld (.of rfl) hS (k := 2) rfl Tryz.isAgg47 rfl) rfl ?_ | refine WL.val (.ld (.of rfl) hS (k := 3) rfl Tryz.isAgg47 rfl) rfl ?_ | refine WL.val (.ld (.of rfl) hS (k := 4) rfl Tryz.isAgg47 rfl) rfl ?_ | refine WL.val (.ld (.of rfl) hS (k := 5) rfl Tryz.isAgg47 rfl) rfl ?_
  refine .run 1 rfl trivial (.call Tryz.func140 rfl (evs_cons (.of rfl) (evs_cons (.of rfl) evs_nil)) rfl (Kids_any tb room a c l hl name B _ I _ ((hS.pick 5 rfl).pick 5 rfl)) ?_)
  clear hS
  rintro _ w ⟨J, ra, rc, rfl, hJ, hrc, hRS, hS⟩
  have hkl := kids_le l name
  replace hS := (((hS.pick 5 rfl).pick 5 rfl).pick 5 rfl).pick 5 rfl
  try dsimp only [List.eraseIdx] at hS
  refine .run 2 rfl ⟨⟨_, Tryz.underlying41⟩, trivial⟩ (.nil (.block (.loop (σ := Nat × Value × Im) (fun ⟨i, v, J2⟩ => [(1, ptr ob 0), (2, ptr tx 0), (3, ptr wx 0), (13, .slice ra (kids l name).length rc), (14, I64 ((kids l name).length : Nat)), (15, I64 (i : Nat))]) (fun ⟨i, v, J2⟩ w => i ≤ (kids l name).length ∧ Le J J2 ∧ Sat B w J2 (blk ob [v] 41 :: Vec 9 1 (v) ((out ++ name :: ((kids l name).take i).flatMap (belowF l n))).length (((out ++ name :: ((kids l name).take i).flatMap (belowF l n))).map S) :: blk tx [ptr tb 0] 47 :: blk wx [.func (.func 139) #[] [ptr ob 0, ptr tx 0, ptr wx 0].toArray] 200 :: blk tb [I64 room, .slice a l.length c] 127 :: Vec 45 10 (.slice a l.length c) l.length (rowsR l) :: As)) (fun ⟨i, v, J2⟩ => (kids l name).length - i) (0, _, J) ⟨rfl, rfl, rfl, rfl, rfl, rfl, trivial⟩ ⟨Nat.zero_le _, Le.refl _, by simpa using hS⟩ ?_)))
  rintro ⟨i, v, J2⟩ w ⟨hi, hJ2, hS⟩
  change WC _ _ _ _ [(1, ptr ob 0), (2, ptr tx 0), (3, ptr wx 0), (13, .slice ra (kids l name).length rc), (14, I64 ((kids l name).length : Nat)), (15, I64 (i : Nat))] w
  refine .seq (.region (.run 1 rfl trivial (.nil (.seq ?_))))
  refine WC.cond rfl (fun hb16 => ?_) (fun hb16 => ?_)
  ·
   have hc16 := hb16; try simp only [Gk.cs0] at hc16
   refine .skip (.seq (.block (.seq ?_)))
   obtain ⟨k, hk⟩ : ∃ k, (kids l name)[i]? = some k := ⟨_, List.getElem?_eq_getElem (by omega)⟩
   have hkm := kid_at hwf (List.mem_of_getElem? hk)
   have hnm : ((kids l name).map S)[i]? = some (S k) := by rw [List.getElem?_map, hk]; rfl
   have hfl : (((kids l name).take i).flatMap (belowF l n)).length + (belowF l n k).length ≤ ((kids l name).flatMap (belowF l n)).length := by
    have e := List.take_append_drop i (kids l name)
    have e2 := List.drop_eq_getElem_cons (l := kids l name) (i := i) (by omega)
    rw [(List.getElem?_eq_some_iff.1 hk).2] at e2
    rw [e2] at e
    have e3 := congrArg (fun x => (List.flatMap (belowF l n) x).length) e
    simp only [List.flatMap_append, List.flatMap_cons, List.length_append] at e3
    omega
   obtain ⟨p, rfl, hA⟩ := hRS.2 (by omega)
   refine .region ?_
   first | refine WL.val (.indexAddr (.of rfl) (.of rfl) (by omega) (by omega) Tryz.underlying41 Tryz.sizeOf9) rfl ?_ | refine WL.val (.indexAddrI (.of rfl) (.of rfl) (by omega) (by omega) Tryz.underlying41 Tryz.sizeOf9) rfl ?_
   refine WL.val (ldC (.of rfl) (by have h9 := cell_at hS (hA.mono hJ2) hnm; simpa using h9) Tryz.isAgg9) rfl ?_
   refine .run 1 rfl trivial (.nil (.region ?_))
   first | refine WL.val (.ld (.of rfl) hS (k := 0) rfl Tryz.isAgg200 rfl) rfl ?_ | refine WL.val (.ld (.of rfl) hS (k := 1) rfl Tryz.isAgg200 rfl) rfl ?_ | refine WL.val (.ld (.of rfl) hS (k := 2) rfl Tryz.isAgg200 rfl) rfl ?_ | refine WL.val (.ld (.of rfl) hS (k := 3) rfl Tryz.isAgg200 rfl) rfl ?_ | refine WL.val (.ld (.of rfl) hS (k := 4) rfl Tryz.isAgg200 rfl) rfl ?_ | refine WL.val (.ld (.of rfl) hS (k := 5) rfl Tryz.isAgg200 rfl) rfl ?_
   refine .run 1 rfl trivial ?_
   refine WL.vcall (cap := [ptr ob 0, ptr tx 0, ptr wx 0]) Tryz.func139 rfl (.of rfl) (evs_cons (.of rfl) evs_nil) rfl (ih k (out ++ name :: ((kids l name).take i).flatMap (belowF l n)) v B w J2 hkm.2.1 (by omega) (by simp only [List.length_append, List.length_cons, belowF] at hob ⊢; omega) hS) ?_
   clear hS
   rintro _ w ⟨J3, v3, hJ3, hS⟩
   refine .nil (.region (.run 2 rfl ⟨⟨by omega, by omega⟩, trivial⟩ (.nil ?_)))
   refine ⟨(i + 1, v3, J3), ⟨rfl, rfl, rfl, rfl, rfl, rfl, trivial⟩, ⟨by (try dsimp only); omega, hJ2.trans hJ3, ?_⟩, by (try dsimp only); omega⟩
   try dsimp only
   rw [List.take_add_one, hk, Option.toList_some, List.flatMap_append, List.flatMap_cons, List.flatMap_nil, List.append_nil, ← List.cons_append, ← List.append_assoc]
   exact hS
  have hc16 := hb16; try simp only [Gk.cs0] at hc16
  refine .exit (end0 Tryz.results139 ?_)
  have hin : i = (kids l name).length := by omega
  subst hin
  rw [List.take_length] at hS
  exact ⟨_, rfl, J2, v, hJ.trans hJ2, hS⟩
theorem Below_any (tb : Nat) (room : Int) (a : Option Addr) (c : Nat) (l : List Rec) (hl : l.length ≤ 100000) (hwf : Wf l) (name : List UInt8) (B w : World) (I : Im) (As : List Assn) (hS : Sat B w I (blk tb [I64 room, .slice a l.length c] 127 :: Vec 45 10 (.slice a l.length c) l.length (rowsR l) :: As)) :
  Calls Tryz.prog 100 [ptr tb 0, S name].toArray w (Ret fun v w' => ∃ J ra rc, v = .slice ra (below l name).length rc ∧ Le I J ∧ (below l name).length ≤ rc ∧ RS J ra 1 (below l name).length ((below l name).map S) ∧ Sat B w' J (blk tb [I64 room, .slice a l.length c] 127 :: Vec 45 10 (.slice a l.length c) l.length (rowsR l) :: As)) := by
 refine calls Tryz.func100 rfl Tryz.ntmps100 rfl (.seq (.region (.box1 hS (.of rfl) rfl rfl ?_)))
 clear hS; intro b2 w hS
 refine .run 1 rfl trivial (.nil (.seq (.region (.alloc1 hS Tryz.zeroValue41 rfl rfl ?_))))
 clear hS; intro b5 w hS
 refine .nil (.seq (.region (.alloc1 hS Tryz.zeroValue200 rfl rfl ?_)))
 clear hS; intro b6 w hS
 refine .nil (.seq (.region (.val (.makeFunc (evs_cons (.of rfl) (evs_cons (.of rfl) (evs_cons (.of rfl) evs_nil)))) rfl ?_)))
 first | refine WL.st1 hS (k := 0) rfl (.of rfl) (.of rfl) rfl Tryz.sizeOf200 (by simp) ?_ | refine WL.st1 hS (k := 1) rfl (.of rfl) (.of rfl) rfl Tryz.sizeOf200 (by simp) ?_ | refine WL.st1 hS (k := 2) rfl (.of rfl) (.of rfl) rfl Tryz.sizeOf200 (by simp) ?_ | refine WL.st1 hS (k := 3) rfl (.of rfl) (.of rfl) rfl Tryz.sizeOf200 (by simp) ?_ | refine WL.st1 hS (k := 4) rfl (.of rfl) (.of rfl) rfl Tryz.sizeOf200 (by simp) ?_
 clear hS; intro w hS; try dsimp only [List.set] at hS
 refine .nil (.seq (.seq (.region ?_)))
 first | refine WL.val (.ld (.of rfl) hS (k := 0) rfl Tryz.isAgg47 rfl) rfl ?_ | refine WL.val (.ld (.of rfl) hS (k := 1) rfl Tryz.isAgg47 rfl) rfl ?_ | refine WL.val (.ld (.of rfl) hS (k := 2) rfl Tryz.isAgg47 rfl) rfl ?_ | refine WL.val (.ld (.of rfl) hS (k := 3) rfl Tryz.isAgg47 rfl) rfl ?_ | refine WL.val (.ld (.of rfl) hS (k := 4) rfl Tryz.isAgg47 rfl) rfl ?_
 refine .run 1 rfl trivial (.call Tryz.func61 rfl (evs_cons (.of rfl) (evs_cons (.of rfl) evs_nil)) rfl (at_any tb room a c l hl name B _ I _ ((hS.pick 4 rfl).pick 4 rfl)) ?_)
 clear hS
 rintro _ w ⟨rfl, hS⟩
 replace hS := ((hS.pick 4 rfl).pick 4 rfl).pick 4 rfl
 try dsimp only [List.eraseIdx] at hS
 refine .run 1 rfl trivial (.nil ?_)
 refine WC.cond rfl (fun hb11 => ?_) (fun hb11 => ?_)
 ·
  have hc11 := hb11; try simp only [Gk.cs0] at hc11
  replace hS := (((hS.vecNil 9 1).pick 1 rfl).pick 3 rfl)
  try dsimp only [List.eraseIdx] at hS
  have hS9 := (hS.pick 2 rfl).pick 3 rfl
  try dsimp only [List.eraseIdx] at hS9
  clear hS
  have hS := hS9
  clear hS9
  refine .region ?_
  first | refine WL.val (.ld (.of rfl) hS (k := 0) rfl Tryz.isAgg200 rfl) rfl ?_ | refine WL.val (.ld (.of rfl) hS (k := 1) rfl Tryz.isAgg200 rfl) rfl ?_ | refine WL.val (.ld (.of rfl) hS (k := 2) rfl Tryz.isAgg200 rfl) rfl ?_ | refine WL.val (.ld (.of rfl) hS (k := 3) rfl Tryz.isAgg200 rfl) rfl ?_ | refine WL.val (.ld (.of rfl) hS (k := 4) rfl Tryz.isAgg200 rfl) rfl ?_
  refine .run 1 rfl trivial ?_
  refine WL.vcall (cap := [ptr b5 0, ptr b2 0, ptr b6 0]) Tryz.func139 rfl (.of rfl) (evs_cons (.of rfl) evs_nil) rfl (belowC_any tb room a c l hl hwf b5 b2 b6 As l.length name [] _ B w I (by simpa using hb11) (by omega) (by have := belowF_le hwf l.length name; simp only [List.length_nil]; omega) hS) ?_
  clear hS
  rintro _ w ⟨J, v2, hJ, hS⟩
  refine .nil (.seq (.region ?_))
  first | refine WL.val (.ld (.of rfl) hS (k := 0) rfl Tryz.isAgg41 rfl) rfl ?_ | refine WL.val (.ld (.of rfl) hS (k := 1) rfl Tryz.isAgg41 rfl) rfl ?_ | refine WL.val (.ld (.of rfl) hS (k := 2) rfl Tryz.isAgg41 rfl) rfl ?_ | refine WL.val (.ld (.of rfl) hS (k := 3) rfl Tryz.isAgg41 rfl) rfl ?_ | refine WL.val (.ld (.of rfl) hS (k := 4) rfl Tryz.isAgg41 rfl) rfl ?_
  refine .run 1 rfl trivial (.nil (.ret (ret1 Tryz.results100 rfl ?_)))
  rw [List.nil_append] at hS
  have hbe : below l name = belowF l l.length name := if_pos (by simpa using hb11)
  rw [hbe]
  obtain ⟨ka, kc, rfl, hkc, _⟩ := hS.vecSlice (k := 1) rfl
  obtain ⟨J2, hJ2, hRS, hS⟩ := hS.freezeVec (k := 1) rfl
  exact ⟨_, rfl, J2, ka, kc, rfl, hJ.trans hJ2, hkc, hRS, ((hS.drop (k := 0) rfl).drop (k := 0) rfl).drop (k := 0) rfl⟩
 have hc11 := hb11; try simp only [Gk.cs0] at hc11
 refine .skip (.seq (.region ?_))
 first | refine WL.val (.ld (.of rfl) hS (k := 0) rfl Tryz.isAgg41 rfl) rfl ?_ | refine WL.val (.ld (.of rfl) hS (k := 1) rfl Tryz.isAgg41 rfl) rfl ?_ | refine WL.val (.ld (.of rfl) hS (k := 2) rfl Tryz.isAgg41 rfl) rfl ?_ | refine WL.val (.ld (.of rfl) hS (k := 3) rfl Tryz.isAgg41 rfl) rfl ?_ | refine WL.val (.ld (.of rfl) hS (k := 4) rfl Tryz.isAgg41 rfl) rfl ?_
 refine .run 1 rfl trivial (.nil (.ret (ret1 Tryz.results100 rfl ?_)))
 have hbe : below l name = [] := if_neg (by simpa using hb11)
 rw [hbe]
 exact ⟨_, rfl, I, none, 0, rfl, Le.refl _, Nat.le_refl _, ⟨rfl, fun h => absurd h (by simp)⟩, ((hS.drop (k := 0) rfl).drop (k := 0) rfl).drop (k := 0) rfl⟩
theorem idxT_has (p : List UInt8) : ∀ (l : List (List UInt8)) (i : Nat), decide (0 ≤ idxT p l i) = l.contains p
 | [], i => rfl
 | x :: l, i => by
  rw [idxT, List.contains_cons]
  split
  ·rename_i h
   subst h
   rw [beq_self_eq_true, Bool.true_or, decide_eq_true_eq]; omega
  ·rename_i h
   rw [beq_eq_false_iff_ne.2 h, Bool.false_or, idxT_has p l (i + 1)]
theorem Contains_any (a : Option Addr) (c : Nat) (l : List (List UInt8)) (hll : l.length ≤ 100000) (p : List UInt8) (B w : World) (I : Im) (hA : RS I a 1 l.length (l.map S)) (As : List Assn) (hS : Sat B w I As) :
  Calls Tryz.prog 103 [.slice a l.length c, S p].toArray w (Ret fun v w' => v = .bool (l.contains p) ∧ Sat B w' I As) := by
 refine calls Tryz.func103 rfl Tryz.ntmps103 rfl (.seq (.region (.run 1 rfl trivial (.nil (.seq (.region (.run 2 rfl trivial (.call Tryz.func141 rfl (evs_cons (.of rfl) (evs_cons (.of rfl) evs_nil)) rfl (IndexT_any a c l hll p B _ I hA As hS) ?_))))))))
 clear hS
 rintro _ w ⟨rfl, hS⟩
 refine .run 2 rfl trivial (.nil (.ret (ret1 Tryz.results103 rfl ?_)))
 exact ⟨_, rfl, by rw [← idxT_has p l 0], hS⟩
theorem dropC_any (gb : Nat) (ga : Option Addr) (gc : Nat) (gn : List (List UInt8)) (hgl : gn.length ≤ 100000) (r : Rec) (B w : World) (I : Im) (hA : RS I ga 1 gn.length (gn.map S)) (As : List Assn) (hS : Sat B w I (blk gb [.slice ga gn.length gc] 41 :: As)) :
  Calls Tryz.prog 102 [.agg (recCells r).toArray, ptr gb 0].toArray w (Ret fun v w' => v = .bool (gn.contains r.name) ∧ Sat B w' I (blk gb [.slice ga gn.length gc] 41 :: As)) := by
 refine calls Tryz.func102 rfl Tryz.ntmps102 rfl (.seq (.region (.boxA (cs := [_, _, _, _, _, _, _, _, _, _]) hS (.of rfl) rfl ?_)))
 clear hS; intro b2 w hS
 refine .run 1 rfl trivial (.nil (.seq (.region ?_)))
 first | refine WL.val (.ld (.of rfl) hS (k := 0) rfl Tryz.isAgg41 rfl) rfl ?_ | refine WL.val (.ld (.of rfl) hS (k := 1) rfl Tryz.isAgg41 rfl) rfl ?_
 first | refine WL.val (.fieldAddr 1 (.of rfl) Tryz.underlying45 rfl rfl Tryz.sizeOf9 rfl) rfl ?_ | refine WL.val (.fieldAddrI 1 (.of rfl) Tryz.underlying45 rfl rfl Tryz.sizeOf9 rfl) rfl ?_
 first | refine WL.val (.ld (.of rfl) hS (k := 0) rfl Tryz.isAgg9 rfl) rfl ?_ | refine WL.val (.ld (.of rfl) hS (k := 1) rfl Tryz.isAgg9 rfl) rfl ?_
 refine .call Tryz.func103 rfl (evs_cons (.of rfl) (evs_cons (.of rfl) evs_nil)) rfl (Contains_any ga gc gn hgl r.name B _ I hA _ hS) ?_
 clear hS
 rintro _ w ⟨rfl, hS⟩
 refine .run 1 rfl trivial (.nil (.ret (ret1 Tryz.results102 rfl ?_)))
 exact ⟨_, rfl, rfl, hS.drop (k := 0) rfl⟩
end Go.Proofs.YtadhiihnnkcagaaGreatDoor
namespace Go.Proofs.YtadhiihnnkcagaaGreatDoor
open Gk Ul Pc Tk Tr
set_option linter.unusedVariables false
set_option linter.unusedSimpArgs false
theorem WL.clear {P : Program} {n : Nat} {ops : Array Oper} {K : Kont} {rest : List Oper} {L : Env} {w B : World} {I : Im} {As : List Assn} {k b o m cap s : Nat} {cs : List Value} {E e t ty : TypeId} {x : Operand} {z : Value} {pos : String} {af : Array Edge} (hS : Sat B w I As) (hk : As[k]? = some (blk b cs E)) (hx : Ev n L x (.slice (some (ad b o)) m cap)) (ht : P.underlying t = some (.slice e)) (hz : ∀ w, (zeroValue e).run P w = .ok z w) (hs : z.cells.size = s) (h1 : ∀ v ∈ z.cells, v.oneCell' = true) (ho : o + m * s ≤ cs.length)
  (h : ∀ w' cs', cs'.length = cs.length → cs'.take o = cs.take o → Sat B w' I (As.set k (blk b cs' E)) → WL P n ops K rest L w') : WL P n ops K (⟨none, .call ⟨.builtin .clear, #[x], #[t]⟩, ty, pos, af, none⟩ :: rest) L w := by
 subst hs
 have go : ∀ w' v, (∀ a, Holds n L a → (execOp a.eval (⟨none, .call ⟨.builtin .clear, #[x], #[t]⟩, ty, pos, af, none⟩ : Oper)).run P w = .ok (.value v) w') → WL P n ops K rest L w' → WL P n ops K (⟨none, .call ⟨.builtin .clear, #[x], #[t]⟩, ty, pos, af, none⟩ :: rest) L w := by
  intro w' v hx h a ha
  refine wpList_plain rfl fun K' hK => ?_
  unfold Oper.wp
  rw [hx a ha]
  exact hK _ _ (h _ (ha.skip v))
 have hb := hS.block hk
 have hzl : (Builtin.zeroCells z.cells m).toList.length = m * z.cells.size := by rw [Array.length_toList, size_zeroCells]
 have hst := run_storeCells_at P b o E (Builtin.zeroCells z.cells m).toList 0 cs.toArray w hb (by simp only [Nat.add_zero, hzl, List.size_toArray]; exact ho) (fun v hv => by
  rw [Array.mem_toList_iff] at hv
  unfold Builtin.zeroCells at hv
  obtain ⟨i, hi, rfl⟩ := Array.mem_map.1 hv
  have hi2 : i < m * z.cells.size := by simpa using hi
  have hp : 0 < z.cells.size := Nat.pos_of_ne_zero fun e => by rw [e] at hi2; omega
  have hlt := Nat.mod_lt i hp
  rw [getElem!_pos z.cells (i % z.cells.size) hlt]
  exact h1 _ (Array.getElem_mem hlt))
 simp only [Nat.add_zero] at hst
 cases m with
 | zero =>
  refine go w (.tuple #[]) (fun a ha => ?_) (h w cs rfl rfl ?_)
  ·simp [execOp, resolve, invoke, builtin, hx a ha, Builtin.clear_, run_underlying ht]
  ·have e : As.set k (blk b cs E) = As := by
    apply List.ext_getElem?
    intro i
    rw [List.getElem?_set]
    split
    ·rename_i e; subst e
     split
     ·exact hk.symm
     ·rename_i hlt; rw [List.getElem?_eq_none (by omega)]
    ·rfl
   rw [e]; exact hS
 | succ m =>
  refine go (w.setRow b _) (.tuple #[]) (fun a ha => ?_) (h _ _ ?_ ?_ (hS.write (o' := cellsO (cs.take o ++ (Builtin.zeroCells z.cells (m + 1)).toList ++ cs.drop (o + (Builtin.zeroCells z.cells (m + 1)).toList.length)) E) hk rfl rfl rfl (setRow_heap w b _ _ E _ hb) fun c hc => setRow_other w b c _ hc))
  ·simp [execOp, resolve, invoke, builtin, hx a ha, Builtin.clear_, run_underlying ht, hz, hst]
  ·simp only [List.length_append, List.length_take, List.length_drop, hzl]; omega
  ·rw [List.append_assoc, List.take_append_of_le_length (by rw [List.length_take]; omega), List.take_take, Nat.min_self]
theorem firstR_case {α : Type} (pr : α → Bool) : ∀ (l : List α) (i : Nat), (firstR pr l i = -1 ∧ ∀ r ∈ l, pr r = false) ∨ ∃ (j : Nat) (r : α), firstR pr l i = ((i + j : Nat) : Int) ∧ l[j]? = some r ∧ pr r = true ∧ ∀ t ∈ l.take j, pr t = false
 | [], i => .inl ⟨rfl, fun r h => by simp at h⟩
 | s :: l, i => by
  rw [firstR]
  by_cases h : pr s = true
  ·rw [if_pos h]; exact .inr ⟨0, s, by simp, rfl, h, fun t ht => by simp at ht⟩
  ·rw [if_neg h]
   have h' : pr s = false := by simpa using h
   rcases firstR_case pr l (i + 1) with ⟨h1, h2⟩ | ⟨j, r, h1, h2, h3, h4⟩
   ·exact .inl ⟨h1, fun r hr => (List.mem_cons.1 hr).elim (fun e => e ▸ h') (h2 r)⟩
   ·refine .inr ⟨j + 1, r, by rw [h1]; omega, by simpa using h2, h3, fun t ht => ?_⟩
    rw [List.take_succ_cons] at ht
    rcases List.mem_cons.1 ht with e | ht
    ·exact e ▸ h'
    ·exact h4 t ht
theorem rowsR_take : ∀ (l : List Rec) (i : Nat), (rowsR l).take (i * 10) = rowsR (l.take i)
 | [], i => by simp [rowsR]
 | r :: l, 0 => by simp [rowsR]
 | r :: l, i + 1 => by
  have e : ∀ l : List Rec, rowsR (r :: l) = recCells r ++ rowsR l := fun l => rfl
  rw [List.take_succ_cons, e, e, ← rowsR_take l i, show (i + 1) * 10 = (recCells r).length + i * 10 by show (i + 1) * 10 = 10 + i * 10; omega, List.take_length_add_append]
theorem DeleteFunc_any (a : Option Addr) (c : Nat) (l : List Rec) (hl : l.length ≤ 100000) (pr : Rec → Bool) (fid : FuncId) (fn : Func) (hfn : Tryz.prog.funcs[fid]? = some fn) (hcal : callable fn = true) (capv : List Value) (Q : Assn) (B w : World) (I : Im) (As : List Assn) (hf : ∀ (r : Rec) w (X : List Assn), Sat B w I (Q :: X) → Calls Tryz.prog fid ([Value.agg (recCells r).toArray] ++ capv).toArray w (Ret fun v w' => v = .bool (pr r) ∧ Sat B w' I (Q :: X))) (hS : Sat B w I (Q :: Vec 45 10 (.slice a l.length c) l.length (rowsR l) :: As)) :
  Calls Tryz.prog 101 [.slice a l.length c, .func (.func fid) #[] capv.toArray].toArray w (Ret fun v w' => v = .slice a (l.filter (fun x => !pr x)).length c ∧ Sat B w' I (Q :: Vec 45 10 (.slice a (l.filter (fun x => !pr x)).length c) (l.filter (fun x => !pr x)).length (rowsR (l.filter (fun x => !pr x))) :: As)) := by
 refine calls Tryz.func101 rfl Tryz.ntmps101 rfl (.seq (.region (.run 1 rfl trivial (.nil (.seq (.region (.run 2 rfl trivial (.call Tryz.func109 rfl (evs_cons (.of rfl) (evs_cons (.of rfl) evs_nil)) rfl (IndexFuncR_any a c l hl pr fid fn hfn hcal capv B _ I _ (fun w h => recs_vec h (k := 1) rfl) (fun r w h => hf r w _ h) hS) ?_))))))))
 clear hS
 rintro _ w ⟨rfl, hS⟩
 refine .run 1 rfl trivial (.nil (.seq (.seq (.region (.run 2 rfl trivial (.nil ?_))))))
 refine WC.cond rfl (fun hb12 => ?_) (fun hb12 => ?_)
 ·
  have hc12 := hb12; try simp only [Gk.cs0] at hc12
  refine .seq (.region (.run 2 rfl trivial (.nil (.ret (ret1 Tryz.results101 rfl ?_)))))
  refine ⟨_, rfl, ?_⟩
  have e : l.filter (fun x => !pr x) = l := by
   rcases firstR_case pr l 0 with ⟨_, h2⟩ | ⟨j, r, h1, _⟩
   ·exact List.filter_eq_self.2 (fun t ht => by rw [h2 t ht]; rfl)
   ·exfalso; rw [h1] at hb12; simp at hb12
  rw [e]
  exact ⟨rfl, hS⟩
 have hc12 := hb12; try simp only [Gk.cs0] at hc12
 refine .skip (.seq (.seq ?_))
 obtain ⟨k, rk, hk1, hk2, hk3, hk4⟩ : ∃ (j : Nat) (r : Rec), firstR pr l 0 = (j : Int) ∧ l[j]? = some r ∧ pr r = true ∧ ∀ t ∈ l.take j, pr t = false := by
  rcases firstR_case pr l 0 with ⟨h1, _⟩ | ⟨j, r, h1, h2, h3, h4⟩
  ·exfalso; rw [h1] at hb12; simp at hb12
  ·exact ⟨j, r, by rw [h1]; simp, h2, h3, h4⟩
 have hkl := (List.getElem?_eq_some_iff.1 hk2).1
 rw [hk1]
 refine .region (.run 3 rfl ⟨⟨by omega, by omega⟩, trivial⟩ (.nil (.block ?_)))
 refine WC.loop (σ := Nat × Nat × List Rec) (fun ⟨i, j, M⟩ => [(0, .slice a l.length c), (1, .func (.func fid) #[] capv.toArray), (5, I64 (i : Nat)), (6, I64 (j : Nat))]) (fun ⟨i, j, M⟩ w => i < j ∧ j ≤ l.length ∧ M.length = l.length ∧ M.drop j = l.drop j ∧ M.take i = (l.take j).filter (fun x => !pr x) ∧ Sat B w I (Q :: Vec 45 10 (.slice a l.length c) l.length (rowsR M) :: As)) (fun ⟨i, j, M⟩ => l.length - j) (k, k + 1, l) ⟨rfl, rfl, rfl, rfl, trivial⟩ ⟨by omega, by omega, rfl, rfl, by
  rw [List.take_add_one, hk2, Option.toList_some, List.filter_append, List.filter_eq_self.2 (fun t ht => by rw [hk4 t ht]; rfl)]
  simp [hk3], hS⟩ ?_
 rintro ⟨i, j, M⟩ w ⟨hij, hj, hM, hdr, htk, hS⟩
 change WC _ _ _ _ [(0, .slice a l.length c), (1, .func (.func fid) #[] capv.toArray), (5, I64 (i : Nat)), (6, I64 (j : Nat))] w
 refine .seq (.seq (.region (.run 4 rfl ⟨⟨_, Tryz.underlying35⟩, trivial⟩ (.nil ?_))))
 refine WC.cond rfl (fun hb19 => ?_) (fun hb19 => ?_)
 ·
  have hc19 := hb19; try simp only [Gk.cs0] at hc19
  refine .skip (.seq (.block (.seq ?_)))
  obtain ⟨r, hr⟩ : ∃ r, l[j]? = some r := ⟨_, List.getElem?_eq_getElem (by omega)⟩
  have hMr : M[j]? = some r := by
   have h9 := congrArg (fun x => x[0]?) hdr
   simpa [hr] using h9
  have hS9 := hS
  rw [← hM] at hS9
  obtain ⟨p, hp9, hx⟩ := recs_vec hS9 (k := 1) rfl j r hMr
  subst hp9
  clear hS9
  have hfl : ((l.take (j + 1)).filter (fun x => !pr x)) = ((l.take j).filter (fun x => !pr x)) ++ [r].filter (fun x => !pr x) := by rw [List.take_add_one, hr, Option.toList_some, List.filter_append]
  have hdr1 : M.drop (j + 1) = l.drop (j + 1) := by rw [← List.drop_drop, ← List.drop_drop, hdr]
  refine .region (.run 2 rfl trivial ?_)
  first | refine WL.val (.indexAddr (.of rfl) (.of rfl) (by omega) (by omega) Tryz.underlying35 Tryz.sizeOf45) rfl ?_ | refine WL.val (.indexAddrI (.of rfl) (.of rfl) (by omega) (by omega) Tryz.underlying35 Tryz.sizeOf45) rfl ?_
  refine .val (ldsC (.of rfl) hx Tryz.isAgg45 Tryz.sizeOf45 rfl) rfl (.allocA (cs := [_, _, _, _, _, _, _, _, _, _]) hS Tryz.zeroValue45 rfl ?_)
  clear hS; intro b7 w hS
  first | refine WL.stA hS (k := 0) rfl (.of rfl) (.of rfl) rfl Tryz.sizeOf45 rfl (by simp) ?_ | refine WL.stA hS (k := 1) rfl (.of rfl) (.of rfl) rfl Tryz.sizeOf45 rfl (by simp) ?_ | refine WL.stA hS (k := 2) rfl (.of rfl) (.of rfl) rfl Tryz.sizeOf45 rfl (by simp) ?_
  clear hS; intro w hS; try dsimp only [List.set] at hS
  try simp only [List.take_zero, List.nil_append, List.append_nil, List.drop_succ_cons, List.drop_zero, List.drop_nil, Nat.zero_add] at hS
  refine .nil (.seq (.region (.run 1 rfl trivial ?_)))
  first | refine WL.val (.ldsW (cs := [_, _, _, _, _, _, _, _, _, _]) (.of rfl) hS (k := 0) rfl Tryz.isAgg45 Tryz.sizeOf45 rfl) rfl ?_ | refine WL.val (.lds (vs := [_, _, _, _, _, _, _, _, _, _]) (.of rfl) hS (k := 0) rfl Tryz.isAgg45 Tryz.sizeOf45 rfl (fun _ _ h => h)) rfl ?_ | refine WL.val (.ldsW (cs := [_, _, _, _, _, _, _, _, _, _]) (.of rfl) hS (k := 1) rfl Tryz.isAgg45 Tryz.sizeOf45 rfl) rfl ?_ | refine WL.val (.lds (vs := [_, _, _, _, _, _, _, _, _, _]) (.of rfl) hS (k := 1) rfl Tryz.isAgg45 Tryz.sizeOf45 rfl (fun _ _ h => h)) rfl ?_ | refine WL.val (.ldsW (cs := [_, _, _, _, _, _, _, _, _, _]) (.of rfl) hS (k := 2) rfl Tryz.isAgg45 Tryz.sizeOf45 rfl) rfl ?_ | refine WL.val (.lds (vs := [_, _, _, _, _, _, _, _, _, _]) (.of rfl) hS (k := 2) rfl Tryz.isAgg45 Tryz.sizeOf45 rfl (fun _ _ h => h)) rfl ?_
  refine .vcall (cap := capv) hfn hcal (.of rfl) (evs_cons (.of rfl) evs_nil) rfl (hf r w _ (hS.pick 1 rfl)) ?_
  clear hS
  rintro _ w ⟨rfl, hS⟩
  replace hS := hS.pick 1 rfl
  try dsimp only [List.eraseIdx] at hS
  refine .run 1 rfl trivial (.nil ?_)
  refine WC.cond rfl (fun hb29 => ?_) (fun hb29 => ?_)
  ·
   have hc29 := hb29; try simp only [Gk.cs0] at hc29
   refine .seq ?_
   obtain ⟨gb, cap9, rest9, hv9, hc1, hc2, hl1, hl2, hS⟩ := hS.vecOpen (k := 2) rfl (by omega)
   injection hv9 with hv1 hv2 hv3
   first | (injection hv1 with hv1; subst hv1) | subst hv1
   subst hv3
   have hl3 := rowsR_len M
   try dsimp only [List.set] at hS
   refine .region (.run 2 rfl trivial ?_)
   first | refine WL.val (.ldsW (cs := [_, _, _, _, _, _, _, _, _, _]) (.of rfl) hS (k := 0) rfl Tryz.isAgg45 Tryz.sizeOf45 rfl) rfl ?_ | refine WL.val (.lds (vs := [_, _, _, _, _, _, _, _, _, _]) (.of rfl) hS (k := 0) rfl Tryz.isAgg45 Tryz.sizeOf45 rfl (fun _ _ h => h)) rfl ?_ | refine WL.val (.ldsW (cs := [_, _, _, _, _, _, _, _, _, _]) (.of rfl) hS (k := 1) rfl Tryz.isAgg45 Tryz.sizeOf45 rfl) rfl ?_ | refine WL.val (.lds (vs := [_, _, _, _, _, _, _, _, _, _]) (.of rfl) hS (k := 1) rfl Tryz.isAgg45 Tryz.sizeOf45 rfl (fun _ _ h => h)) rfl ?_ | refine WL.val (.ldsW (cs := [_, _, _, _, _, _, _, _, _, _]) (.of rfl) hS (k := 2) rfl Tryz.isAgg45 Tryz.sizeOf45 rfl) rfl ?_ | refine WL.val (.lds (vs := [_, _, _, _, _, _, _, _, _, _]) (.of rfl) hS (k := 2) rfl Tryz.isAgg45 Tryz.sizeOf45 rfl (fun _ _ h => h)) rfl ?_
   first | refine WL.val (.indexAddr (.of rfl) (.of rfl) (by omega) (by omega) Tryz.underlying35 Tryz.sizeOf45) rfl ?_ | refine WL.val (.indexAddrI (.of rfl) (.of rfl) (by omega) (by omega) Tryz.underlying35 Tryz.sizeOf45) rfl ?_
   refine WL.stA hS (k := 2) rfl (.of rfl) (.of rfl) rfl Tryz.sizeOf45 rfl (by simp only [List.length_append]; omega) ?_
   clear hS; intro w hS; try dsimp only [List.set] at hS
   rw [Nat.zero_add, List.take_append_of_le_length (by omega), List.drop_append_of_le_length (by omega), ← List.append_assoc] at hS
   replace hS := hS.vecShut (n := l.length) (size := 10) (k := 2) rfl hc1 hc2 (by simp only [List.length_append, List.length_take, List.length_drop, List.length_cons, List.length_nil]; omega) (by simp only [List.length_append, List.length_take, List.length_drop, List.length_cons, List.length_nil]; omega)
   try dsimp only [List.set] at hS
   have e9 : (List.take (Int.toNat (i : Int) * 10) (rowsR M) ++ recCells r ++ List.drop (Int.toNat (i : Int) * 10 + 10) (rowsR M)) = rowsR (M.set i r) := by rw [Int.toNat_natCast, rowsR_set (by omega)]
   refine .nil (.region (.run 3 rfl ⟨⟨by omega, by omega⟩, trivial⟩ (.nil (.region (.run 3 rfl ⟨⟨by omega, by omega⟩, trivial⟩ (.nil ?_))))))
   refine ⟨(i + 1, j + 1, M.set i r), ⟨rfl, rfl, rfl, rfl, trivial⟩, ⟨by (try dsimp only); omega, by (try dsimp only); omega, by rw [List.length_set]; exact hM, ?_, ?_, ?_⟩, by (try dsimp only); omega⟩
   ·show (M.set i r).drop (j + 1) = _
    rw [List.drop_set_of_lt (by omega), hdr1]
   ·show (M.set i r).take (i + 1) = _
    rw [List.take_add_one, List.take_set_of_le (Nat.le_refl _), htk, List.getElem?_set_self (by omega), hfl, List.filter_cons, if_pos (by simpa using hb29)]
    rfl
   ·try dsimp only
    rw [← e9]
    exact hS.drop (k := 0) rfl
  have hc29 := hb29; try simp only [Gk.cs0] at hc29
  refine .skip (.region (.run 3 rfl ⟨⟨by omega, by omega⟩, trivial⟩ (.nil ?_)))
  refine ⟨(i, j + 1, M), ⟨rfl, rfl, rfl, rfl, trivial⟩, ⟨by (try dsimp only); omega, by (try dsimp only); omega, hM, hdr1, ?_, hS.drop (k := 0) rfl⟩, by (try dsimp only); omega⟩
  try dsimp only
  rw [htk, hfl, List.filter_cons, if_neg (by simpa using hb29)]
  simp
 have hc19 := hb19; try simp only [Gk.cs0] at hc19
 refine .exit (.seq ?_)
 have hjn : j = l.length := by omega
 subst hjn
 replace hS := hS.pick 1 rfl
 try dsimp only [List.eraseIdx] at hS
 obtain ⟨gb, cap9, rest9, hv9, hc1, hc2, hl1, hl2, hS⟩ := hS.vecOpen (k := 0) rfl (by omega)
 injection hv9 with hv1 hv2 hv3
 first | (injection hv1 with hv1; subst hv1) | subst hv1
 subst hv3
 have hl3 := rowsR_len M
 try dsimp only [List.set] at hS
 refine .region (.run 2 rfl trivial (.val (.slcFrom (.of rfl) (.of rfl) (by omega) (by omega) Tryz.underlying35 Tryz.sizeOf45) rfl ?_))
 have e8 : sliced (some (ad gb 0)) ((i : Int)).toNat l.length c 10 = .slice (some (ad gb (0 + (i : Int).toNat * 10))) (l.length - i) (c - i) := by
  simp only [sliced, Int.toNat_natCast, Option.map_some, add_ad]
  rw [if_neg (by omega)]
 rw [show (⟨gb, 0, none⟩ : Addr) = ad gb 0 from rfl, e8]
 refine WL.clear (s := 10) hS (k := 0) rfl (.of rfl) Tryz.underlying35 Tryz.zeroValue45 rfl (by decide) (by rw [List.length_append]; omega) ?_
 clear hS; intro w cs9 hcs1 hcs2 hS
 try dsimp only [List.set] at hS
 refine .nil (.seq (.region (.run 2 rfl trivial (.val (.slcTo (.of rfl) (.of rfl) (by omega) (by omega) Tryz.underlying35 Tryz.sizeOf45) rfl (.run 1 rfl trivial (.nil (.ret (ret1 Tryz.results101 rfl ?_))))))))
 rw [sliced_zero]
 refine ⟨_, rfl, ?_⟩
 have e1 : (rowsR M ++ rest9).take (i * 10) = rowsR (l.filter (fun x => !pr x)) := by
  rw [List.take_append_of_le_length (by omega), rowsR_take, htk, List.take_of_length_le (by omega)]
 have e2 : (l.filter (fun x => !pr x)).length = i := by
  have h9 := congrArg List.length htk
  rw [List.length_take, List.take_of_length_le (by omega)] at h9
  omega
 have e3 : cs9 = rowsR (l.filter (fun x => !pr x)) ++ cs9.drop (i * 10) := by
  rw [← e1]
  rw [show 0 + (i : Int).toNat * 10 = i * 10 by omega] at hcs2
  rw [← hcs2]; exact (List.take_append_drop _ _).symm
 rw [e3] at hS
 have e4 := rowsR_len (l.filter (fun x => !pr x))
 have e5 := congrArg List.length e3
 rw [List.length_append] at e5
 rw [List.length_append] at hcs1
 replace hS := hS.vecShut (n := i) (size := 10) (k := 0) rfl (by omega) hc2 (by rw [e4, e2]) (by omega)
 rw [Int.toNat_natCast, e2]
 exact ⟨rfl, hS.pick 1 rfl⟩
theorem Drop_any (tb : Nat) (room : Int) (a : Option Addr) (c : Nat) (l : List Rec) (hl : l.length ≤ 100000) (hwf : Wf l) (name : List UInt8) (B w : World) (I : Im) (As : List Assn) (hS : Sat B w I (blk tb [I64 room, .slice a l.length c] 127 :: Vec 45 10 (.slice a l.length c) l.length (rowsR l) :: As)) :
  Calls Tryz.prog 50 [ptr tb 0, S name].toArray w (Ret fun v w' => ∃ J ra rc, v = .slice ra (below l name).length rc ∧ Le I J ∧ (below l name).length ≤ rc ∧ RS J ra 1 (below l name).length ((below l name).map S) ∧ ∃ a c, Sat B w' J (blk tb [I64 room, .slice a (drop l name).length c] 127 :: Vec 45 10 (.slice a (drop l name).length c) (drop l name).length (rowsR (drop l name)) :: As)) := by
 refine calls Tryz.func50 rfl Tryz.ntmps50 rfl (.seq (.region (.run 1 rfl trivial (.nil (.seq (.region (.run 2 rfl trivial (.call Tryz.func100 rfl (evs_cons (.of rfl) (evs_cons (.of rfl) evs_nil)) rfl (Below_any tb room a c l hl hwf name B _ I _ hS) ?_))))))))
 clear hS
 rintro _ w ⟨J, ga, gc, rfl, hJ, hgc, hRS, hS⟩
 refine .alloc1 hS Tryz.zeroValue41 rfl rfl ?_
 clear hS; intro b5 w hS
 first | refine WL.st1 hS (k := 0) rfl (.of rfl) (.of rfl) rfl Tryz.sizeOf41 (by simp) ?_ | refine WL.st1 hS (k := 1) rfl (.of rfl) (.of rfl) rfl Tryz.sizeOf41 (by simp) ?_ | refine WL.st1 hS (k := 2) rfl (.of rfl) (.of rfl) rfl Tryz.sizeOf41 (by simp) ?_
 clear hS; intro w hS; try dsimp only [List.set] at hS
 refine .nil (.seq (.region (.run 3 rfl trivial ?_)))
 first | refine WL.val (.fieldAddr 1 (.of rfl) Tryz.underlying127 rfl rfl Tryz.sizeOf35 rfl) rfl ?_ | refine WL.val (.fieldAddrI 1 (.of rfl) Tryz.underlying127 rfl rfl Tryz.sizeOf35 rfl) rfl ?_
 first | refine WL.val (.ld (.of rfl) hS (k := 0) rfl Tryz.isAgg35 rfl) rfl ?_ | refine WL.val (.ld (.of rfl) hS (k := 1) rfl Tryz.isAgg35 rfl) rfl ?_ | refine WL.val (.ld (.of rfl) hS (k := 2) rfl Tryz.isAgg35 rfl) rfl ?_
 refine .call Tryz.func79 rfl (evs_cons (.of rfl) evs_nil) rfl (CloneR_any a c l hl B _ J _ ((hS.pick 1 rfl).pick 2 rfl)) ?_
 clear hS
 rintro _ w ⟨v7, rfl, hS⟩
 replace hS := hS.pick 2 rfl
 obtain ⟨va, vc, rfl, hvc, _⟩ := hS.vecSlice (k := 1) rfl
 try dsimp only [List.eraseIdx] at hS
 refine .val (.makeFunc (evs_cons (.of rfl) evs_nil)) rfl ?_
 refine WL.call Tryz.func101 rfl (evs_cons (.of rfl) (evs_cons (.of rfl) evs_nil)) rfl (DeleteFunc_any va vc l hl (fun r => (below l name).contains r.name) 102 _ Tryz.func102 rfl [ptr b5 0] (blk b5 [.slice ga (below l name).length gc] 41) B _ J _ (fun r w X h => dropC_any b5 ga gc (below l name) (by have := below_le hwf name; omega) r B w J hRS X h) (by
    have h9 := ((hS.pick 1 rfl).pick 3 rfl)
    try dsimp only [List.eraseIdx] at h9
    exact h9)) ?_
 clear hS
 rintro _ w ⟨rfl, hS⟩
 rw [show l.filter (fun x => !(below l name).contains x.name) = drop l name from rfl] at hS ⊢
 refine .run 1 rfl trivial ?_
 first | refine WL.val (.fieldAddr 1 (.of rfl) Tryz.underlying127 rfl rfl Tryz.sizeOf35 rfl) rfl ?_ | refine WL.val (.fieldAddrI 1 (.of rfl) Tryz.underlying127 rfl rfl Tryz.sizeOf35 rfl) rfl ?_
 first | refine WL.st1 hS (k := 0) rfl (.of rfl) (.of rfl) rfl Tryz.sizeOf35 (by simp) ?_ | refine WL.st1 hS (k := 1) rfl (.of rfl) (.of rfl) rfl Tryz.sizeOf35 (by simp) ?_ | refine WL.st1 hS (k := 2) rfl (.of rfl) (.of rfl) rfl Tryz.sizeOf35 (by simp) ?_ | refine WL.st1 hS (k := 3) rfl (.of rfl) (.of rfl) rfl Tryz.sizeOf35 (by simp) ?_
 clear hS; intro w hS; try dsimp only [List.set] at hS
 refine .nil (.seq (.region ?_))
 first | refine WL.val (.ld (.of rfl) hS (k := 0) rfl Tryz.isAgg41 rfl) rfl ?_ | refine WL.val (.ld (.of rfl) hS (k := 1) rfl Tryz.isAgg41 rfl) rfl ?_ | refine WL.val (.ld (.of rfl) hS (k := 2) rfl Tryz.isAgg41 rfl) rfl ?_ | refine WL.val (.ld (.of rfl) hS (k := 3) rfl Tryz.isAgg41 rfl) rfl ?_
 refine .run 1 rfl trivial (.nil (.ret (ret1 Tryz.results50 rfl ?_)))
 replace hS := (hS.drop (k := 0) rfl).drop (k := 2) rfl
 try dsimp only [List.eraseIdx] at hS
 exact ⟨_, rfl, J, ga, gc, rfl, hJ, hgc, hRS, va, vc, hS.pick 1 rfl⟩
end Go.Proofs.YtadhiihnnkcagaaGreatDoor
namespace Gk
set_option linter.unusedVariables false
set_option linter.unusedSimpArgs false
open Go
structure KeyK {β : Type} (D : TypeDesc) (K : β → Value) : Prop where
 is : ∀ b, MapKept.IsKey D (K b)
 inj : ∀ a b, K a = K b → a = b
theorem keyS : KeyK .string S := ⟨fun _ => trivial, fun a b h => by injection h with h; injection h with h; injection h⟩
def kvOf {β : Type} (K : β → Value) (kv : List (β × Value)) (es : Array MapEntry) : Prop := es.toList.map (fun e => (e.key, e.val)) = kv.map fun p => (K p.1, p.2)
def mapA {β : Type} (K : β → Value) (b : Nat) (kv : List (β × Value)) : Assn := fun h => ∃ es clk, kvOf K kv es ∧ h = [(b, .map es clk)]
def MapI {β : Type} (I : Im) (K : β → Value) (b : Nat) (kv : List (β × Value)) : Prop := ∃ es clk, kvOf K kv es ∧ I b = some (.map es clk)
theorem MapI.mono {β : Type} {I J : Im} {K : β → Value} {b : Nat} {kv : List (β × Value)} (h : MapI I K b kv) (hl : Le I J) : MapI J K b kv := by
 obtain ⟨es, clk, h1, h2⟩ := h
 exact ⟨es, clk, h1, hl _ _ h2⟩
section
variable {P : Program} {n : Nat} {K' : Kont} {L : Env} {w B : World} {ops : Array Oper} {rest : List Oper} {I : Im} {As : List Assn} {β : Type} {K : β → Value} {D : TypeDesc} {kv : List (β × Value)} {k b : Nat} {t kt et ty : TypeId} {x y z : Operand} {pos : String} {af : Array Edge} {d : Nat} {g : Option (Nat × Bool)}
theorem findNow_kv [BEq β] [LawfulBEq β] (hK : KeyK D K) (key : β) : ∀ (kv : List (β × Value)) (es : List MapEntry) (i : Nat), es.map (fun e => (e.key, e.val)) = kv.map (fun p => (K p.1, p.2)) →
  (kv.lookup key = none ∧ Instr.findNow D (K key) es i = some none) ∨ ∃ j v, kv.lookup key = some v ∧ Instr.findNow D (K key) es i = some (some (j, v))
 | [], [], _, _ => .inl ⟨rfl, rfl⟩
 | [], e :: es, _, h => by simp at h
 | p :: kv, [], _, h => by simp at h
 | p :: kv, e :: es, i, h => by
  simp only [List.map_cons, List.cons.injEq, Prod.mk.injEq] at h
  obtain ⟨⟨h1, h2⟩, h3⟩ := h
  have hk : MapKept.IsKey D e.key := h1 ▸ hK.is _
  obtain ⟨r, hr, hi⟩ := MapKept.sameNow_of_keys (hK.is key) hk
  cases r with
  | true =>
   have e1 := hK.inj _ _ ((hi.1 rfl).trans h1)
   exact .inr ⟨i, p.2, by obtain ⟨p1, p2⟩ := p; simp only at e1; subst e1; simp [List.lookup, beq_self_eq_true], by simp [Instr.findNow, hr, h2]⟩
  | false =>
   have hne : key ≠ p.1 := fun q => by have := hi.2 (by rw [h1, q]); cases this
   have hl : (p :: kv).lookup key = kv.lookup key := by obtain ⟨p1, p2⟩ := p; simp only at hne; simp [List.lookup, beq_eq_false_iff_ne.2 hne]
   rcases findNow_kv hK key kv es (i + 1) h3 with ⟨e1, e2⟩ | ⟨j, v, e1, e2⟩
   ·exact .inl ⟨by rw [hl]; exact e1, by simp [Instr.findNow, hr, e2]⟩
   ·exact .inr ⟨j, v, by rw [hl]; exact e1, by simp [Instr.findNow, hr, e2]⟩
theorem run_look_kv [BEq β] [LawfulBEq β] {ty : TypeId} {b : Nat} {es : Array MapEntry} {clk : Nat} {z : Value} (hK : KeyK D K) (hb : w.heap[b]? = some (.map es clk)) (he : kvOf K kv es) (key : β) (ht : P.underlying t = some (.map kt et)) (hk : P.underlying kt = some D) (hz : ∀ w, (zeroValue et).run P w = .ok z w) (ok : Bool) :
  (Instr.lookup t (.map (some b)) (K key) ok).run P w = .ok (if ok then .tuple #[(kv.lookup key).getD z, .bool (kv.lookup key).isSome] else (kv.lookup key).getD z) w := by
 have hc : (Instr.checkKey es.isEmpty 10000 kt (K key)).run P w = .ok () w := MapKept.run_checkKey hk (hK.is key) _ 9999
 rcases findNow_kv hK key kv es.toList 0 he with ⟨h1, h2⟩ | ⟨j, v, h1, h2⟩
 ·simp [Instr.lookup, run_underlying ht, MapKept.run_getObj_map hb, hc, MapKept.run_findKey hk h2, h1, hz, Result.andThen]
 ·simp [Instr.lookup, run_underlying ht, MapKept.run_getObj_map hb, hc, MapKept.run_findKey hk h2, h1, Result.andThen]
theorem Sat.mapNow (hS : Sat B w I As) (hk : As[k]? = some (mapA K b kv)) : ∃ es clk, kvOf K kv es ∧ w.heap[b]? = some (.map es clk) := by
 obtain ⟨g, hs, hg⟩ := hS
 obtain ⟨h1, h2, hp, ⟨es, clk, he, rfl⟩, _⟩ := hs.at_ hk
 exact ⟨es, clk, he, (hg.perm hp).own b _ (by simp)⟩
theorem MapI.now (h : MapI I K b kv) (hS : Sat B w I As) : ∃ es clk, kvOf K kv es ∧ w.heap[b]? = some (.map es clk) := by
 obtain ⟨es, clk, h1, h2⟩ := h
 obtain ⟨g, hs, hg⟩ := hS
 exact ⟨es, clk, h1, hg.imm _ _ h2⟩
theorem Ex.look2 [BEq β] [LawfulBEq β] {d : Option Nat} {z : Value} {key : β} (hK : KeyK D K) (hm : ∃ es clk, kvOf K kv es ∧ w.heap[b]? = some (.map es clk)) (hx : Ev n L x (.map (some b))) (hy : Ev n L y (K key)) (ht : P.underlying t = some (.map kt et)) (hk : P.underlying kt = some D) (hz : ∀ w, (zeroValue et).run P w = .ok z w) :
  Ex P n L w ⟨d, .lookup t x y true, ty, pos, af, g⟩ (.tuple #[(kv.lookup key).getD z, .bool (kv.lookup key).isSome]) w := fun a ha => by
 obtain ⟨es, clk, he, hb⟩ := hm
 have h := run_look_kv (ty := ty) hK hb he key ht hk hz true
 simp [execOp, hx a ha, hy a ha, h]
theorem WL.mkMap (K : β → Value) (hS : Sat B w I As) (hd : Nat.blt d n = true) (h : ∀ b w', Sat B w' I (mapA K b [] :: As) → WL P n ops K' rest ((d, .map (some b)) :: L) w') : WL P n ops K' (⟨some d, .makeMap t none, ty, pos, af, none⟩ :: rest) L w := by
 have h2 : Sat B (w.alloc (.map #[] 0)) I (mapA K w.heap.size [] :: As) := (hS.alloc (.map #[] 0)).say (k := 0) rfl (A' := mapA K w.heap.size []) fun g hg => ⟨#[], 0, rfl, hg⟩
 refine WL.val (v := .map (some w.heap.size)) (fun a ha => ?_) hd (h _ _ h2)
 have hr := run_makeMap_plain (P := P) w t
 simp [execOp, hr]
theorem mput_run [BEq β] [LawfulBEq β] {val : Value} {key : β} (hK : KeyK D K) (hS : Sat B w I As) (hk : As[k]? = some (mapA K b kv)) (hno : kv.lookup key = none) (ht : P.underlying t = some (.map kt et)) (hkt : P.underlying kt = some D) :
  ∃ w', (Instr.mapUpdate t (.map (some b)) (K key) val).run P w = .ok () w' ∧ Sat B w' I (As.set k (mapA K b (kv ++ [(key, val)]))) := by
 obtain ⟨g, hs, hg⟩ := hS
 obtain ⟨h1, h2, hp, ⟨es, clk, he, rfl⟩, hset, _⟩ := hs.at_ hk
 have hb := (hg.perm hp).own b (.map es clk) (by simp)
 have hlt : b < w.heap.size := (Array.getElem?_eq_some_iff.1 hb).1
 have hc : (Instr.checkKey false 10000 kt (K key)).run P w = .ok () w := MapKept.run_checkKey hkt (hK.is key) _ 9999
 have hf : Instr.findNow D (K key) es.toList 0 = some none := by
  rcases findNow_kv hK key kv es.toList 0 he with ⟨_, h⟩ | ⟨j, v, h, _⟩
  ·exact h
  ·rw [hno] at h; cases h
 refine ⟨{ w with heap := w.heap.setIfInBounds b (.map (es.push { key := K key, val := val, born := clk }) (clk + 1)) }, ?_, ?_⟩
 ·simp [Instr.mapUpdate, run_underlying ht, MapKept.run_getObj_map hb, hc, MapKept.run_findKey hkt hf, MapKept.run_setObj_map _ hb, Result.andThen]
 ·-- the block is written
  have hS0 : Sat B w I (As.set k (own b (.map es clk))) := by
   obtain ⟨g', hs', hp'⟩ := hset (own b (.map es clk)) [(b, .map es clk)] rfl
   exact ⟨g', hs', hg.perm (hp.trans hp'.symm)⟩
  have hkl : k < As.length := (List.getElem?_eq_some_iff.1 hk).1
  have hw := hS0.write (k := k) (b := b) (o := .map es clk) (w' := { w with heap := w.heap.setIfInBounds b (.map (es.push { key := K key, val := val, born := clk }) (clk + 1)) }) (o' := .map (es.push { key := K key, val := val, born := clk }) (clk + 1)) (by simp [hkl]) rfl rfl rfl (MapKept.heap_set hb).1 (fun c hc => (MapKept.heap_set hb).2 c hc)
  have hf2 := hw.say (k := k) (A := own b (.map (es.push { key := K key, val := val, born := clk }) (clk + 1))) (A' := mapA K b (kv ++ [(key, val)])) (by simp [hkl]) fun g hg => ⟨_, _, by
   unfold kvOf at he ⊢
   rw [Array.toList_push, List.map_append, List.map_append, he]
   rfl, hg⟩
  simpa using hf2
theorem WL.mput [BEq β] [LawfulBEq β] {val : Value} {key : β} (hK : KeyK D K) (hS : Sat B w I As) (hk : As[k]? = some (mapA K b kv)) (hx : Ev n L x (.map (some b))) (hy : Ev n L y (K key)) (hz : Ev n L z val) (hno : kv.lookup key = none) (ht : P.underlying t = some (.map kt et)) (hkt : P.underlying kt = some D)
  (h : ∀ w', Sat B w' I (As.set k (mapA K b (kv ++ [(key, val)]))) → WL P n ops K' rest L w') : WL P n ops K' (⟨none, .mapUpdate t x y z, ty, pos, af, none⟩ :: rest) L w := by
 obtain ⟨w', hr, hS'⟩ := mput_run (val := val) hK hS hk hno ht hkt
 refine WL.st (w' := w') (fun a ha => ?_) (h _ hS')
 simp [execOp, hx a ha, hy a ha, hz a ha, hr]
theorem Sat.freezeMap (hS : Sat B w I As) (hk : As[k]? = some (mapA K b kv)) : ∃ J, Le I J ∧ MapI J K b kv ∧ Sat B w J (As.eraseIdx k) := by
 have hkl : k < As.length := (List.getElem?_eq_some_iff.1 hk).1
 obtain ⟨⟨⟨es, clk⟩, he⟩, hS2⟩ := hS.opened (X := { x : Array MapEntry × Nat // kvOf K kv x.1 }) (T := fun x => own b (.map x.1.1 x.1.2)) hk fun g hg => by
  obtain ⟨es, clk, he, rfl⟩ := hg
  exact ⟨⟨(es, clk), he⟩, rfl⟩
 obtain ⟨J, h1, h2, h3⟩ := hS2.freeze (k := k) (b := b) (o := .map es clk) (by simp [hkl])
 rw [List.eraseIdx_set_eq] at h3
 exact ⟨J, h1, ⟨es, clk, he, h2⟩, h3⟩
end
end Gk
namespace Gk
set_option linter.unusedVariables false
set_option linter.unusedSimpArgs false
open Go
def rowsC {α : Type} (cells : α → List Value) (l : List α) : List Value := (l.map cells).flatten
theorem rowsC_get {α : Type} {cells : α → List Value} {s : Nat} (hc : ∀ x, (cells x).length = s) {l : List α} {i j : Nat} {r : α} {v : Value} (hr : l[i]? = some r) (hj : (cells r)[j]? = some v) : (rowsC cells l)[i * s + j]? = some v := by
 have hjs : j < s := by rw [← hc r]; exact (List.getElem?_eq_some_iff.1 hj).1
 have h2 := rowsF_get (l.map cells) (fun c h => by obtain ⟨x, _, rfl⟩ := List.mem_map.1 h; exact hc x) i j hjs
 rw [List.getElem?_map, hr] at h2
 exact h2.trans hj
def RowsW {α : Type} (w : World) (cells : α → List Value) (s : Nat) (a : Option Addr) (l : List α) : Prop := ∀ (i : Nat) (r : α), l[i]? = some r → ∃ p, a = some p ∧ ∀ (j : Nat) v, (cells r)[j]? = some v → w.cell? ((p.add (i * s)).add j) = some v
section
variable {P : Program} {n : Nat} {K : Kont} {L : Env} {w B : World} {ops : Array Oper} {rest : List Oper} {I : Im} {As : List Assn} {k : Nat} {ty t t' E : TypeId} {x y : Operand} {pos : String} {af : Array Edge} {g : Option (Nat × Bool)} {v : Value}
theorem rows_rs {α : Type} {cells : α → List Value} {s : Nat} {a : Option Addr} {l : List α} (hc : ∀ x, (cells x).length = s) (hS : Sat B w I As) (hR : RS I a s l.length (rowsC cells l)) : RowsW w cells s a l := fun i r hr => by
 obtain ⟨p, rfl, hA⟩ := hR.2 (by have := (List.getElem?_eq_some_iff.1 hr).1; omega)
 refine ⟨p, rfl, fun j v hj => ?_⟩
 rw [Addr.add_add]
 exact cell_at hS hA (rowsC_get hc hr hj)
theorem rows_own {α : Type} {cells : α → List Value} {s T cap : Nat} {a : Option Addr} {l : List α} (hc : ∀ x, (cells x).length = s) (hS : Sat B w I As) (hk : As[k]? = some (Vec T s (.slice a l.length cap) l.length (rowsC cells l))) : RowsW w cells s a l := fun i r hr => by
 have hi := (List.getElem?_eq_some_iff.1 hr).1
 obtain ⟨g, cap', rest, hv, _, _, _, _, hS2⟩ := hS.vecOpen hk (by omega)
 injection hv with hv1 hv2 hv3
 have hlk : k < As.length := (List.getElem?_eq_some_iff.1 hk).1
 have hb : w.heap[g]? = some (cellsO (rowsC cells l ++ rest) T) := hS2.block (k := k) (by simp [hlk, blk])
 refine ⟨⟨g, 0, none⟩, hv1, fun j v hj => ?_⟩
 rw [Addr.add_add, show (⟨g, 0, none⟩ : Addr).add (i * s + j) = ad g (0 + (i * s + j)) from add_ad g 0 _, Nat.zero_add]
 refine cell_own hb ?_
 have h3 := rowsC_get hc hr hj
 rw [List.getElem?_append_left (List.getElem?_eq_some_iff.1 h3).1]
 exact h3
theorem Ex.ldR {d : Option Nat} {p : Addr} {s : Nat} {vs : List Value} (hx : Ev n L x (.pointer (some p))) (hv : ∀ (j : Nat) v, vs[j]? = some v → w.cell? (p.add j) = some v) (ht : ∀ w, (isAgg t).run P w = .ok true w) (hs : ∀ w, (Go.sizeOf t).run P w = .ok s w)
  (hl : vs.length = s) : Ex P n L w ⟨d, .load t x, ty, pos, af, g⟩ (.agg vs.toArray) w := fun a ha => by
 have h := run_loadCells_list (P := P) w p vs hv
 rw [hl] at h
 simp [execOp, hx a ha, Instr.loadAt, Instr.sureAddr, loadVar, ht, hs, h]
theorem Ex.ld1 {d : Option Nat} {p : Addr} {v : Value} (hx : Ev n L x (.pointer (some p))) (hv : w.cell? p = some v) (ht : ∀ w, (isAgg t).run P w = .ok false w) : Ex P n L w ⟨d, .load t x, ty, pos, af, g⟩ v w := fun a hh => by
 simp [execOp, hx a hh, Instr.loadAt, Instr.sureAddr, loadVar, ht, load, Sem.run, hv]
theorem WL.appendF {d E size m c nn : Nat} {a : Option Addr} {v : Value} {xs ys : List Value} {i : TypeInfo} {z : Value} {bytes : Nat} (hS : Sat B w I As) (hx : Ev n L x v) (hy : Ev n L y (.slice a m c)) (hr : RS I a size m ys)
  (hk : As[k]? = some (Vec E size v nn xs)) (ht : P.underlying t = some (.slice E)) (hi : P.info? E = some i) (hz : i.zero = some z) (hsize : i.size = size) (hby : i.bytes = bytes) (hzs : z.cells.size = size)
  (h1 : ys.all Value.oneCell' = true) (h63 : (nn + m) * bytes ≤ 140737488355328 ∧ nn + m ≤ maxLen) (hd : Nat.blt d n = true)
  (h : ∀ v' w', Sat B w' I (As.set k (Vec E size v' (nn + m) (xs ++ ys))) → WL P n ops K rest ((d, v') :: L) w') :
  WL P n ops K (⟨some d, .call ⟨.builtin .append, #[x, y], #[t, t]⟩, ty, pos, af, none⟩ :: rest) L w := by
 rcases Nat.eq_zero_or_pos m with h0 | h0
 ·subst h0
  have hy0 : ys = [] := List.eq_nil_of_length_eq_zero (by simpa using hr.1)
  subst hy0
  obtain ⟨a0, c0, rfl, hc0, _⟩ := hS.vecSlice hk
  have hr : (Builtin.append_ #[t, t] ty #[.slice a0 nn c0, .slice a 0 c]).run P w = .ok (.slice a0 nn c0) w := by
   subst hsize
   cases a0 <;> cases a <;> simp [Builtin.append_, run_underlying ht, Go.sizeOf, typeInfo, hi, Builtin.lenOf, Builtin.firstCells, loadCells, loadCellsFrom, storeCells, hc0]
  have h2 := h (.slice a0 nn c0) w (by
   have hlk : k < As.length := (List.getElem?_eq_some_iff.1 hk).1
   have : As.set k (Vec E size (.slice a0 nn c0) (nn + 0) (xs ++ [])) = As := by
    rw [Nat.add_zero, List.append_nil]
    have := (List.getElem?_eq_some_iff.1 hk).2
    rw [← this, List.set_getElem_self]
   rw [this]; exact hS)
  exact WL.val (w' := w) (fun a' ha => by simp [execOp, resolve, invoke, builtin, hx a' ha, hy a' ha, hr]) hd h2
 ·obtain ⟨p, rfl, hA⟩ := hr.2 h0
  obtain ⟨v', w', hr', hS'⟩ := run_append_vec (P := P) (ty := ty) hS ht hi hz hsize hby hzs hk (p := p) (m := m) (c := c) hr.1 h0 (fun q u hu => cell_at hS hA hu) (List.all_eq_true.1 h1) h63.2 h63.1
  exact WL.val (w' := w') (fun a' ha => by simp [execOp, resolve, invoke, builtin, hx a' ha, hy a' ha, hr']) hd (h _ _ hS')
theorem Ex.orI {d : Option Nat} {a b : Nat} (ha : a < 9223372036854775808) (hb : b < 9223372036854775808) (hx : Ev n L x (I64 a)) (hy : Ev n L y (I64 b)) : Ex P n L w ⟨d, .binOp .or t x y t', ty, pos, af, g⟩ (I64 ((a ||| b : Nat) : Int)) w :=
 ex_bin hx hy (eqGuard_int _ _ _ _) (by
  have h1 : a ||| b < 9223372036854775808 := Nat.or_lt_two_pow (n := 63) ha hb
  have e : ∀ c : Nat, c < 9223372036854775808 → (BitVec.ofInt 64 (c : Int)).toNat = c := fun c hc => by rw [BitVec.ofInt_natCast, BitVec.toNat_ofNat]; exact Nat.mod_eq_of_lt (by omega)
  have e2 : (BitVec.ofInt IntKind.i64.bits (a : Int) ||| BitVec.ofInt IntKind.i64.bits (b : Int)).toNat = a ||| b := by
   show (BitVec.ofInt 64 (a : Int) ||| BitVec.ofInt 64 (b : Int)).toNat = a ||| b
   rw [BitVec.toNat_or, e a ha, e b hb]
  have e3 : IntKind.i64.wrap ((a ||| b : Nat) : Int) = ((a ||| b : Nat) : Int) := by rw [IntKind.wrap_i64]; omega
  show (Op.intBits .or .i64 a b).run P w = _
  unfold Op.intBits
  simp only [e2, e3, Sem.run_pure])
theorem Ex.xorI {d : Option Nat} {a b : Nat} (ha : a < 9223372036854775808) (hb : b < 9223372036854775808) (hx : Ev n L x (I64 a)) (hy : Ev n L y (I64 b)) : Ex P n L w ⟨d, .binOp .xor t x y t', ty, pos, af, g⟩ (I64 ((a ^^^ b : Nat) : Int)) w :=
 ex_bin hx hy (eqGuard_int _ _ _ _) (by
  have h1 : a ^^^ b < 9223372036854775808 := Nat.xor_lt_two_pow (n := 63) ha hb
  have e : ∀ c : Nat, c < 9223372036854775808 → (BitVec.ofInt 64 (c : Int)).toNat = c := fun c hc => by rw [BitVec.ofInt_natCast, BitVec.toNat_ofNat]; exact Nat.mod_eq_of_lt (by omega)
  have e2 : (BitVec.ofInt IntKind.i64.bits (a : Int) ^^^ BitVec.ofInt IntKind.i64.bits (b : Int)).toNat = a ^^^ b := by
   show (BitVec.ofInt 64 (a : Int) ^^^ BitVec.ofInt 64 (b : Int)).toNat = a ^^^ b
   rw [BitVec.toNat_xor, e a ha, e b hb]
  have e3 : IntKind.i64.wrap ((a ^^^ b : Nat) : Int) = ((a ^^^ b : Nat) : Int) := by rw [IntKind.wrap_i64]; omega
  show (Op.intBits .xor .i64 a b).run P w = _
  unfold Op.intBits
  simp only [e2, e3, Sem.run_pure])
theorem Ex.xor8 {d : Option Nat} {a b : UInt8} (hx : Ev n L x (U8 a.toNat)) (hy : Ev n L y (U8 b.toNat)) : Ex P n L w ⟨d, .binOp .xor t x y t', ty, pos, af, g⟩ (U8 ((a ^^^ b).toNat : Int)) w :=
 ex_bin hx hy (eqGuard_int _ _ _ _) (by
  have e : ∀ c : UInt8, (BitVec.ofInt 8 (c.toNat : Int)).toNat = c.toNat := fun c => by rw [BitVec.ofInt_natCast, BitVec.toNat_ofNat]; exact Nat.mod_eq_of_lt c.toNat_lt
  have e2 : (BitVec.ofInt IntKind.u8.bits (a.toNat : Int) ^^^ BitVec.ofInt IntKind.u8.bits (b.toNat : Int)).toNat = (a ^^^ b).toNat := by
   show (BitVec.ofInt 8 (a.toNat : Int) ^^^ BitVec.ofInt 8 (b.toNat : Int)).toNat = _
   rw [BitVec.toNat_xor, e a, e b, UInt8.toNat_xor]
  have h1 := (a ^^^ b).toNat_lt
  have e3 : IntKind.u8.wrap ((a ^^^ b).toNat : Int) = ((a ^^^ b).toNat : Int) := by rw [IntKind.wrap_u8]; omega
  show (Op.intBits .xor .u8 a.toNat b.toNat).run P w = _
  unfold Op.intBits
  simp only [e2, e3, Sem.run_pure])
end
end Gk
namespace Go.Proofs.YtadhiihnnkcagaaGreatDoor
open Gk Ul Pc Tk Tr
set_option linter.unusedVariables false
set_option linter.unusedSimpArgs false
abbrev Pr := List UInt8 × List UInt8
def prCells (p : Pr) : List Value := [S p.1, S p.2]
theorem pr_one (l : List Pr) : (rowsC prCells l).all Value.oneCell' = true := by
 unfold rowsC
 induction l with
 | nil => rfl
 | cons p l ih => rw [List.map_cons, List.flatten_cons, List.all_append, ih]; rfl
structure Us where
 name : List UInt8
 pw : List UInt8
 attrs : List Pr
def usCells (u : Us) (a : Option Addr) (c : Nat) : List Value := [S u.name, S u.pw, .slice a u.attrs.length c]
def UsAt (I : Im) (u : Us) (l : List Value) : Prop := ∃ a c, l = usCells u a c ∧ u.attrs.length ≤ c ∧ RS I a 2 u.attrs.length (rowsC prCells u.attrs)
theorem UsAt.mono {I J : Im} {u : Us} {l : List Value} (h : UsAt I u l) (hl : Le I J) : UsAt J u l := by
 obtain ⟨a, c, e, h1, h2⟩ := h
 exact ⟨a, c, e, h1, h2.mono hl⟩
def badW (i : Nat) (c : UInt8) : Bool := !letC c && (((i : Int) == 0) || (((decide ((c.toNat : Int) < 48) || decide ((57 : Int) < (c.toNat : Int))) && ((c.toNat : Int) != 45)) && ((c.toNat : Int) != 95)))
def wordG : List UInt8 → Nat → Bool
 | [], _ => true
 | c :: r, i => !badW i c && wordG r (i + 1)
theorem wordG_iff : ∀ (s : List UInt8) (k : Nat), wordG s k = true ↔ ∀ (j : Nat) c, s[j]? = some c → badW (k + j) c = false
 | [], k => by simp [wordG]
 | c :: r, k => by
  rw [wordG, Bool.and_eq_true, wordG_iff r (k + 1)]
  constructor
  ·rintro ⟨h1, h2⟩ j d hd
   cases j with
   | zero => simp at hd; subst hd; simpa using h1
   | succ j => rw [show k + (j + 1) = k + 1 + j by omega]; exact h2 j d (by simpa using hd)
  ·intro h
   refine ⟨by simpa using h 0 c rfl, fun j d hd => ?_⟩
   rw [show k + 1 + j = k + (j + 1) by omega]
   exact h (j + 1) d (by simpa using hd)
def wordT (s : List UInt8) : Bool := wordG s 0 && (!(s == []) && decide ((s.length : Int) ≤ 60))
def badP (p : Pr) : Bool := !wordT p.1 || !withinT p.2 32 0 60
def userR (u : Us) : Bool := withinT u.name 33 1 32 && decide ((1 : Int) ≤ (u.pw.length : Int)) && decide ((u.pw.length : Int) ≤ 60) && decide ((u.attrs.length : Int) ≤ 8) && !u.attrs.any badP
def fitsP (p : Pr) : Prop := p.1.length ≤ maxLen ∧ p.2.length ≤ maxLen
theorem word_any (s : List UInt8) (hs : s.length ≤ 9223372036854775807) (B w : World) (I : Im) (As : List Assn) (hS : Sat B w I As) :
  Calls Tryz.prog 175 [S s].toArray w (Ret fun v w' => v = .bool (wordT s) ∧ Sat B w' I As) := by
 refine calls Tryz.func175 rfl Tryz.ntmps175 rfl (.seq (.region (.run 1 rfl trivial (.nil (.seq (.seq (.region (.run 3 rfl ⟨Tryz.underlying9, trivial⟩ (.nil (.block (.loop (σ := Nat) (fun i => [(0, S s), (6, I64 (s.length : Nat)), (7, I64 (i : Nat))]) (fun i w => i ≤ s.length ∧ (∀ (j : Nat) c, j < i → s[j]? = some c → badW j c = false) ∧ Sat B w I As) (fun i => s.length - i) 0 ⟨rfl, rfl, rfl, trivial⟩ ⟨Nat.zero_le _, fun _ _ h => absurd h (by omega), hS⟩ ?_)))))))))))
 rintro i w ⟨hi, hno, hS⟩
 change WC _ _ _ _ [(0, S s), (6, I64 (s.length : Nat)), (7, I64 (i : Nat))] w
 refine .seq (.region (.run 1 rfl trivial (.nil (.seq ?_))))
 refine WC.cond rfl (fun hb8 => ?_) (fun hb8 => ?_)
 ·
  have hc8 := hb8; try simp only [Gk.cs0] at hc8
  refine .skip (.seq (.block (.seq (.region (.run 2 rfl trivial (.nil (.seq (.region (.run 4 rfl ⟨⟨⟨by omega, by omega⟩, Tryz.underlying9⟩, trivial⟩ (.nil (.seq (.region (.run 1 rfl trivial (.call Tryz.func202 rfl (evs_cons (.of rfl) evs_nil) rfl (letter_any _ w) ?_))))))))))))))
  rintro _ _ ⟨rfl, rfl⟩
  refine .run 2 rfl trivial (.gval rfl rfl (fun hg1 => (.move (.of rfl))) rfl (.gval rfl rfl (fun hg1 => (.eql (.gd hg1 rfl) (.of rfl))) rfl (.gval rfl rfl (fun hg1 => (.move (.gd hg1 rfl))) rfl (.gval2 rfl rfl rfl (fun hg1 hg2 => (.move (.of rfl))) rfl (.gval2 rfl rfl rfl (fun hg1 hg2 => (.lss (.gd2 hg1 hg2 rfl) (.of rfl))) rfl (.gval2 rfl rfl rfl (fun hg1 hg2 => (.move (.gd2 hg1 hg2 rfl))) rfl (.gval3 rfl rfl rfl (fun hg1 hg2 hg3 => (.move (.of rfl))) rfl (.gval3 rfl rfl rfl (fun hg1 hg2 hg3 => (.gtr (.gd3 hg1 hg2 hg3 rfl) (.of rfl))) rfl (.gval2 rfl rfl rfl (fun hg1 hg2 => (.por (.gd2 hg1 hg2 rfl) (.of rfl) (.gd2 hg1 hg2 rfl))) rfl (.gval2 rfl rfl rfl (fun hg1 hg2 => (.move (.gd2 hg1 hg2 rfl))) rfl (.gval3 rfl rfl rfl (fun hg1 hg2 hg3 => (.move (.of rfl))) rfl (.gval3 rfl rfl rfl (fun hg1 hg2 hg3 => (.neq (.gd3 hg1 hg2 hg3 rfl) (.of rfl))) rfl (.gval2 rfl rfl rfl (fun hg1 hg2 => (.pand (.gd2 hg1 hg2 rfl) (.gd2 hg1 hg2 rfl) (.of rfl))) rfl (.gval2 rfl rfl rfl (fun hg1 hg2 => (.move (.gd2 hg1 hg2 rfl))) rfl (.gval3 rfl rfl rfl (fun hg1 hg2 hg3 => (.move (.of rfl))) rfl (.gval3 rfl rfl rfl (fun hg1 hg2 hg3 => (.neq (.gd3 hg1 hg2 hg3 rfl) (.of rfl))) rfl (.gval2 rfl rfl rfl (fun hg1 hg2 => (.pand (.gd2 hg1 hg2 rfl) (.gd2 hg1 hg2 rfl) (.of rfl))) rfl (.gval rfl rfl (fun hg1 => (.por (.gd hg1 rfl) (.of rfl) (.gd hg1 rfl))) rfl (.val (.pand (.of rfl) (.of rfl) (.of rfl)) rfl (.nil ?_))))))))))))))))))))
  refine WC.cond rfl (fun hb35 => ?_) (fun hb35 => ?_)
  ·
   have hc35 := hb35; try simp only [Gk.cs0] at hc35
   refine .seq (.region (.run 1 rfl trivial (.nil (.ret (ret1 Tryz.results175 rfl ?_)))))
   refine ⟨_, rfl, congrArg Value.bool ?_, hS⟩
   have : wordG s 0 = false := by
    cases h : wordG s 0 with
    | false => rfl
    | true =>
     have h1 := (wordG_iff s 0).1 h i _ (at_some (show i < s.length by omega))
     rw [Nat.zero_add] at h1
     exact absurd (hb35.symm.trans h1) (by decide)
   rw [wordT, this]; rfl
  have hc35 := hb35; try simp only [Gk.cs0] at hc35
  refine .skip (.region (.run 2 rfl ⟨⟨by omega, by omega⟩, trivial⟩ (.nil ?_)))
  refine ⟨i + 1, ⟨rfl, rfl, rfl, trivial⟩, ⟨by (try dsimp only); omega, fun j c hj hc => ?_, hS⟩, by (try dsimp only); omega⟩
  rcases Nat.lt_or_ge j i with h1 | h1
  ·exact hno j c h1 hc
  ·have e : j = i := by omega
   subst e
   rw [at_some (show j < s.length by omega)] at hc; cases hc
   exact hb35
 have hc8 := hb8; try simp only [Gk.cs0] at hc8
 refine .exit (.seq (.region (.run 3 rfl trivial (.gval rfl rfl (fun hg1 => (.move (.of rfl))) rfl (.gval rfl rfl (fun hg1 => (.len (.gd hg1 rfl) Tryz.underlying9)) rfl (.gval rfl rfl (fun hg1 => (.leq (.gd hg1 rfl) (.of rfl))) rfl (.val (.pand (.of rfl) (.of rfl) (.of rfl)) rfl (.run 1 rfl trivial (.nil (.ret (ret1 Tryz.results175 rfl ?_)))))))))))
 refine ⟨_, rfl, congrArg Value.bool ?_, hS⟩
 have : wordG s 0 = true := (wordG_iff s 0).2 fun j c hc => by
  have := (List.getElem?_eq_some_iff.1 hc).1
  rw [Nat.zero_add]; exact hno j c (by omega) hc
 rw [wordT, this]
 simp
theorem badP_any (p : Pr) (hp : fitsP p) (B w : World) (I : Im) (As : List Assn) (hS : Sat B w I As) :
  Calls Tryz.prog 174 [.agg (prCells p).toArray].toArray w (Ret fun v w' => v = .bool (badP p) ∧ Sat B w' I As) := by
 refine calls Tryz.func174 rfl Tryz.ntmps174 rfl (.seq (.region (.boxA (cs := [_, _]) hS (.of rfl) rfl ?_)))
 clear hS; intro b1 w hS
 refine .run 1 rfl trivial (.nil (.seq (.region ?_)))
 first | refine WL.val (.fieldAddr 0 (.of rfl) Tryz.underlying69 rfl rfl Tryz.sizeOf9 rfl) rfl ?_ | refine WL.val (.fieldAddrI 0 (.of rfl) Tryz.underlying69 rfl rfl Tryz.sizeOf9 rfl) rfl ?_
 first | refine WL.val (.ld (.of rfl) hS (k := 0) rfl Tryz.isAgg9 rfl) rfl ?_ | refine WL.val (.ld (.of rfl) hS (k := 1) rfl Tryz.isAgg9 rfl) rfl ?_
 refine .call Tryz.func175 rfl (evs_cons (.of rfl) evs_nil) rfl (word_any p.1 hp.1 B _ I _ hS) ?_
 clear hS
 rintro _ w ⟨rfl, hS⟩
 refine .run 2 rfl trivial ?_
 refine WL.gval rfl rfl (fun hg1 => (by first | exact .fieldAddr 1 (.of rfl) Tryz.underlying69 rfl rfl Tryz.sizeOf9 rfl | exact .fieldAddrI 1 (.of rfl) Tryz.underlying69 rfl rfl Tryz.sizeOf9 rfl)) rfl ?_
 refine WL.gval rfl rfl (fun hg1 => (by first | exact (.ld (.gd hg1 rfl) hS (k := 0) rfl Tryz.isAgg9 rfl) | exact (.ld (.gd hg1 rfl) hS (k := 1) rfl Tryz.isAgg9 rfl))) rfl ?_
 refine .gcall (T := fun w => Sat B w I (blk b1 [S p.1, S p.2] 69 :: As)) rfl rfl rfl Tryz.func176 rfl (fun hg1 => (evs_cons (.gd hg1 rfl) (evs_cons (.of rfl) (evs_cons (.of rfl) (evs_cons (.of rfl) evs_nil))))) rfl (fun hg1 => within_any p.2 32 0 60 hp.2 B _ I _ hS) hS ?_
 clear hS; rintro w hS
 refine .gval rfl rfl (fun hg1 => (.not (.gd hg1 rfl))) rfl (.val (.por (.of rfl) (.of rfl) (.of rfl)) rfl (.run 1 rfl trivial (.nil (.ret (ret1 Tryz.results174 rfl ?_)))))
 exact ⟨_, rfl, rfl, hS.drop (k := 0) rfl⟩
theorem IndexFuncP_any (a : Option Addr) (cap : Nat) (l : List (Pr)) (hln : l.length ≤ 9223372036854775807) (pr : Pr → Bool) (fid : FuncId) (fn : Func) (hfn : Tryz.prog.funcs[fid]? = some fn) (hcal : callable fn = true) (capv : List Value) (B w : World) (I : Im) (As : List Assn) (hE : ∀ w, Sat B w I As → RowsW w prCells 2 a l) (hf : ∀ (r : Pr) (hr : r ∈ l) w, Sat B w I As → Calls Tryz.prog fid ([Value.agg (prCells r).toArray] ++ capv).toArray w (Ret fun v w' => v = .bool (pr r) ∧ Sat B w' I As)) (hS : Sat B w I As) :
  Calls Tryz.prog 203 [.slice a l.length cap, .func (.func fid) #[] capv.toArray].toArray w (Ret fun v w' => v = I64 (firstR pr l 0) ∧ Sat B w' I As) := by
 refine calls Tryz.func203 rfl Tryz.ntmps203 rfl (.seq (.region (.run 1 rfl trivial (.nil (.seq (.seq (.region (.run 3 rfl ⟨⟨_, Tryz.underlying54⟩, trivial⟩ (.nil (.block (.loop (σ := Nat) (fun i => [(0, .slice a l.length cap), (1, .func (.func fid) #[] capv.toArray), (7, I64 (l.length : Nat)), (8, I64 (i : Nat))]) (fun i w => i ≤ l.length ∧ (∀ (j : Nat) t, j < i → l[j]? = some t → pr t = false) ∧ Sat B w I As) (fun i => l.length - i) 0 ⟨rfl, rfl, rfl, rfl, trivial⟩ ⟨Nat.zero_le _, fun _ _ h => absurd h (by omega), hS⟩ ?_)))))))))))
 rintro i w ⟨hi, hno, hS⟩
 change WC _ _ _ _ [(0, .slice a l.length cap), (1, .func (.func fid) #[] capv.toArray), (7, I64 (l.length : Nat)), (8, I64 (i : Nat))] w
 refine .seq (.region (.run 1 rfl trivial (.nil (.seq ?_))))
 refine WC.cond rfl (fun hb9 => ?_) (fun hb9 => ?_)
 ·
  have hc9 := hb9; try simp only [Gk.cs0] at hc9
  refine .skip (.seq (.block (.seq ?_)))
  obtain ⟨r, hr⟩ : ∃ r, l[i]? = some r := ⟨_, List.getElem?_eq_getElem (by omega)⟩
  obtain ⟨p, rfl, hx⟩ := hE w hS i r hr
  refine .region (.run 2 rfl trivial (.nil (.seq (.region (.run 3 rfl trivial ?_)))))
  first | refine WL.val (.indexAddr (.of rfl) (.of rfl) (by omega) (by omega) Tryz.underlying54 Tryz.sizeOf69) rfl ?_ | refine WL.val (.indexAddrI (.of rfl) (.of rfl) (by omega) (by omega) Tryz.underlying54 Tryz.sizeOf69) rfl ?_
  refine .val (.ldR (.of rfl) hx Tryz.isAgg69 Tryz.sizeOf69 rfl) rfl (.vcall (cap := capv) hfn hcal (.of rfl) (evs_cons (.of rfl) evs_nil) rfl (hf r (List.mem_of_getElem? hr) w hS) ?_)
  clear hS
  rintro _ w ⟨rfl, hS⟩
  refine .nil ?_
  refine WC.cond rfl (fun hb16 => ?_) (fun hb16 => ?_)
  ·
   have hc16 := hb16; try simp only [Gk.cs0] at hc16
   refine .seq (.region (.run 2 rfl trivial (.nil (.ret (ret1 Tryz.results203 rfl ?_)))))
   exact ⟨_, rfl, by rw [firstR_hit hno hr hb16], hS⟩
  have hc16 := hb16; try simp only [Gk.cs0] at hc16
  refine .skip (.region (.run 2 rfl ⟨⟨by omega, by omega⟩, trivial⟩ (.nil ?_)))
  refine ⟨i + 1, ⟨rfl, rfl, rfl, rfl, trivial⟩, ⟨by (try dsimp only); omega, fun j t hj ht => ?_, hS⟩, by (try dsimp only); omega⟩
  rcases Nat.lt_or_ge j i with h1 | h1
  ·exact hno j t h1 ht
  ·have e : j = i := by omega
   subst e
   rw [hr] at ht; cases ht
   exact hb16
 have hc9 := hb9; try simp only [Gk.cs0] at hc9
 refine .exit (.seq (.region (.run 1 rfl trivial (.nil (.ret (ret1 Tryz.results203 rfl ?_))))))
 exact ⟨_, rfl, by rw [firstR_none (fun j t ht => hno j t (by have := (List.getElem?_eq_some_iff.1 ht).1; omega) ht)], hS⟩
theorem ContainsFuncP_any (a : Option Addr) (cap : Nat) (l : List (Pr)) (hln : l.length ≤ 9223372036854775807) (pr : Pr → Bool) (fid : FuncId) (fn : Func) (hfn : Tryz.prog.funcs[fid]? = some fn) (hcal : callable fn = true) (capv : List Value) (B w : World) (I : Im) (As : List Assn) (hE : ∀ w, Sat B w I As → RowsW w prCells 2 a l) (hf : ∀ (r : Pr) (hr : r ∈ l) w, Sat B w I As → Calls Tryz.prog fid ([Value.agg (prCells r).toArray] ++ capv).toArray w (Ret fun v w' => v = .bool (pr r) ∧ Sat B w' I As)) (hS : Sat B w I As) :
  Calls Tryz.prog 177 [.slice a l.length cap, .func (.func fid) #[] capv.toArray].toArray w (Ret fun v w' => v = .bool (l.any pr) ∧ Sat B w' I As) := by
 refine calls Tryz.func177 rfl Tryz.ntmps177 rfl (.seq (.region (.run 1 rfl trivial (.nil (.seq (.region (.run 2 rfl trivial (.call Tryz.func203 rfl (evs_cons (.of rfl) (evs_cons (.of rfl) evs_nil)) rfl (IndexFuncP_any a cap l hln pr fid fn hfn hcal capv B _ I As hE hf hS) ?_))))))))
 clear hS
 rintro _ w ⟨rfl, hS⟩
 refine .run 2 rfl trivial (.nil (.ret (ret1 Tryz.results177 rfl ?_)))
 exact ⟨_, rfl, by rw [← firstR_any pr l 0], hS⟩
theorem CloneP_any (a : Option Addr) (c : Nat) (l : List (Pr)) (hl : l.length ≤ 1000000) (B w : World) (I : Im) (hR : RS I a 2 l.length (rowsC prCells l)) (As : List Assn) (hS : Sat B w I As) :
  Calls Tryz.prog 133 [.slice a l.length c].toArray w (Ret fun v w' => ∃ J ra rc, v = .slice ra l.length rc ∧ Le I J ∧ l.length ≤ rc ∧ RS J ra 2 l.length (rowsC prCells l) ∧ Sat B w' J As) := by
 refine calls Tryz.func133 rfl Tryz.ntmps133 rfl (.seq (.region (.run 1 rfl trivial (.nil (.seq (.seq (.region (.run 1 rfl trivial (.val (Ex.slNil (.of rfl) (.of rfl) Tryz.underlying54) rfl (.nil ?_))))))))))
 refine WC.cond rfl (fun hb4 => ?_) (fun hb4 => ?_)
 ·
  have hc4 := hb4; try simp only [Gk.cs0] at hc4
  refine .seq (.region (.run 1 rfl trivial (.nil (.ret (ret1 Tryz.results133 rfl ?_)))))
  cases a with
  | some p => simp at hb4
  | none =>
  have h0 : l = [] := by
   cases l with
   | nil => rfl
   | cons x l => obtain ⟨p, h, _⟩ := hR.2 (by simp); cases h
  subst h0
  exact ⟨_, rfl, I, none, 0, rfl, Le.refl _, Nat.le_refl _, ⟨rfl, fun h => absurd h (by simp)⟩, hS⟩
 have hc4 := hb4; try simp only [Gk.cs0] at hc4
 refine .skip (.seq (.region (.buildSlice (cs := []) hS parts_nil Tryz.underlying54 Tryz.sizeOf69 Tryz.zeroValue69 rfl rfl rfl rfl ?_)))
 clear hS; intro b5 w hS
 refine .run 1 rfl trivial ?_
 replace hS := hS.vecOf (k := 0) (E := 69) (size := 2) (n := 0) rfl rfl (Nat.zero_le _)
 try dsimp only [List.set] at hS
 refine WL.appendF (size := 2) (bytes := 32) hS (.of rfl) (.of rfl) hR (k := 0) rfl Tryz.underlying54 (i := Tryz.t69) (by kernel_rfl) rfl rfl rfl rfl (pr_one l) ⟨by omega, by unfold maxLen; omega⟩ rfl ?_
 clear hS; intro v7 w hS
 rw [Nat.zero_add, List.nil_append] at hS
 refine .run 1 rfl trivial (.nil (.ret (ret1 Tryz.results133 rfl ?_)))
 obtain ⟨ra, rc, rfl, hrc, _⟩ := hS.vecSlice (k := 0) rfl
 obtain ⟨J, hJ, hRS, hS⟩ := hS.freezeVec (k := 0) rfl
 exact ⟨_, rfl, J, ra, rc, rfl, hJ, hrc, hRS, hS⟩
theorem userR_any (u : Us) (a : Option Addr) (c : Nat) (hn : u.name.length ≤ 9223372036854775807) (hal : u.attrs.length ≤ 9223372036854775807) (hA : ∀ p ∈ u.attrs, fitsP p) (B w : World) (I : Im) (hR : RS I a 2 u.attrs.length (rowsC prCells u.attrs)) (As : List Assn) (hS : Sat B w I As) :
  Calls Tryz.prog 132 [.agg (usCells u a c).toArray].toArray w (Ret fun v w' => v = .bool (userR u) ∧ Sat B w' I As) := by
 refine calls Tryz.func132 rfl Tryz.ntmps132 rfl (.seq (.region (.boxA (cs := [_, _, _]) hS (.of rfl) rfl ?_)))
 clear hS; intro b1 w hS
 refine .run 1 rfl trivial (.nil (.seq (.region (.run 1 rfl trivial (.nil (.seq (.region ?_)))))))
 first | refine WL.val (.fieldAddr 0 (.of rfl) Tryz.underlying67 rfl rfl Tryz.sizeOf9 rfl) rfl ?_ | refine WL.val (.fieldAddrI 0 (.of rfl) Tryz.underlying67 rfl rfl Tryz.sizeOf9 rfl) rfl ?_
 first | refine WL.val (.ld (.of rfl) hS (k := 0) rfl Tryz.isAgg9 rfl) rfl ?_ | refine WL.val (.ld (.of rfl) hS (k := 1) rfl Tryz.isAgg9 rfl) rfl ?_
 refine .call Tryz.func176 rfl (evs_cons (.of rfl) (evs_cons (.of rfl) (evs_cons (.of rfl) (evs_cons (.of rfl) evs_nil)))) rfl (within_any u.name 33 1 32 hn B _ I _ hS) ?_
 clear hS
 rintro _ w ⟨rfl, hS⟩
 refine .run 1 rfl trivial ?_
 refine WL.gval rfl rfl (fun hg1 => (by first | exact .fieldAddr 1 (.of rfl) Tryz.underlying67 rfl rfl Tryz.sizeOf9 rfl | exact .fieldAddrI 1 (.of rfl) Tryz.underlying67 rfl rfl Tryz.sizeOf9 rfl)) rfl ?_
 refine WL.gval rfl rfl (fun hg1 => (by first | exact (.ld (.gd hg1 rfl) hS (k := 0) rfl Tryz.isAgg9 rfl) | exact (.ld (.gd hg1 rfl) hS (k := 1) rfl Tryz.isAgg9 rfl))) rfl ?_
 refine .gval rfl rfl (fun hg1 => (.len (.gd hg1 rfl) Tryz.underlying9)) rfl (.gval rfl rfl (fun hg1 => (.geq (.gd hg1 rfl) (.of rfl))) rfl (.val (.pand (.of rfl) (.of rfl) (.of rfl)) rfl (.run 1 rfl trivial ?_)))
 refine WL.gval rfl rfl (fun hg1 => (by first | exact .fieldAddr 1 (.of rfl) Tryz.underlying67 rfl rfl Tryz.sizeOf9 rfl | exact .fieldAddrI 1 (.of rfl) Tryz.underlying67 rfl rfl Tryz.sizeOf9 rfl)) rfl ?_
 refine WL.gval rfl rfl (fun hg1 => (by first | exact (.ld (.gd hg1 rfl) hS (k := 0) rfl Tryz.isAgg9 rfl) | exact (.ld (.gd hg1 rfl) hS (k := 1) rfl Tryz.isAgg9 rfl))) rfl ?_
 refine .gval rfl rfl (fun hg1 => (.len (.gd hg1 rfl) Tryz.underlying9)) rfl (.gval rfl rfl (fun hg1 => (.leq (.gd hg1 rfl) (.of rfl))) rfl (.val (.pand (.of rfl) (.of rfl) (.of rfl)) rfl (.run 1 rfl trivial ?_)))
 refine WL.gval rfl rfl (fun hg1 => (by first | exact .fieldAddr 2 (.of rfl) Tryz.underlying67 rfl rfl Tryz.sizeOf54 rfl | exact .fieldAddrI 2 (.of rfl) Tryz.underlying67 rfl rfl Tryz.sizeOf54 rfl)) rfl ?_
 refine WL.gval rfl rfl (fun hg1 => (by first | exact (.ld (.gd hg1 rfl) hS (k := 0) rfl Tryz.isAgg54 rfl) | exact (.ld (.gd hg1 rfl) hS (k := 1) rfl Tryz.isAgg54 rfl))) rfl ?_
 refine .gval rfl rfl (fun hg1 => (.lenSlice (.gd hg1 rfl) Tryz.underlying54)) rfl (.gval rfl rfl (fun hg1 => (.leq (.gd hg1 rfl) (.of rfl))) rfl (.val (.pand (.of rfl) (.of rfl) (.of rfl)) rfl (.run 1 rfl trivial ?_)))
 refine WL.gval rfl rfl (fun hg1 => (by first | exact .fieldAddr 2 (.of rfl) Tryz.underlying67 rfl rfl Tryz.sizeOf54 rfl | exact .fieldAddrI 2 (.of rfl) Tryz.underlying67 rfl rfl Tryz.sizeOf54 rfl)) rfl ?_
 refine WL.gval rfl rfl (fun hg1 => (by first | exact (.ld (.gd hg1 rfl) hS (k := 0) rfl Tryz.isAgg54 rfl) | exact (.ld (.gd hg1 rfl) hS (k := 1) rfl Tryz.isAgg54 rfl))) rfl ?_
 refine .gval rfl rfl (fun hg1 => (.move (.of rfl))) rfl (.gcall (T := fun w => Sat B w I (blk b1 (usCells u a c) 67 :: As)) rfl rfl rfl Tryz.func177 rfl (fun hg1 => (evs_cons (.gd hg1 rfl) (evs_cons (.gd hg1 rfl) evs_nil))) rfl (fun hg1 => ContainsFuncP_any a c u.attrs (by omega) badP 174 _ Tryz.func174 rfl [] B _ I _ (fun w h => rows_rs (fun _ => rfl) h hR) (fun p hp w h => badP_any p (hA p hp) B w I _ h) hS) hS ?_)
 clear hS; rintro w hS
 refine .gval rfl rfl (fun hg1 => (.not (.gd hg1 rfl))) rfl (.val (.pand (.of rfl) (.of rfl) (.of rfl)) rfl (.run 1 rfl trivial (.nil (.ret (ret1 Tryz.results132 rfl ?_)))))
 exact ⟨_, rfl, rfl, hS.drop (k := 0) rfl⟩
end Go.Proofs.YtadhiihnnkcagaaGreatDoor
namespace Go.Proofs.YtadhiihnnkcagaaGreatDoor
open Gk Ul Pc Tk Tr
set_option linter.unusedVariables false
set_option linter.unusedSimpArgs false
theorem bld179_90 : Bld Tryz.prog 179 [(0, 1)] [.map none] := bld_of Tryz.underlying179 Tryz.zeroValue179 (fun w => by simp [go_sem])
def UsrsAt (I : Im) (a : Option Addr) (l : List Us) : Prop := ∀ (i : Nat) (u : Us), l[i]? = some u → ∃ p ra rc, a = some p ∧ At I (p.add (i * 3)) (usCells u ra rc) ∧ u.attrs.length ≤ rc ∧ RS I ra 2 u.attrs.length (rowsC prCells u.attrs)
theorem UsrsAt.mono {I J : Im} {a : Option Addr} {l : List Us} (h : UsrsAt I a l) (hl : Le I J) : UsrsAt J a l := fun i u hu => by
 obtain ⟨p, ra, rc, e, h1, h2, h3⟩ := h i u hu
 exact ⟨p, ra, rc, e, h1.mono hl, h2, h3.mono hl⟩
structure Us.fits (u : Us) : Prop where
 name : u.name.length ≤ maxLen
 pw : u.pw.length ≤ maxLen
 attrs : u.attrs.length ≤ 9223372036854775807 ∧ ∀ p ∈ u.attrs, fitsP p
def newU : List Us → Nat → List Us → Nat × Nat
 | [], _, _ => (0, 0)
 | u :: r, i, acc => if 16 ≤ i then (5, i) else if userR u = false then (1, i) else if acc.any (fun t => t.name == u.name) then (7, i) else newU r (i + 1) (acc ++ [u])
def KvOf (J : Im) (kv : List (List UInt8 × Value)) (l : List Us) : Prop := kv.length = l.length ∧ ∀ (i : Nat) (u : Us), l[i]? = some u → ∃ cs, kv[i]? = some (u.name, .agg (List.toArray cs)) ∧ UsAt J u cs
theorem KvOf.mono {I J : Im} {kv : List (List UInt8 × Value)} {l : List Us} (h : KvOf I kv l) (hl : Le I J) : KvOf J kv l := ⟨h.1, fun i u hu => by
 obtain ⟨cs, h1, h2⟩ := h.2 i u hu
 exact ⟨cs, h1, h2.mono hl⟩⟩
theorem KvOf.snoc {J : Im} {kv : List (List UInt8 × Value)} {l : List Us} {u : Us} {cs : List Value} (h : KvOf J kv l) (hu : UsAt J u cs) : KvOf J (kv ++ [(u.name, .agg cs.toArray)]) (l ++ [u]) := ⟨by simp [h.1], fun i t ht => by
 rcases Nat.lt_or_ge i l.length with h1 | h1
 ·rw [List.getElem?_append_left h1] at ht
  rw [List.getElem?_append_left (by rw [h.1]; exact h1)]
  exact h.2 i t ht
 ·have h2 := (List.getElem?_eq_some_iff.1 ht).1
  simp only [List.length_append, List.length_cons, List.length_nil] at h2
  have e : i = l.length := by omega
  subst e
  simp at ht; subst ht
  exact ⟨cs, by rw [← h.1]; simp, hu⟩⟩
theorem kv_look {J : Im} (name : List UInt8) : ∀ {kv : List (List UInt8 × Value)} {l : List Us}, KvOf J kv l → (l.find? (fun t => t.name == name) = none ∧ kv.lookup name = none) ∨ ∃ u cs, l.find? (fun t => t.name == name) = some u ∧ kv.lookup name = some (.agg (List.toArray cs)) ∧ UsAt J u cs
 | [], [], _ => .inl ⟨rfl, rfl⟩
 | [], u :: l, h => by have := h.1; simp at this
 | p :: kv, [], h => by have := h.1; simp at this
 | p :: kv, u :: l, h => by
  obtain ⟨cs, h1, h2⟩ := h.2 0 u rfl
  simp at h1; subst h1
  have h3 : KvOf J kv l := ⟨by simpa using h.1, fun i t ht => by simpa using h.2 (i + 1) t (by simpa using ht)⟩
  rw [List.find?_cons]
  by_cases e : u.name = name
  ·subst e
   exact .inr ⟨u, cs, by simp, by simp [List.lookup], h2⟩
  ·have e1 : (u.name == name) = false := beq_eq_false_iff_ne.2 e
   have e2 : (name == u.name) = false := beq_eq_false_iff_ne.2 (Ne.symm e)
   simp only [e1, List.lookup, e2]
   exact kv_look name h3
theorem any_find (l : List Us) (name : List UInt8) : l.any (fun t => t.name == name) = (l.find? (fun t => t.name == name)).isSome := by
 rw [Bool.eq_iff_iff, List.any_eq_true, List.find?_isSome]
def TabAt (J : Im) (tb : Nat) (l : List Us) : Prop := ∃ mb kv, At J (ad tb 0) [.map (some mb)] ∧ MapI J S mb kv ∧ KvOf J kv l
theorem TabAt.mono {I J : Im} {tb : Nat} {l : List Us} (h : TabAt I tb l) (hl : Le I J) : TabAt J tb l := by
 obtain ⟨mb, kv, h1, h2, h3⟩ := h
 exact ⟨mb, kv, h1.mono hl, h2.mono hl, h3.mono hl⟩
theorem at_frozen {J : Im} {b : Nat} {cs : List Value} {E : TypeId} (h : J b = some (cellsO cs E)) : At J (ad b 0) cs := ⟨rfl, _, E, (0, 0), h, fun j v hj => by simpa [ad] using hj⟩
theorem userR_attrs {u : Us} (h : userR u = true) : u.attrs.length ≤ 8 := by
 unfold userR at h
 simp only [Bool.and_eq_true, decide_eq_true_eq] at h
 omega
set_option maxRecDepth 20000 in
theorem usersNew_any (a : Option Addr) (cap : Nat) (l : List Us) (hln : l.length ≤ 9223372036854775807) (hfit : ∀ u ∈ l, u.fits) (B w : World) (I : Im) (hU : UsrsAt I a l) (As : List Assn) (hS : Sat B w I As) :
  Calls Tryz.prog 90 [.slice a l.length cap].toArray w (Ret fun v w' => ∃ J, Le I J ∧ (((newU l 0 []).1 = 0 ∧ ∃ tb, v = .tuple #[ptr tb 0, I64 0, I64 0] ∧ TabAt J tb l) ∨ ((newU l 0 []).1 ≠ 0 ∧ v = .tuple #[.pointer none, I64 ((newU l 0 []).1 : Nat), I64 ((newU l 0 []).2 : Nat)])) ∧ Sat B w' J As) := by
 refine calls Tryz.func90 rfl Tryz.ntmps90 rfl (.seq (.region (.run 3 rfl trivial (.nil (.seq (.region (.mkMap S hS rfl ?_)))))))
 clear hS; intro b10 w hS
 refine .val (.build (cs := [_]) (parts_cons (.of rfl) parts_nil) bld179_90 rfl) rfl (.boxA (cs := [_]) hS (.of rfl) rfl ?_)
 clear hS; intro b12 w hS
 refine .run 1 rfl trivial (.nil (.seq (.seq (.region (.run 3 rfl ⟨⟨_, Tryz.underlying28⟩, trivial⟩ (.nil (.block (.loop (σ := Nat × Im × List (List UInt8 × Value)) (fun ⟨i, J, kv⟩ => [(0, .slice a l.length cap), (5, ptr b12 0), (13, .slice a l.length cap), (14, I64 (l.length : Nat)), (15, I64 (i : Nat))]) (fun ⟨i, J, kv⟩ w => i ≤ l.length ∧ Le I J ∧ KvOf J kv (l.take i) ∧ newU (l.drop i) i (l.take i) = newU l 0 [] ∧ Sat B w J (blk b12 [.map (some b10)] 179 :: mapA S b10 kv :: As)) (fun ⟨i, J, kv⟩ => l.length - i) (0, I, []) ⟨rfl, rfl, rfl, rfl, rfl, trivial⟩ ⟨Nat.zero_le _, Le.refl _, ⟨rfl, fun i u h => by simp at h⟩, rfl, hS⟩ ?_))))))))
 rintro ⟨i, J, kv⟩ w ⟨hi, hJ, hkv, hq, hS⟩
 change WC _ _ _ _ [(0, .slice a l.length cap), (5, ptr b12 0), (13, .slice a l.length cap), (14, I64 (l.length : Nat)), (15, I64 (i : Nat))] w
 refine .seq (.region (.run 1 rfl trivial (.nil (.seq ?_))))
 refine WC.cond rfl (fun hb16 => ?_) (fun hb16 => ?_)
 ·
  have hc16 := hb16; try simp only [Gk.cs0] at hc16
  refine .skip (.seq (.block (.seq ?_)))
  obtain ⟨u, hu⟩ : ∃ u, l[i]? = some u := ⟨_, List.getElem?_eq_getElem (by omega)⟩
  obtain ⟨p, ra, rc, hap, hA0, hrc, hRR⟩ := hU i u hu
  have hfu := hfit u (List.mem_of_getElem? hu)
  subst hap
  have hA := hA0.mono hJ
  have hR := hRR.mono hJ
  have hstep : newU (l.drop i) i (l.take i) = if 16 ≤ i then (5, i) else if userR u = false then (1, i) else if (l.take i).any (fun t => t.name == u.name) then (7, i) else newU (l.drop (i + 1)) (i + 1) (l.take (i + 1)) := by
   rw [List.drop_eq_getElem_cons (by omega), (List.getElem?_eq_some_iff.1 hu).2, newU]
   simp only [List.take_add_one, hu, Option.toList_some]
  rw [hq] at hstep
  have hlook := kv_look u.name hkv
  have hany := any_find (l.take i) u.name
  refine .region (.run 1 rfl trivial ?_)
  first | refine WL.val (.indexAddr (.of rfl) (.of rfl) (by omega) (by omega) Tryz.underlying28 Tryz.sizeOf67) rfl ?_ | refine WL.val (.indexAddrI (.of rfl) (.of rfl) (by omega) (by omega) Tryz.underlying28 Tryz.sizeOf67) rfl ?_
  refine .val (.ldR (vs := usCells u ra rc) (.of rfl) (fun j v hj => cell_at hS hA hj) Tryz.isAgg67 Tryz.sizeOf67 rfl) rfl ?_
  unfold usCells
  refine .allocA (cs := [_, _, _]) hS Tryz.zeroValue67 rfl ?_
  clear hS; intro b7 w hS
  refine .run 1 rfl trivial ?_
  first | refine WL.stA hS (k := 0) rfl (.of rfl) (.of rfl) rfl Tryz.sizeOf67 rfl (by simp) ?_ | refine WL.stA hS (k := 1) rfl (.of rfl) (.of rfl) rfl Tryz.sizeOf67 rfl (by simp) ?_ | refine WL.stA hS (k := 2) rfl (.of rfl) (.of rfl) rfl Tryz.sizeOf67 rfl (by simp) ?_
  clear hS; intro w hS; try dsimp only [List.set] at hS
  try simp only [List.take_zero, List.nil_append, List.append_nil, List.drop_succ_cons, List.drop_zero, List.drop_nil, Nat.zero_add] at hS
  refine .nil (.seq ?_)
  obtain ⟨n9, p9, a9, k9, c9, hz9⟩ : ∃ n9 p9 a9 k9 c9, (kv.lookup u.name).getD (.agg [S [], S [], .slice none 0 0].toArray) = .agg [S n9, S p9, .slice a9 k9 c9].toArray := by
   rcases hlook with ⟨_, e⟩ | ⟨t, cs, _, e, ta, tc, ht, _⟩
   ·rw [e]; exact ⟨_, _, _, _, _, rfl⟩
   ·rw [e, ht]; exact ⟨_, _, _, _, _, rfl⟩
  refine .drawn (fun w => ∃ R, Sat B w J (blk b7 [S u.name, S u.pw, .slice ra u.attrs.length rc] 67 :: blk b12 [.map (some b10)] 179 :: mapA S b10 kv :: R)) (fun j => !([].contains j)) (by kernel_rfl) ?_
  replace hS := hS.drew; generalize w.drew = w at hS ⊢
  have hH : ∃ R, Sat B w J (blk b7 [S u.name, S u.pw, .slice ra u.attrs.length rc] 67 :: blk b12 [.map (some b10)] 179 :: mapA S b10 kv :: R) := ⟨_, (((hS.pick 2 rfl).pick 2 rfl).pick 2 rfl)⟩
  refine .takeP (i := 0) rfl (by kernel_rfl) (by kernel_rfl) (by kernel_rfl) (fun w => (.move (.of rfl))) rfl (.takeP (i := 1) rfl (by kernel_rfl) (by kernel_rfl) (by kernel_rfl) (fun w => (.nilCheck (.of rfl))) rfl ?_)
  refine WD.takeP (i := 2) rfl (by kernel_rfl) (by kernel_rfl) (by kernel_rfl) (fun w => (by first | exact .fieldAddr 0 (.of rfl) Tryz.underlying179 rfl rfl Tryz.sizeOf177 rfl | exact .fieldAddrI 0 (.of rfl) Tryz.underlying179 rfl rfl Tryz.sizeOf177 rfl)) rfl ?_
  refine WD.take (i := 3) rfl (by kernel_rfl) (by kernel_rfl) (by kernel_rfl) (by kernel_rfl) hH (fun w ⟨R, hS⟩ => (by first | exact (.ld (.of rfl) hS (k := 0) rfl Tryz.isAgg177 rfl) | exact (.ld (.of rfl) hS (k := 1) rfl Tryz.isAgg177 rfl) | exact (.ld (.of rfl) hS (k := 2) rfl Tryz.isAgg177 rfl))) rfl ?_
  refine WD.takeP (i := 4) rfl (by kernel_rfl) (by kernel_rfl) (by kernel_rfl) (fun w => (by first | exact .fieldAddr 0 (.of rfl) Tryz.underlying67 rfl rfl Tryz.sizeOf9 rfl | exact .fieldAddrI 0 (.of rfl) Tryz.underlying67 rfl rfl Tryz.sizeOf9 rfl)) rfl ?_
  refine WD.take (i := 5) rfl (by kernel_rfl) (by kernel_rfl) (by kernel_rfl) (by kernel_rfl) hH (fun w ⟨R, hS⟩ => (by first | exact (.ld (.of rfl) hS (k := 0) rfl Tryz.isAgg9 rfl) | exact (.ld (.of rfl) hS (k := 1) rfl Tryz.isAgg9 rfl) | exact (.ld (.of rfl) hS (k := 2) rfl Tryz.isAgg9 rfl))) rfl ?_
  refine WD.take (i := 6) rfl (by kernel_rfl) (by kernel_rfl) (by kernel_rfl) (by kernel_rfl) hH (v := .tuple #[.agg [S n9, S p9, .slice a9 k9 c9].toArray, .bool (kv.lookup u.name).isSome]) (fun w ⟨R, hS⟩ => by rw [← hz9]; exact .look2 (key := u.name) keyS (hS.mapNow (k := 2) rfl) (.of rfl) (.of rfl) Tryz.underlying177 Tryz.underlying9 Tryz.zeroValue67) rfl ?_
  refine .takeP (i := 7) rfl (by kernel_rfl) (by kernel_rfl) (by kernel_rfl) (fun w => (.move (.of rfl))) rfl (.takeP (i := 8) rfl (by kernel_rfl) (by kernel_rfl) (by kernel_rfl) (fun w => (.extract (.of rfl) rfl)) rfl (.takeP (i := 9) rfl (by kernel_rfl) (by kernel_rfl) (by kernel_rfl) (fun w => (.extract (.of rfl) rfl)) rfl ?_))
  refine WD.branch [10] (by kernel_rfl) rfl (WO.cons rfl ?_ (WO.nil))
  refine .allocA (cs := [_, _, _]) hS Tryz.zeroValue67 rfl ?_
  clear hS; intro b8 w hS
  refine .nil ?_
  clear hH
  have hH : ∃ R, Sat B w J (blk b7 [S u.name, S u.pw, .slice ra u.attrs.length rc] 67 :: blk b12 [.map (some b10)] 179 :: mapA S b10 kv :: R) := ⟨_, (((hS.pick 3 rfl).pick 3 rfl).pick 3 rfl)⟩
  refine And.intro (by intro _ _; exact hH) ?_
  refine WD.branch [11] (by kernel_rfl) rfl (WO.cons rfl ?_ (WO.nil))
  first | refine WL.stA hS (k := 0) rfl (.of rfl) (.of rfl) rfl Tryz.sizeOf67 rfl (by simp) ?_ | refine WL.stA hS (k := 1) rfl (.of rfl) (.of rfl) rfl Tryz.sizeOf67 rfl (by simp) ?_ | refine WL.stA hS (k := 2) rfl (.of rfl) (.of rfl) rfl Tryz.sizeOf67 rfl (by simp) ?_ | refine WL.stA hS (k := 3) rfl (.of rfl) (.of rfl) rfl Tryz.sizeOf67 rfl (by simp) ?_
  clear hS; intro w hS; try dsimp only [List.set] at hS
  try simp only [List.take_zero, List.nil_append, List.append_nil, List.drop_succ_cons, List.drop_zero, List.drop_nil, Nat.zero_add] at hS
  refine .nil ?_
  clear hH
  have hH : ∃ R, Sat B w J (blk b7 [S u.name, S u.pw, .slice ra u.attrs.length rc] 67 :: blk b12 [.map (some b10)] 179 :: mapA S b10 kv :: R) := ⟨_, (((hS.pick 3 rfl).pick 3 rfl).pick 3 rfl)⟩
  refine And.intro (by intro _ _; exact hH) ?_
  refine .takeP (i := 12) rfl (by kernel_rfl) (by kernel_rfl) (by kernel_rfl) (fun w => (.assign (.of rfl))) rfl (.done (by kernel_rfl) (.seq (.block (.seq (.region (.run 3 rfl trivial (.nil ?_)))))))
  refine WC.cond rfl (fun hb30 => ?_) (fun hb30 => ?_)
  ·
   have hc30 := hb30; try simp only [Gk.cs0] at hc30
   refine .seq (.region (.run 4 rfl trivial (.nil (.ret (ret3 Tryz.results90 rfl rfl rfl ?_)))))
   have hE : newU l 0 [] = (5, i) := by rw [hstep]; exact if_pos (by omega)
   rw [hE]
   exact ⟨_, rfl, J, hJ, .inr ⟨show (5 : Nat) ≠ 0 by decide, rfl⟩, (((hS.drop (k := 0) rfl).drop (k := 0) rfl).drop (k := 0) rfl).drop (k := 0) rfl⟩
  have hc30 := hb30; try simp only [Gk.cs0] at hc30
  refine .seq (.region ?_)
  first | refine WL.val (.ldsW (cs := [_, _, _]) (.of rfl) hS (k := 0) rfl Tryz.isAgg67 Tryz.sizeOf67 rfl) rfl ?_ | refine WL.val (.lds (vs := [_, _, _]) (.of rfl) hS (k := 0) rfl Tryz.isAgg67 Tryz.sizeOf67 rfl (fun _ _ h => h)) rfl ?_ | refine WL.val (.ldsW (cs := [_, _, _]) (.of rfl) hS (k := 1) rfl Tryz.isAgg67 Tryz.sizeOf67 rfl) rfl ?_ | refine WL.val (.lds (vs := [_, _, _]) (.of rfl) hS (k := 1) rfl Tryz.isAgg67 Tryz.sizeOf67 rfl (fun _ _ h => h)) rfl ?_ | refine WL.val (.ldsW (cs := [_, _, _]) (.of rfl) hS (k := 2) rfl Tryz.isAgg67 Tryz.sizeOf67 rfl) rfl ?_ | refine WL.val (.lds (vs := [_, _, _]) (.of rfl) hS (k := 2) rfl Tryz.isAgg67 Tryz.sizeOf67 rfl (fun _ _ h => h)) rfl ?_ | refine WL.val (.ldsW (cs := [_, _, _]) (.of rfl) hS (k := 3) rfl Tryz.isAgg67 Tryz.sizeOf67 rfl) rfl ?_ | refine WL.val (.lds (vs := [_, _, _]) (.of rfl) hS (k := 3) rfl Tryz.isAgg67 Tryz.sizeOf67 rfl (fun _ _ h => h)) rfl ?_
  refine .call Tryz.func132 rfl (evs_cons (.of rfl) evs_nil) rfl (userR_any u ra rc hfu.name hfu.attrs.1 hfu.attrs.2 B _ J hR _ hS) ?_
  clear hS
  rintro _ w ⟨rfl, hS⟩
  refine .run 2 rfl trivial (.nil ?_)
  refine WC.cond rfl (fun hb34 => ?_) (fun hb34 => ?_)
  ·
   have hc34 := hb34; try simp only [Gk.cs0] at hc34
   refine .seq (.region (.run 4 rfl trivial (.nil (.ret (ret3 Tryz.results90 rfl rfl rfl ?_)))))
   have hE : newU l 0 [] = (1, i) := by rw [hstep]; rw [if_neg (by omega)]; exact if_pos (by simpa using hb34)
   rw [hE]
   exact ⟨_, rfl, J, hJ, .inr ⟨show (1 : Nat) ≠ 0 by decide, rfl⟩, (((hS.drop (k := 0) rfl).drop (k := 0) rfl).drop (k := 0) rfl).drop (k := 0) rfl⟩
  have hc34 := hb34; try simp only [Gk.cs0] at hc34
  refine .seq (.region (.run 2 rfl trivial (.nil ?_)))
  refine WC.cond rfl (fun hb39 => ?_) (fun hb39 => ?_)
  ·
   have hc39 := hb39; try simp only [Gk.cs0] at hc39
   refine .seq (.region (.run 4 rfl trivial (.nil (.ret (ret3 Tryz.results90 rfl rfl rfl ?_)))))
   have hE : newU l 0 [] = (7, i) := by rw [hstep]; rw [if_neg (by omega)]; rw [if_neg (show ¬ userR u = false by simpa using hb34)]; exact if_pos (by rw [hany]; rcases hlook with ⟨_, e⟩ | ⟨t, cs, e, _⟩ <;> simp_all)
   rw [hE]
   exact ⟨_, rfl, J, hJ, .inr ⟨show (7 : Nat) ≠ 0 by decide, rfl⟩, (((hS.drop (k := 0) rfl).drop (k := 0) rfl).drop (k := 0) rfl).drop (k := 0) rfl⟩
  have hc39 := hb39; try simp only [Gk.cs0] at hc39
  refine .skip (.seq ?_)
  have hur : userR u = true := by simpa using hb34
  have hal := userR_attrs hur
  refine .region ?_
  first | refine WL.val (.fieldAddr 2 (.of rfl) Tryz.underlying67 rfl rfl Tryz.sizeOf54 rfl) rfl ?_ | refine WL.val (.fieldAddrI 2 (.of rfl) Tryz.underlying67 rfl rfl Tryz.sizeOf54 rfl) rfl ?_
  first | refine WL.val (.ld (.of rfl) hS (k := 0) rfl Tryz.isAgg54 rfl) rfl ?_ | refine WL.val (.ld (.of rfl) hS (k := 1) rfl Tryz.isAgg54 rfl) rfl ?_ | refine WL.val (.ld (.of rfl) hS (k := 2) rfl Tryz.isAgg54 rfl) rfl ?_ | refine WL.val (.ld (.of rfl) hS (k := 3) rfl Tryz.isAgg54 rfl) rfl ?_
  refine .call Tryz.func133 rfl (evs_cons (.of rfl) evs_nil) rfl (CloneP_any ra rc u.attrs (by omega) B _ J hR _ hS) ?_
  clear hS
  rintro _ w ⟨J2, ra2, rc2, rfl, hJ2, hrc2, hR2, hS⟩
  first | refine WL.val (.fieldAddr 2 (.of rfl) Tryz.underlying67 rfl rfl Tryz.sizeOf54 rfl) rfl ?_ | refine WL.val (.fieldAddrI 2 (.of rfl) Tryz.underlying67 rfl rfl Tryz.sizeOf54 rfl) rfl ?_
  first | refine WL.st1 hS (k := 0) rfl (.of rfl) (.of rfl) rfl Tryz.sizeOf54 (by simp) ?_ | refine WL.st1 hS (k := 1) rfl (.of rfl) (.of rfl) rfl Tryz.sizeOf54 (by simp) ?_ | refine WL.st1 hS (k := 2) rfl (.of rfl) (.of rfl) rfl Tryz.sizeOf54 (by simp) ?_ | refine WL.st1 hS (k := 3) rfl (.of rfl) (.of rfl) rfl Tryz.sizeOf54 (by simp) ?_
  clear hS; intro w hS; try dsimp only [List.set] at hS
  refine .nil (.tail 7 (by kernel_rfl) (by kernel_rfl) ?_)
  replace hS := hS.drew; generalize w.drew = w at hS ⊢
  refine .val (.move (.of rfl)) rfl (.val (.nilCheck (.of rfl)) rfl ?_)
  refine WT.val (by first | exact .fieldAddr 0 (.of rfl) Tryz.underlying179 rfl rfl Tryz.sizeOf177 rfl | exact .fieldAddrI 0 (.of rfl) Tryz.underlying179 rfl rfl Tryz.sizeOf177 rfl) rfl ?_
  refine WT.val (by first | exact (.ld (.of rfl) hS (k := 0) rfl Tryz.isAgg177 rfl) | exact (.ld (.of rfl) hS (k := 1) rfl Tryz.isAgg177 rfl) | exact (.ld (.of rfl) hS (k := 2) rfl Tryz.isAgg177 rfl) | exact (.ld (.of rfl) hS (k := 3) rfl Tryz.isAgg177 rfl)) rfl ?_
  refine WT.val (by first | exact .fieldAddr 0 (.of rfl) Tryz.underlying67 rfl rfl Tryz.sizeOf9 rfl | exact .fieldAddrI 0 (.of rfl) Tryz.underlying67 rfl rfl Tryz.sizeOf9 rfl) rfl ?_
  refine WT.val (by first | exact (.ld (.of rfl) hS (k := 0) rfl Tryz.isAgg9 rfl) | exact (.ld (.of rfl) hS (k := 1) rfl Tryz.isAgg9 rfl) | exact (.ld (.of rfl) hS (k := 2) rfl Tryz.isAgg9 rfl) | exact (.ld (.of rfl) hS (k := 3) rfl Tryz.isAgg9 rfl)) rfl ?_
  refine WT.val (by first | exact (.ldsW (cs := [_, _, _]) (.of rfl) hS (k := 0) rfl Tryz.isAgg67 Tryz.sizeOf67 rfl) | exact (.lds (vs := [_, _, _]) (.of rfl) hS (k := 0) rfl Tryz.isAgg67 Tryz.sizeOf67 rfl (fun _ _ h => h)) | exact (.ldsW (cs := [_, _, _]) (.of rfl) hS (k := 1) rfl Tryz.isAgg67 Tryz.sizeOf67 rfl) | exact (.lds (vs := [_, _, _]) (.of rfl) hS (k := 1) rfl Tryz.isAgg67 Tryz.sizeOf67 rfl (fun _ _ h => h)) | exact (.ldsW (cs := [_, _, _]) (.of rfl) hS (k := 2) rfl Tryz.isAgg67 Tryz.sizeOf67 rfl) | exact (.lds (vs := [_, _, _]) (.of rfl) hS (k := 2) rfl Tryz.isAgg67 Tryz.sizeOf67 rfl (fun _ _ h => h)) | exact (.ldsW (cs := [_, _, _]) (.of rfl) hS (k := 3) rfl Tryz.isAgg67 Tryz.sizeOf67 rfl) | exact (.lds (vs := [_, _, _]) (.of rfl) hS (k := 3) rfl Tryz.isAgg67 Tryz.sizeOf67 rfl (fun _ _ h => h))) rfl ?_
  refine .nil ?_
  show WL _ _ _ _ _ _ _
  have hno : kv.lookup u.name = none := by
   cases h : kv.lookup u.name with
   | none => rfl
   | some x => rw [h] at hb39; cases hb39
  refine .mput keyS hS (k := 3) rfl (.of rfl) (.of rfl) (.of rfl) hno Tryz.underlying177 Tryz.underlying9 ?_
  clear hS; intro w hS
  try dsimp only [List.set] at hS
  refine .nil (.region (.run 2 rfl ⟨⟨by omega, by omega⟩, trivial⟩ (.nil ?_)))
  refine ⟨(i + 1, J2, kv ++ [(u.name, Value.agg #[S u.name, S u.pw, Value.slice ra2 u.attrs.length rc2])]), ⟨rfl, rfl, rfl, rfl, rfl, trivial⟩, ⟨by (try dsimp only); omega, hJ.trans hJ2, ?_, ?_, (hS.drop (k := 0) rfl).drop (k := 0) rfl⟩, by (try dsimp only); omega⟩
  ·show KvOf J2 _ (l.take (i + 1))
   rw [List.take_add_one, hu]
   exact (hkv.mono hJ2).snoc ⟨ra2, rc2, rfl, hrc2, hR2⟩
  ·show newU (l.drop (i + 1)) (i + 1) (l.take (i + 1)) = _
   rw [hstep, if_neg (by omega), if_neg (by rw [hur]; decide), if_neg]
   rw [hany]
   rcases hlook with ⟨e, _⟩ | ⟨t, cs, e, e2, _⟩
   ·rw [e]; decide
   ·rw [hno] at e2; cases e2
 have hc16 := hb16; try simp only [Gk.cs0] at hc16
 refine .exit (.seq (.region (.run 4 rfl trivial (.nil (.ret (ret3 Tryz.results90 rfl rfl rfl ?_))))))
 have e : i = l.length := by omega
 subst e
 have hE : newU l 0 [] = (0, 0) := by rw [← hq, List.drop_length]; rfl
 rw [List.take_length] at hkv
 rw [hE]
 obtain ⟨J2, hJ2, hA2, hS⟩ := hS.freeze (k := 0) rfl
 obtain ⟨J3, hJ3, hM3, hS⟩ := hS.freezeMap (k := 0) rfl
 exact ⟨_, rfl, J3, (hJ.trans hJ2).trans hJ3, .inl ⟨rfl, b12, rfl, b10, kv, (at_frozen hA2).mono hJ3, hM3, (hkv.mono hJ2).mono hJ3⟩, hS⟩
theorem xor_zero {a b : UInt8} : (a ^^^ b).toNat = 0 ↔ a = b := by
 constructor
 ·intro h
  have h1 : a ^^^ b = 0 := UInt8.toNat_inj.1 (by simpa using h)
  have h2 : a ^^^ b ^^^ b = 0 ^^^ b := by rw [h1]
  rw [UInt8.xor_assoc, UInt8.xor_self, UInt8.xor_zero, UInt8.zero_xor] at h2
  exact h2
 ·intro h; subst h; simp
theorem nxor_zero {a b : Nat} : a ^^^ b = 0 ↔ a = b := by
 constructor
 ·intro h
  have h2 : a ^^^ b ^^^ b = 0 ^^^ b := by rw [h]
  rw [Nat.xor_assoc, Nat.xor_self, Nat.xor_zero, Nat.zero_xor] at h2
  exact h2
 ·intro h; subst h; simp
theorem same_iff {a b : List UInt8} : a = b ↔ a.length = b.length ∧ ∀ j : Nat, j < min a.length b.length → at_ a (j : Int) = at_ b (j : Int) := by
 constructor
 ·intro h; subst h; exact ⟨rfl, fun _ _ => rfl⟩
 ·rintro ⟨h1, h2⟩
  refine List.ext_getElem h1 fun j hj hk => ?_
  have h3 := h2 j (by omega)
  simpa [at_, List.getD_eq_getElem?_getD, hj, hk] using h3
theorem Same_any (a b : List UInt8) (ha : a.length ≤ 9223372036854775807) (hb : b.length ≤ 9223372036854775807) (B w : World) (I : Im) (As : List Assn) (hS : Sat B w I As) :
  Calls Tryz.prog 127 [S a, S b].toArray w (Ret fun v w' => v = .bool (a == b) ∧ Sat B w' I As) := by
 refine calls Tryz.func127 rfl Tryz.ntmps127 rfl (.seq (.region (.run 1 rfl trivial (.nil (.seq (.region (.run 4 rfl ⟨Tryz.underlying9, Tryz.underlying9, trivial⟩ (.val (.xorI (a := a.length) (b := b.length) (by omega) (by omega) (.of rfl) (.of rfl)) rfl (.run 1 rfl trivial (.nil (.seq (.seq (.region (.run 4 rfl ⟨Tryz.underlying9, Tryz.underlying9, trivial⟩ (.val (.min2 (.of rfl) (.of rfl)) rfl (.run 1 rfl trivial (.nil (.block (.loop (σ := Nat × Nat) (fun ⟨i, D⟩ => [(0, S a), (1, S b), (5, I64 (D : Nat)), (16, I64 (min (a.length : Int) (b.length : Int))), (17, I64 (i : Nat))]) (fun ⟨i, D⟩ w => (i : Int) ≤ min (a.length : Int) (b.length : Int) ∧ D < 9223372036854775808 ∧ (D = 0 ↔ a.length = b.length ∧ ∀ j : Nat, j < i → at_ a (j : Int) = at_ b (j : Int)) ∧ Sat B w I As) (fun ⟨i, D⟩ => min a.length b.length - i) (0, a.length ^^^ b.length) ⟨rfl, rfl, rfl, rfl, rfl, trivial⟩ ⟨by omega, Nat.xor_lt_two_pow (n := 63) (by omega) (by omega), ⟨fun h => ⟨nxor_zero.1 h, fun j h => absurd h (by omega)⟩, fun h => nxor_zero.2 h.1⟩, hS⟩ ?_)))))))))))))))))))
 rintro ⟨i, D⟩ w ⟨hi, hD, hq, hS⟩
 change WC _ _ _ _ [(0, S a), (1, S b), (5, I64 (D : Nat)), (16, I64 (min (a.length : Int) (b.length : Int))), (17, I64 (i : Nat))] w
 refine .seq (.region (.run 1 rfl trivial (.nil (.seq ?_))))
 refine WC.cond rfl (fun hb18 => ?_) (fun hb18 => ?_)
 ·
  have hc18 := hb18; try simp only [Gk.cs0] at hc18
  refine .skip (.seq (.block (.seq (.region (.run 2 rfl trivial (.nil ?_))))))
  have hx8 := (at_ a (i : Int) ^^^ at_ b (i : Int)).toNat_lt
  refine .quiet (by kernel_rfl) (by kernel_rfl) hS (.val (fun w hS => (.move (.of rfl))) rfl (.val (fun w hS => (.move (.of rfl))) rfl (.val (fun w hS => (.move (.of rfl))) rfl (.val (fun w hS => (.index (.of rfl) (.of rfl) (by omega) (by omega) Tryz.underlying9)) rfl (.val (fun w hS => (.move (.of rfl))) rfl (.val (fun w hS => (.move (.of rfl))) rfl (.val (fun w hS => (.index (.of rfl) (.of rfl) (by omega) (by omega) Tryz.underlying9)) rfl (.val (fun w hS => .xor8 (.of rfl) (.of rfl)) rfl ?_))))))))
  refine WQ.val (fun w hS => (.cvi (.of rfl) Tryz.underlying5 Tryz.underlying3 (by rw [IntKind.wrap_i64]; omega))) rfl ?_
  refine WQ.val (fun w hS => .orI (a := D) (b := (at_ a (i : Int) ^^^ at_ b (i : Int)).toNat) (by omega) (by have := (at_ a (i : Int) ^^^ at_ b (i : Int)).toNat_lt; omega) (.of rfl) (.of rfl)) rfl ?_
  refine .val (fun w hS => (.assign (.of rfl))) rfl (.nil ?_)
  clear hS; intro w hS
  refine .region (.run 2 rfl ⟨⟨by omega, by omega⟩, trivial⟩ (.nil ?_))
  refine ⟨(i + 1, D ||| (at_ a (i : Int) ^^^ at_ b (i : Int)).toNat), ⟨rfl, rfl, rfl, rfl, rfl, trivial⟩, ⟨by (try dsimp only); omega, Nat.or_lt_two_pow (n := 63) hD (by have := (at_ a (i : Int) ^^^ at_ b (i : Int)).toNat_lt; omega), ?_, hS⟩, by (try dsimp only); omega⟩
  show (D ||| (at_ a (i : Int) ^^^ at_ b (i : Int)).toNat) = 0 ↔ _
  rw [Nat.or_eq_zero_iff, hq, xor_zero]
  constructor
  ·rintro ⟨⟨h1, h2⟩, h3⟩
   refine ⟨h1, fun j hj => ?_⟩
   rcases Nat.lt_or_ge j i with h | h
   ·exact h2 j h
   ·have e : j = i := by omega
    subst e; exact h3
  ·rintro ⟨h1, h2⟩
   exact ⟨⟨h1, fun j hj => h2 j (by omega)⟩, h2 i (by omega)⟩
 have hc18 := hb18; try simp only [Gk.cs0] at hc18
 refine .exit (.seq (.region (.run 3 rfl trivial (.nil (.ret (ret1 Tryz.results127 rfl ?_))))))
 refine ⟨_, rfl, congrArg Value.bool ?_, hS⟩
 have e : (i : Int) = min (a.length : Int) (b.length : Int) := by omega
 rw [Bool.eq_iff_iff, beq_iff_eq, beq_iff_eq, same_iff]
 constructor
 ·intro h
  obtain ⟨h1, h2⟩ := hq.1 (by omega)
  exact ⟨h1, fun j hj => h2 j (by omega)⟩
 ·rintro ⟨h1, h2⟩
  have := hq.2 ⟨h1, fun j hj => h2 j (by omega)⟩
  omega
def checkU (l : List Us) (name pw : List UInt8) : Bool := match l.find? (fun t => t.name == name) with
 | some u => u.pw == pw
 | none => false
def atU (l : List Us) (name : List UInt8) : List Pr := match l.find? (fun t => t.name == name) with
 | some u => u.attrs
 | none => []
theorem tab_look {I : Im} {mb : Nat} {kv : List (List UInt8 × Value)} {l : List Us} (hkv : KvOf I kv l) (hfit : ∀ u ∈ l, u.fits) (name pw : List UInt8) : ∃ n9 p9 a9 c9, (kv.lookup name).getD (.agg #[S [], S [], .slice none 0 0]) = .agg #[S n9, S p9, .slice a9 (atU l name).length c9] ∧ RS I a9 2 (atU l name).length (rowsC prCells (atU l name)) ∧ p9.length ≤ 9223372036854775807 ∧ ((p9 == pw) && (kv.lookup name).isSome) = checkU l name pw := by
 rcases kv_look name hkv with ⟨e1, e2⟩ | ⟨u, cs, e1, e2, ua, uc, h1, h2, h3⟩
 ·refine ⟨[], [], none, 0, ?_, ?_, by simp, ?_⟩
  ·rw [e2, atU, e1]; rfl
  ·rw [atU, e1]; exact ⟨rfl, fun h => absurd h (by simp)⟩
  ·rw [e2, checkU, e1]; simp
 ·refine ⟨u.name, u.pw, ua, uc, ?_, ?_, (hfit u (List.mem_of_find?_eq_some e1)).pw, ?_⟩
  ·rw [e2, atU, e1, h1]; rfl
  ·rw [atU, e1]; exact h3
  ·rw [e2, checkU, e1]; simp
theorem uCheck_any (tb : Nat) (l : List Us) (hfit : ∀ u ∈ l, u.fits) (name pw : List UInt8) (hpw : pw.length ≤ 9223372036854775807) (B w : World) (I : Im) (hT : TabAt I tb l) (As : List Assn) (hS : Sat B w I As) :
  Calls Tryz.prog 84 [ptr tb 0, S name, S pw].toArray w (Ret fun v w' => v = .bool (checkU l name pw) ∧ Sat B w' I As) := by
 refine calls Tryz.func84 rfl Tryz.ntmps84 rfl (.seq ?_)
 obtain ⟨mb, kv, hTA, hM, hkv⟩ := hT
 obtain ⟨n9, p9, a9, c9, hz9, hR9, hp9, hck⟩ := tab_look (mb := mb) hkv hfit name pw
 refine .region (.run 1 rfl trivial (.nil (.seq (.region (.run 2 rfl trivial ?_)))))
 first | refine WL.val (.fieldAddr 0 (.of rfl) Tryz.underlying179 rfl rfl Tryz.sizeOf177 rfl) rfl ?_ | refine WL.val (.fieldAddrI 0 (.of rfl) Tryz.underlying179 rfl rfl Tryz.sizeOf177 rfl) rfl ?_
 refine .val (.ldI (.of rfl) hS hTA Tryz.isAgg177 rfl) rfl (.run 1 rfl trivial ?_)
 refine WL.val (v := .tuple #[.agg [S n9, S p9, .slice a9 (atU l name).length c9].toArray, .bool (kv.lookup name).isSome]) (by rw [← hz9]; exact .look2 (key := name) keyS (hM.now hS) (.of rfl) (.of rfl) Tryz.underlying177 Tryz.underlying9 Tryz.zeroValue67) rfl ?_
 refine .run 3 rfl trivial (.allocA (cs := [_, _, _]) hS Tryz.zeroValue67 rfl ?_)
 clear hS; intro b7 w hS
 refine .stA hS (k := 0) rfl (.of rfl) (.of rfl) rfl Tryz.sizeOf67 rfl (by simp) ?_
 clear hS; intro w hS; try dsimp only [List.set] at hS
 try simp only [List.take_zero, List.nil_append, List.append_nil, List.drop_succ_cons, List.drop_zero, List.drop_nil, Nat.zero_add] at hS
 refine .run 1 rfl trivial (.nil (.seq (.region ?_)))
 first | refine WL.val (.fieldAddr 1 (.of rfl) Tryz.underlying67 rfl rfl Tryz.sizeOf9 rfl) rfl ?_ | refine WL.val (.fieldAddrI 1 (.of rfl) Tryz.underlying67 rfl rfl Tryz.sizeOf9 rfl) rfl ?_
 first | refine WL.val (.ld (.of rfl) hS (k := 0) rfl Tryz.isAgg9 rfl) rfl ?_ | refine WL.val (.ldI (.of rfl) hS (At.add hTA _) Tryz.isAgg9 rfl) rfl ?_
 refine .run 1 rfl trivial (.call Tryz.func127 rfl (evs_cons (.of rfl) (evs_cons (.of rfl) evs_nil)) rfl (Same_any p9 pw hp9 hpw B _ I _ hS) ?_)
 clear hS
 rintro _ w ⟨rfl, hS⟩
 refine .run 1 rfl trivial (.gval rfl rfl (fun hg1 => (.move (.of rfl))) rfl (.val (.pand (.of rfl) (.of rfl) (.of rfl)) rfl (.run 1 rfl trivial (.nil (.ret (ret1 Tryz.results84 rfl ?_))))))
 exact ⟨_, rfl, congrArg Value.bool hck, hS.drop (k := 0) rfl⟩
end Go.Proofs.YtadhiihnnkcagaaGreatDoor
namespace Go.Proofs.YtadhiihnnkcagaaGreatDoor
open Gk Pat
set_option linter.unusedVariables false
set_option linter.unusedSimpArgs false
def CompT (I : Im) (l : List UInt8) (po : Option Addr) (e a : Int) : Prop := match cmp l with
 | .error (e', a') => po = none ∧ e = e' ∧ a = a'
 | .ok Q => ∃ p, po = some p ∧ e = 0 ∧ a = 0 ∧ PatI I p Q l.length
theorem CompT.mono {I J : Im} {l : List UInt8} {po : Option Addr} {e a : Int} (h : CompT I l po e a) (hl : Le I J) : CompT J l po e a := by
 unfold CompT at h ⊢
 cases hq : cmp l with
 | error x => rw [hq] at h; exact h
 | ok Q => rw [hq] at h; obtain ⟨p, h1, h2, h3, h4⟩ := h; exact ⟨p, h1, h2, h3, h4.mono hl⟩
theorem Compile_t (l : List UInt8) (B w : World) (I : Im) (As : List Assn) (hS : Sat B w I As) (hl : l.length ≤ 9223372036854775807) :
  Calls Tryz.prog 169 [S l].toArray w (Ret fun v w' => ∃ po e a J, v = .tuple #[.pointer po, I64 e, I64 a] ∧ Le I J ∧ CompT J l po e a ∧ Sat B w' J As) := by
 refine (Compile_any l B w I As hS hl).mono fun x w' ⟨v, hx, h⟩ => ⟨v, hx, ?_⟩
 rcases h with ⟨e, a, J, h1, h2, h3, h4⟩ | ⟨Q, p, J, h1, h2, h3, h4, h5⟩
 ·exact ⟨none, e, a, J, h2, h3, by rw [CompT, h1]; exact ⟨rfl, rfl, rfl⟩, h4⟩
 ·exact ⟨some p, 0, 0, J, h2, h3, by rw [CompT, h1]; exact ⟨p, rfl, rfl, rfl, h4⟩, h5⟩
theorem cmp_facts {l : List UInt8} {Q : List Pl} (h : cmp l = .ok Q) : WF Q ∧ 0 < Q.length ∧ Q.length ≤ 201 ∧ l.length ≤ 200 := by
 obtain ⟨hl, p, h1, h2, h3, rfl⟩ := cmp_ok h
 obtain ⟨hW, hE⟩ := placesOf_wf h1.ok
 have h4 := placesOf_len p
 have h5 := h1.len
 exact ⟨hW, hE.1, by unfold placesOf at h4; omega, hl⟩
theorem Match_any {l : List UInt8} {Q : List Pl} (hq : cmp l = .ok Q) (p : Addr) (s : List UInt8) (hs : s.length ≤ 1000000) (B w : World) (I : Im) (As : List Assn) (hS : Sat B w I As) (hp : PatI I p Q l.length) :
  Calls Tryz.prog 87 [.pointer (some p), S s].toArray w (Ret fun v w' => v = .bool (mat Q s) ∧ Sat B w' I As) := by
 have hf := cmp_facts hq
 refine calls Tryz.func87 rfl Tryz.ntmps87 rfl (.seq (.region (.run 1 rfl trivial (.nil (.seq (.region (.run 2 rfl trivial (.call Tryz.func128 rfl (evs_cons (.of rfl) (evs_cons (.of rfl) evs_nil)) rfl (run_any Q p l.length s hf.1 hf.2.1 (by omega) (by omega) hs B w I As hS hp) ?_))))))))
 clear hS
 rintro _ w ⟨rfl, hS⟩
 refine .run 5 rfl trivial (.nil (.seq (.region (.run 2 rfl trivial (.nil (.ret (ret1 Tryz.results87 rfl ?_)))))))
 exact ⟨_, rfl, rfl, hS⟩
theorem findC_any {s : Sv} {Q : List Pl} (hq : cmp s.urls = .ok Q) (a : Option Addr) (c : Nat) (p q : Addr) (n : List UInt8) (hn : n.length ≤ 1000000) (b : Nat) (B w : World) (I : Im) (hp : PatI I p Q s.urls.length) (As : List Assn) (hS : Sat B w I (blk b [S n] 9 :: As)) :
  Calls Tryz.prog 86 [.agg [I64 s.id, F64 s.ord, S s.urls, .bool s.login, .bool s.proxy, .bool s.back, S s.calls, .slice a s.rel.length c, .pointer (some p), .pointer (some q)].toArray, ptr b 0].toArray w (Ret fun v w' => v = .bool (mat Q n) ∧ Sat B w' I (blk b [S n] 9 :: As)) := by
 refine calls Tryz.func86 rfl Tryz.ntmps86 rfl (.seq (.region (.boxA (cs := [_, _, _, _, _, _, _, _, _, _]) hS (.of rfl) rfl ?_)))
 clear hS; intro b2 w hS
 refine .run 1 rfl trivial (.nil (.seq (.region (.val (.fieldAddr 8 (.of rfl) Tryz.underlying155 rfl rfl Tryz.sizeOf153 rfl) rfl (.val (.ld (.of rfl) hS (k := 0) rfl Tryz.isAgg153 rfl) rfl (.val (.ld (.of rfl) hS (k := 1) rfl Tryz.isAgg9 rfl) rfl (.call Tryz.func87 rfl (evs_cons (.of rfl) (evs_cons (.of rfl) evs_nil)) rfl (Match_any hq p n hn B _ I _ hS hp) ?_)))))))
 clear hS
 rintro _ w ⟨rfl, hS⟩
 refine .run 1 rfl trivial (.nil (.ret (ret1 Tryz.results86 rfl ?_)))
 exact ⟨_, rfl, rfl, hS.drop (k := 0) rfl⟩
theorem madeC_any (s t : Sv) (a ta : Option Addr) (c tc : Nat) (p q : Addr) (b : Nat) (B w : World) (I : Im) (As : List Assn) (hS : Sat B w I (blk b [I64 t.id, F64 t.ord, S t.urls, .bool t.login, .bool t.proxy, .bool t.back, S t.calls, .slice ta t.rel.length tc] 101 :: As)) :
  Calls Tryz.prog 168 [.agg [I64 s.id, F64 s.ord, S s.urls, .bool s.login, .bool s.proxy, .bool s.back, S s.calls, .slice a s.rel.length c, .pointer (some p), .pointer (some q)].toArray, ptr b 0].toArray w (Ret fun v w' => v = .bool (s.id == t.id) ∧ Sat B w' I (blk b [I64 t.id, F64 t.ord, S t.urls, .bool t.login, .bool t.proxy, .bool t.back, S t.calls, .slice ta t.rel.length tc] 101 :: As)) := by
 refine calls Tryz.func168 rfl Tryz.ntmps168 rfl (.seq (.region (.boxA (cs := [_, _, _, _, _, _, _, _, _, _]) hS (.of rfl) rfl ?_)))
 clear hS; intro b2 w hS
 refine .run 1 rfl trivial (.nil (.seq (.region (.val (.fieldAddr 0 (.of rfl) Tryz.underlying155 rfl rfl Tryz.sizeOf101 rfl) rfl (.val (.fieldAddr 0 (.of rfl) Tryz.underlying101 rfl rfl Tryz.sizeOf3 rfl) rfl (.val (.ld (.of rfl) hS (k := 0) rfl Tryz.isAgg3 rfl) rfl (.val (.fieldAddr 0 (.of rfl) Tryz.underlying101 rfl rfl Tryz.sizeOf3 rfl) rfl (.val (.ld (.of rfl) hS (k := 1) rfl Tryz.isAgg3 rfl) rfl (.run 2 rfl trivial (.nil (.ret (ret1 Tryz.results168 rfl ?_))))))))))))
 exact ⟨_, rfl, rfl, hS.drop (k := 0) rfl⟩
end Go.Proofs.YtadhiihnnkcagaaGreatDoor
namespace Go.Proofs.YtadhiihnnkcagaaGreatDoor
open Gk Pat
set_option linter.unusedVariables false
set_option linter.unusedSimpArgs false
theorem bld155_130 : Bld Tryz.prog 155 [(0, 8), (8, 1), (9, 1)] [.int .i64 0, .float .f64 0, S [], .bool false, .bool false, .bool false, S [], .slice none 0 0, .pointer none, .pointer none] := bld_of Tryz.underlying155 Tryz.zeroValue155 (fun w => by simp [go_sem])
def badO (lo : List Sv) (s : Sv) : Nat :=
 if 16 ≤ lo.length then 5 else if (decide (s.id < 0) || decide (8 < (s.rel.length : Int))) = true then 1 else if lo.any (fun t => t.id == s.id) = true then 7
 else if (((chk s.urls).1 != 0) || ((chk s.calls).1 != 0)) = true then 8 else 0
theorem firstI_any (pr : Sv → Bool) : ∀ (l : List Sv) (i : Nat), decide (0 ≤ firstI pr l i) = l.any pr
 | [], _ => rfl
 | s :: r, i => by
  rw [firstI, List.any_cons]
  cases pr s with
  | true => simp
  | false => simpa using firstI_any pr r (i + 1)
theorem comp_chk {I : Im} {l : List UInt8} {po : Option Addr} {e a : Int} (h : CompT I l po e a) : (e != 0) = ((chk l).1 != 0) ∧ ((chk l).1 = 0 → ∃ p Q, po = some p ∧ cmp l = .ok Q ∧ PatI I p Q l.length) := by
 have key : ∀ e', cmp l = .error e' → (chk l).1 = e'.1 ∧ e'.1 ≠ 0 := fun e' hc => by
  unfold cmp at hc
  unfold chk
  split at hc
  ·rename_i hl; rw [if_pos hl]; cases hc; exact ⟨rfl, by decide⟩
  ·rename_i hl
   rw [if_neg hl]
   have := (cmpGo_chk l.length l 0 [] [] [] (Nat.le_refl _) rfl).1 e' hc
   rw [this.1]; exact ⟨rfl, this.2⟩
 have key2 : ∀ Q, cmp l = .ok Q → (chk l).1 = 0 := fun Q hc => by
  unfold cmp at hc
  unfold chk
  split at hc
  ·cases hc
  ·rename_i hl
   rw [if_neg hl, (cmpGo_chk l.length l 0 [] [] [] (Nat.le_refl _) rfl).2 Q hc]
 unfold CompT at h
 cases hc : cmp l with
 | ok Q =>
  rw [hc] at h
  obtain ⟨p, rfl, rfl, rfl, hp⟩ := h
  rw [key2 Q hc]
  exact ⟨rfl, fun _ => ⟨p, Q, rfl, rfl, hp⟩⟩
 | error x =>
  obtain ⟨e', a'⟩ := x
  rw [hc] at h
  obtain ⟨rfl, rfl, rfl⟩ := h
  obtain ⟨h1, h2⟩ := key _ hc
  rw [h1]
  exact ⟨rfl, fun h3 => absurd h3 h2⟩
theorem made_any (s : Sv) (sa : Option Addr) (sc : Nat) (hsc : s.rel.length ≤ sc) (hrl : s.rel.length ≤ 1000000) (hu : s.urls.length ≤ 9223372036854775807) (hcl : s.calls.length ≤ 9223372036854775807) (a : Option Addr) (cap : Nat) (lo : List Sv) (hlo : lo.length ≤ 100000) (B w : World) (I : Im) (hr : RS I sa 1 s.rel.length (s.rel.map S)) (As : List Assn) (hE : ∀ w, Sat B w I As → EntsW w I a lo) (hS : Sat B w I As) :
  Calls Tryz.prog 130 [.agg [I64 s.id, F64 s.ord, S s.urls, .bool s.login, .bool s.proxy, .bool s.back, S s.calls, .slice sa s.rel.length sc].toArray, .slice a lo.length cap].toArray w (Ret fun v w' => ∃ J cs code, Le I J ∧ v = .tuple #[.agg (List.toArray cs), I64 ((code : Nat) : Int)] ∧ code = badO lo s ∧ cs.length = 10 ∧ cs.all Value.oneCell' = true ∧ (code = 0 → EntAt J s cs) ∧ Sat B w' J As) := by
 refine calls Tryz.func130 rfl Tryz.ntmps130 rfl (.seq (.region (.boxA (cs := [_, _, _, _, _, _, _, _]) hS (.of rfl) rfl ?_)))
 clear hS; intro b2 w hS
 refine .allocA (cs := [_, _, _, _, _, _, _, _, _, _]) hS Tryz.zeroValue155 rfl ?_
 clear hS; intro b4 w hS
 refine .run 1 rfl trivial (.nil (.seq (.block (.seq (.region (.run 4 rfl ⟨⟨_, Tryz.underlying152⟩, trivial⟩ (.nil ?_)))))))
 refine WC.cond rfl (fun hb12 => ?_) (fun hb12 => ?_)
 ·
  have hc12 := hb12; try simp only [Gk.cs0] at hc12
  refine .seq (.region (.val (.build (cs := [_, _, _, _, _, _, _, _, _, _]) parts_nil bld155_130 rfl) rfl (.stA hS (k := 0) rfl (.of rfl) (.of rfl) rfl Tryz.sizeOf155 rfl (by simp) ?_)))
  clear hS; intro w hS; try dsimp only [List.set] at hS
  try simp only [List.take_zero, List.nil_append, List.append_nil, List.drop_succ_cons, List.drop_zero, List.drop_nil, Nat.zero_add] at hS
  refine .run 1 rfl trivial (.nil (.ret (ret2c (b := _) (cs := [_, _, _, _, _, _, _, _, _, _]) Tryz.results130 hS (k := 0) rfl Tryz.isAgg155 Tryz.sizeOf155 rfl rfl rfl ?_)))
  refine ⟨_, rfl, I, _, 5, Le.refl _, rfl, ?_, rfl, rfl, fun h => (by cases h), ((hS.drop (k := 0) rfl).drop (k := 0) rfl)⟩
  unfold badO
  rw [if_pos (by simp only [decide_eq_true_eq] at hb12; omega)]
 have hc12 := hb12; try simp only [Gk.cs0] at hc12
 refine .seq (.region (.val (.fieldAddr 0 (.of rfl) Tryz.underlying101 rfl rfl Tryz.sizeOf3 rfl) rfl (.val (.ld (.of rfl) hS (k := 1) rfl Tryz.isAgg3 rfl) rfl (.run 2 rfl trivial (.gval rfl rfl (fun hg1 => (.fieldAddr 7 (.of rfl) Tryz.underlying101 rfl rfl Tryz.sizeOf41 rfl)) rfl (.gval rfl rfl (fun hg1 => (.ld (.gd hg1 rfl) hS (k := 1) rfl Tryz.isAgg41 rfl)) rfl (.gval rfl rfl (fun hg1 => (.lenSlice (.gd hg1 rfl) Tryz.underlying41)) rfl (.gval rfl rfl (fun hg1 => (.gtr (.gd hg1 rfl) (.of rfl))) rfl (.val (.por (.of rfl) (.of rfl) (.of rfl)) rfl (.run 1 rfl trivial (.nil ?_)))))))))))
 refine WC.cond rfl (fun hb17 => ?_) (fun hb17 => ?_)
 ·
  have hc17 := hb17; try simp only [Gk.cs0] at hc17
  refine .seq (.region (.val (.build (cs := [_, _, _, _, _, _, _, _, _, _]) parts_nil bld155_130 rfl) rfl (.stA hS (k := 0) rfl (.of rfl) (.of rfl) rfl Tryz.sizeOf155 rfl (by simp) ?_)))
  clear hS; intro w hS; try dsimp only [List.set] at hS
  try simp only [List.take_zero, List.nil_append, List.append_nil, List.drop_succ_cons, List.drop_zero, List.drop_nil, Nat.zero_add] at hS
  refine .run 1 rfl trivial (.nil (.ret (ret2c (b := _) (cs := [_, _, _, _, _, _, _, _, _, _]) Tryz.results130 hS (k := 0) rfl Tryz.isAgg155 Tryz.sizeOf155 rfl rfl rfl ?_)))
  refine ⟨_, rfl, I, _, 1, Le.refl _, rfl, ?_, rfl, rfl, fun h => (by cases h), ((hS.drop (k := 0) rfl).drop (k := 0) rfl)⟩
  unfold badO
  rw [if_neg (by simp only [decide_eq_false_iff_not] at hb12; omega), if_pos hb17]
 have hc17 := hb17; try simp only [Gk.cs0] at hc17
 refine .seq ?_
 replace hS := hS.pick 1 rfl
 try dsimp only [List.eraseIdx] at hS
 refine .region (.run 1 rfl trivial (.val (.makeFunc (evs_cons (.of rfl) evs_nil)) rfl ?_))
 refine WL.call Tryz.func167 rfl (evs_cons (.of rfl) (evs_cons (.of rfl) evs_nil)) rfl (ContainsFunc_any a cap lo hlo (fun t => t.id == s.id) 168 _ Tryz.func168 rfl [ptr b2 0] B _ I (blk b2 [I64 s.id, F64 s.ord, S s.urls, .bool s.login, .bool s.proxy, .bool s.back, S s.calls, .slice sa s.rel.length sc] 101 :: blk b4 [I64 0, F64 0, S [], .bool false, .bool false, .bool false, S [], .slice none 0 0, .pointer none, .pointer none] 155 :: As) (fun w h => hE w ((h.drop (k := 0) rfl).drop (k := 0) rfl)) (fun t c ht w h => by
  obtain ⟨ta, tc, tp, tq, _, _, rfl, _⟩ := ht
  exact madeC_any t s ta sa tc sc tp tq b2 B w I _ h) hS) ?_
 clear hS
 rintro _ w ⟨rfl, hS⟩
 rw [firstI_any]
 refine .run 1 rfl trivial (.nil ?_)
 refine WC.cond rfl (fun hb28 => ?_) (fun hb28 => ?_)
 ·
  have hc28 := hb28; try simp only [Gk.cs0] at hc28
  refine .seq (.region (.val (.build (cs := [_, _, _, _, _, _, _, _, _, _]) parts_nil bld155_130 rfl) rfl (.stA hS (k := 1) rfl (.of rfl) (.of rfl) rfl Tryz.sizeOf155 rfl (by simp) ?_)))
  clear hS; intro w hS; try dsimp only [List.set] at hS
  try simp only [List.take_zero, List.nil_append, List.append_nil, List.drop_succ_cons, List.drop_zero, List.drop_nil, Nat.zero_add] at hS
  refine .run 1 rfl trivial (.nil (.ret (ret2c (b := _) (cs := [_, _, _, _, _, _, _, _, _, _]) Tryz.results130 hS (k := 1) rfl Tryz.isAgg155 Tryz.sizeOf155 rfl rfl rfl ?_)))
  refine ⟨_, rfl, I, _, 7, Le.refl _, rfl, ?_, rfl, rfl, fun h => (by cases h), ((hS.drop (k := 0) rfl).drop (k := 0) rfl)⟩
  unfold badO
  rw [if_neg (by simp only [decide_eq_false_iff_not] at hb12; omega), if_neg (by rw [hb17]; decide), if_pos hb28]
 have hc28 := hb28; try simp only [Gk.cs0] at hc28
 refine .skip (.seq (.region (.val (.fieldAddr 2 (.of rfl) Tryz.underlying101 rfl rfl Tryz.sizeOf9 rfl) rfl (.val (.ld (.of rfl) hS (k := 0) rfl Tryz.isAgg9 rfl) rfl (.call Tryz.func169 rfl (evs_cons (.of rfl) evs_nil) rfl (Compile_t s.urls B _ I _ hS hu) ?_)))))
 clear hS
 rintro _ w ⟨po, e1, a1, J1, rfl, hJ1, hc1, hS⟩
 refine .run 7 rfl trivial (.nil (.seq (.region (.val (.fieldAddr 6 (.of rfl) Tryz.underlying101 rfl rfl Tryz.sizeOf9 rfl) rfl (.val (.ld (.of rfl) hS (k := 0) rfl Tryz.isAgg9 rfl) rfl (.call Tryz.func169 rfl (evs_cons (.of rfl) evs_nil) rfl (Compile_t s.calls B _ J1 _ hS hcl) ?_))))))
 clear hS
 rintro _ w ⟨qo, e2, a2, J2, rfl, hJ2, hc2, hS⟩
 refine .run 7 rfl trivial (.nil (.seq (.seq (.region (.run 3 rfl trivial (.gval rfl rfl (fun hg1 => (.move (.of rfl))) rfl (.gval rfl rfl (fun hg1 => (.neq (.gd hg1 rfl) (.of rfl))) rfl (.val (.por (.of rfl) (.of rfl) (.of rfl)) rfl (.nil ?_)))))))))
 refine WC.cond rfl (fun hb52 => ?_) (fun hb52 => ?_)
 ·
  have hc52 := hb52; try simp only [Gk.cs0] at hc52
  refine .seq (.region (.val (.build (cs := [_, _, _, _, _, _, _, _, _, _]) parts_nil bld155_130 rfl) rfl (.stA hS (k := 1) rfl (.of rfl) (.of rfl) rfl Tryz.sizeOf155 rfl (by simp) ?_)))
  clear hS; intro w hS; try dsimp only [List.set] at hS
  try simp only [List.take_zero, List.nil_append, List.append_nil, List.drop_succ_cons, List.drop_zero, List.drop_nil, Nat.zero_add] at hS
  refine .run 1 rfl trivial (.nil (.ret (ret2c (b := _) (cs := [_, _, _, _, _, _, _, _, _, _]) Tryz.results130 hS (k := 1) rfl Tryz.isAgg155 Tryz.sizeOf155 rfl rfl rfl ?_)))
  refine ⟨_, rfl, J2, _, 8, Le.trans hJ1 hJ2, rfl, ?_, rfl, rfl, fun h => (by cases h), ((hS.drop (k := 0) rfl).drop (k := 0) rfl)⟩
  have hk := hb52
  rw [(comp_chk hc1).1, (comp_chk hc2).1] at hk
  unfold badO
  rw [if_neg (by simp only [decide_eq_false_iff_not] at hb12; omega), if_neg (by rw [hb17]; decide), if_neg (by rw [hb28]; decide), if_pos hk]
 have hc52 := hb52; try simp only [Gk.cs0] at hc52
 refine .skip (.seq (.region (.val (.fieldAddr 7 (.of rfl) Tryz.underlying101 rfl rfl Tryz.sizeOf41 rfl) rfl (.val (.ld (.of rfl) hS (k := 0) rfl Tryz.isAgg41 rfl) rfl (.call Tryz.func129 rfl (evs_cons (.of rfl) evs_nil) rfl (Clone_any sa sc s.rel hrl B _ J2 ((hr.mono hJ1).mono hJ2) _ hS) ?_)))))
 clear hS
 rintro _ w ⟨J3, ra, rc, rfl, hJ3, hrc, hrr, hS⟩
 refine .val (.fieldAddr 7 (.of rfl) Tryz.underlying101 rfl rfl Tryz.sizeOf41 rfl) rfl (.st1 hS (k := 0) rfl (.of rfl) (.of rfl) rfl Tryz.sizeOf41 (by simp) ?_)
 clear hS; intro w hS; try dsimp only [List.set] at hS
 refine .nil (.seq (.region (.val (.ldsW (cs := [_, _, _, _, _, _, _, _]) (.of rfl) hS (k := 0) rfl Tryz.isAgg101 Tryz.sizeOf101 rfl) rfl (.run 2 rfl trivial (.val (.build (cs := [_, _, _, _, _, _, _, _, _, _]) (parts_cons (.of rfl) (parts_cons (.of rfl) (parts_cons (.of rfl) parts_nil))) bld155_130 rfl) rfl (.stA hS (k := 1) rfl (.of rfl) (.of rfl) rfl Tryz.sizeOf155 rfl (by simp) ?_))))))
 clear hS; intro w hS; try dsimp only [List.set] at hS
 try simp only [List.take_zero, List.nil_append, List.append_nil, List.drop_succ_cons, List.drop_zero, List.drop_nil, Nat.zero_add] at hS
 refine .run 1 rfl trivial (.nil (.ret (ret2c (b := _) (cs := [_, _, _, _, _, _, _, _, _, _]) Tryz.results130 hS (k := 1) rfl Tryz.isAgg155 Tryz.sizeOf155 rfl rfl rfl ?_)))
 have hk := hb52
 rw [(comp_chk hc1).1, (comp_chk hc2).1] at hk
 obtain ⟨k1, k2⟩ := Bool.or_eq_false_iff.1 hk
 simp only [bne_eq_false_iff_eq] at k1 k2
 obtain ⟨p, Q, rfl, hq, hp⟩ := (comp_chk hc1).2 k1
 obtain ⟨q, T, rfl, hq2, hp2⟩ := (comp_chk hc2).2 k2
 refine ⟨_, rfl, J3, entCells s ra rc p q, 0, Le.trans hJ1 (Le.trans hJ2 hJ3), rfl, ?_, rfl, rfl, fun _ => ⟨ra, rc, p, q, Q, T, rfl, hrc, hrr, hq, hp.mono (Le.trans hJ2 hJ3), hq2, hp2.mono hJ3⟩, ((hS.drop (k := 0) rfl).drop (k := 0) rfl)⟩
 unfold badO
 rw [if_neg (by simp only [decide_eq_false_iff_not] at hb12; omega), if_neg (by rw [hb17]; decide), if_neg (by rw [hb28]; decide), if_neg (by rw [hk]; decide)]
end Go.Proofs.YtadhiihnnkcagaaGreatDoor
namespace Go.Proofs.YtadhiihnnkcagaaGreatDoor
open Gk Pat
set_option linter.unusedVariables false
set_option linter.unusedSimpArgs false
def RegAt (I : Im) (pr : Addr) (lo : List Sv) : Prop := ∃ a c E, At I pr [.slice a lo.length c] ∧ lo.length ≤ c ∧ EntsIn I a E lo
theorem EntsIn.mono {I J : Im} {a : Option Addr} {E : List (List Value)} {l : List Sv} (h : EntsIn I a E l) (hl : Le I J) : EntsIn J a E l := ⟨h.1, fun i s hs => by
 obtain ⟨p, c, e, h0, h1, ra, rc, pp, qq, Q, T, e2, h2, h3, h4, h5, h6, h7⟩ := h.2 i s hs
 exact ⟨p, c, e, h0, h1.mono hl, ra, rc, pp, qq, Q, T, e2, h2, h3.mono hl, h4, h5.mono hl, h6, h7.mono hl⟩⟩
def RowsOf (J : Im) (C : List (List Value)) (l : List Sv) : Prop := C.length = l.length ∧ ∀ (i : Nat) (s : Sv), l[i]? = some s → ∃ c, C[i]? = some c ∧ SvAt J s c
theorem RowsOf.mono {J K : Im} {C : List (List Value)} {l : List Sv} (h : RowsOf J C l) (hl : Le J K) : RowsOf K C l := ⟨h.1, fun i s hs => by
 obtain ⟨c, h1, h2⟩ := h.2 i s hs
 exact ⟨c, h1, h2.mono hl⟩⟩
theorem RowsOf.snoc {J : Im} {C : List (List Value)} {l : List Sv} {s : Sv} {c : List Value} (h : RowsOf J C l) (hs : SvAt J s c) : RowsOf J (C ++ [c]) (l ++ [s]) := ⟨by simp [h.1], fun i t ht => by
 rcases Nat.lt_or_ge i l.length with hi | hi
 ·rw [List.getElem?_append_left hi] at ht
  obtain ⟨d, h1, h2⟩ := h.2 i t ht
  exact ⟨d, by rw [List.getElem?_append_left (by rw [h.1]; exact hi)]; exact h1, h2⟩
 ·rw [List.getElem?_append_right hi] at ht
  have hi0 : i - l.length = 0 := by have := (List.getElem?_eq_some_iff.1 ht).1; simp at this; omega
  rw [hi0] at ht
  cases ht
  exact ⟨c, by rw [List.getElem?_append_right (by rw [h.1]; exact hi), h.1, hi0]; rfl, hs⟩⟩
end Go.Proofs.YtadhiihnnkcagaaGreatDoor
