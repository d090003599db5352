/- Part 5 of what the proof stands on: W21e, W21h, W21i, W21j, Tbw, W21k, W21l, GkM, GkN, W21m, W21n, W18s, W18t, W18u, W18v, W18w, W21f, Tmo. -/
import Derived.Test.YtfibbpgikjggfaaGreatDoorM2TD
import Derived.WideMake
set_option linter.unusedVariables false
set_option linter.unusedSimpArgs false
namespace Go.Proofs.YtfibbpgikjggfaaGreatDoor
open Gk Ul Pc Tk Tr
theorem Xfw:Tryz.prog.info? 54=some Tryz.t54:=by kernel_rfl
theorem Xgp:Bld Tryz.prog 114 [(0,1),(1,1)] [.int .i64 0,.slice none 0 0]:=X2l X5e Tryz.zeroValue114 (fun w=>by simp [go_sem])
theorem Xfs (l:List Rec) (r:Rec):Xd (l ++ [r])=Xd l ++ X8 r:=by unfold Xd; simp
theorem X7i {r:Rec}:∀ {l:List Rec} {j:Nat},j<l.length→Xd (l.set j r)=(Xd l).take (j*10) ++ X8 r ++ (Xd l).drop (j*10+10)
 | [],j,h=>absurd h (by simp)
 | t::l,0,h=>by
  unfold Xd
  rw [Y46,Y1c,Y1t,Y1c,Y1t,Y1z (by exact Ys 10)]
  rfl
 | t::l,j+1,h=>by
  have h1:=X7i (r:=r) (l:=l) (j:=j) (by simpa using h)
  have e:∀ l:List Rec,Xd (t::l)=X8 t ++ Xd l:=fun l=>rfl
  rw [Y2x,e,e,h1,show (j+1)*10=(X8 t).length+j*10 by show (j+1)*10=10+j*10; omega,Y3w,Y2m,List.drop_length_add_append]
  simp only [Y8]
theorem Xnx (r:Rec):(X8 r).all Value.oneCell'=true:=rfl
theorem Xf6:∀ (l:List Rec),(Xd l).all Value.oneCell'=true
 | []=>rfl
 | r::l=>by
  show (X8 r ++ Xd l).all Value.oneCell'=true
  rw [Y27,Xnx,Xf6 l]; rfl
theorem X99 (l:List Rec) (r:Rec):(put l r).length=l.length:=by
 unfold put
 split
 ·rw [Y1x]
 ·rfl
def Xoo (n:Int):Int:=max 0 (min n 64)
theorem Xdc (n:Int) (B w:World) (I:Im) (As:List X9) (hS:Sat B w I As) :
  Calls Tryz.prog 105 [I64 n].toArray w (Ret fun v w'=>∃ tb,v=ptr tb 0∧Sat B w' I (blk tb [I64 (Xoo n),.slice none (([]:List Rec)).length 0] 114::Vec 54 10 (.slice none (([]:List Rec)).length 0) (([]:List Rec)).length (Xd (([]:List Rec)))::As)):=by
 refine calls Tryz.func105 rfl Tryz.ntmps105 rfl (.seq (.q 1 rfl (.seq (.t 1 rfl (.val (.min2 (.of rfl) (.of rfl)) rfl (.val (.max2 (.of rfl) (.of rfl)) rfl (.val (.build (cs:=[_,_]) (X5 (.of rfl) X6) Xgp rfl) rfl (.boxA (cs:=[_,_]) hS (.of rfl) rfl ?_))))))))
 clear hS; intro b7 w hS
 refine .q 1 rfl (.nil (.ret (Xe Tryz.results105 rfl ?_)))
 refine ⟨_,rfl,_,rfl,?_⟩
 exact (hS.vecNil 54 10).pick 1 rfl
theorem Xnq (tb:Nat) (room:Int) (a:Option Addr) (c:Nat) (l:List Rec) (hl:l.length≤100000) (r:Rec) (hn:r.name.length≤1000000) (hp:r.parent.length≤1000000) (B w:World) (I:Im) (hK:Known I) (hP:PreAt I) (As:List X9) (hS:Sat B w I (blk tb [I64 room,.slice a l.length c] 114::Vec 54 10 (.slice a l.length c) l.length (Xd l)::As)) :
  Calls Tryz.prog 64 [ptr tb 0,.agg (X8 r).toArray].toArray w (Ret fun v w'=>v=I64 (Xgz l r:Nat)∧Sat B w' I (blk tb [I64 room,.slice a (put l r).length c] 114::Vec 54 10 (.slice a (put l r).length c) (put l r).length (Xd (put l r))::As)):=by
 refine calls Tryz.func64 rfl Tryz.ntmps64 rfl (.seq (.region (.boxA (cs:=[_,_,_,_,_,_,_,_,_,_]) hS (.of rfl) rfl ?_)))
 clear hS; intro b3 w hS
 refine .q 1 rfl (.nil (.seq (.seq (.region ?_))))
 refine WL.val (.ldsW (cs:=[_,_,_,_,_,_,_,_,_,_]) (.of rfl) hS (k:=0) rfl X97 X26 rfl) rfl ?_
 refine .call Tryz.func107 rfl (X0 (.of rfl) X4) rfl (Xbr r hn hp B _ I hK hP _ hS) ?_
 clear hS
 rintro _ w ⟨rfl,hS⟩
 refine .q 1 rfl (.nil ?_)
 refine WC.cond rfl (fun hb8=>?_) (fun hb8=>?_)
 ·
  have hc8:=hb8; try simp only [Y5] at hc8
  refine .seq (.q 1 rfl (.ret (Xe Qr64 rfl ?_)))
  have h1:Xx r=false:=by simpa using hb8
  have hE:Xgz l r=1:=by rw [Xgz,if_pos h1]
  have hQ:put l r=l:=by rw [put,if_neg (by rw [hE]; decide)]
  rw [hE,hQ]
  exact ⟨_,rfl,rfl,hS.drop (k:=0) rfl⟩
 have hc8:=hb8; try simp only [Y5] at hc8
 refine .skip (.seq (.t 1 rfl ?_))
 refine WL.val (.fieldAddr 1 (.of rfl) X20 rfl rfl Qs9 rfl) rfl ?_
 refine WL.val (.ld (.of rfl) hS (k:=0) rfl Qg9 rfl) rfl ?_
 refine .call Xn2 rfl (X0 (.of rfl) (X0 (.of rfl) X4)) rfl (X8r tb room a c l hl r.name B _ I _ ((hS.pick 2 rfl).pick 2 rfl)) ?_
 clear hS
 rintro _ w ⟨rfl,hS⟩
 replace hS:=hS.pick 2 rfl
 refine .q 1 rfl (.nil (.seq (.block (.seq (.q 3 rfl ?_)))))
 refine WC.cond rfl (fun hb13=>?_) (fun hb13=>?_)
 ·
  have hc13:=hb13; try simp only [Y5] at hc13
  refine .seq (.q 1 rfl (.ret (Xe Qr64 rfl ?_)))
  have h1:¬ Xx r=false:=by simpa using hb8
  have h2:get l r.name=none:=by
   rcases Tr.get_at l r.name with ⟨_,h2⟩ | ⟨j,t,h2,_⟩
   ·exact h2
   ·exfalso; rw [h2] at hb13; have:=of_decide_eq_true hb13; omega
  have hE:Xgz l r=6:=by rw [Xgz,if_neg h1,h2]
  have hQ:put l r=l:=by rw [put,if_neg (by rw [hE]; decide)]
  rw [hE,hQ]
  exact ⟨_,rfl,rfl,hS.drop (k:=0) rfl⟩
 have hc13:=hb13; try simp only [Y5] at hc13
 refine .seq ?_
 obtain ⟨j,t,hj,ht,hn2⟩:∃ (j:Nat) (t:Rec),at0 l r.name=(j:Int)∧l[j]?=some t∧get l r.name=some t:=by
  rcases Tr.get_at l r.name with ⟨h1,_⟩ | ⟨j,t,h1,h2,_,h3⟩
  ·exfalso; rw [h1] at hb13; simp at hb13
  ·exact ⟨j,t,h1,h2,h3⟩
 have hjl:=(Y4.1 ht).1
 obtain ⟨p,rfl,_⟩:=X2c hS (k:=2) rfl j t ht
 rw [hj]
 refine .quiet (by kernel_rfl) (by kernel_rfl) hS (.val (fun w hS=>(.move (.of rfl))) rfl (.val (fun w hS=>(.nilCheck (.of rfl))) rfl ?_))
 refine WQ.val (fun w hS=>(by exact .fieldAddr 1 (.of rfl) X5e rfl rfl Xf0 rfl)) rfl ?_
 refine WQ.val (fun w hS=>(by exact (.ld (.of rfl) hS (k:=1) rfl Xjt rfl))) rfl ?_
 refine .val (fun w hS=>(.move (.of rfl))) rfl ?_
 refine WQ.val (fun w hS=>(by exact .indexAddrI (.of rfl) (.of rfl) (by omega) (by omega) X7e X26)) rfl ?_
 refine WQ.val (fun w hS=>(by exact .fieldAddrI 2 (.of rfl) X20 rfl rfl Qs9 rfl)) rfl ?_
 refine WQ.val (fun w hS=>ldC (.of rfl) (by obtain ⟨p9,hp9,hx⟩:=X2c hS (k:=2) rfl j t ht; cases hp9; exact hx 2 _ rfl) Qg9) rfl ?_
 refine WQ.val (fun w hS=>(by exact .fieldAddr 2 (.of rfl) X20 rfl rfl Qs9 rfl)) rfl ?_
 refine WQ.val (fun w hS=>(by exact (.ld (.of rfl) hS (k:=0) rfl Qg9 rfl))) rfl ?_
 refine .val (fun w hS=>(.nes (.of rfl) (.of rfl))) rfl (.val (fun w hS=>(.assign (.of rfl))) rfl (.nil ?_))
 clear hS; intro w hS
 refine WC.cond rfl (fun hb16=>?_) (fun hb16=>?_)
 ·
  have hc16:=hb16; try simp only [Y5] at hc16
  refine .seq (.q 1 rfl (.ret (Xe Qr64 rfl ?_)))
  have h1:¬ Xx r=false:=by simpa using hb8
  have h2:t.parent≠r.parent:=by simpa using hb16
  have hE:Xgz l r=8:=by rw [Xgz,if_neg h1,hn2]; exact if_pos h2
  have hQ:put l r=l:=by rw [put,if_neg (by rw [hE]; decide)]
  rw [hE,hQ]
  exact ⟨_,rfl,rfl,hS.drop (k:=0) rfl⟩
 have hc16:=hb16; try simp only [Y5] at hc16
 refine .skip (.seq ?_)
 obtain ⟨gb,cap9,rest9,hv9,hc1,hc2,hl1,hl2,hS⟩:=hS.vecOpen (k:=2) rfl (by omega)
 injection hv9 with hv1 hv2 hv3
 injection hv1 with hv1
 subst hv1
 subst hv3
 try dsimp only [List.set] at hS
 refine .drawn (fun w=>∃ R,Sat B w I (blk b3 [I64 r.kind,S r.name,S r.parent,S r.user,S r.service,S r.url,I64 r.made,I64 r.used,I64 r.uses,.bool r.fresh] 54::blk tb [I64 room,.slice (some ⟨gb,0,none⟩) l.length c] 114::blk gb (Xd l ++ rest9) 54::R)) (fun j=>!([7].contains j)) (by kernel_rfl) ?_
 replace hS:=hS.drew; generalize w.drew=w at hS ⊢
 have hH:∃ R,Sat B w I (blk b3 [I64 r.kind,S r.name,S r.parent,S r.user,S r.service,S r.url,I64 r.made,I64 r.used,I64 r.uses,.bool r.fresh] 54::blk tb [I64 room,.slice (some ⟨gb,0,none⟩) l.length c] 114::blk gb (Xd l ++ rest9) 54::R):=⟨_,(((hS.pick 2 rfl).pick 2 rfl).pick 2 rfl)⟩
 refine .tp (i:=0) rfl (by kernel_rfl) (fun w=>(.move (.of rfl))) rfl (.tp (i:=1) rfl (by kernel_rfl) (fun w=>(.nilCheck (.of rfl))) rfl ?_)
 refine WD.tp (i:=2) rfl (by kernel_rfl) (fun w=>(.fieldAddr 1 (.of rfl) X5e rfl rfl Xf0 rfl)) rfl ?_
 refine WD.tk (i:=3) rfl (by kernel_rfl) hH (fun w ⟨R,hS⟩=>((.ld (.of rfl) hS (k:=1) rfl Xjt rfl))) rfl ?_
 refine .tp (i:=4) rfl (by kernel_rfl) (fun w=>(.move (.of rfl))) rfl ?_
 refine WD.tk (i:=5) rfl (by kernel_rfl) hH (fun w ⟨R,hS⟩=>((.ldsW (cs:=[_,_,_,_,_,_,_,_,_,_]) (.of rfl) hS (k:=0) rfl X97 X26 rfl))) rfl ?_
 refine WD.tp (i:=6) rfl (by kernel_rfl) (fun w=>(.indexAddr (.of rfl) (.of rfl) (by omega) (by omega) X7e X26)) rfl ?_
 refine WD.branch [7] (by kernel_rfl) rfl (WO.cons rfl ?_ (WO.nil))
 refine WL.stA hS (k:=2) rfl (.of rfl) (.of rfl) rfl X26 rfl (by simp only [Y0]; omega) ?_
 clear hS; intro w hS; try dsimp only [List.set] at hS
 rw [Yf,Y1y (by omega),Y1z (by omega),← Y8] at hS
 replace hS:=hS.drop (k:=0) rfl
 try dsimp only [List.eraseIdx] at hS
 replace hS:=hS.vecShut (n:=l.length) (size:=10) (k:=1) rfl hc1 hc2 (by simp only [Y0,Yq,Yj,Y6,Yh]; omega) (by simp only [Y0,Yq,Yj,Y6,Yh]; omega)
 try dsimp only [List.set] at hS
 refine .nil ?_
 refine And.intro (by intro h; cases h) ?_
 refine .done (by kernel_rfl) (.seq (.q 1 rfl (.ret (Xe Qr64 rfl ?_))))
 have h1:¬ Xx r=false:=by simpa using hb8
 have h2:¬ t.parent≠r.parent:=by simpa using hb16
 have hE:Xgz l r=0:=by rw [Xgz,if_neg h1,hn2]; exact if_neg h2
 have hQ:put l r=l.set j r:=by rw [put,if_pos hE,hj,Yk]
 rw [hE,X99,hQ,X7i hjl]
 exact ⟨_,rfl,rfl,hS⟩
theorem Xj0 (tb:Nat) (room:Int) (a:Option Addr) (c:Nat) (l:List Rec) (hl:l.length≤100000) (r:Rec) (hn:r.name.length≤1000000) (hp:r.parent.length≤1000000) (B w:World) (I:Im) (hK:Known I) (hP:PreAt I) (As:List X9) (hS:Sat B w I (blk tb [I64 room,.slice a l.length c] 114::Vec 54 10 (.slice a l.length c) l.length (Xd l)::As)) :
  Calls Tryz.prog 48 [ptr tb 0,.agg (X8 r).toArray].toArray w (Ret fun v w'=>v=I64 (Xds room l r:Nat)∧∃ a c,Sat B w' I (blk tb [I64 room,.slice a (add room l r).length c] 114::Vec 54 10 (.slice a (add room l r).length c) (add room l r).length (Xd (add room l r))::As)):=by
 refine calls Tryz.func48 rfl Tryz.ntmps48 rfl (.seq (.region (.boxA (cs:=[_,_,_,_,_,_,_,_,_,_]) hS (.of rfl) rfl ?_)))
 clear hS; intro b3 w hS
 refine .q 1 rfl (.nil (.seq (.block (.seq (.region ?_)))))
 refine WL.val (.ldsW (cs:=[_,_,_,_,_,_,_,_,_,_]) (.of rfl) hS (k:=0) rfl X97 X26 rfl) rfl ?_
 refine .call Tryz.func107 rfl (X0 (.of rfl) X4) rfl (Xbr r hn hp B _ I hK hP _ hS) ?_
 clear hS
 rintro _ w ⟨rfl,hS⟩
 refine .q 2 rfl (.nil ?_)
 refine WC.cond rfl (fun hb5=>?_) (fun hb5=>?_)
 ·
  have hc5:=hb5; try simp only [Y5] at hc5
  refine .seq (.q 1 rfl (.ret (Xe Qr48 rfl ?_)))
  have hE:Xds room l r=1:=by rw [Xds,if_pos (by simpa using hb5)]
  have hQ:add room l r=l:=by rw [add,if_neg (by rw [hE]; decide)]
  rw [hE,hQ]
  exact ⟨_,rfl,rfl,a,c,hS.drop (k:=0) rfl⟩
 have hc5:=hb5; try simp only [Y5] at hc5
 refine .seq (.t 1 rfl ?_)
 refine WL.val (.fieldAddr 1 (.of rfl) X20 rfl rfl Qs9 rfl) rfl ?_
 refine WL.val (.ld (.of rfl) hS (k:=0) rfl Qg9 rfl) rfl ?_
 refine .call Xn2 rfl (X0 (.of rfl) (X0 (.of rfl) X4)) rfl (X8r tb room a c l hl r.name B _ I _ ((hS.pick 2 rfl).pick 2 rfl)) ?_
 clear hS
 rintro _ w ⟨rfl,hS⟩
 refine .q 2 rfl (.nil ?_)
 refine WC.cond rfl (fun hb9=>?_) (fun hb9=>?_)
 ·
  have hc9:=hb9; try simp only [Y5] at hc9
  refine .seq (.q 1 rfl (.ret (Xe Qr48 rfl ?_)))
  have h1:¬ Xx r=false:=by simpa using hb5
  have hE:Xds room l r=7:=by rw [Xds,if_neg h1,if_pos (by simpa using hb9)]
  have hQ:add room l r=l:=by rw [add,if_neg (by rw [hE]; decide)]
  rw [hE,hQ]
  exact ⟨_,rfl,rfl,a,c,hS.drop (k:=2) rfl⟩
 have hc9:=hb9; try simp only [Y5] at hc9
 refine .seq (.region ?_)
 refine WL.val (.fieldAddr 2 (.of rfl) X20 rfl rfl Qs9 rfl) rfl ?_
 refine WL.val (.ld (.of rfl) hS (k:=2) rfl Qg9 rfl) rfl ?_
 refine .q 2 rfl (.gval rfl rfl (fun hg1=>(.move (.of rfl))) rfl ?_)
 refine WL.gval rfl rfl (fun hg1=>(by exact .fieldAddr 2 (.of rfl) X20 rfl rfl Qs9 rfl)) rfl ?_
 refine WL.gval rfl rfl (fun hg1=>(by exact (.ld (.gd hg1 rfl) hS (k:=2) rfl Qg9 rfl))) rfl ?_
 refine .gcall (T:=fun w=>Sat B w I (blk tb [I64 room,.slice a l.length c] 114::Vec 54 10 (.slice a l.length c) l.length (Xd l)::blk b3 [I64 r.kind,S r.name,S r.parent,S r.user,S r.service,S r.url,I64 r.made,I64 r.used,I64 r.uses,.bool r.fresh] 54::As)) rfl rfl rfl Xn2 rfl (fun hg1=>(X0 (.gd hg1 rfl) (X0 (.gd hg1 rfl) X4))) rfl (fun hg1=>X8r tb room a c l hl r.parent B _ I _ hS) hS ?_
 clear hS; rintro w hS
 refine .gval rfl rfl (fun hg1=>(.lss (.gd hg1 rfl) (.of rfl))) rfl (.val (.pand (.of rfl) (.of rfl) (.of rfl)) rfl (.q 1 rfl (.nil ?_)))
 refine WC.cond rfl (fun hb15=>?_) (fun hb15=>?_)
 ·
  have hc15:=hb15; try simp only [Y5] at hc15
  refine .seq (.q 1 rfl (.ret (Xe Qr48 rfl ?_)))
  have h1:¬ Xx r=false:=by simpa using hb5
  have h2:¬ 0≤at0 l r.name:=by simpa using hb9
  have hE:Xds room l r=6:=by rw [Xds,if_neg h1,if_neg h2,if_pos (by simpa using hb15)]
  have hQ:add room l r=l:=by rw [add,if_neg (by rw [hE]; decide)]
  rw [hE,hQ]
  exact ⟨_,rfl,rfl,a,c,hS.drop (k:=2) rfl⟩
 have hc15:=hb15; try simp only [Y5] at hc15
 refine .seq (.quiet (by kernel_rfl) (by kernel_rfl) hS (.val (fun w hS=>(.move (.of rfl))) rfl (.val (fun w hS=>(.nilCheck (.of rfl))) rfl ?_)))
 refine WQ.val (fun w hS=>(by exact .fieldAddr 1 (.of rfl) X5e rfl rfl Xf0 rfl)) rfl ?_
 refine WQ.val (fun w hS=>(by exact (.ld (.of rfl) hS (k:=0) rfl Xjt rfl))) rfl ?_
 refine .val (fun w hS=>(.lenSlice (.of rfl) X7e)) rfl (.val (fun w hS=>(.move (.of rfl))) rfl (.val (fun w hS=>(.nilCheck (.of rfl))) rfl ?_))
 refine WQ.val (fun w hS=>(by exact .fieldAddr 0 (.of rfl) X5e rfl rfl Qs3 rfl)) rfl ?_
 refine WQ.val (fun w hS=>(by exact (.ld (.of rfl) hS (k:=0) rfl Qg3 rfl))) rfl ?_
 refine .val (fun w hS=>(.geq (.of rfl) (.of rfl))) rfl (.val (fun w hS=>(.assign (.of rfl))) rfl (.nil ?_))
 clear hS; intro w hS
 refine WC.cond rfl (fun hb26=>?_) (fun hb26=>?_)
 ·
  have hc26:=hb26; try simp only [Y5] at hc26
  refine .seq (.q 1 rfl (.ret (Xe Qr48 rfl ?_)))
  have h1:¬ Xx r=false:=by simpa using hb5
  have h2:¬ 0≤at0 l r.name:=by simpa using hb9
  have h3:¬ (r.parent≠[]∧at0 l r.parent<0):=fun h=>by
   rcases hc15 with e | e
   ·exact h.1 e
   ·omega
  have hE:Xds room l r=5:=by rw [Xds,if_neg h1,if_neg h2,if_neg h3,if_pos (by simpa using hb26)]
  have hQ:add room l r=l:=by rw [add,if_neg (by rw [hE]; decide)]
  rw [hE,hQ]
  exact ⟨_,rfl,rfl,a,c,hS.drop (k:=2) rfl⟩
 have hc26:=hb26; try simp only [Y5] at hc26
 refine .skip (.seq (.drawn (fun w=>∃ R,Sat B w I (blk b3 [I64 r.kind,S r.name,S r.parent,S r.user,S r.service,S r.url,I64 r.made,I64 r.used,I64 r.uses,.bool r.fresh] 54::blk tb [I64 room,.slice a l.length c] 114::R)) (fun j=>!([10].contains j)) (by kernel_rfl) ?_))
 replace hS:=hS.drew; generalize w.drew=w at hS ⊢
 have hH:∃ R,Sat B w I (blk b3 [I64 r.kind,S r.name,S r.parent,S r.user,S r.service,S r.url,I64 r.made,I64 r.used,I64 r.uses,.bool r.fresh] 54::blk tb [I64 room,.slice a l.length c] 114::R):=⟨_,((hS.pick 0 rfl).pick 2 rfl)⟩
 refine .tp (i:=0) rfl (by kernel_rfl) (fun w=>(.move (.of rfl))) rfl (.tp (i:=1) rfl (by kernel_rfl) (fun w=>(.move (.of rfl))) rfl (.tp (i:=2) rfl (by kernel_rfl) (fun w=>(.nilCheck (.of rfl))) rfl ?_))
 refine WD.tp (i:=3) rfl (by kernel_rfl) (fun w=>(.fieldAddr 1 (.of rfl) X5e rfl rfl Xf0 rfl)) rfl ?_
 refine WD.tk (i:=4) rfl (by kernel_rfl) hH (fun w ⟨R,hS⟩=>((.ld (.of rfl) hS (k:=1) rfl Xjt rfl))) rfl ?_
 refine WD.tk (i:=5) rfl (by kernel_rfl) hH (fun w ⟨R,hS⟩=>((.ldsW (cs:=[_,_,_,_,_,_,_,_,_,_]) (.of rfl) hS (k:=0) rfl X97 X26 rfl))) rfl ?_
 refine WD.branch [6] (by kernel_rfl) rfl (WO.cons rfl ?_ (WO.nil))
 refine .buildSlice (cs:=[_,_,_,_,_,_,_,_,_,_]) hS (X5 (.of rfl) X6) X7e X26 Xbl rfl rfl rfl rfl ?_
 clear hS; intro b43 w hS
 refine .nil ?_
 clear hH
 have hH:∃ R,Sat B w I (blk b3 [I64 r.kind,S r.name,S r.parent,S r.user,S r.service,S r.url,I64 r.made,I64 r.used,I64 r.uses,.bool r.fresh] 54::blk tb [I64 room,.slice a l.length c] 114::R):=⟨_,((hS.pick 1 rfl).pick 3 rfl)⟩
 refine And.intro (by intro _ _; exact hH) ?_
 refine WD.branch [7] (by kernel_rfl) rfl (WO.cons rfl ?_ (WO.nil))
 refine WL.append (size:=10) (bytes:=120) hS (.of rfl) (.of rfl) (k:=1) rfl X7e Xfw rfl rfl rfl rfl rfl rfl rfl ⟨by omega,by unfold maxLen; omega⟩ rfl ?_
 clear hS; intro v44 w hS; try dsimp only [List.set] at hS
 obtain ⟨a44,c44,rfl,hcap44,_⟩:=hS.vecSlice (k:=1) (v:=v44) rfl
 refine .nil ?_
 clear hH
 have hH:∃ R,Sat B w I (blk b3 [I64 r.kind,S r.name,S r.parent,S r.user,S r.service,S r.url,I64 r.made,I64 r.used,I64 r.uses,.bool r.fresh] 54::blk tb [I64 room,.slice a l.length c] 114::R):=⟨_,((hS.pick 0 rfl).pick 2 rfl)⟩
 refine And.intro (by intro _ _; exact hH) ?_
 refine .tp (i:=8) rfl (by kernel_rfl) (fun w=>(.nilCheck (.of rfl))) rfl ?_
 refine WD.tp (i:=9) rfl (by kernel_rfl) (fun w=>(.fieldAddr 1 (.of rfl) X5e rfl rfl Xf0 rfl)) rfl ?_
 refine WD.branch [10] (by kernel_rfl) rfl (WO.cons rfl ?_ (WO.nil))
 refine WL.st1 hS (k:=0) rfl (.of rfl) (.of rfl) rfl Xf0 (by simp) ?_
 clear hS; intro w hS; try dsimp only [List.set] at hS
 refine .nil ?_
 refine And.intro (by intro h; cases h) ?_
 refine .done (by kernel_rfl) (.seq (.q 1 rfl (.ret (Xe Qr48 rfl ?_))))
 have h1:¬ Xx r=false:=by simpa using hb5
 have h2:¬ 0≤at0 l r.name:=by simpa using hb9
 have h3:¬ (r.parent≠[]∧at0 l r.parent<0):=fun h=>by
  rcases hc15 with e | e
  ·exact h.1 e
  ·omega
 have hE:Xds room l r=0:=by rw [Xds,if_neg h1,if_neg h2,if_neg h3,if_neg (by simpa using hb26)]
 have hQ:add room l r=l ++ [r]:=by rw [add,if_pos hE]
 rw [hE,hQ]
 refine ⟨_,rfl,rfl,a44,c44,?_⟩
 rw [Xfs,Y0]
 exact hS.drop (k:=2) rfl
theorem Xg0 (a:Option Addr) (c:Nat) (l:List Rec) (hl:l.length≤100000) (B w:World) (I:Im) (As:List X9) (hS:Sat B w I (Vec 54 10 (.slice a l.length c) l.length (Xd l)::As)) :
  Calls Tryz.prog 49 [.slice a l.length c].toArray w (Ret fun v w'=>∃ v',v=v'∧Sat B w' I (Vec 54 10 v' l.length (Xd l)::Vec 54 10 (.slice a l.length c) l.length (Xd l)::As)):=by
 refine calls Tryz.func49 rfl Tryz.ntmps49 rfl (.seq (.q 1 rfl (.seq (.seq (.t 1 rfl (.val (Ex.slNil (.of rfl) (.of rfl) X7e) rfl (.nil ?_)))))))
 refine WC.cond rfl (fun hb4=>?_) (fun hb4=>?_)
 ·
  have hc4:=hb4; try simp only [Y5] at hc4
  refine .seq (.q 1 rfl (.ret (Xe Tryz.results49 rfl ?_)))
  cases a with
  | some p=>simp at hb4
  | none =>
  have h0:l=[]:=hS.pure_ (k:=0) rfl fun _ ⟨_,hh⟩=>by
   rcases hh with ⟨_,h,_⟩ | ⟨b,cap,r,hv,_⟩
   ·exact Ye h
   ·cases hv
  subst h0
  exact ⟨_,rfl,.slice none 0 0,rfl,hS.vecNil 54 10⟩
 have hc4:=hb4; try simp only [Y5] at hc4
 refine .skip (.seq (.region (.buildSlice (cs:=[]) hS X6 X7e X26 Xbl rfl rfl rfl rfl ?_)))
 clear hS; intro b5 w hS
 refine .q 1 rfl ?_
 replace hS:=hS.vecOf (k:=0) (E:=54) (size:=10) (n:=0) rfl rfl (Yp _)
 try dsimp only [List.set] at hS
 refine WL.appendV (size:=10) (bytes:=120) hS (.of rfl) (.of rfl) (k:=0) (j:=1) rfl rfl X7e (i:=Tryz.t54) (by kernel_rfl) rfl rfl rfl rfl (Xf6 l) ⟨by omega,by unfold maxLen; omega⟩ rfl ?_
 clear hS; intro v7 w hS
 rw [Yf,Yc] at hS
 refine .q 1 rfl (.nil (.ret (Xe Tryz.results49 rfl ?_)))
 exact ⟨_,rfl,v7,rfl,hS⟩
def Xe7 (n limit:Int):Bool:=limit == 0 || decide (n<limit)
def Xmn (kind:Int):Bool:=kind == 1 || kind == 4
def Xma (ps:List Int) (r:Rec) (now:Int):Bool:=decide (1≤r.kind) && decide (r.kind≤6) && (Xe7 (now - r.made) (ps.getD r.kind.toNat 0) && Xe7 (now - r.used) (ps.getD (7+r.kind.toNat) 0) && Xe7 r.uses (ps.getD (14+r.kind.toNat) 0))
def Xb2 (r:Rec) (now:Int):Rec:={ r with uses:=min (r.uses+1) 255,used:=max r.used now }
theorem X8p (n limit:Int) (w:World) :
  Calls Tryz.prog 165 [I64 n,I64 limit].toArray w (Ret fun v w'=>v=.bool (Xe7 n limit)∧w=w'):=by
 refine calls Xlz rfl Tryz.ntmps165 rfl (.seq (.q 1 rfl (.seq (.t 3 rfl (.gval rfl rfl (fun hg1=>(.move (.of rfl))) rfl (.gval rfl rfl (fun hg1=>(.move (.of rfl))) rfl (.gval rfl rfl (fun hg1=>(.lss (.gd hg1 rfl) (.gd hg1 rfl))) rfl (.val (.por (.of rfl) (.of rfl) (.of rfl)) rfl (.q 1 rfl (.nil (.ret (Xe Tryz.results165 rfl ?_))))))))))))
 exact ⟨_,rfl,rfl,rfl⟩
theorem Xhx (kind:Int) (w:World) :
  Calls Tryz.prog 122 [I64 kind].toArray w (Ret fun v w'=>v=.bool (Xmn kind)∧w=w'):=by
 refine calls Tryz.func122 rfl Tryz.ntmps122 rfl (.seq (.q 1 rfl (.seq (.t 3 rfl (.gval rfl rfl (fun hg1=>(.move (.of rfl))) rfl (.gval rfl rfl (fun hg1=>(.eql (.gd hg1 rfl) (.of rfl))) rfl (.val (.por (.of rfl) (.of rfl) (.of rfl)) rfl (.q 1 rfl (.nil (.ret (Xe Tryz.results122 rfl ?_)))))))))))
 exact ⟨_,rfl,rfl,rfl⟩
theorem Xi8 (r:Rec) (now:Int) (hu:0≤r.uses) (hu2:r.uses≤255) (B w:World) (I:Im) (As:List X9) (hS:Sat B w I As) :
  Calls Tryz.prog 65 [.agg (X8 r).toArray,I64 now].toArray w (Ret fun v w'=>v=.agg (X8 (Xb2 r now)).toArray∧Sat B w' I As):=by
 refine calls Tryz.func65 rfl Tryz.ntmps65 rfl (.seq (.region (.boxA (cs:=[_,_,_,_,_,_,_,_,_,_]) hS (.of rfl) rfl ?_)))
 clear hS; intro b2 w hS
 refine .allocA (cs:=[_,_,_,_,_,_,_,_,_,_]) hS Xbl rfl ?_
 clear hS; intro b4 w hS
 refine .nil (.seq (.region ?_))
 refine WL.val (.fieldAddr 8 (.of rfl) X20 rfl rfl Qs3 rfl) rfl ?_
 refine WL.val (.ld (.of rfl) hS (k:=1) rfl Qg3 rfl) rfl ?_
 refine .run 1 rfl ⟨⟨by omega,by omega⟩,trivial⟩ (.val (.min2 (.of rfl) (.of rfl)) rfl ?_)
 refine WL.val (.fieldAddr 8 (.of rfl) X20 rfl rfl Qs3 rfl) rfl ?_
 refine WL.st1 hS (k:=1) rfl (.of rfl) (.of rfl) rfl Qs3 (by simp) ?_
 clear hS; intro w hS; try dsimp only [List.set] at hS
 refine .nil (.seq (.region ?_))
 refine WL.val (.fieldAddr 7 (.of rfl) X20 rfl rfl Qs3 rfl) rfl ?_
 refine WL.val (.ld (.of rfl) hS (k:=1) rfl Qg3 rfl) rfl ?_
 refine .q 1 rfl (.val (.max2 (.of rfl) (.of rfl)) rfl ?_)
 refine WL.val (.fieldAddr 7 (.of rfl) X20 rfl rfl Qs3 rfl) rfl ?_
 refine WL.st1 hS (k:=1) rfl (.of rfl) (.of rfl) rfl Qs3 (by simp) ?_
 clear hS; intro w hS; try dsimp only [List.set] at hS
 refine .nil (.seq (.region ?_))
 refine WL.val (.ldsW (cs:=[_,_,_,_,_,_,_,_,_,_]) (.of rfl) hS (k:=1) rfl X97 X26 rfl) rfl ?_
 refine WL.stA hS (k:=0) rfl (.of rfl) (.of rfl) rfl X26 rfl (by simp) ?_
 clear hS; intro w hS; try dsimp only [List.set] at hS
 try simp only [Ym,Yc,Yg,Y9,Yl,Yo,Yf] at hS
 refine .nil (.ret ?_)
 refine Xo6 (b:=_) (cs:=[_,_,_,_,_,_,_,_,_,_]) Tryz.results65 hS (k:=0) rfl X97 X26 rfl rfl ?_
 exact ⟨_,rfl,rfl,(hS.drop (k:=0) rfl).drop (k:=0) rfl⟩
theorem Ex.arrAddrO {P:Program} {n:Nat} {L:Env} {w:World} {ty t:TypeId} {pos:String} {af:Array Edge} {g:Option (Nat×Bool)} {x y:Operand} {d:Option Nat} {b o:Nat} {m s:Nat} {e:TypeId} {i:Int} {q:IntKind} (hx:Ev n L x (ptr b o)) (hy:Ev n L y (.int q i)) (hi:0≤i) (hl:i<(m:Int)) (ht:P.underlying t=some (.array m e)) (hs:∀ w,(Go.sizeOf e).run P w=.ok s w) :
  Ex P n L w ⟨d,.indexAddr t x y,ty,pos,af,g⟩ (ptr b (o+i.toNat*s)) w:=by
 have h:=Ex.arrAddrI (P:=P) (w:=w) (d:=d) (ty:=ty) (pos:=pos) (af:=af) (g:=g) hx hy hi hl ht hs
 rw [show (⟨b,o,none⟩:Addr).add (i.toNat*s)=⟨b,o+i.toNat*s,none⟩ from Xt b o _] at h
 exact h
theorem Xdz {ps:List Int} (hps:ps.length=21) {o k:Nat} (e:o=k) (h:k<21):(ps.map I64)[o]?=some (I64 (ps.getD k 0)):=by
 subst e
 rw [Yx,Yd,Y7 (by omega)]
 rfl
theorem Xkl (ps:List Int) (hps:ps.length=21) (r:Rec) (now:Int) (hm:0≤r.made∧r.made≤1099511627776) (hu:0≤r.used∧r.used≤1099511627776) (hn:0≤now∧now≤1099511627776) (B w:World) (I:Im) (As:List X9) (hS:Sat B w I As) :
  Calls Tryz.prog 123 [.agg (ps.map I64).toArray,.agg (X8 r).toArray,I64 now].toArray w (Ret fun v w'=>v=.bool (Xma ps r now)∧Sat B w' I As):=by
 refine calls Tryz.func123 rfl Tryz.ntmps123 rfl (.seq (.region (.boxA (cs:=ps.map I64) hS (.of rfl) rfl ?_)))
 clear hS; intro b3 w hS
 refine .boxA (cs:=[_,_,_,_,_,_,_,_,_,_]) hS (.of rfl) rfl ?_
 clear hS; intro b4 w hS
 refine .q 1 rfl (.nil (.seq (.seq (.region ?_))))
 refine WL.val (.fieldAddr 0 (.of rfl) X20 rfl rfl Qs3 rfl) rfl ?_
 refine .val (.ld (.of rfl) hS (k:=0) rfl Qg3 rfl) rfl (.q 2 rfl ?_)
 refine WL.gval rfl rfl (fun hg1=>(by exact .fieldAddr 0 (.of rfl) X20 rfl rfl Qs3 rfl)) rfl ?_
 refine .gval rfl rfl (fun hg1=>(.ld (.gd hg1 rfl) hS (k:=0) rfl Qg3 rfl)) rfl (.gval rfl rfl (fun hg1=>(.gtr (.gd hg1 rfl) (.of rfl))) rfl (.val (.por (.of rfl) (.of rfl) (.of rfl)) rfl (.nil ?_)))
 refine WC.cond rfl (fun hb14=>?_) (fun hb14=>?_)
 ·
  have hc14:=hb14; try simp only [Y5] at hc14
  refine .seq (.q 1 rfl (.ret (Xe Tryz.results123 rfl ?_)))
  refine ⟨_,rfl,congrArg Value.bool ?_,(hS.drop (k:=0) rfl).drop (k:=0) rfl⟩
  have:(decide (1≤r.kind) && decide (r.kind≤6))=false:=by
   rcases hc14 with e | e
   ·rw [decide_eq_false (by omega)]; rfl
   ·rw [decide_eq_false (p:=r.kind≤6) (by omega),Y4j]
  rw [Xma,this]; rfl
 have hc14:=hb14; try simp only [Y5] at hc14
 refine .skip (.seq ?_)
 have hk1:1≤r.kind∧r.kind≤6:=by omega
 refine .quiet (by kernel_rfl) (by kernel_rfl) hS (.val (fun w hS=>(.move (.of rfl))) rfl ?_)
 refine WQ.val (fun w hS=>(by exact .fieldAddr 6 (.of rfl) X20 rfl rfl Qs3 rfl)) rfl ?_
 refine .val (fun w hS=>(.ld (.of rfl) hS (k:=0) rfl Qg3 rfl)) rfl (.val (fun w hS=>(.sub (.of rfl) (.of rfl) ⟨by omega,by omega⟩)) rfl ?_)
 refine WQ.val (fun w hS=>(by exact .fieldAddr 0 (.of rfl) X20 rfl rfl Qs3 rfl)) rfl ?_
 refine .val (fun w hS=>(.ld (.of rfl) hS (k:=0) rfl Qg3 rfl)) rfl ?_
 refine WQ.val (fun w hS=>(by exact .fieldAddr 0 (.of rfl) Qu26 rfl rfl Qs24 rfl)) rfl ?_
 refine .val (fun w hS=>(Ex.arrAddrO (i:=r.kind) (.of rfl) (.of rfl) (by omega) (by omega) Qu24 Qs3)) rfl (.val (fun w hS=>(.ld (.of rfl) hS (k:=1) rfl Qg3 (Xdz hps (o:=0+0+r.kind.toNat*1) (k:=r.kind.toNat) (by omega) (by omega)))) rfl (.call Xlz rfl (X0 (.of rfl) (X0 (.of rfl) X4)) rfl (fun w hS=>X18 (X8p _ _ w) hS) (.val (fun w hS=>(.move (.of rfl))) rfl (.gval rfl rfl rfl (fun hg1 w hS=>(.move (.of rfl))) rfl ?_))))
 refine WQ.gval rfl rfl rfl (fun hg1 w hS=>(by exact .fieldAddr 7 (.of rfl) X20 rfl rfl Qs3 rfl)) rfl ?_
 refine .gval rfl rfl rfl (fun hg1 w hS=>(.ld (.gd hg1 rfl) hS (k:=0) rfl Qg3 rfl)) rfl (.gval rfl rfl rfl (fun hg1 w hS=>(.sub (.gd hg1 rfl) (.gd hg1 rfl) ⟨by omega,by omega⟩)) rfl ?_)
 refine WQ.gval rfl rfl rfl (fun hg1 w hS=>(by exact .fieldAddr 0 (.of rfl) X20 rfl rfl Qs3 rfl)) rfl ?_
 refine .gval rfl rfl rfl (fun hg1 w hS=>(.ld (.gd hg1 rfl) hS (k:=0) rfl Qg3 rfl)) rfl ?_
 refine WQ.gval rfl rfl rfl (fun hg1 w hS=>(by exact .fieldAddr 7 (.of rfl) Qu26 rfl rfl Qs24 rfl)) rfl ?_
 refine .gval rfl rfl rfl (fun hg1 w hS=>(Ex.arrAddrO (i:=r.kind) (.gd hg1 rfl) (.gd hg1 rfl) (by omega) (by omega) Qu24 Qs3)) rfl (.gval rfl rfl rfl (fun hg1 w hS=>(.ld (.gd hg1 rfl) hS (k:=1) rfl Qg3 (Xdz hps (o:=0+7+r.kind.toNat*1) (k:=7+r.kind.toNat) (by omega) (by omega)))) rfl (.gcall rfl rfl rfl Xlz rfl (fun hg1=>(X0 (.gd hg1 rfl) (X0 (.gd hg1 rfl) X4))) rfl (fun hg1 w hS=>X18 (X8p _ _ w) hS) (.val (fun w hS=>(.pand (.of rfl) (.of rfl) (.of rfl))) rfl (.val (fun w hS=>(.move (.of rfl))) rfl ?_))))
 refine WQ.gval rfl rfl rfl (fun hg1 w hS=>(by exact .fieldAddr 8 (.of rfl) X20 rfl rfl Qs3 rfl)) rfl ?_
 refine .gval rfl rfl rfl (fun hg1 w hS=>(.ld (.gd hg1 rfl) hS (k:=0) rfl Qg3 rfl)) rfl ?_
 refine WQ.gval rfl rfl rfl (fun hg1 w hS=>(by exact .fieldAddr 0 (.of rfl) X20 rfl rfl Qs3 rfl)) rfl ?_
 refine .gval rfl rfl rfl (fun hg1 w hS=>(.ld (.gd hg1 rfl) hS (k:=0) rfl Qg3 rfl)) rfl ?_
 refine WQ.gval rfl rfl rfl (fun hg1 w hS=>(by exact .fieldAddr 14 (.of rfl) Qu26 rfl rfl Qs24 rfl)) rfl ?_
 refine .gval rfl rfl rfl (fun hg1 w hS=>(Ex.arrAddrO (i:=r.kind) (.gd hg1 rfl) (.gd hg1 rfl) (by omega) (by omega) Qu24 Qs3)) rfl (.gval rfl rfl rfl (fun hg1 w hS=>(.ld (.gd hg1 rfl) hS (k:=1) rfl Qg3 (Xdz hps (o:=0+14+r.kind.toNat*1) (k:=14+r.kind.toNat) (by omega) (by omega)))) rfl (.gcall rfl rfl rfl Xlz rfl (fun hg1=>(X0 (.gd hg1 rfl) (X0 (.gd hg1 rfl) X4))) rfl (fun hg1 w hS=>X18 (X8p _ _ w) hS) (.val (fun w hS=>(.pand (.of rfl) (.of rfl) (.of rfl))) rfl (.val (fun w hS=>(.assign (.of rfl))) rfl (.nil ?_)))))
 clear hS; intro w hS
 refine .ret (Xe Tryz.results123 rfl ?_)
 refine ⟨_,rfl,congrArg Value.bool ?_,(hS.drop (k:=0) rfl).drop (k:=0) rfl⟩
 rw [Xma,decide_eq_true hk1.1,decide_eq_true hk1.2]
 rfl
def badR (ps:List Int) (name:List UInt8) (now:Int) (r:Rec):Bool:=((r.name == name) || Xmn r.kind) && !Xma ps r now
def Xbi (ps:List Int) (l:List Rec) (name:List UInt8) (now:Int):Bool:=!(path l name).any (badR ps name now) && decide (0<(path l name).length)
theorem Xb7 (l:List Rec):∀ (f:Nat) (i:Int) (r:Rec),r∈X53 l f i→∃ j:Nat,l[j]?=some r
 | 0,_,r,h=>by simp [X53] at h
 | f+1,i,r,h=>by
  rw [X53] at h
  split at h
  ·simp at h
  ·split at h
   ·rename_i t ht
    rcases Y17.1 h with e | e
    ·subst e; exact ⟨_,ht⟩
    ·exact Xb7 l f _ r e
   ·simp at h
theorem Xl0 {l:List Rec} {name:List UInt8} {r:Rec} (h:r∈path l name):∃ j:Nat,l[j]?=some r:=Xb7 l _ _ r h
theorem X7w {r:Rec} (h:Xx r=true):(0≤r.made∧r.made≤1099511627776)∧(0≤r.used∧r.used≤1099511627776)∧0≤r.uses∧r.uses≤255:=by
 unfold Xx at h
 simp only [Yn,decide_eq_true_eq] at h
 omega
theorem Xgc (tb:Nat) (room:Int) (a:Option Addr) (c:Nat) (l:List Rec) (hl:l.length≤100000) (hwf:Wf l) (ps:List Int) (hps:ps.length=21) (name:List UInt8) (now:Int) (hn:0≤now∧now≤1099511627776) (B w:World) (I:Im) (As:List X9) (hS:Sat B w I (blk tb [I64 room,.slice a l.length c] 114::Vec 54 10 (.slice a l.length c) l.length (Xd l)::As)) :
  Calls Tryz.prog 62 [ptr tb 0,.agg (ps.map I64).toArray,S name,I64 now].toArray w (Ret fun v w'=>∃ J,Le I J∧v=.bool (Xbi ps l name now)∧Sat B w' J (blk tb [I64 room,.slice a l.length c] 114::Vec 54 10 (.slice a l.length c) l.length (Xd l)::As)):=by
 refine calls Tryz.func62 rfl Tryz.ntmps62 rfl (.seq (.region (.boxA (cs:=ps.map I64) hS (.of rfl) rfl ?_)))
 clear hS; intro b5 w hS
 refine .q 1 rfl (.nil (.seq (.t 2 rfl (.call Tryz.func121 rfl (X0 (.of rfl) (X0 (.of rfl) X4)) rfl (Xln tb room a c l hl hwf name B _ I _ ((hS.pick 2 rfl).pick 2 rfl)) ?_))))
 clear hS
 rintro _ w ⟨J,pa,pc,rfl,hJ,hpc,hRS,hS⟩
 have hpl:=Xh4 hwf name
 refine .q 1 rfl (.nil (.seq (.seq (.region (.run 3 rfl ⟨⟨_,X1f⟩,trivial⟩ (.nil (.block (.loop (σ:=Nat) (fun i=>[(0,ptr tb 0),(2,S name),(3,I64 now),(5,ptr b5 0),(9,.slice pa (path l name).length pc),(17,.slice pa (path l name).length pc),(18,I64 ((path l name).length:Nat)),(19,I64 (i:Nat))]) (fun i w=>i≤(path l name).length∧(∀ (j:Nat) r,j<i→(path l name)[j]?=some r→badR ps name now r=false)∧Sat B w J (blk tb [I64 room,.slice a l.length c] 114::Vec 54 10 (.slice a l.length c) l.length (Xd l)::blk b5 (ps.map I64) 26::As)) (fun i=>(path l name).length - i) 0 ⟨rfl,rfl,rfl,rfl,rfl,rfl,rfl,rfl,trivial⟩ ⟨Yp _,fun _ _ h=>absurd h (by omega),hS⟩ ?_))))))))
 rintro i w ⟨hi,hno,hS⟩
 change WC _ _ _ _ [(0,ptr tb 0),(2,S name),(3,I64 now),(5,ptr b5 0),(9,.slice pa (path l name).length pc),(17,.slice pa (path l name).length pc),(18,I64 ((path l name).length:Nat)),(19,I64 (i:Nat))] w
 refine .seq (.q 1 rfl (.seq ?_))
 refine WC.cond rfl (fun hb20=>?_) (fun hb20=>?_)
 ·
  have hc20:=hb20; try simp only [Y5] at hc20
  refine .skip (.seq (.block (.seq ?_)))
  obtain ⟨r,hr⟩:∃ r,(path l name)[i]?=some r:=⟨_,Y7 (by omega)⟩
  obtain ⟨q,hq⟩:=Xl0 (Yr hr)
  have hgd:getD l r.name=r:=by rw [getD,hwf.get_ hq]; rfl
  obtain ⟨ht1,ht2,_⟩:=X7w (hwf.right r (Yr hq))
  obtain ⟨p,rfl,hA⟩:=hRS.2 (by omega)
  have hnm:((path l name).map fun r=>S r.name)[i]?=some (S r.name):=by rw [Yx,hr]; rfl
  refine .region ?_
  refine WL.val (.indexAddrI (.of rfl) (.of rfl) (by omega) (by omega) X1f Qs9) rfl ?_
  refine WL.val (ldC (.of rfl) (by have h9:=X28 hS hA hnm; simpa using h9) Qg9) rfl ?_
  refine .q 1 rfl (.nil (.seq (.t 2 rfl (.call Xow rfl (X0 (.of rfl) (X0 (.of rfl) X4)) rfl (X60 tb room _ c l hl r.name B _ J _ hS) ?_))))
  clear hS
  rintro _ w ⟨rfl,hS⟩
  rw [hgd]
  refine .q 3 rfl (.allocA (cs:=[_,_,_,_,_,_,_,_,_,_]) hS Xbl rfl ?_)
  clear hS; intro b12 w hS
  refine WL.stA hS (k:=0) rfl (.of rfl) (.of rfl) rfl X26 rfl (by simp) ?_
  clear hS; intro w hS; try dsimp only [List.set] at hS
  try simp only [Ym,Yc,Yg,Y9,Yl,Yo,Yf] at hS
  refine .q 1 rfl (.nil (.seq (.t 4 rfl ?_)))
  refine WL.gval rfl rfl (fun hg1=>(by exact .fieldAddr 0 (.of rfl) X20 rfl rfl Qs3 rfl)) rfl ?_
  refine WL.gval rfl rfl (fun hg1=>(by exact (.ld (.gd hg1 rfl) hS (k:=0) rfl Qg3 rfl))) rfl ?_
  refine .gcall (T:=fun w=>Sat B w J (blk b12 [I64 r.kind,S r.name,S r.parent,S r.user,S r.service,S r.url,I64 r.made,I64 r.used,I64 r.uses,.bool r.fresh] 54::blk tb [I64 room,.slice a l.length c] 114::Vec 54 10 (.slice a l.length c) l.length (Xd l)::blk b5 (ps.map I64) 26::As)) rfl rfl rfl Tryz.func122 rfl (fun hg1=>(X0 (.gd hg1 rfl) X4)) rfl (fun hg1=>X18 (Xhx _ w) hS) hS ?_
  clear hS; rintro w hS
  refine .val (.por (.of rfl) (.of rfl) (.of rfl)) rfl (.q 1 rfl ?_)
  refine WL.gval rfl rfl (fun hg1=>(.lds (vs:=ps.map I64) (.of rfl) hS (k:=3) rfl Qg26 Xn5 (by rw [Y13]; exact hps) (fun j v hj=>by rw [Yf]; exact hj))) rfl ?_
  refine WL.gval rfl rfl (fun hg1=>(by exact (.ldsW (cs:=[_,_,_,_,_,_,_,_,_,_]) (.of rfl) hS (k:=0) rfl X97 X26 rfl))) rfl ?_
  refine .gval rfl rfl (fun hg1=>(.move (.of rfl))) rfl (.gcall (T:=fun w=>Sat B w J (blk b12 [I64 r.kind,S r.name,S r.parent,S r.user,S r.service,S r.url,I64 r.made,I64 r.used,I64 r.uses,.bool r.fresh] 54::blk tb [I64 room,.slice a l.length c] 114::Vec 54 10 (.slice a l.length c) l.length (Xd l)::blk b5 (ps.map I64) 26::As)) rfl rfl rfl Tryz.func123 rfl (fun hg1=>(X0 (.gd hg1 rfl) (X0 (.gd hg1 rfl) (X0 (.gd hg1 rfl) X4)))) rfl (fun hg1=>Xkl ps hps r now ht1 ht2 hn B _ J _ hS) hS ?_)
  clear hS; rintro w hS
  refine .gval rfl rfl (fun hg1=>(.not (.gd hg1 rfl))) rfl (.val (.pand (.of rfl) (.of rfl) (.of rfl)) rfl (.nil ?_))
  refine WC.cond rfl (fun hb43=>?_) (fun hb43=>?_)
  ·
   have hc43:=hb43; try simp only [Y5] at hc43
   refine .seq (.q 1 rfl (.ret (Xe Tryz.results62 rfl ?_)))
   refine ⟨_,rfl,J,hJ,congrArg Value.bool ?_,(hS.drop (k:=0) rfl).drop (k:=2) rfl⟩
   have:(path l name).any (badR ps name now)=true:=Y38.2 ⟨r,Yr hr,hb43⟩
   rw [Xbi,this]; rfl
  have hc43:=hb43; try simp only [Y5] at hc43
  refine .skip (.region (.run 2 rfl ⟨⟨by omega,by omega⟩,trivial⟩ (.nil ?_)))
  refine ⟨i+1,⟨rfl,rfl,rfl,rfl,rfl,rfl,rfl,rfl,trivial⟩,⟨by (try dsimp only); omega,fun j t hj ht=>?_,hS.drop (k:=0) rfl⟩,by (try dsimp only); omega⟩
  rcases Yv j i with h1 | h1
  ·exact hno j t h1 ht
  ·have e:j=i:=by omega
   subst e
   rw [hr] at ht; cases ht
   exact hb43
 have hc20:=hb20; try simp only [Y5] at hc20
 refine .exit (.seq (.region (.run 4 rfl ⟨⟨_,X1f⟩,trivial⟩ (.nil (.ret (Xe Tryz.results62 rfl ?_))))))
 refine ⟨_,rfl,J,hJ,congrArg Value.bool ?_,hS.drop (k:=2) rfl⟩
 have:(path l name).any (badR ps name now)=false:=by
  rw [List.any_eq_false]
  intro r hr
  obtain ⟨j,hj,hjr⟩:=Y3b hr
  rw [hno j r (by omega) (by rw [Y7 hj,hjr])]
  decide
 rw [Xbi,this]
 simp
def letC (c:UInt8):Bool:=(decide ((97:Int)≤(c.toNat:Int)) && decide ((c.toNat:Int)≤122)) || (decide ((65:Int)≤(c.toNat:Int)) && decide ((c.toNat:Int)≤90))
def X7o (s:List UInt8) (lo least most:Int):Bool:=(s.all fun c=>!(decide ((c.toNat:Int)<lo) || decide ((126:Int)<(c.toNat:Int)))) && (decide (least≤(s.length:Int)) && decide ((s.length:Int)≤most))
theorem Xga (c:UInt8) (w:World) :
  Calls Tryz.prog 229 [U8 c.toNat].toArray w (Ret fun v w'=>v=.bool (letC c)∧w=w'):=by
 refine calls Tryz.func229 rfl Tryz.ntmps229 rfl (.seq (.q 1 rfl (.seq (.t 3 rfl (.gval rfl rfl (fun hg1=>(.move (.of rfl))) rfl (.gval rfl rfl (fun hg1=>(.leq (.gd hg1 rfl) (.of rfl))) rfl (.val (.pand (.of rfl) (.of rfl) (.of rfl)) rfl (.q 1 rfl (.gval rfl rfl (fun hg1=>(.move (.of rfl))) rfl (.gval rfl rfl (fun hg1=>(.geq (.gd hg1 rfl) (.of rfl))) rfl (.gval rfl rfl (fun hg1=>(.move (.gd hg1 rfl))) rfl (.gval2 rfl rfl rfl (fun hg1 hg2=>(.move (.of rfl))) rfl (.gval2 rfl rfl rfl (fun hg1 hg2=>(.leq (.gd2 hg1 hg2 rfl) (.of rfl))) rfl (.gval rfl rfl (fun hg1=>(.pand (.gd hg1 rfl) (.gd hg1 rfl) (.of rfl))) rfl (.val (.por (.of rfl) (.of rfl) (.of rfl)) rfl (.q 1 rfl (.nil (.ret (Xe Tryz.results229 rfl ?_)))))))))))))))))))
 exact ⟨_,rfl,rfl,rfl⟩
theorem X9n (s:List UInt8) (lo least most:Int) (hs:s.length≤9223372036854775807) (B w:World) (I:Im) (As:List X9) (hS:Sat B w I As) :
  Calls Tryz.prog 196 [S s,.int .u8 lo,I64 least,I64 most].toArray w (Ret fun v w'=>v=.bool (X7o s lo least most)∧Sat B w' I As):=by
 refine calls Tryz.func196 rfl Tryz.ntmps196 rfl (.seq (.q 1 rfl (.seq (.seq (.region (.run 3 rfl ⟨Qu9,trivial⟩ (.nil (.block (.loop (σ:=Nat) (fun i=>[(0,S s),(1,.int .u8 lo),(2,I64 least),(3,I64 most),(11,I64 (s.length:Nat)),(12,I64 (i:Nat))]) (fun i w=>i≤s.length∧(∀ (j:Nat) c,j<i→s[j]?=some c→(decide ((c.toNat:Int)<lo) || decide ((126:Int)<(c.toNat:Int)))=false)∧Sat B w I As) (fun i=>s.length - i) 0 ⟨rfl,rfl,rfl,rfl,rfl,rfl,trivial⟩ ⟨Yp _,fun _ _ h=>absurd h (by omega),hS⟩ ?_)))))))))
 rintro i w ⟨hi,hno,hS⟩
 change WC _ _ _ _ [(0,S s),(1,.int .u8 lo),(2,I64 least),(3,I64 most),(11,I64 (s.length:Nat)),(12,I64 (i:Nat))] w
 refine .seq (.q 1 rfl (.seq ?_))
 refine WC.cond rfl (fun hb13=>?_) (fun hb13=>?_)
 ·
  have hc13:=hb13; try simp only [Y5] at hc13
  refine .skip (.seq (.block (.seq (.q 2 rfl (.seq (.region (.run 6 rfl ⟨⟨⟨by omega,by omega⟩,Qu9⟩,trivial⟩ (.gval rfl rfl (fun hg1=>(.move (.of rfl))) rfl (.gval rfl rfl (fun hg1=>(.move (.of rfl))) rfl ?_)))))))))
  refine WL.gval rfl rfl (fun hg1=>(.index (.gd hg1 rfl) (.gd hg1 rfl) (by (try simp only [Y5] at hg1); omega) (by (try simp only [Y5] at hg1); omega) Qu9)) rfl ?_
  refine .gval rfl rfl (fun hg1=>(.gtr (.gd hg1 rfl) (.of rfl))) rfl (.val (.por (.of rfl) (.of rfl) (.of rfl)) rfl (.nil ?_))
  refine WC.cond rfl (fun hb25=>?_) (fun hb25=>?_)
  ·
   have hc25:=hb25; try simp only [Y5] at hc25
   refine .seq (.q 1 rfl (.ret (Xe Tryz.results196 rfl ?_)))
   refine ⟨_,rfl,congrArg Value.bool ?_,hS⟩
   have:(s.all fun c=>!(decide ((c.toNat:Int)<lo) || decide ((126:Int)<(c.toNat:Int))))=false:=by
    rw [List.all_eq_false]
    exact ⟨_,Yr (Xq (show i<s.length by omega)),by rw [hb25]; decide⟩
   rw [X7o,this]; rfl
  have hc25:=hb25; try simp only [Y5] at hc25
  refine .skip (.region (.run 2 rfl ⟨⟨by omega,by omega⟩,trivial⟩ (.nil ?_)))
  refine ⟨i+1,⟨rfl,rfl,rfl,rfl,rfl,rfl,trivial⟩,⟨by (try dsimp only); omega,fun j c hj hc=>?_,hS⟩,by (try dsimp only); omega⟩
  rcases Yv j i with h1 | h1
  ·exact hno j c h1 hc
  ·have e:j=i:=by omega
   subst e
   rw [Xq (show j<s.length by omega)] at hc; cases hc
   exact hb25
 have hc13:=hb13; try simp only [Y5] at hc13
 refine .exit (.seq (.region (.run 5 rfl ⟨Qu9,trivial⟩ (.gval rfl rfl (fun hg1=>(.move (.of rfl))) rfl (.gval rfl rfl (fun hg1=>(.len (.gd hg1 rfl) Qu9)) rfl (.gval rfl rfl (fun hg1=>(.move (.of rfl))) rfl (.gval rfl rfl (fun hg1=>(.leq (.gd hg1 rfl) (.gd hg1 rfl))) rfl (.val (.pand (.of rfl) (.of rfl) (.of rfl)) rfl (.q 1 rfl (.nil (.ret (Xe Tryz.results196 rfl ?_))))))))))))
 refine ⟨_,rfl,congrArg Value.bool ?_,hS⟩
 have:(s.all fun c=>!(decide ((c.toNat:Int)<lo) || decide ((126:Int)<(c.toNat:Int))))=true:=by
  rw [Y18]
  intro c hc
  obtain ⟨j,hj,hjr⟩:=Y3b hc
  rw [hno j c (by omega) (by rw [Y7 hj,hjr])]
  rfl
 rw [X7o,this]
 rfl
end Go.Proofs.YtfibbpgikjggfaaGreatDoor
namespace Tr
open Tk
inductive Und (l:List Rec) (k:List UInt8):List UInt8→Prop
 | self:Und l k k
 | step {i:Nat} {r:Rec} (hr:l[i]?=some r) (h:Und l k r.parent):Und l k r.name
theorem Und.trans {l:List Rec} {a b c:List UInt8} (h:Und l a b) (k:Und l b c):Und l a c:=by
 induction k with
 | self=>exact h
 | step hr _ ih=>exact .step hr ih
theorem X7c {l:List Rec} {name x:List UInt8} (h:x∈X2j l name):name≠[]∧∃ (i:Nat) (r:Rec),l[i]?=some r∧r.parent=name∧r.name=x:=by
 unfold X2j Xgm at h
 obtain ⟨r,hr,hx⟩:=Y2c.1 h
 obtain ⟨h1,h2⟩:=Y3x.1 hr
 simp only [Yn,decide_eq_true_eq] at h2
 obtain ⟨i,hi,he⟩:=Y3b h1
 exact ⟨h2.1,i,r,by rw [Y7 hi,he],h2.2,hx⟩
theorem Xeg {l:List Rec} (hw:Wf l) {name k:List UInt8} (h:k∈X2j l name):at0 l name<at0 l k∧0≤at0 l k∧0≤at0 l name:=by
 obtain ⟨h0,i,r,hr,hp,hn⟩:=X7c h
 have h1:=(hw.up i r hr)
 have h2:=hw.at_ hr
 subst hp; subst hn
 rcases h1.1 with e | e
 ·exact absurd e h0
 ·rw [h2]; exact ⟨h1.2,by omega,e⟩
theorem X5k {l:List Rec}:∀ (n:Nat) (name x:List UInt8),x∈Xn l n name→Und l name x
 | 0,_,_,h=>by simp [Xn] at h
 | n+1,name,x,h=>by
  rw [Xn,Y17] at h
  rcases h with e | h
  ·subst e; exact .self
  ·obtain ⟨k,hk,hx⟩:=Y2l.1 h
   obtain ⟨_,i,r,hr,hp,hn⟩:=X7c hk
   subst hp; subst hn
   exact (Und.step hr .self).trans (X5k n _ _ hx)
theorem Xms {l:List Rec} (hw:Wf l) {k x:List UInt8} (h:Und l k x):k=x∨at0 l k<at0 l x:=by
 induction h with
 | self=>exact .inl rfl
 | step hr _ ih =>
  have h1:=(hw.up _ _ hr).2
  rw [hw.at_ hr]
  rcases ih with e | e
  ·rw [← e] at h1; exact .inr h1
  ·exact .inr (by omega)
theorem Xna {l:List Rec} (hw:Wf l) {a b x:List UInt8} (h:Und l a x):Und l b x→Und l a b∨Und l b a:=by
 induction h with
 | self=>exact fun k=>.inr k
 | @step i r hr h ih =>
  intro k
  generalize hy:r.name=y at k
  cases k with
  | self=>rw [← hy]; exact .inl (.step hr h)
  | step hs hp =>
   have e:=hw.one _ _ _ _ hr hs hy
   subst e
   rw [hr] at hs
   cases hs
   exact ih hp
theorem Xft {l:List Rec} (hw:Wf l) (name:List UInt8):(X2j l name).Nodup:=by
 unfold X2j Xgm
 have h1:(l.map Rec.name).Nodup:=by
  rw [List.Nodup,Y2q]
  intro i j hi hj hij e
  simp only [Y13] at hi hj
  simp only [Y2v] at e
  have:=hw.one i j l[i] l[j] (Y7 hi) (Y7 hj) e
  omega
 exact h1.sublist ((Y3y (l:=l)).map Rec.name)
theorem X40 {l:List Rec} (hw:Wf l):∀ (n:Nat) (name:List UInt8),(Xn l n name).Nodup
 | 0,_=>by simp [Xn]
 | n+1,name=>by
  rw [Xn,Y2r]
  constructor
  ·intro h
   obtain ⟨k,hk,hx⟩:=Y2l.1 h
   have h1:=Xeg hw hk
   rcases Xms hw (X5k n k name hx) with e | e
   ·rw [e] at h1; omega
   ·omega
  ·rw [List.Nodup,List.pairwise_flatMap]
   refine ⟨fun k _=>X40 hw n k,?_⟩
   refine List.Pairwise.imp_of_mem ?_ (Xft hw name)
   intro a b ha hb hne x hx y hy e
   subst e
   have key:∀ {p q:List UInt8},p∈X2j l name→q∈X2j l name→p≠q→Und l p q→False:=by
    intro p q hp hq hpq hu
    cases hu with
    | self=>exact hpq rfl
    | step hr h =>
     rename_i r
     obtain ⟨_,i,s,hs,hsp,hsn⟩:=X7c hq
     have e:=hw.one _ _ _ _ hr hs hsn.symm
     subst e
     rw [hr] at hs
     cases hs
     rw [hsp] at h
     have h1:=Xeg hw hp
     rcases Xms hw h with e | e
     ·rw [e] at h1; omega
     ·omega
   rcases Xna hw (X5k n a x hx) (X5k n b x hy) with h | h
   ·exact key ha hb hne h
   ·exact key hb ha (Ne.symm hne) h
theorem X6m {l:List Rec}:∀ (n:Nat) (name x:List UInt8),x∈Xn l n name→x=name∨∃ r∈l,r.name=x
 | 0,_,_,h=>by simp [Xn] at h
 | n+1,name,x,h=>by
  rw [Xn,Y17] at h
  rcases h with e | h
  ·exact .inl e
  ·obtain ⟨k,hk,hx⟩:=Y2l.1 h
   obtain ⟨_,i,r,hr,hp,hn⟩:=X7c hk
   rcases X6m n k x hx with e | e
   ·exact .inr ⟨r,Yr hr,by rw [hn,e]⟩
   ·exact .inr e
theorem X8o {α:Type} [DecidableEq α]:∀ (a b:List α),a.Nodup→(∀ x∈a,x∈b)→a.length≤b.length
 | [],_,_,_=>Yp _
 | x::a,b,hn,hs=>by
  rw [Y2r] at hn
  have hx:x∈b:=hs x (by simp)
  have h1:=X8o a (b.erase x) hn.2 (fun y hy=>(List.mem_erase_of_ne (by intro e; subst e; exact hn.1 hy)).2 (hs y (by simp [hy])))
  rw [List.length_erase_of_mem hx] at h1
  have:=Y4f hx
  rw [Y6]; omega
theorem Xiq {l:List Rec} (hw:Wf l) (n:Nat) (name:List UInt8):(Xn l n name).length≤l.length+1:=by
 have h:=X8o (Xn l n name) (name::l.map Rec.name) (X40 hw n name) (fun x hx=>by
  rcases X6m n name x hx with e | ⟨r,hr,e⟩
  ·simp [e]
  ·exact Y2a _ (Y2c.2 ⟨r,hr,e⟩))
 simpa using h
theorem X80 {l:List Rec} (hw:Wf l):∀ (n m:Nat) (name:List UInt8),0≤at0 l name→(l.length:Int) - at0 l name≤n→(l.length:Int) - at0 l name≤m→Xn l n name=Xn l m name
 | 0,_,name,_,h,_=>by have:=Xfj l name; omega
 | _+1,0,name,_,_,h=>by have:=Xfj l name; omega
 | n+1,m+1,name,h0,hn,hm=>by
  rw [Xn,Xn]
  congr 1
  rw [List.flatMap_def,List.flatMap_def]
  congr 1
  refine List.map_congr_left fun k hk=>?_
  have:=Xeg hw hk
  exact X80 hw n m k this.2.1 (by omega) (by omega)
theorem Xk0 {l:List Rec} (hw:Wf l) (name:List UInt8):(below l name).length≤l.length:=by
 unfold below
 split
 ·rename_i h0
  have h:=X8o (Xn l l.length name) (l.map Rec.name) (X40 hw _ name) (fun x hx=>by
   rcases X6m _ name x hx with e | ⟨r,hr,e⟩
   ·rcases X2r l name with ⟨h1,_⟩ | ⟨j,r,_,h2,h3,_⟩
    ·omega
    ·exact Y2c.2 ⟨r,Yr h2,by rw [h3,e]⟩
   ·exact Y2c.2 ⟨r,hr,e⟩)
  simpa using h
 ·simp
theorem X9f {l:List Rec} {i:Nat} {r:Rec} (hr:l[i]?=some r) (h0:r.parent≠[]):∀ (n:Nat) (name:List UInt8),r.parent∈Xn l n name→r.name∈Xn l (n+1) name
 | 0,_,h=>by simp [Xn] at h
 | n+1,name,h=>by
  rw [Xn,Y17] at h ⊢
  refine .inr (Y2l.2 ?_)
  rcases h with e | h
  ·refine ⟨r.name,?_,by rw [Xn]; simp⟩
   unfold X2j Xgm
   exact Y2c.2 ⟨r,Y3x.2 ⟨Yr hr,by simp [← e,h0]⟩,rfl⟩
  ·obtain ⟨k,hk,hx⟩:=Y2l.1 h
   exact ⟨k,hk,X9f hr h0 n k hx⟩
theorem Xmf {l:List Rec} (hw:Wf l) {name:List UInt8} {i:Nat} {r:Rec} (hr:l[i]?=some r) (h0:r.parent≠[]) (h:r.parent∈below l name):r.name∈below l name:=by
 unfold below at h ⊢
 split at h
 ·rename_i h1
  rw [if_pos h1,X80 hw l.length (l.length+1) name h1 (by omega) (by omega)]
  exact X9f hr h0 _ _ h
 ·simp at h
theorem Wf.names {l:List Rec} (hw:Wf l):(l.map Rec.name).Nodup:=by
 rw [List.Nodup,Y2q]
 intro i j hi hj hij e
 simp only [Y13] at hi hj
 simp only [Y2v] at e
 have:=hw.one i j l[i] l[j] (Y7 hi) (Y7 hj) e
 omega
theorem Wf.split {l:List Rec} (hw:Wf l) {xs ys:List Rec} {r:Rec} (h:l=xs ++ r::ys):r.parent=[]∨∃ t∈xs,t.name=r.parent:=by
 have hr:l[xs.length]?=some r:=by rw [h]; simp
 obtain ⟨h1,h2⟩:=hw.up _ _ hr
 rcases h1 with e | e
 ·exact .inl e
 ·rcases X2r l r.parent with ⟨h3,_⟩ | ⟨j,t,h3,h4,h5,_⟩
  ·omega
  ·refine .inr ⟨t,?_,h5⟩
   rw [h,Yi (by omega)] at h4
   exact Yr h4
theorem Wf.of {l:List Rec} (h1:∀ r∈l,Xx r=true) (h2:(l.map Rec.name).Nodup) (h3:∀ xs r ys,l=xs ++ r::ys→r.parent=[]∨∃ t∈xs,t.name=r.parent):Wf l:=by
 refine ⟨h1,fun i j r s hr hs e=>?_,fun i r hr=>?_⟩
 ·rw [List.Nodup,Y2q] at h2
  obtain ⟨hi,e1⟩:=Y4.1 hr
  obtain ⟨hj,e2⟩:=Y4.1 hs
  rcases Nat.lt_trichotomy i j with h | h | h
  ·exact absurd (by rw [Y2v,Y2v,e1,e2,e]) (h2 i j (by simpa using hi) (by simpa using hj) h)
  ·exact h
  ·exact absurd (by rw [Y2v,Y2v,e1,e2,e]) (h2 j i (by simpa using hj) (by simpa using hi) h)
 ·obtain ⟨hi,e1⟩:=Y4.1 hr
  have hsp:l=l.take i ++ r::l.drop (i+1):=by
   rw [← e1,← Y1e hi]; exact (Yw i l).symm
  rcases h3 _ _ _ hsp with e | ⟨t,ht,e⟩
  ·refine ⟨.inl e,?_⟩
   rcases X2r l r.parent with ⟨h4,_⟩ | ⟨j,t,h4,h5,h6,_⟩
   ·omega
   ·exact absurd (h6.trans e) (X5s (h1 t (Yr h5)))
  ·obtain ⟨j,hj,e2⟩:=Y3b ht
   rw [Yq] at hj
   have h7:l[j]?=some t:=by rw [← e2,List.getElem_take]; exact Y7 (by omega)
   rcases X2r l r.parent with ⟨_,h5⟩ | ⟨q,u,h4,h5,h6,h8⟩
   ·exact absurd e (h5 t (Yr h7))
   ·have:q≤j:=Nat.le_of_not_lt fun hh=>h8 j t hh h7 e
    exact ⟨.inr (by omega),by omega⟩
theorem Wf.drop {l:List Rec} (hw:Wf l) (name:List UInt8):Wf (drop l name):=by
 refine Wf.of (fun r hr=>hw.right r (Y3x.1 hr).1) (hw.names.sublist (Y3y.map Rec.name)) fun xs r ys h=>?_
 obtain ⟨l1,l2,e1,e2,e3⟩:=List.filter_eq_append_iff.1 h
 obtain ⟨m1,m2,e4,e5,e6,_⟩:=List.filter_eq_cons_iff.1 e3
 have hsp:l=(l1 ++ m1) ++ r::m2:=by rw [e1,e4,Y8]
 have hr:l[(l1 ++ m1).length]?=some r:=by rw [hsp]; simp
 rcases hw.split hsp with e | ⟨t,ht,e⟩
 ·exact .inl e
 ·by_cases h0:r.parent=[]
  ·exact .inl h0
  ·refine .inr ⟨t,?_,e⟩
   have hk:((below l name).contains t.name)=false:=by
    cases hc:(below l name).contains t.name with
    | false=>rfl
    | true =>
     have h1:=Xmf hw hr h0 (by rw [← e]; simpa using hc)
     have h2:(below l name).contains r.name=true:=by simpa using h1
     rw [h2] at e6; cases e6
   rcases Y12.1 ht with h1 | h1
   ·rw [← e2]; exact Y3x.2 ⟨h1,by rw [hk]; rfl⟩
   ·exact absurd (by rw [hk]; rfl) (e5 t h1)
theorem Xkm (l:List Rec) (name:List UInt8):(drop l name).Sublist l:=Y3y
end Tr
namespace Go.Proofs.YtfibbpgikjggfaaGreatDoor
open Gk Ul Pc Tk Tr
theorem Xfb (tb:Nat) (room:Int) (a:Option Addr) (c:Nat) (l:List Rec) (hl:l.length≤100000) (hwf:Wf l) (ob tx wx:Nat) (As:List X9):∀ (n:Nat) (name:List UInt8) (out:List (List UInt8)) (v:Value) (B w:World) (I:Im) (h0:0≤at0 l name) (hn:(l.length:Int) - at0 l name≤n) (hob:out.length+(Xn l n name).length≤1000000) (hS:Sat B w I (blk ob [v] 57::Vec 9 1 (v) (out).length ((out).map S)::blk tx [ptr tb 0] 39::blk wx [.func (.func 133) #[] [ptr ob 0,ptr tx 0,ptr wx 0].toArray] 181::blk tb [I64 room,.slice a l.length c] 114::Vec 54 10 (.slice a l.length c) l.length (Xd l)::As)),
  Calls Tryz.prog 133 [S name,ptr ob 0,ptr tx 0,ptr wx 0].toArray w (Ret fun _ w'=>∃ J v',Le I J∧Sat B w' J (blk ob [v'] 57::Vec 9 1 (v') ((out ++ Xn l n name)).length (((out ++ Xn l n name)).map S)::blk tx [ptr tb 0] 39::blk wx [.func (.func 133) #[] [ptr ob 0,ptr tx 0,ptr wx 0].toArray] 181::blk tb [I64 room,.slice a l.length c] 114::Vec 54 10 (.slice a l.length c) l.length (Xd l)::As)):=by
 intro n
 induction n with
 | zero=>intro name out v B w I h0 hn; have:=Xfj l name; omega
 | succ n ih =>
  intro name out v B w I h0 hn hob hS
  have hob2:=hob
  rw [Xn,Y6] at hob2
  refine calls Tryz.func133 rfl Tryz.ntmps133 rfl (.seq (.region ?_))
  refine WL.val (.ld (.of rfl) hS (k:=0) rfl Xjw rfl) rfl ?_
  refine .q 1 rfl (.buildSlice (cs:=[_]) hS (X5 (.of rfl) X6) X1f Qs9 Qz9 rfl rfl rfl rfl ?_)
  clear hS; intro b9 w hS
  refine WL.append (size:=1) (bytes:=16) hS (.of rfl) (.of rfl) (k:=1) rfl X1f X1h rfl rfl rfl rfl rfl rfl rfl ⟨by omega,by unfold maxLen; omega⟩ rfl ?_
  clear hS; intro v10 w hS; try dsimp only [List.set] at hS
  obtain ⟨a10,c10,rfl,hcap10,_⟩:=hS.vecSlice (k:=1) (v:=v10) rfl
  refine WL.st1 hS (k:=0) rfl (.of rfl) (.of rfl) rfl Xih (by simp) ?_
  clear hS; intro w hS; try dsimp only [List.set] at hS
  refine .nil (.seq (.region ?_))
  refine WL.val (.ld (.of rfl) hS (k:=2) rfl Xd9 rfl) rfl ?_
  refine .q 1 rfl (.call Tryz.func124 rfl (X0 (.of rfl) (X0 (.of rfl) X4)) rfl (Xei tb room a c l hl name B _ I _ ((hS.pick 5 rfl).pick 5 rfl)) ?_)
  clear hS
  rintro _ w ⟨J,ra,rc,rfl,hJ,hrc,hRS,hS⟩
  have hkl:=Xd6 l name
  replace hS:=(((hS.pick 5 rfl).pick 5 rfl).pick 5 rfl).pick 5 rfl
  try dsimp only [List.eraseIdx] at hS
  refine .run 2 rfl ⟨⟨_,X1f⟩,trivial⟩ (.nil (.block (.loop (σ:=Nat×Value×Im) (fun ⟨i,v,J2⟩=>[(1,ptr ob 0),(2,ptr tx 0),(3,ptr wx 0),(13,.slice ra (X2j l name).length rc),(14,I64 ((X2j l name).length:Nat)),(15,I64 (i:Nat))]) (fun ⟨i,v,J2⟩ w=>i≤(X2j l name).length∧Le J J2∧Sat B w J2 (blk ob [v] 57::Vec 9 1 (v) ((out ++ name::((X2j l name).take i).flatMap (Xn l n))).length (((out ++ name::((X2j l name).take i).flatMap (Xn l n))).map S)::blk tx [ptr tb 0] 39::blk wx [.func (.func 133) #[] [ptr ob 0,ptr tx 0,ptr wx 0].toArray] 181::blk tb [I64 room,.slice a l.length c] 114::Vec 54 10 (.slice a l.length c) l.length (Xd l)::As)) (fun ⟨i,v,J2⟩=>(X2j l name).length - i) (0,_,J) ⟨rfl,rfl,rfl,rfl,rfl,rfl,trivial⟩ ⟨Yp _,Le.refl _,by simpa using hS⟩ ?_)))
  rintro ⟨i,v,J2⟩ w ⟨hi,hJ2,hS⟩
  change WC _ _ _ _ [(1,ptr ob 0),(2,ptr tx 0),(3,ptr wx 0),(13,.slice ra (X2j l name).length rc),(14,I64 ((X2j l name).length:Nat)),(15,I64 (i:Nat))] w
  refine .seq (.q 1 rfl (.seq ?_))
  refine WC.cond rfl (fun hb16=>?_) (fun hb16=>?_)
  ·
   have hc16:=hb16; try simp only [Y5] at hc16
   refine .skip (.seq (.block (.seq ?_)))
   obtain ⟨k,hk⟩:∃ k,(X2j l name)[i]?=some k:=⟨_,Y7 (by omega)⟩
   have hkm:=Xeg hwf (Yr hk)
   have hnm:((X2j l name).map S)[i]?=some (S k):=by rw [Yx,hk]; rfl
   have hfl:(((X2j l name).take i).flatMap (Xn l n)).length+(Xn l n k).length≤((X2j l name).flatMap (Xn l n)).length:=by
    have e:=Yw i (X2j l name)
    have e2:=Y1e (l:=X2j l name) (i:=i) (by omega)
    rw [(Y4.1 hk).2] at e2
    rw [e2] at e
    have e3:=congrArg (fun x=>(List.flatMap (Xn l n) x).length) e
    simp only [Y1o,Y2h,Y0] at e3
    omega
   obtain ⟨p,rfl,hA⟩:=hRS.2 (by omega)
   refine .region ?_
   refine WL.val (.indexAddrI (.of rfl) (.of rfl) (by omega) (by omega) X1f Qs9) rfl ?_
   refine WL.val (ldC (.of rfl) (by have h9:=X28 hS (hA.mono hJ2) hnm; simpa using h9) Qg9) rfl ?_
   refine .q 1 rfl (.nil (.region ?_))
   refine WL.val (.ld (.of rfl) hS (k:=3) rfl Tryz.isAgg181 rfl) rfl ?_
   refine .q 1 rfl ?_
   refine WL.vcall (cap:=[ptr ob 0,ptr tx 0,ptr wx 0]) Tryz.func133 rfl (.of rfl) (X0 (.of rfl) X4) rfl (ih k (out ++ name::((X2j l name).take i).flatMap (Xn l n)) v B w J2 hkm.2.1 (by omega) (by simp only [Y0,Y6,Xn] at hob ⊢; omega) hS) ?_
   clear hS
   rintro _ w ⟨J3,v3,hJ3,hS⟩
   refine .nil (.region (.run 2 rfl ⟨⟨by omega,by omega⟩,trivial⟩ (.nil ?_)))
   refine ⟨(i+1,v3,J3),⟨rfl,rfl,rfl,rfl,rfl,rfl,trivial⟩,⟨by (try dsimp only); omega,hJ2.trans hJ3,?_⟩,by (try dsimp only); omega⟩
   try dsimp only
   rw [Y1a,hk,Y28,Y1o,Y2h,List.flatMap_nil,Yg,← Yu,← Y8]
   exact hS
  have hc16:=hb16; try simp only [Y5] at hc16
  refine .exit (X7d Tryz.results133 ?_)
  have hin:i=(X2j l name).length:=by omega
  subst hin
  rw [Y1b] at hS
  exact ⟨_,rfl,J2,v,hJ.trans hJ2,hS⟩
theorem Xik (tb:Nat) (room:Int) (a:Option Addr) (c:Nat) (l:List Rec) (hl:l.length≤100000) (hwf:Wf l) (name:List UInt8) (B w:World) (I:Im) (As:List X9) (hS:Sat B w I (blk tb [I64 room,.slice a l.length c] 114::Vec 54 10 (.slice a l.length c) l.length (Xd l)::As)) :
  Calls Tryz.prog 81 [ptr tb 0,S name].toArray w (Ret fun v w'=>∃ J ra rc,v=.slice ra (below l name).length rc∧Le I J∧(below l name).length≤rc∧RS J ra 1 (below l name).length ((below l name).map S)∧Sat B w' J (blk tb [I64 room,.slice a l.length c] 114::Vec 54 10 (.slice a l.length c) l.length (Xd l)::As)):=by
 refine calls Tryz.func81 rfl Tryz.ntmps81 rfl (.seq (.region (.box1 hS (.of rfl) rfl rfl ?_)))
 clear hS; intro b2 w hS
 refine .q 1 rfl (.nil (.seq (.region (.alloc1 hS Qz57 rfl rfl ?_))))
 clear hS; intro b5 w hS
 refine .nil (.seq (.region (.alloc1 hS Tryz.zeroValue181 rfl rfl ?_)))
 clear hS; intro b6 w hS
 refine .nil (.seq (.region (.val (.makeFunc (X0 (.of rfl) (X0 (.of rfl) (X0 (.of rfl) X4)))) rfl ?_)))
 refine WL.st1 hS (k:=0) rfl (.of rfl) (.of rfl) rfl Tryz.sizeOf181 (by simp) ?_
 clear hS; intro w hS; try dsimp only [List.set] at hS
 refine .nil (.seq (.seq (.region ?_)))
 refine WL.val (.ld (.of rfl) hS (k:=2) rfl Xd9 rfl) rfl ?_
 refine .q 1 rfl (.call Xn2 rfl (X0 (.of rfl) (X0 (.of rfl) X4)) rfl (X8r tb room a c l hl name B _ I _ ((hS.pick 4 rfl).pick 4 rfl)) ?_)
 clear hS
 rintro _ w ⟨rfl,hS⟩
 replace hS:=((hS.pick 4 rfl).pick 4 rfl).pick 4 rfl
 try dsimp only [List.eraseIdx] at hS
 refine .q 1 rfl (.nil ?_)
 refine WC.cond rfl (fun hb11=>?_) (fun hb11=>?_)
 ·
  have hc11:=hb11; try simp only [Y5] at hc11
  replace hS:=(((hS.vecNil 9 1).pick 1 rfl).pick 3 rfl)
  try dsimp only [List.eraseIdx] at hS
  have hS9:=(hS.pick 2 rfl).pick 3 rfl
  try dsimp only [List.eraseIdx] at hS9
  clear hS
  have hS:=hS9
  clear hS9
  refine .region ?_
  refine WL.val (.ld (.of rfl) hS (k:=3) rfl Tryz.isAgg181 rfl) rfl ?_
  refine .q 1 rfl ?_
  refine WL.vcall (cap:=[ptr b5 0,ptr b2 0,ptr b6 0]) Tryz.func133 rfl (.of rfl) (X0 (.of rfl) X4) rfl (Xfb tb room a c l hl hwf b5 b2 b6 As l.length name [] _ B w I (by simpa using hb11) (by omega) (by have:=Xiq hwf l.length name; simp only [Yh]; omega) hS) ?_
  clear hS
  rintro _ w ⟨J,v2,hJ,hS⟩
  refine .nil (.seq (.region ?_))
  refine WL.val (.ld (.of rfl) hS (k:=0) rfl Xjw rfl) rfl ?_
  refine .q 1 rfl (.nil (.ret (Xe Tryz.results81 rfl ?_)))
  rw [Yc] at hS
  have hbe:below l name=Xn l l.length name:=if_pos (by simpa using hb11)
  rw [hbe]
  obtain ⟨ka,kc,rfl,hkc,_⟩:=hS.vecSlice (k:=1) rfl
  obtain ⟨J2,hJ2,hRS,hS⟩:=hS.freezeVec (k:=1) rfl
  exact ⟨_,rfl,J2,ka,kc,rfl,hJ.trans hJ2,hkc,hRS,((hS.drop (k:=0) rfl).drop (k:=0) rfl).drop (k:=0) rfl⟩
 have hc11:=hb11; try simp only [Y5] at hc11
 refine .skip (.seq (.region ?_))
 refine WL.val (.ld (.of rfl) hS (k:=1) rfl Xjw rfl) rfl ?_
 refine .q 1 rfl (.nil (.ret (Xe Tryz.results81 rfl ?_)))
 have hbe:below l name=[]:=if_neg (by simpa using hb11)
 rw [hbe]
 exact ⟨_,rfl,I,none,0,rfl,Le.refl _,Ys _,⟨rfl,fun h=>absurd h (by simp)⟩,((hS.drop (k:=0) rfl).drop (k:=0) rfl).drop (k:=0) rfl⟩
theorem Xey (p:List UInt8):∀ (l:List (List UInt8)) (i:Nat),decide (0≤Xe3 p l i)=l.contains p
 | [],i=>rfl
 | x::l,i=>by
  rw [Xe3,Y47]
  split
  ·rename_i h
   subst h
   rw [beq_self_eq_true,Bool.true_or,decide_eq_true_eq]; omega
  ·rename_i h
   rw [beq_eq_false_iff_ne.2 h,Y3i,Xey p l (i+1)]
theorem Xc5 (a:Option Addr) (c:Nat) (l:List (List UInt8)) (hll:l.length≤100000) (p:List UInt8) (B w:World) (I:Im) (hA:RS I a 1 l.length (l.map S)) (As:List X9) (hS:Sat B w I As) :
  Calls Tryz.prog 84 [.slice a l.length c,S p].toArray w (Ret fun v w'=>v=.bool (l.contains p)∧Sat B w' I As):=by
 refine calls Tryz.func84 rfl Tryz.ntmps84 rfl (.seq (.q 1 rfl (.seq (.t 2 rfl (.call Xke rfl (X0 (.of rfl) (X0 (.of rfl) X4)) rfl (X5x a c l hll p B _ I hA As hS) ?_)))))
 clear hS
 rintro _ w ⟨rfl,hS⟩
 refine .q 2 rfl (.nil (.ret (Xe Tryz.results84 rfl ?_)))
 exact ⟨_,rfl,by rw [← Xey p l 0],hS⟩
theorem Xj2 (gb:Nat) (ga:Option Addr) (gc:Nat) (gn:List (List UInt8)) (hgl:gn.length≤100000) (r:Rec) (B w:World) (I:Im) (hA:RS I ga 1 gn.length (gn.map S)) (As:List X9) (hS:Sat B w I (blk gb [.slice ga gn.length gc] 57::As)) :
  Calls Tryz.prog 83 [.agg (X8 r).toArray,ptr gb 0].toArray w (Ret fun v w'=>v=.bool (gn.contains r.name)∧Sat B w' I (blk gb [.slice ga gn.length gc] 57::As)):=by
 refine calls Tryz.func83 rfl Tryz.ntmps83 rfl (.seq (.region (.boxA (cs:=[_,_,_,_,_,_,_,_,_,_]) hS (.of rfl) rfl ?_)))
 clear hS; intro b2 w hS
 refine .q 1 rfl (.nil (.seq (.region ?_)))
 refine WL.val (.ld (.of rfl) hS (k:=1) rfl Xjw rfl) rfl ?_
 refine WL.val (.fieldAddr 1 (.of rfl) X20 rfl rfl Qs9 rfl) rfl ?_
 refine WL.val (.ld (.of rfl) hS (k:=0) rfl Qg9 rfl) rfl ?_
 refine .call Tryz.func84 rfl (X0 (.of rfl) (X0 (.of rfl) X4)) rfl (Xc5 ga gc gn hgl r.name B _ I hA _ hS) ?_
 clear hS
 rintro _ w ⟨rfl,hS⟩
 refine .q 1 rfl (.nil (.ret (Xe Tryz.results83 rfl ?_)))
 exact ⟨_,rfl,rfl,hS.drop (k:=0) rfl⟩
theorem WL.clear {P:Program} {n:Nat} {ops:Array Oper} {K:X2y} {rest:List Oper} {L:Env} {w B:World} {I:Im} {As:List X9} {k b o m cap s:Nat} {cs:List Value} {E e t ty:TypeId} {x:Operand} {z:Value} {pos:String} {af:Array Edge} (hS:Sat B w I As) (hk:As[k]?=some (blk b cs E)) (hx:Ev n L x (.slice (some (ad b o)) m cap)) (ht:P.underlying t=some (.slice e)) (hz:∀ w,(zeroValue e).run P w=.ok z w) (hs:z.cells.size=s) (h1:∀ v∈z.cells,v.oneCell'=true) (ho:o+m*s≤cs.length)
  (h:∀ w' cs',cs'.length=cs.length→cs'.take o=cs.take o→Sat B w' I (As.set k (blk b cs' E))→WL P n ops K rest L w'):WL P n ops K (⟨none,.call ⟨.builtin .clear,#[x],#[t]⟩,ty,pos,af,none⟩::rest) L w:=by
 subst hs
 have go:∀ w' v,(∀ a,Holds n L a→(execOp a.eval (⟨none,.call ⟨.builtin .clear,#[x],#[t]⟩,ty,pos,af,none⟩:Oper)).run P w=.ok (.value v) w')→WL P n ops K rest L w'→WL P n ops K (⟨none,.call ⟨.builtin .clear,#[x],#[t]⟩,ty,pos,af,none⟩::rest) L w:=by
  intro w' v hx h a ha
  refine wpList_plain rfl fun K' hK=>?_
  unfold Oper.wp
  rw [hx a ha]
  exact hK _ _ (h _ (ha.skip v))
 have hb:=hS.block hk
 have hzl:(Builtin.zeroCells z.cells m).toList.length=m*z.cells.size:=by rw [Y2s,size_zeroCells]
 have hst:=run_storeCells_at P b o E (Builtin.zeroCells z.cells m).toList 0 cs.toArray w hb (by simp only [Y2d,hzl,Y3k]; exact ho) (fun v hv=>by
  rw [Array.mem_toList_iff] at hv
  unfold Builtin.zeroCells at hv
  obtain ⟨i,hi,rfl⟩:=Array.mem_map.1 hv
  have hi2:i<m*z.cells.size:=by simpa using hi
  have hp:0<z.cells.size:=Nat.pos_of_ne_zero fun e=>by rw [e] at hi2; omega
  have hlt:=Nat.mod_lt i hp
  rw [getElem!_pos z.cells (i % z.cells.size) hlt]
  exact h1 _ (Array.getElem_mem hlt))
 simp only [Y2d] at hst
 cases m with
 | zero =>
  refine go w (.tuple #[]) (fun a ha=>?_) (h w cs rfl rfl ?_)
  ·simp [execOp,resolve,invoke,builtin,hx a ha,Builtin.clear_,run_underlying ht]
  ·have e:As.set k (blk b cs E)=As:=by
    apply Y1u
    intro i
    rw [Y2e]
    split
    ·rename_i e; subst e
     split
     ·exact hk.symm
     ·rename_i hlt; rw [Y1s (by omega)]
    ·rfl
   rw [e]; exact hS
 | succ m =>
  refine go (w.setRow b _) (.tuple #[]) (fun a ha=>?_) (h _ _ ?_ ?_ (hS.write (o':=Xh (cs.take o ++ (Builtin.zeroCells z.cells (m+1)).toList ++ cs.drop (o+(Builtin.zeroCells z.cells (m+1)).toList.length)) E) hk rfl rfl rfl (setRow_heap w b _ _ E _ hb) fun c hc=>setRow_other w b c _ hc))
  ·simp [execOp,resolve,invoke,builtin,hx a ha,Builtin.clear_,run_underlying ht,hz,hst]
  ·simp only [Y0,Yq,Yj,hzl]; omega
  ·rw [Y8,Y1y (by rw [Yq]; omega),Y4k,Nat.min_self]
theorem X4z {α:Type} (pr:α→Bool):∀ (l:List α) (i:Nat),(X1l pr l i=-1∧∀ r∈l,pr r=false)∨∃ (j:Nat) (r:α),X1l pr l i=((i+j:Nat):Int)∧l[j]?=some r∧pr r=true∧∀ t∈l.take j,pr t=false
 | [],i=>.inl ⟨rfl,fun r h=>by simp at h⟩
 | s::l,i=>by
  rw [X1l]
  by_cases h:pr s=true
  ·rw [if_pos h]; exact .inr ⟨0,s,by simp,rfl,h,fun t ht=>by simp at ht⟩
  ·rw [if_neg h]
   have h':pr s=false:=by simpa using h
   rcases X4z pr l (i+1) with ⟨h1,h2⟩ | ⟨j,r,h1,h2,h3,h4⟩
   ·exact .inl ⟨h1,fun r hr=>(Y17.1 hr).elim (fun e=>e ▸ h') (h2 r)⟩
   ·refine .inr ⟨j+1,r,by rw [h1]; omega,by simpa using h2,h3,fun t ht=>?_⟩
    rw [Y2u] at ht
    rcases Y17.1 ht with e | ht
    ·exact e ▸ h'
    ·exact h4 t ht
theorem X9u:∀ (l:List Rec) (i:Nat),(Xd l).take (i*10)=Xd (l.take i)
 | [],i=>by simp [Xd]
 | r::l,0=>by simp [Xd]
 | r::l,i+1=>by
  have e:∀ l:List Rec,Xd (r::l)=X8 r ++ Xd l:=fun l=>rfl
  rw [Y2u,e,e,← X9u l i,show (i+1)*10=(X8 r).length+i*10 by show (i+1)*10=10+i*10; omega,Y3w]
theorem X8y (a:Option Addr) (c:Nat) (l:List Rec) (hl:l.length≤100000) (pr:Rec→Bool) (fid:FuncId) (fn:Func) (hfn:Tryz.prog.funcs[fid]?=some fn) (hcal:Xk fn=true) (capv:List Value) (Q:X9) (B w:World) (I:Im) (As:List X9) (hf:∀ (r:Rec) w (X:List X9),Sat B w I (Q::X)→Calls Tryz.prog fid ([Value.agg (X8 r).toArray] ++ capv).toArray w (Ret fun v w'=>v=.bool (pr r)∧Sat B w' I (Q::X))) (hS:Sat B w I (Q::Vec 54 10 (.slice a l.length c) l.length (Xd l)::As)) :
  Calls Tryz.prog 82 [.slice a l.length c,.func (.func fid) #[] capv.toArray].toArray w (Ret fun v w'=>v=.slice a (l.filter (fun x=>!pr x)).length c∧Sat B w' I (Q::Vec 54 10 (.slice a (l.filter (fun x=>!pr x)).length c) (l.filter (fun x=>!pr x)).length (Xd (l.filter (fun x=>!pr x)))::As)):=by
 refine calls Tryz.func82 rfl Tryz.ntmps82 rfl (.seq (.q 1 rfl (.seq (.t 2 rfl (.call Tryz.func116 rfl (X0 (.of rfl) (X0 (.of rfl) X4)) rfl (X4k a c l hl pr fid fn hfn hcal capv B _ I _ (fun w h=>X2c h (k:=1) rfl) (fun r w h=>hf r w _ h) hS) ?_)))))
 clear hS
 rintro _ w ⟨rfl,hS⟩
 refine .q 1 rfl (.nil (.seq (.seq (.q 2 rfl ?_))))
 refine WC.cond rfl (fun hb12=>?_) (fun hb12=>?_)
 ·
  have hc12:=hb12; try simp only [Y5] at hc12
  refine .seq (.q 2 rfl (.ret (Xe Tryz.results82 rfl ?_)))
  refine ⟨_,rfl,?_⟩
  have e:l.filter (fun x=>!pr x)=l:=by
   rcases X4z pr l 0 with ⟨_,h2⟩ | ⟨j,r,h1,_⟩
   ·exact List.filter_eq_self.2 (fun t ht=>by rw [h2 t ht]; rfl)
   ·exfalso; rw [h1] at hb12; simp at hb12
  rw [e]
  exact ⟨rfl,hS⟩
 have hc12:=hb12; try simp only [Y5] at hc12
 refine .skip (.seq (.seq ?_))
 obtain ⟨k,rk,hk1,hk2,hk3,hk4⟩:∃ (j:Nat) (r:Rec),X1l pr l 0=(j:Int)∧l[j]?=some r∧pr r=true∧∀ t∈l.take j,pr t=false:=by
  rcases X4z pr l 0 with ⟨h1,_⟩ | ⟨j,r,h1,h2,h3,h4⟩
  ·exfalso; rw [h1] at hb12; simp at hb12
  ·exact ⟨j,r,by rw [h1]; simp,h2,h3,h4⟩
 have hkl:=(Y4.1 hk2).1
 rw [hk1]
 refine .region (.run 3 rfl ⟨⟨by omega,by omega⟩,trivial⟩ (.nil (.block ?_)))
 refine WC.loop (σ:=Nat×Nat×List Rec) (fun ⟨i,j,M⟩=>[(0,.slice a l.length c),(1,.func (.func fid) #[] capv.toArray),(5,I64 (i:Nat)),(6,I64 (j:Nat))]) (fun ⟨i,j,M⟩ w=>i<j∧j≤l.length∧M.length=l.length∧M.drop j=l.drop j∧M.take i=(l.take j).filter (fun x=>!pr x)∧Sat B w I (Q::Vec 54 10 (.slice a l.length c) l.length (Xd M)::As)) (fun ⟨i,j,M⟩=>l.length - j) (k,k+1,l) ⟨rfl,rfl,rfl,rfl,trivial⟩ ⟨by omega,by omega,rfl,rfl,by
  rw [Y1a,hk2,Y28,Y48,List.filter_eq_self.2 (fun t ht=>by rw [hk4 t ht]; rfl)]
  simp [hk3],hS⟩ ?_
 rintro ⟨i,j,M⟩ w ⟨hij,hj,hM,hdr,htk,hS⟩
 change WC _ _ _ _ [(0,.slice a l.length c),(1,.func (.func fid) #[] capv.toArray),(5,I64 (i:Nat)),(6,I64 (j:Nat))] w
 refine .seq (.seq (.region (.run 4 rfl ⟨⟨_,X7e⟩,trivial⟩ (.nil ?_))))
 refine WC.cond rfl (fun hb19=>?_) (fun hb19=>?_)
 ·
  have hc19:=hb19; try simp only [Y5] at hc19
  refine .skip (.seq (.block (.seq ?_)))
  obtain ⟨r,hr⟩:∃ r,l[j]?=some r:=⟨_,Y7 (by omega)⟩
  have hMr:M[j]?=some r:=by
   have h9:=congrArg (fun x=>x[0]?) hdr
   simpa [hr] using h9
  have hS9:=hS
  rw [← hM] at hS9
  obtain ⟨p,hp9,hx⟩:=X2c hS9 (k:=1) rfl j r hMr
  subst hp9
  clear hS9
  have hfl:((l.take (j+1)).filter (fun x=>!pr x))=((l.take j).filter (fun x=>!pr x)) ++ [r].filter (fun x=>!pr x):=by rw [Y1a,hr,Y28,Y48]
  have hdr1:M.drop (j+1)=l.drop (j+1):=by rw [← Y1l,← Y1l,hdr]
  refine .t 2 rfl ?_
  refine WL.val (.indexAddrI (.of rfl) (.of rfl) (by omega) (by omega) X7e X26) rfl ?_
  refine .val (ldsC (.of rfl) hx X97 X26 rfl) rfl (.allocA (cs:=[_,_,_,_,_,_,_,_,_,_]) hS Xbl rfl ?_)
  clear hS; intro b7 w hS
  refine WL.stA hS (k:=0) rfl (.of rfl) (.of rfl) rfl X26 rfl (by simp) ?_
  clear hS; intro w hS; try dsimp only [List.set] at hS
  try simp only [Ym,Yc,Yg,Y9,Yl,Yo,Yf] at hS
  refine .nil (.seq (.t 1 rfl ?_))
  refine WL.val (.ldsW (cs:=[_,_,_,_,_,_,_,_,_,_]) (.of rfl) hS (k:=0) rfl X97 X26 rfl) rfl ?_
  refine .vcall (cap:=capv) hfn hcal (.of rfl) (X0 (.of rfl) X4) rfl (hf r w _ (hS.pick 1 rfl)) ?_
  clear hS
  rintro _ w ⟨rfl,hS⟩
  replace hS:=hS.pick 1 rfl
  try dsimp only [List.eraseIdx] at hS
  refine .q 1 rfl (.nil ?_)
  refine WC.cond rfl (fun hb29=>?_) (fun hb29=>?_)
  ·
   have hc29:=hb29; try simp only [Y5] at hc29
   refine .seq ?_
   obtain ⟨gb,cap9,rest9,hv9,hc1,hc2,hl1,hl2,hS⟩:=hS.vecOpen (k:=2) rfl (by omega)
   injection hv9 with hv1 hv2 hv3
   (injection hv1 with hv1; subst hv1)
   subst hv3
   have hl3:=X7k M
   try dsimp only [List.set] at hS
   refine .t 2 rfl ?_
   refine WL.val (.ldsW (cs:=[_,_,_,_,_,_,_,_,_,_]) (.of rfl) hS (k:=0) rfl X97 X26 rfl) rfl ?_
   refine WL.val (.indexAddr (.of rfl) (.of rfl) (by omega) (by omega) X7e X26) rfl ?_
   refine WL.stA hS (k:=2) rfl (.of rfl) (.of rfl) rfl X26 rfl (by simp only [Y0]; omega) ?_
   clear hS; intro w hS; try dsimp only [List.set] at hS
   rw [Yf,Y1y (by omega),Y1z (by omega),← Y8] at hS
   replace hS:=hS.vecShut (n:=l.length) (size:=10) (k:=2) rfl hc1 hc2 (by simp only [Y0,Yq,Yj,Y6,Yh]; omega) (by simp only [Y0,Yq,Yj,Y6,Yh]; omega)
   try dsimp only [List.set] at hS
   have e9:(List.take (Int.toNat (i:Int)*10) (Xd M) ++ X8 r ++ List.drop (Int.toNat (i:Int)*10+10) (Xd M))=Xd (M.set i r):=by rw [Yk,X7i (by omega)]
   refine .nil (.region (.run 3 rfl ⟨⟨by omega,by omega⟩,trivial⟩ (.nil (.region (.run 3 rfl ⟨⟨by omega,by omega⟩,trivial⟩ (.nil ?_))))))
   refine ⟨(i+1,j+1,M.set i r),⟨rfl,rfl,rfl,rfl,trivial⟩,⟨by (try dsimp only); omega,by (try dsimp only); omega,by rw [Y1x]; exact hM,?_,?_,?_⟩,by (try dsimp only); omega⟩
   ·show (M.set i r).drop (j+1)=_
    rw [List.drop_set_of_lt (by omega),hdr1]
   ·show (M.set i r).take (i+1)=_
    rw [Y1a,List.take_set_of_le (Ys _),htk,List.getElem?_set_self (by omega),hfl,List.filter_cons,if_pos (by simpa using hb29)]
    rfl
   ·try dsimp only
    rw [← e9]
    exact hS.drop (k:=0) rfl
  have hc29:=hb29; try simp only [Y5] at hc29
  refine .skip (.region (.run 3 rfl ⟨⟨by omega,by omega⟩,trivial⟩ (.nil ?_)))
  refine ⟨(i,j+1,M),⟨rfl,rfl,rfl,rfl,trivial⟩,⟨by (try dsimp only); omega,by (try dsimp only); omega,hM,hdr1,?_,hS.drop (k:=0) rfl⟩,by (try dsimp only); omega⟩
  try dsimp only
  rw [htk,hfl,List.filter_cons,if_neg (by simpa using hb29)]
  simp
 have hc19:=hb19; try simp only [Y5] at hc19
 refine .exit (.seq ?_)
 have hjn:j=l.length:=by omega
 subst hjn
 replace hS:=hS.pick 1 rfl
 try dsimp only [List.eraseIdx] at hS
 obtain ⟨gb,cap9,rest9,hv9,hc1,hc2,hl1,hl2,hS⟩:=hS.vecOpen (k:=0) rfl (by omega)
 injection hv9 with hv1 hv2 hv3
 subst hv1
 subst hv3
 have hl3:=X7k M
 try dsimp only [List.set] at hS
 refine .t 2 rfl (.val (.slcFrom (.of rfl) (.of rfl) (by omega) (by omega) X7e X26) rfl ?_)
 have e8:sliced (some (ad gb 0)) ((i:Int)).toNat l.length c 10=.slice (some (ad gb (0+(i:Int).toNat*10))) (l.length - i) (c - i):=by
  simp only [sliced,Yk,Y3f,Xt]
  rw [if_neg (by omega)]
 rw [show (⟨gb,0,none⟩:Addr)=ad gb 0 from rfl,e8]
 refine WL.clear (s:=10) hS (k:=0) rfl (.of rfl) X7e Xbl rfl (by decide) (by rw [Y0]; omega) ?_
 clear hS; intro w cs9 hcs1 hcs2 hS
 try dsimp only [List.set] at hS
 refine .nil (.seq (.t 2 rfl (.val (.slcTo (.of rfl) (.of rfl) (by omega) (by omega) X7e X26) rfl (.q 1 rfl (.nil (.ret (Xe Tryz.results82 rfl ?_)))))))
 rw [X89]
 refine ⟨_,rfl,?_⟩
 have e1:(Xd M ++ rest9).take (i*10)=Xd (l.filter (fun x=>!pr x)):=by
  rw [Y1y (by omega),X9u,htk,Y11 (by omega)]
 have e2:(l.filter (fun x=>!pr x)).length=i:=by
  have h9:=congrArg List.length htk
  rw [Yq,Y11 (by omega)] at h9
  omega
 have e3:cs9=Xd (l.filter (fun x=>!pr x)) ++ cs9.drop (i*10):=by
  rw [← e1]
  rw [show 0+(i:Int).toNat*10=i*10 by omega] at hcs2
  rw [← hcs2]; exact (Yw _ _).symm
 rw [e3] at hS
 have e4:=X7k (l.filter (fun x=>!pr x))
 have e5:=congrArg List.length e3
 rw [Y0] at e5
 rw [Y0] at hcs1
 replace hS:=hS.vecShut (n:=i) (size:=10) (k:=0) rfl (by omega) hc2 (by rw [e4,e2]) (by omega)
 rw [Yk,e2]
 exact ⟨rfl,hS.pick 1 rfl⟩
theorem Xal (tb:Nat) (room:Int) (a:Option Addr) (c:Nat) (l:List Rec) (hl:l.length≤100000) (hwf:Wf l) (name:List UInt8) (B w:World) (I:Im) (As:List X9) (hS:Sat B w I (blk tb [I64 room,.slice a l.length c] 114::Vec 54 10 (.slice a l.length c) l.length (Xd l)::As)) :
  Calls Tryz.prog 33 [ptr tb 0,S name].toArray w (Ret fun v w'=>∃ J ra rc,v=.slice ra (below l name).length rc∧Le I J∧(below l name).length≤rc∧RS J ra 1 (below l name).length ((below l name).map S)∧∃ a c,Sat B w' J (blk tb [I64 room,.slice a (drop l name).length c] 114::Vec 54 10 (.slice a (drop l name).length c) (drop l name).length (Xd (drop l name))::As)):=by
 refine calls Qf33 rfl Tryz.ntmps33 rfl (.seq (.q 1 rfl (.seq (.t 2 rfl (.call Tryz.func81 rfl (X0 (.of rfl) (X0 (.of rfl) X4)) rfl (Xik tb room a c l hl hwf name B _ I _ hS) ?_)))))
 clear hS
 rintro _ w ⟨J,ga,gc,rfl,hJ,hgc,hRS,hS⟩
 refine .alloc1 hS Qz57 rfl rfl ?_
 clear hS; intro b5 w hS
 refine WL.st1 hS (k:=0) rfl (.of rfl) (.of rfl) rfl Xih (by simp) ?_
 clear hS; intro w hS; try dsimp only [List.set] at hS
 refine .nil (.seq (.t 3 rfl ?_))
 refine WL.val (.fieldAddr 1 (.of rfl) X5e rfl rfl Xf0 rfl) rfl ?_
 refine WL.val (.ld (.of rfl) hS (k:=1) rfl Xjt rfl) rfl ?_
 refine .call Tryz.func49 rfl (X0 (.of rfl) X4) rfl (Xg0 a c l hl B _ J _ ((hS.pick 1 rfl).pick 2 rfl)) ?_
 clear hS
 rintro _ w ⟨v7,rfl,hS⟩
 replace hS:=hS.pick 2 rfl
 obtain ⟨va,vc,rfl,hvc,_⟩:=hS.vecSlice (k:=1) rfl
 try dsimp only [List.eraseIdx] at hS
 refine .val (.makeFunc (X0 (.of rfl) X4)) rfl ?_
 refine WL.call Tryz.func82 rfl (X0 (.of rfl) (X0 (.of rfl) X4)) rfl (X8y va vc l hl (fun r=>(below l name).contains r.name) 83 _ Tryz.func83 rfl [ptr b5 0] (blk b5 [.slice ga (below l name).length gc] 57) B _ J _ (fun r w X h=>Xj2 b5 ga gc (below l name) (by have:=Xk0 hwf name; omega) r B w J hRS X h) (by
    have h9:=((hS.pick 1 rfl).pick 3 rfl)
    try dsimp only [List.eraseIdx] at h9
    exact h9)) ?_
 clear hS
 rintro _ w ⟨rfl,hS⟩
 rw [show l.filter (fun x=>!(below l name).contains x.name)=drop l name from rfl] at hS ⊢
 refine .q 1 rfl ?_
 refine WL.val (.fieldAddr 1 (.of rfl) X5e rfl rfl Xf0 rfl) rfl ?_
 refine WL.st1 hS (k:=2) rfl (.of rfl) (.of rfl) rfl Xf0 (by simp) ?_
 clear hS; intro w hS; try dsimp only [List.set] at hS
 refine .nil (.seq (.region ?_))
 refine WL.val (.ld (.of rfl) hS (k:=0) rfl Xjw rfl) rfl ?_
 refine .q 1 rfl (.nil (.ret (Xe Tryz.results33 rfl ?_)))
 replace hS:=(hS.drop (k:=0) rfl).drop (k:=2) rfl
 try dsimp only [List.eraseIdx] at hS
 exact ⟨_,rfl,J,ga,gc,rfl,hJ,hgc,hRS,va,vc,hS.pick 1 rfl⟩
end Go.Proofs.YtfibbpgikjggfaaGreatDoor
namespace Gk
open Go
structure KeyK {β:Type} (D:TypeDesc) (K:β→Value):Prop where
 is:∀ b,MapKept.IsKey D (K b)
 inj:∀ a b,K a=K b→a=b
theorem keyS:KeyK .string S:=⟨fun _=>trivial,fun a b h=>by injection h with h; injection h with h; injection h⟩
def Xmy {β:Type} (K:β→Value) (kv:List (β×Value)) (es:Array MapEntry):Prop:=es.toList.map (fun e=>(e.key,e.val))=kv.map fun p=>(K p.1,p.2)
def Xdp {β:Type} (K:β→Value) (b:Nat) (kv:List (β×Value)):X9:=fun h=>∃ es clk,Xmy K kv es∧h=[(b,.map es clk)]
def MapI {β:Type} (I:Im) (K:β→Value) (b:Nat) (kv:List (β×Value)):Prop:=∃ es clk,Xmy K kv es∧I b=some (.map es clk)
theorem MapI.mono {β:Type} {I J:Im} {K:β→Value} {b:Nat} {kv:List (β×Value)} (h:MapI I K b kv) (hl:Le I J):MapI J K b kv:=by
 obtain ⟨es,clk,h1,h2⟩:=h
 exact ⟨es,clk,h1,hl _ _ h2⟩
section
variable {P:Program} {n:Nat} {K':X2y} {L:Env} {w B:World} {ops:Array Oper} {rest:List Oper} {I:Im} {As:List X9} {β:Type} {K:β→Value} {D:TypeDesc} {kv:List (β×Value)} {k b:Nat} {t kt et ty:TypeId} {x y z:Operand} {pos:String} {af:Array Edge} {d:Nat} {g:Option (Nat×Bool)}
theorem X6b [BEq β] [LawfulBEq β] (hK:KeyK D K) (key:β):∀ (kv:List (β×Value)) (es:List MapEntry) (i:Nat),es.map (fun e=>(e.key,e.val))=kv.map (fun p=>(K p.1,p.2)) →
  (kv.lookup key=none∧Instr.findNow D (K key) es i=some none)∨∃ j v,kv.lookup key=some v∧Instr.findNow D (K key) es i=some (some (j,v))
 | [],[],_,_=>.inl ⟨rfl,rfl⟩
 | [],e::es,_,h=>by simp at h
 | p::kv,[],_,h=>by simp at h
 | p::kv,e::es,i,h=>by
  simp only [Y1c,List.cons.injEq,Prod.mk.injEq] at h
  obtain ⟨⟨h1,h2⟩,h3⟩:=h
  have hk:MapKept.IsKey D e.key:=h1 ▸ hK.is _
  obtain ⟨r,hr,hi⟩:=MapKept.sameNow_of_keys (hK.is key) hk
  cases r with
  | true =>
   have e1:=hK.inj _ _ ((hi.1 rfl).trans h1)
   exact .inr ⟨i,p.2,by obtain ⟨p1,p2⟩:=p; simp only at e1; subst e1; simp [List.lookup,beq_self_eq_true],by simp [Instr.findNow,hr,h2]⟩
  | false =>
   have hne:key≠p.1:=fun q=>by have:=hi.2 (by rw [h1,q]); cases this
   have hl:(p::kv).lookup key=kv.lookup key:=by obtain ⟨p1,p2⟩:=p; simp only at hne; simp [List.lookup,beq_eq_false_iff_ne.2 hne]
   rcases X6b hK key kv es (i+1) h3 with ⟨e1,e2⟩ | ⟨j,v,e1,e2⟩
   ·exact .inl ⟨by rw [hl]; exact e1,by simp [Instr.findNow,hr,e2]⟩
   ·exact .inr ⟨j,v,by rw [hl]; exact e1,by simp [Instr.findNow,hr,e2]⟩
theorem Xdx [BEq β] [LawfulBEq β] {ty:TypeId} {b:Nat} {es:Array MapEntry} {clk:Nat} {z:Value} (hK:KeyK D K) (hb:w.heap[b]?=some (.map es clk)) (he:Xmy K kv es) (key:β) (ht:P.underlying t=some (.map kt et)) (hk:P.underlying kt=some D) (hz:∀ w,(zeroValue et).run P w=.ok z w) (ok:Bool) :
  (Instr.lookup t (.map (some b)) (K key) ok).run P w=.ok (if ok then .tuple #[(kv.lookup key).getD z,.bool (kv.lookup key).isSome] else (kv.lookup key).getD z) w:=by
 have hc:(Instr.checkKey es.isEmpty 10000 kt (K key)).run P w=.ok () w:=MapKept.run_checkKey hk (hK.is key) _ 9999
 rcases X6b hK key kv es.toList 0 he with ⟨h1,h2⟩ | ⟨j,v,h1,h2⟩
 ·simp [Instr.lookup,run_underlying ht,MapKept.run_getObj_map hb,hc,MapKept.run_findKey hk h2,h1,hz,Result.andThen]
 ·simp [Instr.lookup,run_underlying ht,MapKept.run_getObj_map hb,hc,MapKept.run_findKey hk h2,h1,Result.andThen]
theorem Sat.mapNow (hS:Sat B w I As) (hk:As[k]?=some (Xdp K b kv)):∃ es clk,Xmy K kv es∧w.heap[b]?=some (.map es clk):=by
 obtain ⟨g,hs,hg⟩:=hS
 obtain ⟨h1,h2,hp,⟨es,clk,he,rfl⟩,_⟩:=hs.at_ hk
 exact ⟨es,clk,he,(hg.perm hp).own b _ (by simp)⟩
theorem MapI.now (h:MapI I K b kv) (hS:Sat B w I As):∃ es clk,Xmy K kv es∧w.heap[b]?=some (.map es clk):=by
 obtain ⟨es,clk,h1,h2⟩:=h
 obtain ⟨g,hs,hg⟩:=hS
 exact ⟨es,clk,h1,hg.imm _ _ h2⟩
theorem Ex.look2 [BEq β] [LawfulBEq β] {d:Option Nat} {z:Value} {key:β} (hK:KeyK D K) (hm:∃ es clk,Xmy K kv es∧w.heap[b]?=some (.map es clk)) (hx:Ev n L x (.map (some b))) (hy:Ev n L y (K key)) (ht:P.underlying t=some (.map kt et)) (hk:P.underlying kt=some D) (hz:∀ w,(zeroValue et).run P w=.ok z w) :
  Ex P n L w ⟨d,.lookup t x y true,ty,pos,af,g⟩ (.tuple #[(kv.lookup key).getD z,.bool (kv.lookup key).isSome]) w:=fun a ha=>by
 obtain ⟨es,clk,he,hb⟩:=hm
 have h:=Xdx (ty:=ty) hK hb he key ht hk hz true
 simp [execOp,hx a ha,hy a ha,h]
theorem WL.mkMap (K:β→Value) (hS:Sat B w I As) (hd:Nat.blt d n=true) (h:∀ b w',Sat B w' I (Xdp K b []::As)→WL P n ops K' rest ((d,.map (some b))::L) w'):WL P n ops K' (⟨some d,.makeMap t none,ty,pos,af,none⟩::rest) L w:=by
 have h2:Sat B (w.alloc (.map #[] 0)) I (Xdp K w.heap.size []::As):=(hS.alloc (.map #[] 0)).say (k:=0) rfl (A':=Xdp K w.heap.size []) fun g hg=>⟨#[],0,rfl,hg⟩
 refine WL.val (v:=.map (some w.heap.size)) (fun a ha=>?_) hd (h _ _ h2)
 have hr:=run_makeMap_plain (P:=P) w t
 simp [execOp,hr]
theorem Xla [BEq β] [LawfulBEq β] {val:Value} {key:β} (hK:KeyK D K) (hS:Sat B w I As) (hk:As[k]?=some (Xdp K b kv)) (hno:kv.lookup key=none) (ht:P.underlying t=some (.map kt et)) (hkt:P.underlying kt=some D) :
  ∃ w',(Instr.mapUpdate t (.map (some b)) (K key) val).run P w=.ok () w'∧Sat B w' I (As.set k (Xdp K b (kv ++ [(key,val)]))):=by
 obtain ⟨g,hs,hg⟩:=hS
 obtain ⟨h1,h2,hp,⟨es,clk,he,rfl⟩,hset,_⟩:=hs.at_ hk
 have hb:=(hg.perm hp).own b (.map es clk) (by simp)
 have hlt:b<w.heap.size:=(Y19.1 hb).1
 have hc:(Instr.checkKey false 10000 kt (K key)).run P w=.ok () w:=MapKept.run_checkKey hkt (hK.is key) _ 9999
 have hf:Instr.findNow D (K key) es.toList 0=some none:=by
  rcases X6b hK key kv es.toList 0 he with ⟨_,h⟩ | ⟨j,v,h,_⟩
  ·exact h
  ·rw [hno] at h; cases h
 refine ⟨{ w with heap:=w.heap.setIfInBounds b (.map (es.push { key:=K key,val:=val,born:=clk }) (clk+1)) },?_,?_⟩
 ·simp [Instr.mapUpdate,run_underlying ht,MapKept.run_getObj_map hb,hc,MapKept.run_findKey hkt hf,MapKept.run_setObj_map _ hb,Result.andThen]
 ·-- the block is written
  have hS0:Sat B w I (As.set k (own b (.map es clk))):=by
   obtain ⟨g',hs',hp'⟩:=hset (own b (.map es clk)) [(b,.map es clk)] rfl
   exact ⟨g',hs',hg.perm (hp.trans hp'.symm)⟩
  have hkl:k<As.length:=(Y4.1 hk).1
  have hw:=hS0.write (k:=k) (b:=b) (o:=.map es clk) (w':={ w with heap:=w.heap.setIfInBounds b (.map (es.push { key:=K key,val:=val,born:=clk }) (clk+1)) }) (o':=.map (es.push { key:=K key,val:=val,born:=clk }) (clk+1)) (by simp [hkl]) rfl rfl rfl (MapKept.heap_set hb).1 (fun c hc=>(MapKept.heap_set hb).2 c hc)
  have hf2:=hw.say (k:=k) (A:=own b (.map (es.push { key:=K key,val:=val,born:=clk }) (clk+1))) (A':=Xdp K b (kv ++ [(key,val)])) (by simp [hkl]) fun g hg=>⟨_,_,by
   unfold Xmy at he ⊢
   rw [Array.toList_push,Yy,Yy,he]
   rfl,hg⟩
  simpa using hf2
theorem WL.mput [BEq β] [LawfulBEq β] {val:Value} {key:β} (hK:KeyK D K) (hS:Sat B w I As) (hk:As[k]?=some (Xdp K b kv)) (hx:Ev n L x (.map (some b))) (hy:Ev n L y (K key)) (hz:Ev n L z val) (hno:kv.lookup key=none) (ht:P.underlying t=some (.map kt et)) (hkt:P.underlying kt=some D)
  (h:∀ w',Sat B w' I (As.set k (Xdp K b (kv ++ [(key,val)])))→WL P n ops K' rest L w'):WL P n ops K' (⟨none,.mapUpdate t x y z,ty,pos,af,none⟩::rest) L w:=by
 obtain ⟨w',hr,hS'⟩:=Xla (val:=val) hK hS hk hno ht hkt
 refine WL.st (w':=w') (fun a ha=>?_) (h _ hS')
 simp [execOp,hx a ha,hy a ha,hz a ha,hr]
theorem Sat.freezeMap (hS:Sat B w I As) (hk:As[k]?=some (Xdp K b kv)):∃ J,Le I J∧MapI J K b kv∧Sat B w J (As.eraseIdx k):=by
 have hkl:k<As.length:=(Y4.1 hk).1
 obtain ⟨⟨⟨es,clk⟩,he⟩,hS2⟩:=hS.opened (X:={ x:Array MapEntry×Nat // Xmy K kv x.1 }) (T:=fun x=>own b (.map x.1.1 x.1.2)) hk fun g hg=>by
  obtain ⟨es,clk,he,rfl⟩:=hg
  exact ⟨⟨(es,clk),he⟩,rfl⟩
 obtain ⟨J,h1,h2,h3⟩:=hS2.freeze (k:=k) (b:=b) (o:=.map es clk) (by simp [hkl])
 rw [Y34] at h3
 exact ⟨J,h1,⟨es,clk,he,h2⟩,h3⟩
end
def X1b {α:Type} (cells:α→List Value) (l:List α):List Value:=(l.map cells).flatten
theorem Xb8 {α:Type} {cells:α→List Value} {s:Nat} (hc:∀ x,(cells x).length=s) {l:List α} {i j:Nat} {r:α} {v:Value} (hr:l[i]?=some r) (hj:(cells r)[j]?=some v):(X1b cells l)[i*s+j]?=some v:=by
 have hjs:j<s:=by rw [← hc r]; exact (Y4.1 hj).1
 have h2:=X5b (l.map cells) (fun c h=>by obtain ⟨x,_,rfl⟩:=Y2c.1 h; exact hc x) i j hjs
 rw [Yx,hr] at h2
 exact h2.trans hj
theorem X9p {α:Type} (cells:α→List Value) (l:List α) (x:α):X1b cells (l ++ [x])=X1b cells l ++ cells x:=by simp [X1b]
def Xbx {α:Type} (w:World) (cells:α→List Value) (s:Nat) (a:Option Addr) (l:List α):Prop:=∀ (i:Nat) (r:α),l[i]?=some r→∃ p,a=some p∧∀ (j:Nat) v,(cells r)[j]?=some v→w.cell? ((p.add (i*s)).add j)=some v
section
variable {P:Program} {n:Nat} {K:X2y} {L:Env} {w B:World} {ops:Array Oper} {rest:List Oper} {I:Im} {As:List X9} {k:Nat} {ty t t' E:TypeId} {x y:Operand} {pos:String} {af:Array Edge} {g:Option (Nat×Bool)} {v:Value}
theorem Xoe {α:Type} {cells:α→List Value} {s:Nat} {a:Option Addr} {l:List α} (hc:∀ x,(cells x).length=s) (hS:Sat B w I As) (hR:RS I a s l.length (X1b cells l)):Xbx w cells s a l:=fun i r hr=>by
 obtain ⟨p,rfl,hA⟩:=hR.2 (by have:=(Y4.1 hr).1; omega)
 refine ⟨p,rfl,fun j v hj=>?_⟩
 rw [Addr.add_add]
 exact X28 hS hA (Xb8 hc hr hj)
theorem Xm9 {α:Type} {cells:α→List Value} {s T cap:Nat} {a:Option Addr} {l:List α} (hc:∀ x,(cells x).length=s) (hS:Sat B w I As) (hk:As[k]?=some (Vec T s (.slice a l.length cap) l.length (X1b cells l))):Xbx w cells s a l:=fun i r hr=>by
 have hi:=(Y4.1 hr).1
 obtain ⟨g,cap',rest,hv,_,_,_,_,hS2⟩:=hS.vecOpen hk (by omega)
 injection hv with hv1 hv2 hv3
 have hlk:k<As.length:=(Y4.1 hk).1
 have hb:w.heap[g]?=some (Xh (X1b cells l ++ rest) T):=hS2.block (k:=k) (by simp [hlk,blk])
 refine ⟨⟨g,0,none⟩,hv1,fun j v hj=>?_⟩
 rw [Addr.add_add,show (⟨g,0,none⟩:Addr).add (i*s+j)=ad g (0+(i*s+j)) from Xt g 0 _,Yf]
 refine Xp hb ?_
 have h3:=Xb8 hc hr hj
 rw [Yi (Y4.1 h3).1]
 exact h3
theorem Ex.ldR {d:Option Nat} {p:Addr} {s:Nat} {vs:List Value} (hx:Ev n L x (.pointer (some p))) (hv:∀ (j:Nat) v,vs[j]?=some v→w.cell? (p.add j)=some v) (ht:∀ w,(isAgg t).run P w=.ok true w) (hs:∀ w,(Go.sizeOf t).run P w=.ok s w)
  (hl:vs.length=s):Ex P n L w ⟨d,.load t x,ty,pos,af,g⟩ (.agg vs.toArray) w:=fun a ha=>by
 have h:=run_loadCells_list (P:=P) w p vs hv
 rw [hl] at h
 simp [execOp,hx a ha,Instr.loadAt,Instr.sureAddr,loadVar,ht,hs,h]
theorem Ex.ld1 {d:Option Nat} {p:Addr} {v:Value} (hx:Ev n L x (.pointer (some p))) (hv:w.cell? p=some v) (ht:∀ w,(isAgg t).run P w=.ok false w):Ex P n L w ⟨d,.load t x,ty,pos,af,g⟩ v w:=fun a hh=>by
 simp [execOp,hx a hh,Instr.loadAt,Instr.sureAddr,loadVar,ht,load,Sem.run,hv]
theorem WL.appendF {d E size m c nn:Nat} {a:Option Addr} {v:Value} {xs ys:List Value} {i:TypeInfo} {z:Value} {bytes:Nat} (hS:Sat B w I As) (hx:Ev n L x v) (hy:Ev n L y (.slice a m c)) (hr:RS I a size m ys)
  (hk:As[k]?=some (Vec E size v nn xs)) (ht:P.underlying t=some (.slice E)) (hi:P.info? E=some i) (hz:i.zero=some z) (hsize:i.size=size) (hby:i.bytes=bytes) (hzs:z.cells.size=size)
  (h1:ys.all Value.oneCell'=true) (h63:(nn+m)*bytes≤140737488355328∧nn+m≤maxLen) (hd:Nat.blt d n=true)
  (h:∀ v' w',Sat B w' I (As.set k (Vec E size v' (nn+m) (xs ++ ys)))→WL P n ops K rest ((d,v')::L) w') :
  WL P n ops K (⟨some d,.call ⟨.builtin .append,#[x,y],#[t,t]⟩,ty,pos,af,none⟩::rest) L w:=by
 rcases Y1k m with h0 | h0
 ·subst h0
  have hy0:ys=[]:=Ye (by simpa using hr.1)
  subst hy0
  obtain ⟨a0,c0,rfl,hc0,_⟩:=hS.vecSlice hk
  have hr:(Builtin.append_ #[t,t] ty #[.slice a0 nn c0,.slice a 0 c]).run P w=.ok (.slice a0 nn c0) w:=by
   subst hsize
   cases a0 <;> cases a <;> simp [Builtin.append_,run_underlying ht,Go.sizeOf,typeInfo,hi,Builtin.lenOf,Builtin.firstCells,loadCells,loadCellsFrom,storeCells,hc0]
  have h2:=h (.slice a0 nn c0) w (by
   have hlk:k<As.length:=(Y4.1 hk).1
   have:As.set k (Vec E size (.slice a0 nn c0) (nn+0) (xs ++ []))=As:=by
    rw [Y2d,Yg]
    have:=(Y4.1 hk).2
    rw [← this,Y3m]
   rw [this]; exact hS)
  exact WL.val (w':=w) (fun a' ha=>by simp [execOp,resolve,invoke,builtin,hx a' ha,hy a' ha,hr]) hd h2
 ·obtain ⟨p,rfl,hA⟩:=hr.2 h0
  obtain ⟨v',w',hr',hS'⟩:=X21 (P:=P) (ty:=ty) hS ht hi hz hsize hby hzs hk (p:=p) (m:=m) (c:=c) hr.1 h0 (fun q u hu=>X28 hS hA hu) (Y18.1 h1) h63.2 h63.1
  exact WL.val (w':=w') (fun a' ha=>by simp [execOp,resolve,invoke,builtin,hx a' ha,hy a' ha,hr']) hd (h _ _ hS')
end
end Gk
namespace Go.Proofs.YtfibbpgikjggfaaGreatDoor
open Gk Ul Pc Tk Tr
abbrev Pr:=List UInt8×List UInt8
def Xl (p:Pr):List Value:=[S p.1,S p.2]
theorem Xf4 (l:List Pr):(X1b Xl l).all Value.oneCell'=true:=by
 unfold X1b
 induction l with
 | nil=>rfl
 | cons p l ih=>rw [Y1c,Y1t,Y27,ih]; rfl
structure Us where
 name:List UInt8
 pw:List UInt8
 attrs:List Pr
def X6l (u:Us) (a:Option Addr) (c:Nat):List Value:=[S u.name,S u.pw,.slice a u.attrs.length c]
def UsAt (I:Im) (u:Us) (l:List Value):Prop:=∃ a c,l=X6l u a c∧u.attrs.length≤c∧RS I a 2 u.attrs.length (X1b Xl u.attrs)
theorem UsAt.mono {I J:Im} {u:Us} {l:List Value} (h:UsAt I u l) (hl:Le I J):UsAt J u l:=by
 obtain ⟨a,c,e,h1,h2⟩:=h
 exact ⟨a,c,e,h1,h2.mono hl⟩
def badW (i:Nat) (c:UInt8):Bool:=!letC c && (((i:Int) == 0) || (((decide ((c.toNat:Int)<48) || decide ((57:Int)<(c.toNat:Int))) && ((c.toNat:Int) != 45)) && ((c.toNat:Int) != 95)))
def Xch:List UInt8→Nat→Bool
 | [],_=>true
 | c::r,i=>!badW i c && Xch r (i+1)
theorem X7q:∀ (s:List UInt8) (k:Nat),Xch s k=true ↔ ∀ (j:Nat) c,s[j]?=some c→badW (k+j) c=false
 | [],k=>by simp [Xch]
 | c::r,k=>by
  rw [Xch,Yn,X7q r (k+1)]
  constructor
  ·rintro ⟨h1,h2⟩ j d hd
   cases j with
   | zero=>simp at hd; subst hd; simpa using h1
   | succ j=>rw [show k+(j+1)=k+1+j by omega]; exact h2 j d (by simpa using hd)
  ·intro h
   refine ⟨by simpa using h 0 c rfl,fun j d hd=>?_⟩
   rw [show k+1+j=k+(j+1) by omega]
   exact h (j+1) d (by simpa using hd)
def Xl5 (s:List UInt8):Bool:=Xch s 0 && (!(s == []) && decide ((s.length:Int)≤60))
def badP (p:Pr):Bool:=!Xl5 p.1 || !X7o p.2 32 0 60
def Xay (u:Us):Bool:=X7o u.name 33 1 32 && decide ((1:Int)≤(u.pw.length:Int)) && decide ((u.pw.length:Int)≤60) && decide ((u.attrs.length:Int)≤8) && !u.attrs.any badP
def X4j (p:Pr):Prop:=p.1.length≤maxLen∧p.2.length≤maxLen
theorem Xl8 (s:List UInt8) (hs:s.length≤9223372036854775807) (B w:World) (I:Im) (As:List X9) (hS:Sat B w I As) :
  Calls Tryz.prog 195 [S s].toArray w (Ret fun v w'=>v=.bool (Xl5 s)∧Sat B w' I As):=by
 refine calls Tryz.func195 rfl Tryz.ntmps195 rfl (.seq (.q 1 rfl (.seq (.seq (.region (.run 3 rfl ⟨Qu9,trivial⟩ (.nil (.block (.loop (σ:=Nat) (fun i=>[(0,S s),(6,I64 (s.length:Nat)),(7,I64 (i:Nat))]) (fun i w=>i≤s.length∧(∀ (j:Nat) c,j<i→s[j]?=some c→badW j c=false)∧Sat B w I As) (fun i=>s.length - i) 0 ⟨rfl,rfl,rfl,trivial⟩ ⟨Yp _,fun _ _ h=>absurd h (by omega),hS⟩ ?_)))))))))
 rintro i w ⟨hi,hno,hS⟩
 change WC _ _ _ _ [(0,S s),(6,I64 (s.length:Nat)),(7,I64 (i:Nat))] w
 refine .seq (.q 1 rfl (.seq ?_))
 refine WC.cond rfl (fun hb8=>?_) (fun hb8=>?_)
 ·
  have hc8:=hb8; try simp only [Y5] at hc8
  refine .skip (.seq (.block (.seq (.q 2 rfl (.seq (.region (.run 4 rfl ⟨⟨⟨by omega,by omega⟩,Qu9⟩,trivial⟩ (.nil (.seq (.t 1 rfl (.call Tryz.func229 rfl (X0 (.of rfl) X4) rfl (Xga _ w) ?_)))))))))))
  rintro _ _ ⟨rfl,rfl⟩
  refine .q 2 rfl (.gval rfl rfl (fun hg1=>(.move (.of rfl))) rfl (.gval rfl rfl (fun hg1=>(.eql (.gd hg1 rfl) (.of rfl))) rfl (.gval rfl rfl (fun hg1=>(.move (.gd hg1 rfl))) rfl (.gval2 rfl rfl rfl (fun hg1 hg2=>(.move (.of rfl))) rfl (.gval2 rfl rfl rfl (fun hg1 hg2=>(.lss (.gd2 hg1 hg2 rfl) (.of rfl))) rfl (.gval2 rfl rfl rfl (fun hg1 hg2=>(.move (.gd2 hg1 hg2 rfl))) rfl (.gval3 rfl rfl rfl (fun hg1 hg2 hg3=>(.move (.of rfl))) rfl (.gval3 rfl rfl rfl (fun hg1 hg2 hg3=>(.gtr (.gd3 hg1 hg2 hg3 rfl) (.of rfl))) rfl (.gval2 rfl rfl rfl (fun hg1 hg2=>(.por (.gd2 hg1 hg2 rfl) (.of rfl) (.gd2 hg1 hg2 rfl))) rfl (.gval2 rfl rfl rfl (fun hg1 hg2=>(.move (.gd2 hg1 hg2 rfl))) rfl (.gval3 rfl rfl rfl (fun hg1 hg2 hg3=>(.move (.of rfl))) rfl (.gval3 rfl rfl rfl (fun hg1 hg2 hg3=>(.neq (.gd3 hg1 hg2 hg3 rfl) (.of rfl))) rfl (.gval2 rfl rfl rfl (fun hg1 hg2=>(.pand (.gd2 hg1 hg2 rfl) (.gd2 hg1 hg2 rfl) (.of rfl))) rfl (.gval2 rfl rfl rfl (fun hg1 hg2=>(.move (.gd2 hg1 hg2 rfl))) rfl (.gval3 rfl rfl rfl (fun hg1 hg2 hg3=>(.move (.of rfl))) rfl (.gval3 rfl rfl rfl (fun hg1 hg2 hg3=>(.neq (.gd3 hg1 hg2 hg3 rfl) (.of rfl))) rfl (.gval2 rfl rfl rfl (fun hg1 hg2=>(.pand (.gd2 hg1 hg2 rfl) (.gd2 hg1 hg2 rfl) (.of rfl))) rfl (.gval rfl rfl (fun hg1=>(.por (.gd hg1 rfl) (.of rfl) (.gd hg1 rfl))) rfl (.val (.pand (.of rfl) (.of rfl) (.of rfl)) rfl (.nil ?_))))))))))))))))))))
  refine WC.cond rfl (fun hb35=>?_) (fun hb35=>?_)
  ·
   have hc35:=hb35; try simp only [Y5] at hc35
   refine .seq (.q 1 rfl (.ret (Xe Tryz.results195 rfl ?_)))
   refine ⟨_,rfl,congrArg Value.bool ?_,hS⟩
   have:Xch s 0=false:=by
    cases h:Xch s 0 with
    | false=>rfl
    | true =>
     have h1:=(X7q s 0).1 h i _ (Xq (show i<s.length by omega))
     rw [Yf] at h1
     exact absurd (hb35.symm.trans h1) (by decide)
   rw [Xl5,this]; rfl
  have hc35:=hb35; try simp only [Y5] at hc35
  refine .skip (.region (.run 2 rfl ⟨⟨by omega,by omega⟩,trivial⟩ (.nil ?_)))
  refine ⟨i+1,⟨rfl,rfl,rfl,trivial⟩,⟨by (try dsimp only); omega,fun j c hj hc=>?_,hS⟩,by (try dsimp only); omega⟩
  rcases Yv j i with h1 | h1
  ·exact hno j c h1 hc
  ·have e:j=i:=by omega
   subst e
   rw [Xq (show j<s.length by omega)] at hc; cases hc
   exact hb35
 have hc8:=hb8; try simp only [Y5] at hc8
 refine .exit (.seq (.t 3 rfl (.gval rfl rfl (fun hg1=>(.move (.of rfl))) rfl (.gval rfl rfl (fun hg1=>(.len (.gd hg1 rfl) Qu9)) rfl (.gval rfl rfl (fun hg1=>(.leq (.gd hg1 rfl) (.of rfl))) rfl (.val (.pand (.of rfl) (.of rfl) (.of rfl)) rfl (.q 1 rfl (.nil (.ret (Xe Tryz.results195 rfl ?_))))))))))
 refine ⟨_,rfl,congrArg Value.bool ?_,hS⟩
 have:Xch s 0=true:=(X7q s 0).2 fun j c hc=>by
  have:=(Y4.1 hc).1
  rw [Yf]; exact hno j c (by omega) hc
 rw [Xl5,this]
 simp
theorem Xl2 (p:Pr) (hp:X4j p) (B w:World) (I:Im) (As:List X9) (hS:Sat B w I As) :
  Calls Tryz.prog 194 [.agg (Xl p).toArray].toArray w (Ret fun v w'=>v=.bool (badP p)∧Sat B w' I As):=by
 refine calls Tryz.func194 rfl Tryz.ntmps194 rfl (.seq (.region (.boxA (cs:=[_,_]) hS (.of rfl) rfl ?_)))
 clear hS; intro b1 w hS
 refine .q 1 rfl (.nil (.seq (.region ?_)))
 refine WL.val (.fieldAddr 0 (.of rfl) Xg5 rfl rfl Qs9 rfl) rfl ?_
 refine WL.val (.ld (.of rfl) hS (k:=0) rfl Qg9 rfl) rfl ?_
 refine .call Tryz.func195 rfl (X0 (.of rfl) X4) rfl (Xl8 p.1 hp.1 B _ I _ hS) ?_
 clear hS
 rintro _ w ⟨rfl,hS⟩
 refine .q 2 rfl ?_
 refine WL.gval rfl rfl (fun hg1=>(by exact .fieldAddr 1 (.of rfl) Xg5 rfl rfl Qs9 rfl)) rfl ?_
 refine WL.gval rfl rfl (fun hg1=>(by exact (.ld (.gd hg1 rfl) hS (k:=0) rfl Qg9 rfl))) rfl ?_
 refine .gcall (T:=fun w=>Sat B w I (blk b1 [S p.1,S p.2] 101::As)) rfl rfl rfl Tryz.func196 rfl (fun hg1=>(X0 (.gd hg1 rfl) (X0 (.of rfl) (X0 (.of rfl) (X0 (.of rfl) X4))))) rfl (fun hg1=>X9n p.2 32 0 60 hp.2 B _ I _ hS) hS ?_
 clear hS; rintro w hS
 refine .gval rfl rfl (fun hg1=>(.not (.gd hg1 rfl))) rfl (.val (.por (.of rfl) (.of rfl) (.of rfl)) rfl (.q 1 rfl (.nil (.ret (Xe Tryz.results194 rfl ?_)))))
 exact ⟨_,rfl,rfl,hS.drop (k:=0) rfl⟩
theorem X90 (a:Option Addr) (cap:Nat) (l:List (Pr)) (hln:l.length≤9223372036854775807) (pr:Pr→Bool) (fid:FuncId) (fn:Func) (hfn:Tryz.prog.funcs[fid]?=some fn) (hcal:Xk fn=true) (capv:List Value) (B w:World) (I:Im) (As:List X9) (hE:∀ w,Sat B w I As→Xbx w Xl 2 a l) (hf:∀ (r:Pr) (hr:r∈l) w,Sat B w I As→Calls Tryz.prog fid ([Value.agg (Xl r).toArray] ++ capv).toArray w (Ret fun v w'=>v=.bool (pr r)∧Sat B w' I As)) (hS:Sat B w I As) :
  Calls Tryz.prog 230 [.slice a l.length cap,.func (.func fid) #[] capv.toArray].toArray w (Ret fun v w'=>v=I64 (X1l pr l 0)∧Sat B w' I As):=by
 refine calls Tryz.func230 rfl Tryz.ntmps230 rfl (.seq (.q 1 rfl (.seq (.seq (.region (.run 3 rfl ⟨⟨_,X4o⟩,trivial⟩ (.nil (.block (.loop (σ:=Nat) (fun i=>[(0,.slice a l.length cap),(1,.func (.func fid) #[] capv.toArray),(7,I64 (l.length:Nat)),(8,I64 (i:Nat))]) (fun i w=>i≤l.length∧(∀ (j:Nat) t,j<i→l[j]?=some t→pr t=false)∧Sat B w I As) (fun i=>l.length - i) 0 ⟨rfl,rfl,rfl,rfl,trivial⟩ ⟨Yp _,fun _ _ h=>absurd h (by omega),hS⟩ ?_)))))))))
 rintro i w ⟨hi,hno,hS⟩
 change WC _ _ _ _ [(0,.slice a l.length cap),(1,.func (.func fid) #[] capv.toArray),(7,I64 (l.length:Nat)),(8,I64 (i:Nat))] w
 refine .seq (.q 1 rfl (.seq ?_))
 refine WC.cond rfl (fun hb9=>?_) (fun hb9=>?_)
 ·
  have hc9:=hb9; try simp only [Y5] at hc9
  refine .skip (.seq (.block (.seq ?_)))
  obtain ⟨r,hr⟩:∃ r,l[i]?=some r:=⟨_,Y7 (by omega)⟩
  obtain ⟨p,rfl,hx⟩:=hE w hS i r hr
  refine .q 2 rfl (.seq (.t 3 rfl ?_))
  refine WL.val (.indexAddrI (.of rfl) (.of rfl) (by omega) (by omega) X4o X2f) rfl ?_
  refine .val (.ldR (.of rfl) hx Xdi X2f rfl) rfl (.vcall (cap:=capv) hfn hcal (.of rfl) (X0 (.of rfl) X4) rfl (hf r (Yr hr) w hS) ?_)
  clear hS
  rintro _ w ⟨rfl,hS⟩
  refine .nil ?_
  refine WC.cond rfl (fun hb16=>?_) (fun hb16=>?_)
  ·
   have hc16:=hb16; try simp only [Y5] at hc16
   refine .seq (.q 2 rfl (.ret (Xe Tryz.results230 rfl ?_)))
   exact ⟨_,rfl,by rw [X5y hno hr hb16],hS⟩
  have hc16:=hb16; try simp only [Y5] at hc16
  refine .skip (.region (.run 2 rfl ⟨⟨by omega,by omega⟩,trivial⟩ (.nil ?_)))
  refine ⟨i+1,⟨rfl,rfl,rfl,rfl,trivial⟩,⟨by (try dsimp only); omega,fun j t hj ht=>?_,hS⟩,by (try dsimp only); omega⟩
  rcases Yv j i with h1 | h1
  ·exact hno j t h1 ht
  ·have e:j=i:=by omega
   subst e
   rw [hr] at ht; cases ht
   exact hb16
 have hc9:=hb9; try simp only [Y5] at hc9
 refine .exit (.seq (.q 1 rfl (.ret (Xe Tryz.results230 rfl ?_))))
 exact ⟨_,rfl,by rw [X4u (fun j t ht=>hno j t (by have:=(Y4.1 ht).1; omega) ht)],hS⟩
theorem X66 (a:Option Addr) (cap:Nat) (l:List (Pr)) (hln:l.length≤9223372036854775807) (pr:Pr→Bool) (fid:FuncId) (fn:Func) (hfn:Tryz.prog.funcs[fid]?=some fn) (hcal:Xk fn=true) (capv:List Value) (B w:World) (I:Im) (As:List X9) (hE:∀ w,Sat B w I As→Xbx w Xl 2 a l) (hf:∀ (r:Pr) (hr:r∈l) w,Sat B w I As→Calls Tryz.prog fid ([Value.agg (Xl r).toArray] ++ capv).toArray w (Ret fun v w'=>v=.bool (pr r)∧Sat B w' I As)) (hS:Sat B w I As) :
  Calls Tryz.prog 197 [.slice a l.length cap,.func (.func fid) #[] capv.toArray].toArray w (Ret fun v w'=>v=.bool (l.any pr)∧Sat B w' I As):=by
 refine calls Tryz.func197 rfl Tryz.ntmps197 rfl (.seq (.q 1 rfl (.seq (.t 2 rfl (.call Tryz.func230 rfl (X0 (.of rfl) (X0 (.of rfl) X4)) rfl (X90 a cap l hln pr fid fn hfn hcal capv B _ I As hE hf hS) ?_)))))
 clear hS
 rintro _ w ⟨rfl,hS⟩
 refine .q 2 rfl (.nil (.ret (Xe Tryz.results197 rfl ?_)))
 exact ⟨_,rfl,by rw [← X5t pr l 0],hS⟩
theorem Xg7 (a:Option Addr) (c:Nat) (l:List (Pr)) (hl:l.length≤1000000) (B w:World) (I:Im) (hR:RS I a 2 l.length (X1b Xl l)) (As:List X9) (hS:Sat B w I As) :
  Calls Tryz.prog 150 [.slice a l.length c].toArray w (Ret fun v w'=>∃ J ra rc,v=.slice ra l.length rc∧Le I J∧l.length≤rc∧RS J ra 2 l.length (X1b Xl l)∧Sat B w' J As):=by
 refine calls Tryz.func150 rfl Tryz.ntmps150 rfl (.seq (.q 1 rfl (.seq (.seq (.t 1 rfl (.val (Ex.slNil (.of rfl) (.of rfl) X4o) rfl (.nil ?_)))))))
 refine WC.cond rfl (fun hb4=>?_) (fun hb4=>?_)
 ·
  have hc4:=hb4; try simp only [Y5] at hc4
  refine .seq (.q 1 rfl (.ret (Xe Tryz.results150 rfl ?_)))
  cases a with
  | some p=>simp at hb4
  | none =>
  have h0:l=[]:=by
   cases l with
   | nil=>rfl
   | cons x l=>obtain ⟨p,h,_⟩:=hR.2 (by simp); cases h
  subst h0
  exact ⟨_,rfl,I,none,0,rfl,Le.refl _,Ys _,⟨rfl,fun h=>absurd h (by simp)⟩,hS⟩
 have hc4:=hb4; try simp only [Y5] at hc4
 refine .skip (.seq (.region (.buildSlice (cs:=[]) hS X6 X4o X2f X6g rfl rfl rfl rfl ?_)))
 clear hS; intro b5 w hS
 refine .q 1 rfl ?_
 replace hS:=hS.vecOf (k:=0) (E:=101) (size:=2) (n:=0) rfl rfl (Yp _)
 try dsimp only [List.set] at hS
 refine WL.appendF (size:=2) (bytes:=32) hS (.of rfl) (.of rfl) hR (k:=0) rfl X4o (i:=Tryz.t101) (by kernel_rfl) rfl rfl rfl rfl (Xf4 l) ⟨by omega,by unfold maxLen; omega⟩ rfl ?_
 clear hS; intro v7 w hS
 rw [Yf,Yc] at hS
 refine .q 1 rfl (.nil (.ret (Xe Tryz.results150 rfl ?_)))
 obtain ⟨ra,rc,rfl,hrc,_⟩:=hS.vecSlice (k:=0) rfl
 obtain ⟨J,hJ,hRS,hS⟩:=hS.freezeVec (k:=0) rfl
 exact ⟨_,rfl,J,ra,rc,rfl,hJ,hrc,hRS,hS⟩
theorem Xj4 (u:Us) (a:Option Addr) (c:Nat) (hn:u.name.length≤9223372036854775807) (hal:u.attrs.length≤9223372036854775807) (hA:∀ p∈u.attrs,X4j p) (B w:World) (I:Im) (hR:RS I a 2 u.attrs.length (X1b Xl u.attrs)) (As:List X9) (hS:Sat B w I As) :
  Calls Tryz.prog 149 [.agg (X6l u a c).toArray].toArray w (Ret fun v w'=>v=.bool (Xay u)∧Sat B w' I As):=by
 refine calls Tryz.func149 rfl Tryz.ntmps149 rfl (.seq (.region (.boxA (cs:=[_,_,_]) hS (.of rfl) rfl ?_)))
 clear hS; intro b1 w hS
 refine .q 1 rfl (.nil (.seq (.q 1 rfl (.seq (.region ?_)))))
 refine WL.val (.fieldAddr 0 (.of rfl) X9w rfl rfl Qs9 rfl) rfl ?_
 refine WL.val (.ld (.of rfl) hS (k:=0) rfl Qg9 rfl) rfl ?_
 refine .call Tryz.func196 rfl (X0 (.of rfl) (X0 (.of rfl) (X0 (.of rfl) (X0 (.of rfl) X4)))) rfl (X9n u.name 33 1 32 hn B _ I _ hS) ?_
 clear hS
 rintro _ w ⟨rfl,hS⟩
 refine .q 1 rfl ?_
 refine WL.gval rfl rfl (fun hg1=>(by exact .fieldAddr 1 (.of rfl) X9w rfl rfl Qs9 rfl)) rfl ?_
 refine WL.gval rfl rfl (fun hg1=>(by exact (.ld (.gd hg1 rfl) hS (k:=0) rfl Qg9 rfl))) rfl ?_
 refine .gval rfl rfl (fun hg1=>(.len (.gd hg1 rfl) Qu9)) rfl (.gval rfl rfl (fun hg1=>(.geq (.gd hg1 rfl) (.of rfl))) rfl (.val (.pand (.of rfl) (.of rfl) (.of rfl)) rfl (.q 1 rfl ?_)))
 refine WL.gval rfl rfl (fun hg1=>(by exact .fieldAddr 1 (.of rfl) X9w rfl rfl Qs9 rfl)) rfl ?_
 refine WL.gval rfl rfl (fun hg1=>(by exact (.ld (.gd hg1 rfl) hS (k:=0) rfl Qg9 rfl))) rfl ?_
 refine .gval rfl rfl (fun hg1=>(.len (.gd hg1 rfl) Qu9)) rfl (.gval rfl rfl (fun hg1=>(.leq (.gd hg1 rfl) (.of rfl))) rfl (.val (.pand (.of rfl) (.of rfl) (.of rfl)) rfl (.q 1 rfl ?_)))
 refine WL.gval rfl rfl (fun hg1=>(by exact .fieldAddr 2 (.of rfl) X9w rfl rfl Qs95 rfl)) rfl ?_
 refine WL.gval rfl rfl (fun hg1=>(by exact (.ld (.gd hg1 rfl) hS (k:=0) rfl Tryz.isAgg95 rfl))) rfl ?_
 refine .gval rfl rfl (fun hg1=>(.lenSlice (.gd hg1 rfl) X4o)) rfl (.gval rfl rfl (fun hg1=>(.leq (.gd hg1 rfl) (.of rfl))) rfl (.val (.pand (.of rfl) (.of rfl) (.of rfl)) rfl (.q 1 rfl ?_)))
 refine WL.gval rfl rfl (fun hg1=>(by exact .fieldAddr 2 (.of rfl) X9w rfl rfl Qs95 rfl)) rfl ?_
 refine WL.gval rfl rfl (fun hg1=>(by exact (.ld (.gd hg1 rfl) hS (k:=0) rfl Tryz.isAgg95 rfl))) rfl ?_
 refine .gval rfl rfl (fun hg1=>(.move (.of rfl))) rfl (.gcall (T:=fun w=>Sat B w I (blk b1 (X6l u a c) 178::As)) rfl rfl rfl Tryz.func197 rfl (fun hg1=>(X0 (.gd hg1 rfl) (X0 (.gd hg1 rfl) X4))) rfl (fun hg1=>X66 a c u.attrs (by omega) badP 194 _ Tryz.func194 rfl [] B _ I _ (fun w h=>Xoe (fun _=>rfl) h hR) (fun p hp w h=>Xl2 p (hA p hp) B w I _ h) hS) hS ?_)
 clear hS; rintro w hS
 refine .gval rfl rfl (fun hg1=>(.not (.gd hg1 rfl))) rfl (.val (.pand (.of rfl) (.of rfl) (.of rfl)) rfl (.q 1 rfl (.nil (.ret (Xe Tryz.results149 rfl ?_)))))
 exact ⟨_,rfl,rfl,hS.drop (k:=0) rfl⟩
theorem Xgy:Bld Tryz.prog 193 [(0,1)] [.map none]:=X2l Xnl Tryz.zeroValue193 (fun w=>by simp [go_sem])
def UsrsAt (I:Im) (a:Option Addr) (l:List Us):Prop:=∀ (i:Nat) (u:Us),l[i]?=some u→∃ p ra rc,a=some p∧At I (p.add (i*3)) (X6l u ra rc)∧u.attrs.length≤rc∧RS I ra 2 u.attrs.length (X1b Xl u.attrs)
theorem UsrsAt.mono {I J:Im} {a:Option Addr} {l:List Us} (h:UsrsAt I a l) (hl:Le I J):UsrsAt J a l:=fun i u hu=>by
 obtain ⟨p,ra,rc,e,h1,h2,h3⟩:=h i u hu
 exact ⟨p,ra,rc,e,h1.mono hl,h2,h3.mono hl⟩
structure Us.fits (u:Us):Prop where
 name:u.name.length≤maxLen
 pw:u.pw.length≤maxLen
 attrs:u.attrs.length≤9223372036854775807∧∀ p∈u.attrs,X4j p
def X8w:List Us→Nat→List Us→Nat×Nat
 | [],_,_=>(0,0)
 | u::r,i,acc=>if 16≤i then (5,i) else if Xay u=false then (1,i) else if acc.any (fun t=>t.name == u.name) then (7,i) else X8w r (i+1) (acc ++ [u])
def KvOf (J:Im) (kv:List (List UInt8×Value)) (l:List Us):Prop:=kv.length=l.length∧∀ (i:Nat) (u:Us),l[i]?=some u→∃ cs,kv[i]?=some (u.name,.agg (List.toArray cs))∧UsAt J u cs
theorem KvOf.mono {I J:Im} {kv:List (List UInt8×Value)} {l:List Us} (h:KvOf I kv l) (hl:Le I J):KvOf J kv l:=⟨h.1,fun i u hu=>by
 obtain ⟨cs,h1,h2⟩:=h.2 i u hu
 exact ⟨cs,h1,h2.mono hl⟩⟩
theorem KvOf.snoc {J:Im} {kv:List (List UInt8×Value)} {l:List Us} {u:Us} {cs:List Value} (h:KvOf J kv l) (hu:UsAt J u cs):KvOf J (kv ++ [(u.name,.agg cs.toArray)]) (l ++ [u]):=⟨by simp [h.1],fun i t ht=>by
 rcases Yv i l.length with h1 | h1
 ·rw [Yi h1] at ht
  rw [Yi (by rw [h.1]; exact h1)]
  exact h.2 i t ht
 ·have h2:=(Y4.1 ht).1
  simp only [Y0,Y6,Yh] at h2
  have e:i=l.length:=by omega
  subst e
  simp at ht; subst ht
  exact ⟨cs,by rw [← h.1]; simp,hu⟩⟩
theorem Xh3 {J:Im} (name:List UInt8):∀ {kv:List (List UInt8×Value)} {l:List Us},KvOf J kv l→(l.find? (fun t=>t.name == name)=none∧kv.lookup name=none)∨∃ u cs,l.find? (fun t=>t.name == name)=some u∧kv.lookup name=some (.agg (List.toArray cs))∧UsAt J u cs
 | [],[],_=>.inl ⟨rfl,rfl⟩
 | [],u::l,h=>by have:=h.1; simp at this
 | p::kv,[],h=>by have:=h.1; simp at this
 | p::kv,u::l,h=>by
  obtain ⟨cs,h1,h2⟩:=h.2 0 u rfl
  simp at h1; subst h1
  have h3:KvOf J kv l:=⟨by simpa using h.1,fun i t ht=>by simpa using h.2 (i+1) t (by simpa using ht)⟩
  rw [Y4i]
  by_cases e:u.name=name
  ·subst e
   exact .inr ⟨u,cs,by simp,by simp [List.lookup],h2⟩
  ·have e1:(u.name == name)=false:=beq_eq_false_iff_ne.2 e
   have e2:(name == u.name)=false:=beq_eq_false_iff_ne.2 (Ne.symm e)
   simp only [e1,List.lookup,e2]
   exact Xh3 name h3
theorem Xm5 (l:List Us) (name:List UInt8):l.any (fun t=>t.name == name)=(l.find? (fun t=>t.name == name)).isSome:=by
 rw [Bool.eq_iff_iff,Y38,List.find?_isSome]
def TabAt (J:Im) (tb:Nat) (l:List Us):Prop:=∃ mb kv,At J (ad tb 0) [.map (some mb)]∧MapI J S mb kv∧KvOf J kv l
theorem TabAt.mono {I J:Im} {tb:Nat} {l:List Us} (h:TabAt I tb l) (hl:Le I J):TabAt J tb l:=by
 obtain ⟨mb,kv,h1,h2,h3⟩:=h
 exact ⟨mb,kv,h1.mono hl,h2.mono hl,h3.mono hl⟩
theorem X46 {J:Im} {b:Nat} {cs:List Value} {E:TypeId} (h:J b=some (Xh cs E)):At J (ad b 0) cs:=⟨rfl,_,E,(0,0),h,fun j v hj=>by simpa [ad] using hj⟩
theorem X8a {u:Us} (h:Xay u=true):u.attrs.length≤8:=by
 unfold Xay at h
 simp only [Yn,decide_eq_true_eq] at h
 omega
set_option maxRecDepth 20000 in
theorem Xcc (a:Option Addr) (cap:Nat) (l:List Us) (hln:l.length≤9223372036854775807) (hfit:∀ u∈l,u.fits) (B w:World) (I:Im) (hU:UsrsAt I a l) (As:List X9) (hS:Sat B w I As) :
  Calls Tryz.prog 103 [.slice a l.length cap].toArray w (Ret fun v w'=>∃ J,Le I J∧(((X8w l 0 []).1=0∧∃ tb,v=.tuple #[ptr tb 0,I64 0,I64 0]∧TabAt J tb l)∨((X8w l 0 []).1≠0∧v=.tuple #[.pointer none,I64 ((X8w l 0 []).1:Nat),I64 ((X8w l 0 []).2:Nat)]))∧Sat B w' J As):=by
 refine calls Tryz.func103 rfl Tryz.ntmps103 rfl (.seq (.q 3 rfl (.seq (.region (.mkMap S hS rfl ?_)))))
 clear hS; intro b10 w hS
 refine .val (.build (cs:=[_]) (X5 (.of rfl) X6) Xgy rfl) rfl (.boxA (cs:=[_]) hS (.of rfl) rfl ?_)
 clear hS; intro b12 w hS
 refine .q 1 rfl (.nil (.seq (.seq (.region (.run 3 rfl ⟨⟨_,Tryz.underlying23⟩,trivial⟩ (.nil (.block (.loop (σ:=Nat×Im×List (List UInt8×Value)) (fun ⟨i,J,kv⟩=>[(0,.slice a l.length cap),(5,ptr b12 0),(13,.slice a l.length cap),(14,I64 (l.length:Nat)),(15,I64 (i:Nat))]) (fun ⟨i,J,kv⟩ w=>i≤l.length∧Le I J∧KvOf J kv (l.take i)∧X8w (l.drop i) i (l.take i)=X8w l 0 []∧Sat B w J (blk b12 [.map (some b10)] 193::Xdp S b10 kv::As)) (fun ⟨i,J,kv⟩=>l.length - i) (0,I,[]) ⟨rfl,rfl,rfl,rfl,rfl,trivial⟩ ⟨Yp _,Le.refl _,⟨rfl,fun i u h=>by simp at h⟩,rfl,hS⟩ ?_))))))))
 rintro ⟨i,J,kv⟩ w ⟨hi,hJ,hkv,hq,hS⟩
 change WC _ _ _ _ [(0,.slice a l.length cap),(5,ptr b12 0),(13,.slice a l.length cap),(14,I64 (l.length:Nat)),(15,I64 (i:Nat))] w
 refine .seq (.q 1 rfl (.seq ?_))
 refine WC.cond rfl (fun hb16=>?_) (fun hb16=>?_)
 ·
  have hc16:=hb16; try simp only [Y5] at hc16
  refine .skip (.seq (.block (.seq ?_)))
  obtain ⟨u,hu⟩:∃ u,l[i]?=some u:=⟨_,Y7 (by omega)⟩
  obtain ⟨p,ra,rc,hap,hA0,hrc,hRR⟩:=hU i u hu
  have hfu:=hfit u (Yr hu)
  subst hap
  have hA:=hA0.mono hJ
  have hR:=hRR.mono hJ
  have hstep:X8w (l.drop i) i (l.take i)=if 16≤i then (5,i) else if Xay u=false then (1,i) else if (l.take i).any (fun t=>t.name == u.name) then (7,i) else X8w (l.drop (i+1)) (i+1) (l.take (i+1)):=by
   rw [Y1e (by omega),(Y4.1 hu).2,X8w]
   simp only [Y1a,hu,Y28]
  rw [hq] at hstep
  have hlook:=Xh3 u.name hkv
  have hany:=Xm5 (l.take i) u.name
  refine .t 1 rfl ?_
  refine WL.val (.indexAddrI (.of rfl) (.of rfl) (by omega) (by omega) Tryz.underlying23 Xfp) rfl ?_
  refine .val (.ldR (vs:=X6l u ra rc) (.of rfl) (fun j v hj=>X28 hS hA hj) Tryz.isAgg178 Xfp rfl) rfl ?_
  unfold X6l
  refine .allocA (cs:=[_,_,_]) hS Xp4 rfl ?_
  clear hS; intro b7 w hS
  refine .q 1 rfl ?_
  refine WL.stA hS (k:=0) rfl (.of rfl) (.of rfl) rfl Xfp rfl (by simp) ?_
  clear hS; intro w hS; try dsimp only [List.set] at hS
  try simp only [Ym,Yc,Yg,Y9,Yl,Yo,Yf] at hS
  refine .nil (.seq ?_)
  obtain ⟨n9,p9,a9,k9,c9,hz9⟩:∃ n9 p9 a9 k9 c9,(kv.lookup u.name).getD (.agg [S [],S [],.slice none 0 0].toArray)=.agg [S n9,S p9,.slice a9 k9 c9].toArray:=by
   rcases hlook with ⟨_,e⟩ | ⟨t,cs,_,e,ta,tc,ht,_⟩
   ·rw [e]; exact ⟨_,_,_,_,_,rfl⟩
   ·rw [e,ht]; exact ⟨_,_,_,_,_,rfl⟩
  refine .drawn (fun w=>∃ R,Sat B w J (blk b7 [S u.name,S u.pw,.slice ra u.attrs.length rc] 178::blk b12 [.map (some b10)] 193::Xdp S b10 kv::R)) (fun j=>!([].contains j)) (by kernel_rfl) ?_
  replace hS:=hS.drew; generalize w.drew=w at hS ⊢
  have hH:∃ R,Sat B w J (blk b7 [S u.name,S u.pw,.slice ra u.attrs.length rc] 178::blk b12 [.map (some b10)] 193::Xdp S b10 kv::R):=⟨_,(((hS.pick 2 rfl).pick 2 rfl).pick 2 rfl)⟩
  refine .tp (i:=0) rfl (by kernel_rfl) (fun w=>(.move (.of rfl))) rfl (.tp (i:=1) rfl (by kernel_rfl) (fun w=>(.nilCheck (.of rfl))) rfl ?_)
  refine WD.tp (i:=2) rfl (by kernel_rfl) (fun w=>(.fieldAddr 0 (.of rfl) Xnl rfl rfl Tryz.sizeOf191 rfl)) rfl ?_
  refine WD.tk (i:=3) rfl (by kernel_rfl) hH (fun w ⟨R,hS⟩=>((.ld (.of rfl) hS (k:=1) rfl Tryz.isAgg191 rfl))) rfl ?_
  refine WD.tp (i:=4) rfl (by kernel_rfl) (fun w=>(.fieldAddr 0 (.of rfl) X9w rfl rfl Qs9 rfl)) rfl ?_
  refine WD.tk (i:=5) rfl (by kernel_rfl) hH (fun w ⟨R,hS⟩=>((.ld (.of rfl) hS (k:=0) rfl Qg9 rfl))) rfl ?_
  refine WD.tk (i:=6) rfl (by kernel_rfl) hH (v:=.tuple #[.agg [S n9,S p9,.slice a9 k9 c9].toArray,.bool (kv.lookup u.name).isSome]) (fun w ⟨R,hS⟩=>by rw [← hz9]; exact .look2 (key:=u.name) keyS (hS.mapNow (k:=2) rfl) (.of rfl) (.of rfl) Tryz.underlying191 Qu9 Xp4) rfl ?_
  refine .tp (i:=7) rfl (by kernel_rfl) (fun w=>(.move (.of rfl))) rfl (.tp (i:=8) rfl (by kernel_rfl) (fun w=>(.extract (.of rfl) rfl)) rfl (.tp (i:=9) rfl (by kernel_rfl) (fun w=>(.extract (.of rfl) rfl)) rfl ?_))
  refine WD.branch [10] (by kernel_rfl) rfl (WO.cons rfl ?_ (WO.nil))
  refine .allocA (cs:=[_,_,_]) hS Xp4 rfl ?_
  clear hS; intro b8 w hS
  refine .nil ?_
  clear hH
  have hH:∃ R,Sat B w J (blk b7 [S u.name,S u.pw,.slice ra u.attrs.length rc] 178::blk b12 [.map (some b10)] 193::Xdp S b10 kv::R):=⟨_,(((hS.pick 3 rfl).pick 3 rfl).pick 3 rfl)⟩
  refine And.intro (by intro _ _; exact hH) ?_
  refine WD.branch [11] (by kernel_rfl) rfl (WO.cons rfl ?_ (WO.nil))
  refine WL.stA hS (k:=0) rfl (.of rfl) (.of rfl) rfl Xfp rfl (by simp) ?_
  clear hS; intro w hS; try dsimp only [List.set] at hS
  try simp only [Ym,Yc,Yg,Y9,Yl,Yo,Yf] at hS
  refine .nil ?_
  clear hH
  have hH:∃ R,Sat B w J (blk b7 [S u.name,S u.pw,.slice ra u.attrs.length rc] 178::blk b12 [.map (some b10)] 193::Xdp S b10 kv::R):=⟨_,(((hS.pick 3 rfl).pick 3 rfl).pick 3 rfl)⟩
  refine And.intro (by intro _ _; exact hH) ?_
  refine .tp (i:=12) rfl (by kernel_rfl) (fun w=>(.assign (.of rfl))) rfl (.done (by kernel_rfl) (.seq (.block (.seq (.q 3 rfl ?_)))))
  refine WC.cond rfl (fun hb30=>?_) (fun hb30=>?_)
  ·
   have hc30:=hb30; try simp only [Y5] at hc30
   refine .seq (.q 4 rfl (.ret (X8v Xks rfl rfl rfl ?_)))
   have hE:X8w l 0 []=(5,i):=by rw [hstep]; exact if_pos (by omega)
   rw [hE]
   exact ⟨_,rfl,J,hJ,.inr ⟨show (5:Nat)≠0 by decide,rfl⟩,(((hS.drop (k:=0) rfl).drop (k:=0) rfl).drop (k:=0) rfl).drop (k:=0) rfl⟩
  have hc30:=hb30; try simp only [Y5] at hc30
  refine .seq (.region ?_)
  refine WL.val (.ldsW (cs:=[_,_,_]) (.of rfl) hS (k:=1) rfl Tryz.isAgg178 Xfp rfl) rfl ?_
  refine .call Tryz.func149 rfl (X0 (.of rfl) X4) rfl (Xj4 u ra rc hfu.name hfu.attrs.1 hfu.attrs.2 B _ J hR _ hS) ?_
  clear hS
  rintro _ w ⟨rfl,hS⟩
  refine .q 2 rfl (.nil ?_)
  refine WC.cond rfl (fun hb34=>?_) (fun hb34=>?_)
  ·
   have hc34:=hb34; try simp only [Y5] at hc34
   refine .seq (.q 4 rfl (.ret (X8v Xks rfl rfl rfl ?_)))
   have hE:X8w l 0 []=(1,i):=by rw [hstep]; rw [if_neg (by omega)]; exact if_pos (by simpa using hb34)
   rw [hE]
   exact ⟨_,rfl,J,hJ,.inr ⟨show (1:Nat)≠0 by decide,rfl⟩,(((hS.drop (k:=0) rfl).drop (k:=0) rfl).drop (k:=0) rfl).drop (k:=0) rfl⟩
  have hc34:=hb34; try simp only [Y5] at hc34
  refine .seq (.q 2 rfl ?_)
  refine WC.cond rfl (fun hb39=>?_) (fun hb39=>?_)
  ·
   have hc39:=hb39; try simp only [Y5] at hc39
   refine .seq (.q 4 rfl (.ret (X8v Xks rfl rfl rfl ?_)))
   have hE:X8w l 0 []=(7,i):=by rw [hstep]; rw [if_neg (by omega)]; rw [if_neg (show ¬ Xay u=false by simpa using hb34)]; exact if_pos (by rw [hany]; rcases hlook with ⟨_,e⟩ | ⟨t,cs,e,_⟩ <;> simp_all)
   rw [hE]
   exact ⟨_,rfl,J,hJ,.inr ⟨show (7:Nat)≠0 by decide,rfl⟩,(((hS.drop (k:=0) rfl).drop (k:=0) rfl).drop (k:=0) rfl).drop (k:=0) rfl⟩
  have hc39:=hb39; try simp only [Y5] at hc39
  refine .skip (.seq ?_)
  have hur:Xay u=true:=by simpa using hb34
  have hal:=X8a hur
  refine .region ?_
  refine WL.val (.fieldAddr 2 (.of rfl) X9w rfl rfl Qs95 rfl) rfl ?_
  refine WL.val (.ld (.of rfl) hS (k:=1) rfl Tryz.isAgg95 rfl) rfl ?_
  refine .call Tryz.func150 rfl (X0 (.of rfl) X4) rfl (Xg7 ra rc u.attrs (by omega) B _ J hR _ hS) ?_
  clear hS
  rintro _ w ⟨J2,ra2,rc2,rfl,hJ2,hrc2,hR2,hS⟩
  refine WL.val (.fieldAddr 2 (.of rfl) X9w rfl rfl Qs95 rfl) rfl ?_
  refine WL.st1 hS (k:=1) rfl (.of rfl) (.of rfl) rfl Qs95 (by simp) ?_
  clear hS; intro w hS; try dsimp only [List.set] at hS
  refine .nil (.tail 7 (by kernel_rfl) (by kernel_rfl) ?_)
  replace hS:=hS.drew; generalize w.drew=w at hS ⊢
  refine .val (.move (.of rfl)) rfl (.val (.nilCheck (.of rfl)) rfl ?_)
  refine WT.val (by exact .fieldAddr 0 (.of rfl) Xnl rfl rfl Tryz.sizeOf191 rfl) rfl ?_
  refine WT.val (by exact (.ld (.of rfl) hS (k:=2) rfl Tryz.isAgg191 rfl)) rfl ?_
  refine WT.val (by exact .fieldAddr 0 (.of rfl) X9w rfl rfl Qs9 rfl) rfl ?_
  refine WT.val (by exact (.ld (.of rfl) hS (k:=1) rfl Qg9 rfl)) rfl ?_
  refine WT.val (by exact (.ldsW (cs:=[_,_,_]) (.of rfl) hS (k:=1) rfl Tryz.isAgg178 Xfp rfl)) rfl ?_
  refine .nil ?_
  show WL _ _ _ _ _ _ _
  have hno:kv.lookup u.name=none:=by
   cases h:kv.lookup u.name with
   | none=>rfl
   | some x=>rw [h] at hb39; cases hb39
  refine .mput keyS hS (k:=3) rfl (.of rfl) (.of rfl) (.of rfl) hno Tryz.underlying191 Qu9 ?_
  clear hS; intro w hS
  try dsimp only [List.set] at hS
  refine .nil (.region (.run 2 rfl ⟨⟨by omega,by omega⟩,trivial⟩ (.nil ?_)))
  refine ⟨(i+1,J2,kv ++ [(u.name,Value.agg #[S u.name,S u.pw,Value.slice ra2 u.attrs.length rc2])]),⟨rfl,rfl,rfl,rfl,rfl,trivial⟩,⟨by (try dsimp only); omega,hJ.trans hJ2,?_,?_,(hS.drop (k:=0) rfl).drop (k:=0) rfl⟩,by (try dsimp only); omega⟩
  ·show KvOf J2 _ (l.take (i+1))
   rw [Y1a,hu]
   exact (hkv.mono hJ2).snoc ⟨ra2,rc2,rfl,hrc2,hR2⟩
  ·show X8w (l.drop (i+1)) (i+1) (l.take (i+1))=_
   rw [hstep,if_neg (by omega),if_neg (by rw [hur]; decide),if_neg]
   rw [hany]
   rcases hlook with ⟨e,_⟩ | ⟨t,cs,e,e2,_⟩
   ·rw [e]; decide
   ·rw [hno] at e2; cases e2
 have hc16:=hb16; try simp only [Y5] at hc16
 refine .exit (.seq (.q 4 rfl (.ret (X8v Xks rfl rfl rfl ?_))))
 have e:i=l.length:=by omega
 subst e
 have hE:X8w l 0 []=(0,0):=by rw [← hq,Y39]; rfl
 rw [Y1b] at hkv
 rw [hE]
 obtain ⟨J2,hJ2,hA2,hS⟩:=hS.freeze (k:=0) rfl
 obtain ⟨J3,hJ3,hM3,hS⟩:=hS.freezeMap (k:=0) rfl
 exact ⟨_,rfl,J3,(hJ.trans hJ2).trans hJ3,.inl ⟨rfl,b12,rfl,b10,kv,(X46 hA2).mono hJ3,hM3,(hkv.mono hJ2).mono hJ3⟩,hS⟩
end Go.Proofs.YtfibbpgikjggfaaGreatDoor
namespace Go.Proofs.YtfibbpgikjggfaaGreatDoor
open Gk Pat
def CompT (I:Im) (l:List UInt8) (po:Option Addr) (e a:Int):Prop:=match cmp l with
 | .error (e',a')=>po=none∧e=e'∧a=a'
 | .ok Q=>∃ p,po=some p∧e=0∧a=0∧PatI I p Q l.length
theorem CompT.mono {I J:Im} {l:List UInt8} {po:Option Addr} {e a:Int} (h:CompT I l po e a) (hl:Le I J):CompT J l po e a:=by
 unfold CompT at h ⊢
 cases hq:cmp l with
 | error x=>rw [hq] at h; exact h
 | ok Q=>rw [hq] at h; obtain ⟨p,h1,h2,h3,h4⟩:=h; exact ⟨p,h1,h2,h3,h4.mono hl⟩
theorem Xbq (l:List UInt8) (B w:World) (I:Im) (As:List X9) (hS:Sat B w I As) (hl:l.length≤9223372036854775807) :
  Calls Tryz.prog 189 [S l].toArray w (Ret fun v w'=>∃ po e a J,v=.tuple #[.pointer po,I64 e,I64 a]∧Le I J∧CompT J l po e a∧Sat B w' J As):=by
 refine (Xcz l B w I As hS hl).mono fun x w' ⟨v,hx,h⟩=>⟨v,hx,?_⟩
 rcases h with ⟨e,a,J,h1,h2,h3,h4⟩ | ⟨Q,p,J,h1,h2,h3,h4,h5⟩
 ·exact ⟨none,e,a,J,h2,h3,by rw [CompT,h1]; exact ⟨rfl,rfl,rfl⟩,h4⟩
 ·exact ⟨some p,0,0,J,h2,h3,by rw [CompT,h1]; exact ⟨p,rfl,rfl,rfl,h4⟩,h5⟩
theorem Xja {l:List UInt8} {Q:List Pl} (h:cmp l=.ok Q):WF Q∧0<Q.length∧Q.length≤201∧l.length≤200:=by
 obtain ⟨hl,p,h1,h2,h3,rfl⟩:=cmp_ok h
 obtain ⟨hW,hE⟩:=Xe2 h1.ok
 have h4:=X6r p
 have h5:=h1.len
 exact ⟨hW,hE.1,by unfold X2e at h4; omega,hl⟩
theorem Xbb {l:List UInt8} {Q:List Pl} (hq:cmp l=.ok Q) (p:Addr) (s:List UInt8) (hs:s.length≤1000000) (B w:World) (I:Im) (As:List X9) (hS:Sat B w I As) (hp:PatI I p Q l.length) :
  Calls Tryz.prog 111 [.pointer (some p),S s].toArray w (Ret fun v w'=>v=.bool (mat Q s)∧Sat B w' I As):=by
 have hf:=Xja hq
 refine calls Tryz.func111 rfl Tryz.ntmps111 rfl (.seq (.q 1 rfl (.seq (.t 2 rfl (.call Tryz.func156 rfl (X0 (.of rfl) (X0 (.of rfl) X4)) rfl (Xol Q p l.length s hf.1 hf.2.1 (by omega) (by omega) hs B w I As hS hp) ?_)))))
 clear hS
 rintro _ w ⟨rfl,hS⟩
 refine .q 5 rfl (.nil (.seq (.q 2 rfl (.ret (Xe Tryz.results111 rfl ?_)))))
 exact ⟨_,rfl,rfl,hS⟩
theorem Xhq {s:Sv} {Q:List Pl} (hq:cmp s.urls=.ok Q) (a:Option Addr) (c:Nat) (p q:Addr) (n:List UInt8) (hn:n.length≤1000000) (b:Nat) (B w:World) (I:Im) (hp:PatI I p Q s.urls.length) (As:List X9) (hS:Sat B w I (blk b [S n] 9::As)) :
  Calls Tryz.prog 110 [.agg [I64 s.id,F64 s.ord,S s.urls,.bool s.login,.bool s.proxy,.bool s.back,S s.calls,.slice a s.rel.length c,.pointer (some p),.pointer (some q)].toArray,ptr b 0].toArray w (Ret fun v w'=>v=.bool (mat Q n)∧Sat B w' I (blk b [S n] 9::As)):=by
 refine calls Tryz.func110 rfl Tryz.ntmps110 rfl (.seq (.region (.boxA (cs:=[_,_,_,_,_,_,_,_,_,_]) hS (.of rfl) rfl ?_)))
 clear hS; intro b2 w hS
 refine .q 1 rfl (.nil (.seq (.region (.val (.fieldAddr 8 (.of rfl) Xgl rfl rfl Tryz.sizeOf158 rfl) rfl (.val (.ld (.of rfl) hS (k:=0) rfl Tryz.isAgg158 rfl) rfl (.val (.ld (.of rfl) hS (k:=1) rfl Qg9 rfl) rfl (.call Tryz.func111 rfl (X0 (.of rfl) (X0 (.of rfl) X4)) rfl (Xbb hq p n hn B _ I _ hS hp) ?_)))))))
 clear hS
 rintro _ w ⟨rfl,hS⟩
 refine .q 1 rfl (.nil (.ret (Xe Tryz.results110 rfl ?_)))
 exact ⟨_,rfl,rfl,hS.drop (k:=0) rfl⟩
theorem Xjm (s:Sv) (a:Option Addr) (c:Nat) (p q:Addr) (id:Int) (b:Nat) (B w:World) (I:Im) (As:List X9) (hS:Sat B w I (blk b [I64 id] 3::As)) :
  Calls Tryz.prog 113 [.agg [I64 s.id,F64 s.ord,S s.urls,.bool s.login,.bool s.proxy,.bool s.back,S s.calls,.slice a s.rel.length c,.pointer (some p),.pointer (some q)].toArray,ptr b 0].toArray w (Ret fun v w'=>v=.bool (s.id == id)∧Sat B w' I (blk b [I64 id] 3::As)):=by
 refine calls Tryz.func113 rfl Tryz.ntmps113 rfl (.seq (.region (.boxA (cs:=[_,_,_,_,_,_,_,_,_,_]) hS (.of rfl) rfl ?_)))
 clear hS; intro b2 w hS
 refine .q 1 rfl (.nil (.seq (.region ?_)))
 refine WL.val (.fieldAddr 0 (.of rfl) Xgl rfl rfl X74 rfl) rfl ?_
 refine WL.val (.fieldAddr 0 (.of rfl) Xdt rfl rfl Qs3 rfl) rfl ?_
 refine WL.val (.ld (.of rfl) hS (k:=0) rfl Qg3 rfl) rfl ?_
 refine WL.val (.ld (.of rfl) hS (k:=1) rfl Qg3 rfl) rfl ?_
 refine .q 2 rfl (.nil (.ret (Xe Tryz.results113 rfl ?_)))
 exact ⟨_,rfl,rfl,hS.drop (k:=0) rfl⟩
theorem Xiu (s t:Sv) (a ta:Option Addr) (c tc:Nat) (p q:Addr) (b:Nat) (B w:World) (I:Im) (As:List X9) (hS:Sat B w I (blk b [I64 t.id,F64 t.ord,S t.urls,.bool t.login,.bool t.proxy,.bool t.back,S t.calls,.slice ta t.rel.length tc] 59::As)) :
  Calls Tryz.prog 188 [.agg [I64 s.id,F64 s.ord,S s.urls,.bool s.login,.bool s.proxy,.bool s.back,S s.calls,.slice a s.rel.length c,.pointer (some p),.pointer (some q)].toArray,ptr b 0].toArray w (Ret fun v w'=>v=.bool (s.id == t.id)∧Sat B w' I (blk b [I64 t.id,F64 t.ord,S t.urls,.bool t.login,.bool t.proxy,.bool t.back,S t.calls,.slice ta t.rel.length tc] 59::As)):=by
 refine calls Tryz.func188 rfl Tryz.ntmps188 rfl (.seq (.region (.boxA (cs:=[_,_,_,_,_,_,_,_,_,_]) hS (.of rfl) rfl ?_)))
 clear hS; intro b2 w hS
 refine .q 1 rfl (.nil (.seq (.region (.val (.fieldAddr 0 (.of rfl) Xgl rfl rfl X74 rfl) rfl (.val (.fieldAddr 0 (.of rfl) Xdt rfl rfl Qs3 rfl) rfl (.val (.ld (.of rfl) hS (k:=0) rfl Qg3 rfl) rfl (.val (.fieldAddr 0 (.of rfl) Xdt rfl rfl Qs3 rfl) rfl (.val (.ld (.of rfl) hS (k:=1) rfl Qg3 rfl) rfl (.q 2 rfl (.nil (.ret (Xe Tryz.results188 rfl ?_))))))))))))
 exact ⟨_,rfl,rfl,hS.drop (k:=0) rfl⟩
theorem X32:Bld Tryz.prog 160 [(0,8),(8,1),(9,1)] [.int .i64 0,.float .f64 0,S [],.bool false,.bool false,.bool false,S [],.slice none 0 0,.pointer none,.pointer none]:=X2l Xgl Xfu (fun w=>by simp [go_sem])
def Xk6 (lo:List Sv) (s:Sv):Nat :=
 if 16≤lo.length then 5 else if (decide (s.id<0) || decide (8<(s.rel.length:Int)))=true then 1 else if lo.any (fun t=>t.id == s.id)=true then 7
 else if (((chk s.urls).1 != 0) || ((chk s.calls).1 != 0))=true then 8 else 0
theorem X9m (pr:Sv→Bool):∀ (l:List Sv) (i:Nat),decide (0≤X1q pr l i)=l.any pr
 | [],_=>rfl
 | s::r,i=>by
  rw [X1q,Y4m]
  cases pr s with
  | true=>simp
  | false=>simpa using X9m pr r (i+1)
theorem X47 {I:Im} {l:List UInt8} {po:Option Addr} {e a:Int} (h:CompT I l po e a):(e != 0)=((chk l).1 != 0)∧((chk l).1=0→∃ p Q,po=some p∧cmp l=.ok Q∧PatI I p Q l.length):=by
 have key:∀ e',cmp l=.error e'→(chk l).1=e'.1∧e'.1≠0:=fun e' hc=>by
  unfold cmp at hc
  unfold chk
  split at hc
  ·rename_i hl; rw [if_pos hl]; cases hc; exact ⟨rfl,by decide⟩
  ·rename_i hl
   rw [if_neg hl]
   have:=(X12 l.length l 0 [] [] [] (Ys _) rfl).1 e' hc
   rw [this.1]; exact ⟨rfl,this.2⟩
 have key2:∀ Q,cmp l=.ok Q→(chk l).1=0:=fun Q hc=>by
  unfold cmp at hc
  unfold chk
  split at hc
  ·cases hc
  ·rename_i hl
   rw [if_neg hl,(X12 l.length l 0 [] [] [] (Ys _) rfl).2 Q hc]
 unfold CompT at h
 cases hc:cmp l with
 | ok Q =>
  rw [hc] at h
  obtain ⟨p,rfl,rfl,rfl,hp⟩:=h
  rw [key2 Q hc]
  exact ⟨rfl,fun _=>⟨p,Q,rfl,rfl,hp⟩⟩
 | error x =>
  obtain ⟨e',a'⟩:=x
  rw [hc] at h
  obtain ⟨rfl,rfl,rfl⟩:=h
  obtain ⟨h1,h2⟩:=key _ hc
  rw [h1]
  exact ⟨rfl,fun h3=>absurd h3 h2⟩
theorem Xkw (s:Sv) (sa:Option Addr) (sc:Nat) (hsc:s.rel.length≤sc) (hrl:s.rel.length≤1000000) (hu:s.urls.length≤9223372036854775807) (hcl:s.calls.length≤9223372036854775807) (a:Option Addr) (cap:Nat) (lo:List Sv) (hlo:lo.length≤100000) (B w:World) (I:Im) (hr:RS I sa 1 s.rel.length (s.rel.map S)) (As:List X9) (hE:∀ w,Sat B w I As→Xcm w I a lo) (hS:Sat B w I As) :
  Calls Tryz.prog 147 [.agg [I64 s.id,F64 s.ord,S s.urls,.bool s.login,.bool s.proxy,.bool s.back,S s.calls,.slice sa s.rel.length sc].toArray,.slice a lo.length cap].toArray w (Ret fun v w'=>∃ J cs code,Le I J∧v=.tuple #[.agg (List.toArray cs),I64 ((code:Nat):Int)]∧code=Xk6 lo s∧cs.length=10∧cs.all Value.oneCell'=true∧(code=0→EntAt J s cs)∧Sat B w' J As):=by
 refine calls Tryz.func147 rfl Tryz.ntmps147 rfl (.seq (.region (.boxA (cs:=[_,_,_,_,_,_,_,_]) hS (.of rfl) rfl ?_)))
 clear hS; intro b2 w hS
 refine .allocA (cs:=[_,_,_,_,_,_,_,_,_,_]) hS Xfu rfl ?_
 clear hS; intro b4 w hS
 refine .q 1 rfl (.nil (.seq (.block (.seq (.region (.run 4 rfl ⟨⟨_,X63⟩,trivial⟩ (.nil ?_)))))))
 refine WC.cond rfl (fun hb12=>?_) (fun hb12=>?_)
 ·
  have hc12:=hb12; try simp only [Y5] at hc12
  refine .seq (.region (.val (.build (cs:=[_,_,_,_,_,_,_,_,_,_]) X6 X32 rfl) rfl (.stA hS (k:=0) rfl (.of rfl) (.of rfl) rfl X2w rfl (by simp) ?_)))
  clear hS; intro w hS; try dsimp only [List.set] at hS
  try simp only [Ym,Yc,Yg,Y9,Yl,Yo,Yf] at hS
  refine .q 1 rfl (.nil (.ret (X1j (b:=_) (cs:=[_,_,_,_,_,_,_,_,_,_]) Xhy hS (k:=0) rfl Xcb X2w rfl rfl rfl ?_)))
  refine ⟨_,rfl,I,_,5,Le.refl _,rfl,?_,rfl,rfl,fun h=>(by cases h),((hS.drop (k:=0) rfl).drop (k:=0) rfl)⟩
  unfold Xk6
  rw [if_pos (by simp only [decide_eq_true_eq] at hb12; omega)]
 have hc12:=hb12; try simp only [Y5] at hc12
 refine .seq (.region (.val (.fieldAddr 0 (.of rfl) Xdt rfl rfl Qs3 rfl) rfl (.val (.ld (.of rfl) hS (k:=1) rfl Qg3 rfl) rfl (.q 2 rfl (.gval rfl rfl (fun hg1=>(.fieldAddr 7 (.of rfl) Xdt rfl rfl Xih rfl)) rfl (.gval rfl rfl (fun hg1=>(.ld (.gd hg1 rfl) hS (k:=1) rfl Xjw rfl)) rfl (.gval rfl rfl (fun hg1=>(.lenSlice (.gd hg1 rfl) X1f)) rfl (.gval rfl rfl (fun hg1=>(.gtr (.gd hg1 rfl) (.of rfl))) rfl (.val (.por (.of rfl) (.of rfl) (.of rfl)) rfl (.q 1 rfl (.nil ?_)))))))))))
 refine WC.cond rfl (fun hb17=>?_) (fun hb17=>?_)
 ·
  have hc17:=hb17; try simp only [Y5] at hc17
  refine .seq (.region (.val (.build (cs:=[_,_,_,_,_,_,_,_,_,_]) X6 X32 rfl) rfl (.stA hS (k:=0) rfl (.of rfl) (.of rfl) rfl X2w rfl (by simp) ?_)))
  clear hS; intro w hS; try dsimp only [List.set] at hS
  try simp only [Ym,Yc,Yg,Y9,Yl,Yo,Yf] at hS
  refine .q 1 rfl (.nil (.ret (X1j (b:=_) (cs:=[_,_,_,_,_,_,_,_,_,_]) Xhy hS (k:=0) rfl Xcb X2w rfl rfl rfl ?_)))
  refine ⟨_,rfl,I,_,1,Le.refl _,rfl,?_,rfl,rfl,fun h=>(by cases h),((hS.drop (k:=0) rfl).drop (k:=0) rfl)⟩
  unfold Xk6
  rw [if_neg (by simp only [decide_eq_false_iff_not] at hb12; omega),if_pos hb17]
 have hc17:=hb17; try simp only [Y5] at hc17
 refine .seq ?_
 replace hS:=hS.pick 1 rfl
 try dsimp only [List.eraseIdx] at hS
 refine .t 1 rfl (.val (.makeFunc (X0 (.of rfl) X4)) rfl ?_)
 refine WL.call Tryz.func187 rfl (X0 (.of rfl) (X0 (.of rfl) X4)) rfl (X6z a cap lo hlo (fun t=>t.id == s.id) 188 _ Tryz.func188 rfl [ptr b2 0] B _ I (blk b2 [I64 s.id,F64 s.ord,S s.urls,.bool s.login,.bool s.proxy,.bool s.back,S s.calls,.slice sa s.rel.length sc] 59::blk b4 [I64 0,F64 0,S [],.bool false,.bool false,.bool false,S [],.slice none 0 0,.pointer none,.pointer none] 160::As) (fun w h=>hE w ((h.drop (k:=0) rfl).drop (k:=0) rfl)) (fun t c ht w h=>by
  obtain ⟨ta,tc,tp,tq,_,_,rfl,_⟩:=ht
  exact Xiu t s ta sa tc sc tp tq b2 B w I _ h) hS) ?_
 clear hS
 rintro _ w ⟨rfl,hS⟩
 rw [X9m]
 refine .q 1 rfl (.nil ?_)
 refine WC.cond rfl (fun hb28=>?_) (fun hb28=>?_)
 ·
  have hc28:=hb28; try simp only [Y5] at hc28
  refine .seq (.region (.val (.build (cs:=[_,_,_,_,_,_,_,_,_,_]) X6 X32 rfl) rfl (.stA hS (k:=1) rfl (.of rfl) (.of rfl) rfl X2w rfl (by simp) ?_)))
  clear hS; intro w hS; try dsimp only [List.set] at hS
  try simp only [Ym,Yc,Yg,Y9,Yl,Yo,Yf] at hS
  refine .q 1 rfl (.nil (.ret (X1j (b:=_) (cs:=[_,_,_,_,_,_,_,_,_,_]) Xhy hS (k:=1) rfl Xcb X2w rfl rfl rfl ?_)))
  refine ⟨_,rfl,I,_,7,Le.refl _,rfl,?_,rfl,rfl,fun h=>(by cases h),((hS.drop (k:=0) rfl).drop (k:=0) rfl)⟩
  unfold Xk6
  rw [if_neg (by simp only [decide_eq_false_iff_not] at hb12; omega),if_neg (by rw [hb17]; decide),if_pos hb28]
 have hc28:=hb28; try simp only [Y5] at hc28
 refine .skip (.seq (.region (.val (.fieldAddr 2 (.of rfl) Xdt rfl rfl Qs9 rfl) rfl (.val (.ld (.of rfl) hS (k:=0) rfl Qg9 rfl) rfl (.call Tryz.func189 rfl (X0 (.of rfl) X4) rfl (Xbq s.urls B _ I _ hS hu) ?_)))))
 clear hS
 rintro _ w ⟨po,e1,a1,J1,rfl,hJ1,hc1,hS⟩
 refine .q 7 rfl (.nil (.seq (.region (.val (.fieldAddr 6 (.of rfl) Xdt rfl rfl Qs9 rfl) rfl (.val (.ld (.of rfl) hS (k:=0) rfl Qg9 rfl) rfl (.call Tryz.func189 rfl (X0 (.of rfl) X4) rfl (Xbq s.calls B _ J1 _ hS hcl) ?_))))))
 clear hS
 rintro _ w ⟨qo,e2,a2,J2,rfl,hJ2,hc2,hS⟩
 refine .q 7 rfl (.nil (.seq (.seq (.t 3 rfl (.gval rfl rfl (fun hg1=>(.move (.of rfl))) rfl (.gval rfl rfl (fun hg1=>(.neq (.gd hg1 rfl) (.of rfl))) rfl (.val (.por (.of rfl) (.of rfl) (.of rfl)) rfl (.nil ?_))))))))
 refine WC.cond rfl (fun hb52=>?_) (fun hb52=>?_)
 ·
  have hc52:=hb52; try simp only [Y5] at hc52
  refine .seq (.region (.val (.build (cs:=[_,_,_,_,_,_,_,_,_,_]) X6 X32 rfl) rfl (.stA hS (k:=1) rfl (.of rfl) (.of rfl) rfl X2w rfl (by simp) ?_)))
  clear hS; intro w hS; try dsimp only [List.set] at hS
  try simp only [Ym,Yc,Yg,Y9,Yl,Yo,Yf] at hS
  refine .q 1 rfl (.nil (.ret (X1j (b:=_) (cs:=[_,_,_,_,_,_,_,_,_,_]) Xhy hS (k:=1) rfl Xcb X2w rfl rfl rfl ?_)))
  refine ⟨_,rfl,J2,_,8,Le.trans hJ1 hJ2,rfl,?_,rfl,rfl,fun h=>(by cases h),((hS.drop (k:=0) rfl).drop (k:=0) rfl)⟩
  have hk:=hb52
  rw [(X47 hc1).1,(X47 hc2).1] at hk
  unfold Xk6
  rw [if_neg (by simp only [decide_eq_false_iff_not] at hb12; omega),if_neg (by rw [hb17]; decide),if_neg (by rw [hb28]; decide),if_pos hk]
 have hc52:=hb52; try simp only [Y5] at hc52
 refine .skip (.seq (.region (.val (.fieldAddr 7 (.of rfl) Xdt rfl rfl Xih rfl) rfl (.val (.ld (.of rfl) hS (k:=0) rfl Xjw rfl) rfl (.call Tryz.func157 rfl (X0 (.of rfl) X4) rfl (Xbh sa sc s.rel hrl B _ J2 ((hr.mono hJ1).mono hJ2) _ hS) ?_)))))
 clear hS
 rintro _ w ⟨J3,ra,rc,rfl,hJ3,hrc,hrr,hS⟩
 refine .val (.fieldAddr 7 (.of rfl) Xdt rfl rfl Xih rfl) rfl (.st1 hS (k:=0) rfl (.of rfl) (.of rfl) rfl Xih (by simp) ?_)
 clear hS; intro w hS; try dsimp only [List.set] at hS
 refine .nil (.seq (.region (.val (.ldsW (cs:=[_,_,_,_,_,_,_,_]) (.of rfl) hS (k:=0) rfl Xjs X74 rfl) rfl (.q 2 rfl (.val (.build (cs:=[_,_,_,_,_,_,_,_,_,_]) (X5 (.of rfl) (X5 (.of rfl) (X5 (.of rfl) X6))) X32 rfl) rfl (.stA hS (k:=1) rfl (.of rfl) (.of rfl) rfl X2w rfl (by simp) ?_))))))
 clear hS; intro w hS; try dsimp only [List.set] at hS
 try simp only [Ym,Yc,Yg,Y9,Yl,Yo,Yf] at hS
 refine .q 1 rfl (.nil (.ret (X1j (b:=_) (cs:=[_,_,_,_,_,_,_,_,_,_]) Xhy hS (k:=1) rfl Xcb X2w rfl rfl rfl ?_)))
 have hk:=hb52
 rw [(X47 hc1).1,(X47 hc2).1] at hk
 obtain ⟨k1,k2⟩:=Y1g.1 hk
 simp only [bne_eq_false_iff_eq] at k1 k2
 obtain ⟨p,Q,rfl,hq,hp⟩:=(X47 hc1).2 k1
 obtain ⟨q,T,rfl,hq2,hp2⟩:=(X47 hc2).2 k2
 refine ⟨_,rfl,J3,X11 s ra rc p q,0,Le.trans hJ1 (Le.trans hJ2 hJ3),rfl,?_,rfl,rfl,fun _=>⟨ra,rc,p,q,Q,T,rfl,hrc,hrr,hq,hp.mono (Le.trans hJ2 hJ3),hq2,hp2.mono hJ3⟩,((hS.drop (k:=0) rfl).drop (k:=0) rfl)⟩
 unfold Xk6
 rw [if_neg (by simp only [decide_eq_false_iff_not] at hb12; omega),if_neg (by rw [hb17]; decide),if_neg (by rw [hb28]; decide),if_neg (by rw [hk]; decide)]
def RegAt (I:Im) (pr:Addr) (lo:List Sv):Prop:=∃ a c E,At I pr [.slice a lo.length c]∧lo.length≤c∧EntsIn I a E lo
theorem EntsIn.mono {I J:Im} {a:Option Addr} {E:List (List Value)} {l:List Sv} (h:EntsIn I a E l) (hl:Le I J):EntsIn J a E l:=⟨h.1,fun i s hs=>by
 obtain ⟨p,c,e,h0,h1,ra,rc,pp,qq,Q,T,e2,h2,h3,h4,h5,h6,h7⟩:=h.2 i s hs
 exact ⟨p,c,e,h0,h1.mono hl,ra,rc,pp,qq,Q,T,e2,h2,h3.mono hl,h4,h5.mono hl,h6,h7.mono hl⟩⟩
def RowsOf (J:Im) (C:List (List Value)) (l:List Sv):Prop:=C.length=l.length∧∀ (i:Nat) (s:Sv),l[i]?=some s→∃ c,C[i]?=some c∧SvAt J s c
theorem RowsOf.mono {J K:Im} {C:List (List Value)} {l:List Sv} (h:RowsOf J C l) (hl:Le J K):RowsOf K C l:=⟨h.1,fun i s hs=>by
 obtain ⟨c,h1,h2⟩:=h.2 i s hs
 exact ⟨c,h1,h2.mono hl⟩⟩
theorem RowsOf.snoc {J:Im} {C:List (List Value)} {l:List Sv} {s:Sv} {c:List Value} (h:RowsOf J C l) (hs:SvAt J s c):RowsOf J (C ++ [c]) (l ++ [s]):=⟨by simp [h.1],fun i t ht=>by
 rcases Yv i l.length with hi | hi
 ·rw [Yi hi] at ht
  obtain ⟨d,h1,h2⟩:=h.2 i t ht
  exact ⟨d,by rw [Yi (by rw [h.1]; exact hi)]; exact h1,h2⟩
 ·rw [Yt hi] at ht
  have hi0:i - l.length=0:=by have:=(Y4.1 ht).1; simp at this; omega
  rw [hi0] at ht
  cases ht
  exact ⟨c,by rw [Yt (by rw [h.1]; exact hi),h.1,hi0]; rfl,hs⟩⟩
theorem X6h:Tryz.prog.info? 27=some Tryz.t27:=by kernel_rfl
theorem X3m:Tryz.prog.info? 160=some Tryz.t160:=by kernel_rfl
theorem Xgx:Bld Tryz.prog 162 [(0,1)] [.slice none 0 0]:=X2l Xdv Tryz.zeroValue162 (fun w=>by simp [go_sem])
theorem bad_le {l:List Sv} {i:Nat} (h:∀ (j:Nat) t,j<i→l[j]?=some t→bad l j t=0) (hi:i≤l.length):i≤16:=by
 rcases Yv 16 i with h1 | h1
 ·have:=h 16 _ h1 (Y7 (by omega))
  unfold bad at this
  rw [if_pos rfl] at this
  cases this
 ·exact h1
theorem Xex {l:List Sv} {i:Nat} {s:Sv} (hi:i≤16) (hl:i≤l.length):Xk6 (l.take i) s=bad l i s:=by
 unfold Xk6 bad
 rw [Yq,Y31 hl]
 by_cases h:i=16
 ·rw [if_pos (by omega),if_pos h]
 ·rw [if_neg (by omega),if_neg h]
theorem made_n (s:Sv) (sa:Option Addr) (sc:Nat) (hsc:s.rel.length≤sc) (hrl:s.rel.length≤1000000) (hu:s.urls.length≤9223372036854775807) (hcl:s.calls.length≤9223372036854775807) (a:Option Addr) (cap:Nat) (lo:List Sv) (n:Nat) (hn:lo.length=n) (hlo:n≤100000) (B w:World) (I:Im) (hr:RS I sa 1 s.rel.length (s.rel.map S)) (As:List X9) (hE:∀ w,Sat B w I As→Xcm w I a lo) (hS:Sat B w I As) :
  Calls Tryz.prog 147 [.agg [I64 s.id,F64 s.ord,S s.urls,.bool s.login,.bool s.proxy,.bool s.back,S s.calls,.slice sa s.rel.length sc].toArray,.slice a n cap].toArray w (Ret fun v w'=>∃ J cs code,Le I J∧v=.tuple #[.agg (List.toArray cs),I64 ((code:Nat):Int)]∧code=Xk6 lo s∧cs.length=10∧cs.all Value.oneCell'=true∧(code=0→EntAt J s cs)∧Sat B w' J As):=by
 subst hn
 exact Xkw s sa sc hsc hrl hu hcl a cap lo hlo B w I hr As hE hS
theorem ents_n {B w:World} {I:Im} {As:List X9} {k T cap n:Nat} {a:Option Addr} {E:List (List Value)} {l:List Sv} (hS:Sat B w I As) (hn:l.length=n) (hk:As[k]?=some (Vec T 10 (.slice a n cap) n E.flatten)) (h10:∀ c∈E,c.length=10)
  (hE:∀ (i:Nat) (s:Sv),l[i]?=some s→∃ c,E[i]?=some c∧EntAt I s c):Xcm w I a l:=by
 subst hn
 exact Xkc hS hk h10 hE
theorem EntAt.mono {I J:Im} {s:Sv} {l:List Value} (h:EntAt I s l) (hl:Le I J):EntAt J s l:=by
 obtain ⟨ra,rc,pp,qq,Q,T,e2,h2,h3,h4,h5,h6,h7⟩:=h
 exact ⟨ra,rc,pp,qq,Q,T,e2,h2,h3.mono hl,h4,h5.mono hl,h6,h7.mono hl⟩
theorem EntAt.len {I:Im} {s:Sv} {l:List Value} (h:EntAt I s l):l.length=10:=by
 obtain ⟨ra,rc,pp,qq,Q,T,rfl,_⟩:=h
 rfl
def X4t (l:List Sv) (D:List Int):List Sv:=D.map fun d=>l.getD d.toNat z0
theorem Xoq (a:Option Addr) (cap:Nat) (l:List Sv) (hln:l.length≤100000) (hom:∀ v∈ords l,v<18446744073709551616) (hfit:∀ s∈l,s.urls.length≤9223372036854775807∧s.calls.length≤9223372036854775807∧s.rel.length≤1000000) (B w:World) (I:Im) (hl:SvsAt I a l) (As:List X9) (hS:Sat B w I As) :
  Calls Tryz.prog 102 [.slice a l.length cap].toArray w (Ret fun v w'=>∃ J,Le I J∧Sat B w' J As∧(((X5i l).1≠0∧v=.tuple #[.pointer none,I64 ((X5i l).1:Nat),I64 ((X5i l).2:Nat)])∨((X5i l).1=0∧∃ pr D,v=.tuple #[.pointer (some pr),I64 0,I64 0]∧Srt.Ord (kx (ords l)) l.length D∧RegAt J pr (X4t l D)))):=by
 refine calls Tryz.func102 rfl Tryz.ntmps102 rfl (.seq (.q 3 rfl (.seq (.q 1 rfl (.seq (.q 1 rfl (.seq (.seq (.region (.run 3 rfl ⟨⟨_,Qu22⟩,trivial⟩ (.nil (.block ?_))))))))))))
 replace hS:=hS.vecNil 27 1
 replace hS:=hS.vecNil 160 10
 refine .loop (σ:=Nat×Im×Value×Value×List (List Value)) (fun ⟨i,J,ev,ov,E⟩=>[(5,ev),(6,ov),(14,.slice a l.length cap),(15,I64 (l.length:Nat)),(16,I64 (i:Nat))]) (fun ⟨i,J,ev,ov,E⟩ w=>i≤l.length∧Le I J∧E.length=i∧(∀ c∈E,c.length=10)∧(∀ (j:Nat) (s:Sv),(l.take i)[j]?=some s→∃ c,E[j]?=some c∧EntAt J s c)∧(∀ (j:Nat) (t:Sv),j<i→l[j]?=some t→bad l j t=0)∧Sat B w J (Vec 160 10 ev i E.flatten::Vec 27 1 ov i (((ords l).take i).map F64)::As)) (fun ⟨i,J,ev,ov,E⟩=>l.length - i) (0,I,.slice none 0 0,.slice none 0 0,[]) ⟨rfl,rfl,rfl,rfl,rfl,trivial⟩ ⟨Yp _,Le.refl _,rfl,fun _ h=>(by simp at h),fun _ _ h=>(by simp at h),fun _ _ h=>absurd h (by omega),hS⟩ ?_
 rintro ⟨i,J,ev,ov,E⟩ w ⟨hi,hJ,hEl,h10,hEE,hok,hS⟩
 change WC _ _ _ _ [(5,ev),(6,ov),(14,.slice a l.length cap),(15,I64 (l.length:Nat)),(16,I64 (i:Nat))] w
 refine .seq (.q 1 rfl (.seq ?_))
 refine WC.cond rfl (fun hb17=>?_) (fun hb17=>?_)
 ·
  have hc17:=hb17; try simp only [Y5] at hc17
  refine .skip (.seq (.block (.seq ?_)))
  obtain ⟨s,hs⟩:∃ s,l[i]?=some s:=⟨_,Y7 (by omega)⟩
  obtain ⟨p,ra,rc,rfl,hx,hrc,hr⟩:=(hl.mono hJ) i s hs
  unfold X2v at hx
  have hi16:=bad_le hok hi
  have hsm:=hfit s (Yr hs)
  have hln:(l.take i).length=i:=by rw [Yq]; omega
  have hnx:((ords l).take (i+1)).map F64=((ords l).take i).map F64 ++ [F64 s.ord]:=by
   rw [Y1a,ords,Yx,hs,Yy]; rfl
  have htn:l.take (i+1)=l.take i ++ [s]:=by rw [Y1a,hs]; rfl
  obtain ⟨ea,ec,rfl,hec,_⟩:=hS.vecSlice (k:=0) rfl
  obtain ⟨oa,oc,rfl,hoc,_⟩:=hS.vecSlice (k:=1) rfl
  refine .t 1 rfl (.val (.indexAddrI (.of rfl) (.of rfl) (by omega) (by omega) Qu22 X74) rfl (.val (.ldsI (.of rfl) hS hx Xjs X74 rfl (fun _ _ h=>h)) rfl (.allocA (cs:=[_,_,_,_,_,_,_,_]) hS Xmt rfl ?_)))
  clear hS; intro b8 w hS
  refine .q 1 rfl (.stA hS (k:=0) rfl (.of rfl) (.of rfl) rfl X74 rfl (by simp) ?_)
  clear hS; intro w hS; try dsimp only [List.set] at hS
  try simp only [Ym,Yc,Yg,Y9,Yl,Yo,Yf] at hS
  refine .nil (.seq (.region (.val (.ldsW (cs:=[_,_,_,_,_,_,_,_]) (.of rfl) hS (k:=0) rfl Xjs X74 rfl) rfl (.q 1 rfl (.call Tryz.func147 rfl (X0 (.of rfl) (X0 (.of rfl) X4)) rfl (made_n s ra rc hrc hsm.2.2 hsm.1 hsm.2.1 ea ec (l.take i) i hln (by omega) B _ J hr _ (fun w h=>ents_n h hln (k:=1) rfl h10 hEE) hS) ?_)))))
  clear hS
  rintro _ w ⟨J2,cs,code,hJ2,rfl,hcode,hcs10,hall,hent,hS⟩
  refine .q 3 rfl (.allocA (cs:=[_,_,_,_,_,_,_,_,_,_]) hS Xfu rfl ?_)
  clear hS; intro b9 w hS
  refine .stA hS (k:=0) rfl (.of rfl) (.of rfl) hall X2w hcs10 (by simp) ?_
  clear hS; intro w hS; try dsimp only [List.set] at hS
  try simp only [Ym,Yc,Yg,Y9,Yl,Yo,Yf] at hS
  refine .q 1 rfl (.nil (.seq (.seq (.q 2 rfl ?_))))
  refine WC.cond rfl (fun hb28=>?_) (fun hb28=>?_)
  ·
   have hc28:=hb28; try simp only [Y5] at hc28
   refine .seq (.q 5 rfl (.ret (X8v Tryz.results102 rfl rfl rfl ?_)))
   have hb2:=Xex (l:=l) (i:=i) (s:=s) hi16 (by omega)
   have hbn:bad l i s≠0:=by rw [← hb2,← hcode]; omega
   have hw:=Xjk hok hs hbn
   refine ⟨_,rfl,J2,Le.trans hJ hJ2,(((hS.drop (k:=0) rfl).drop (k:=0) rfl).drop (k:=0) rfl).drop (k:=0) rfl,.inl ⟨by rw [hw]; exact hbn,?_⟩⟩
   rw [hw,hcode,hb2]
   rfl
  have hc28:=hb28; try simp only [Y5] at hc28
  refine .skip ?_
  have hcode0:code=0:=by omega
  obtain ⟨sa,sc,pp,qq,Q,T,rfl,hsc,hent⟩:=hent hcode0
  have hent2:EntAt J2 s (X11 s sa sc pp qq):=⟨sa,sc,pp,qq,Q,T,rfl,hsc,hent⟩
  have hbad0:bad l i s=0:=by rw [← Xex (l:=l) (i:=i) hi16 (by omega),← hcode,hcode0]
  unfold X11 at hS
  refine .drawn (fun w=>∃ R,Sat B w J2 (blk b9 [I64 s.id,F64 s.ord,S s.urls,.bool s.login,.bool s.proxy,.bool s.back,S s.calls,.slice sa s.rel.length sc,.pointer (some pp),.pointer (some qq)] 160::blk b8 [I64 s.id,F64 s.ord,S s.urls,.bool s.login,.bool s.proxy,.bool s.back,S s.calls,.slice ra s.rel.length rc] 59::R)) (fun j=>!([].contains j)) (by kernel_rfl) ?_
  replace hS:=hS.drew; generalize w.drew=w at hS ⊢
  have hH:∃ R,Sat B w J2 (blk b9 [I64 s.id,F64 s.ord,S s.urls,.bool s.login,.bool s.proxy,.bool s.back,S s.calls,.slice sa s.rel.length sc,.pointer (some pp),.pointer (some qq)] 160::blk b8 [I64 s.id,F64 s.ord,S s.urls,.bool s.login,.bool s.proxy,.bool s.back,S s.calls,.slice ra s.rel.length rc] 59::R):=⟨_,((hS.pick 1 rfl).pick 1 rfl)⟩
  refine .tp (i:=0) rfl (by kernel_rfl) (fun w=>(.move (.of rfl))) rfl (.tk (i:=1) rfl (by kernel_rfl) hH (fun w ⟨R,hS⟩=>(.ldsW (cs:=[_,_,_,_,_,_,_,_,_,_]) (.of rfl) hS (k:=0) rfl Xcb X2w rfl)) rfl (.tp (i:=4) rfl (by kernel_rfl) (fun w=>(.move (.of rfl))) rfl (.tp (i:=5) rfl (by kernel_rfl) (fun w=>(.fieldAddr 1 (.of rfl) Xdt rfl rfl Qs27 rfl)) rfl (.tk (i:=6) rfl (by kernel_rfl) hH (fun w ⟨R,hS⟩=>(.ld (.of rfl) hS (k:=1) rfl Tryz.isAgg27 rfl)) rfl ?_))))
  refine WD.branch [2,7] (by kernel_rfl) rfl (WO.cons rfl ?_ (WO.cons rfl ?_ (WO.nil)))
  ·
   refine .buildSlice (cs:=[_,_,_,_,_,_,_,_,_,_]) hS (X5 (.of rfl) X6) X63 X2w Xfu rfl rfl rfl rfl ?_
   clear hS; intro b33 w hS
   refine .nil ?_
   clear hH
   have hH:∃ R,Sat B w J2 (blk b9 [I64 s.id,F64 s.ord,S s.urls,.bool s.login,.bool s.proxy,.bool s.back,S s.calls,.slice sa s.rel.length sc,.pointer (some pp),.pointer (some qq)] 160::blk b8 [I64 s.id,F64 s.ord,S s.urls,.bool s.login,.bool s.proxy,.bool s.back,S s.calls,.slice ra s.rel.length rc] 59::R):=⟨_,((hS.pick 2 rfl).pick 2 rfl)⟩
   refine And.intro (by intro _ _; exact hH) ?_
   refine WD.branch [3,7] (by kernel_rfl) rfl (WO.cons rfl ?_ (WO.cons rfl ?_ (WO.nil)))
   ·
    refine WL.append (size:=10) (bytes:=96) hS (.of rfl) (.of rfl) (k:=2) rfl X63 X3m rfl rfl rfl rfl rfl rfl rfl ⟨by omega,by unfold maxLen; omega⟩ rfl ?_
    clear hS; intro v34 w hS; try dsimp only [List.set] at hS
    obtain ⟨a34,c34,rfl,hcap34,_⟩:=hS.vecSlice (k:=2) (v:=v34) rfl
    refine .nil ?_
    clear hH
    have hH:∃ R,Sat B w J2 (blk b9 [I64 s.id,F64 s.ord,S s.urls,.bool s.login,.bool s.proxy,.bool s.back,S s.calls,.slice sa s.rel.length sc,.pointer (some pp),.pointer (some qq)] 160::blk b8 [I64 s.id,F64 s.ord,S s.urls,.bool s.login,.bool s.proxy,.bool s.back,S s.calls,.slice ra s.rel.length rc] 59::R):=⟨_,((hS.pick 1 rfl).pick 1 rfl)⟩
    refine And.intro (by intro _ _; exact hH) ?_
    refine WD.branch [7] (by kernel_rfl) rfl (WO.cons rfl ?_ (WO.nil))
    refine .buildSlice (cs:=[_]) hS (X5 (.of rfl) X6) Xaf Qs27 Qz27 rfl rfl rfl rfl ?_
    clear hS; intro b38 w hS
    refine .nil ?_
    clear hH
    have hH:∃ R,Sat B w J2 (blk b9 [I64 s.id,F64 s.ord,S s.urls,.bool s.login,.bool s.proxy,.bool s.back,S s.calls,.slice sa s.rel.length sc,.pointer (some pp),.pointer (some qq)] 160::blk b8 [I64 s.id,F64 s.ord,S s.urls,.bool s.login,.bool s.proxy,.bool s.back,S s.calls,.slice ra s.rel.length rc] 59::R):=⟨_,((hS.pick 2 rfl).pick 2 rfl)⟩
    refine And.intro (by intro _ _; exact hH) ?_
    refine WD.branch [8] (by kernel_rfl) rfl (WO.cons rfl ?_ (WO.nil))
    refine WL.append (size:=1) (bytes:=8) hS (.of rfl) (.of rfl) (k:=3) rfl Xaf X6h rfl rfl rfl rfl rfl rfl rfl ⟨by omega,by unfold maxLen; omega⟩ rfl ?_
    clear hS; intro v39 w hS; try dsimp only [List.set] at hS
    obtain ⟨a39,c39,rfl,hcap39,_⟩:=hS.vecSlice (k:=3) (v:=v39) rfl
    refine .nil ?_
    clear hH
    have hH:∃ R,Sat B w J2 (blk b9 [I64 s.id,F64 s.ord,S s.urls,.bool s.login,.bool s.proxy,.bool s.back,S s.calls,.slice sa s.rel.length sc,.pointer (some pp),.pointer (some qq)] 160::blk b8 [I64 s.id,F64 s.ord,S s.urls,.bool s.login,.bool s.proxy,.bool s.back,S s.calls,.slice ra s.rel.length rc] 59::R):=⟨_,((hS.pick 1 rfl).pick 1 rfl)⟩
    refine And.intro (by intro _ _; exact hH) ?_
    refine .tp (i:=9) rfl (by kernel_rfl) (fun w=>(.assign (.of rfl))) rfl (.tp (i:=10) rfl (by kernel_rfl) (fun w=>(.assign (.of rfl))) rfl (.done (by kernel_rfl) (.region (.run 2 rfl ⟨⟨by omega,by omega⟩,trivial⟩ (.nil ?_)))))
    have hfin:=((hS.drop (k:=0) rfl).drop (k:=0) rfl)
    refine ⟨(i+1,J2,.slice a34 (i+1) c34,.slice a39 (i+1) c39,E ++ [X11 s sa sc pp qq]),⟨rfl,rfl,rfl,rfl,rfl,trivial⟩,⟨by (try dsimp only); omega,Le.trans hJ hJ2,by (try dsimp only); rw [Y0,hEl]; rfl,fun c hc=>?_,fun j u hu=>?_,fun j u hj hu=>?_,?_⟩,by (try dsimp only); omega⟩
    ·rcases Y12.1 hc with h | h
     ·exact h10 c h
     ·simp at h; subst h; rfl
    ·(try dsimp only at hu)
     rw [htn] at hu
     rcases Yv j i with h1 | h1
     ·rw [Yi (by omega)] at hu
      obtain ⟨c,e1,e2⟩:=hEE j u hu
      exact ⟨c,by rw [Yi (by omega)]; exact e1,e2.mono hJ2⟩
     ·rw [Yt (by omega),hln] at hu
      have hj0:j - i=0:=by have:=(Y4.1 hu).1; simp at this; omega
      rw [hj0] at hu
      cases hu
      exact ⟨_,by rw [Yt (by omega),hEl,hj0]; rfl,hent2⟩
    ·rcases Yv j i with h1 | h1
     ·exact hok j u h1 hu
     ·have e:j=i:=by (try dsimp only at hj); omega
      subst e
      rw [hs] at hu; cases hu
      exact hbad0
    ·(try dsimp only)
     rw [hnx,Y21]
     simpa [X11] using hfin
   ·
    refine .buildSlice (cs:=[_]) hS (X5 (.of rfl) X6) Xaf Qs27 Qz27 rfl rfl rfl rfl ?_
    clear hS; intro b38 w hS
    refine .nil ?_
    clear hH
    have hH:∃ R,Sat B w J2 (blk b9 [I64 s.id,F64 s.ord,S s.urls,.bool s.login,.bool s.proxy,.bool s.back,S s.calls,.slice sa s.rel.length sc,.pointer (some pp),.pointer (some qq)] 160::blk b8 [I64 s.id,F64 s.ord,S s.urls,.bool s.login,.bool s.proxy,.bool s.back,S s.calls,.slice ra s.rel.length rc] 59::R):=⟨_,((hS.pick 3 rfl).pick 3 rfl)⟩
    refine And.intro (by intro _ _; exact hH) ?_
    refine WD.branch [3] (by kernel_rfl) rfl (WO.cons rfl ?_ (WO.nil))
    replace hS:=hS.pick 1 rfl; try dsimp only [List.eraseIdx] at hS
    refine WL.append (size:=10) (bytes:=96) hS (.of rfl) (.of rfl) (k:=3) rfl X63 X3m rfl rfl rfl rfl rfl rfl rfl ⟨by omega,by unfold maxLen; omega⟩ rfl ?_
    clear hS; intro v34 w hS; try dsimp only [List.set] at hS
    obtain ⟨a34,c34,rfl,hcap34,_⟩:=hS.vecSlice (k:=3) (v:=v34) rfl
    refine .nil ?_
    clear hH
    have hH:∃ R,Sat B w J2 (blk b9 [I64 s.id,F64 s.ord,S s.urls,.bool s.login,.bool s.proxy,.bool s.back,S s.calls,.slice sa s.rel.length sc,.pointer (some pp),.pointer (some qq)] 160::blk b8 [I64 s.id,F64 s.ord,S s.urls,.bool s.login,.bool s.proxy,.bool s.back,S s.calls,.slice ra s.rel.length rc] 59::R):=⟨_,((hS.pick 2 rfl).pick 2 rfl)⟩
    refine And.intro (by intro _ _; exact hH) ?_
    refine WD.branch [8] (by kernel_rfl) rfl (WO.cons rfl ?_ (WO.nil))
    refine WL.append (size:=1) (bytes:=8) hS (.of rfl) (.of rfl) (k:=3) rfl Xaf X6h rfl rfl rfl rfl rfl rfl rfl ⟨by omega,by unfold maxLen; omega⟩ rfl ?_
    clear hS; intro v39 w hS; try dsimp only [List.set] at hS
    obtain ⟨a39,c39,rfl,hcap39,_⟩:=hS.vecSlice (k:=3) (v:=v39) rfl
    refine .nil ?_
    clear hH
    have hH:∃ R,Sat B w J2 (blk b9 [I64 s.id,F64 s.ord,S s.urls,.bool s.login,.bool s.proxy,.bool s.back,S s.calls,.slice sa s.rel.length sc,.pointer (some pp),.pointer (some qq)] 160::blk b8 [I64 s.id,F64 s.ord,S s.urls,.bool s.login,.bool s.proxy,.bool s.back,S s.calls,.slice ra s.rel.length rc] 59::R):=⟨_,((hS.pick 1 rfl).pick 1 rfl)⟩
    refine And.intro (by intro _ _; exact hH) ?_
    refine .tp (i:=9) rfl (by kernel_rfl) (fun w=>(.assign (.of rfl))) rfl (.tp (i:=10) rfl (by kernel_rfl) (fun w=>(.assign (.of rfl))) rfl (.done (by kernel_rfl) (.region (.run 2 rfl ⟨⟨by omega,by omega⟩,trivial⟩ (.nil ?_)))))
    have hfin:=((hS.drop (k:=0) rfl).drop (k:=0) rfl)
    refine ⟨(i+1,J2,.slice a34 (i+1) c34,.slice a39 (i+1) c39,E ++ [X11 s sa sc pp qq]),⟨rfl,rfl,rfl,rfl,rfl,trivial⟩,⟨by (try dsimp only); omega,Le.trans hJ hJ2,by (try dsimp only); rw [Y0,hEl]; rfl,fun c hc=>?_,fun j u hu=>?_,fun j u hj hu=>?_,?_⟩,by (try dsimp only); omega⟩
    ·rcases Y12.1 hc with h | h
     ·exact h10 c h
     ·simp at h; subst h; rfl
    ·(try dsimp only at hu)
     rw [htn] at hu
     rcases Yv j i with h1 | h1
     ·rw [Yi (by omega)] at hu
      obtain ⟨c,e1,e2⟩:=hEE j u hu
      exact ⟨c,by rw [Yi (by omega)]; exact e1,e2.mono hJ2⟩
     ·rw [Yt (by omega),hln] at hu
      have hj0:j - i=0:=by have:=(Y4.1 hu).1; simp at this; omega
      rw [hj0] at hu
      cases hu
      exact ⟨_,by rw [Yt (by omega),hEl,hj0]; rfl,hent2⟩
    ·rcases Yv j i with h1 | h1
     ·exact hok j u h1 hu
     ·have e:j=i:=by (try dsimp only at hj); omega
      subst e
      rw [hs] at hu; cases hu
      exact hbad0
    ·(try dsimp only)
     rw [hnx,Y21]
     simpa [X11] using hfin
  ·
   refine .buildSlice (cs:=[_]) hS (X5 (.of rfl) X6) Xaf Qs27 Qz27 rfl rfl rfl rfl ?_
   clear hS; intro b38 w hS
   refine .nil ?_
   clear hH
   have hH:∃ R,Sat B w J2 (blk b9 [I64 s.id,F64 s.ord,S s.urls,.bool s.login,.bool s.proxy,.bool s.back,S s.calls,.slice sa s.rel.length sc,.pointer (some pp),.pointer (some qq)] 160::blk b8 [I64 s.id,F64 s.ord,S s.urls,.bool s.login,.bool s.proxy,.bool s.back,S s.calls,.slice ra s.rel.length rc] 59::R):=⟨_,((hS.pick 2 rfl).pick 2 rfl)⟩
   refine And.intro (by intro _ _; exact hH) ?_
   refine WD.branch [2] (by kernel_rfl) rfl (WO.cons rfl ?_ (WO.nil))
   refine .buildSlice (cs:=[_,_,_,_,_,_,_,_,_,_]) hS (X5 (.of rfl) X6) X63 X2w Xfu rfl rfl rfl rfl ?_
   clear hS; intro b33 w hS
   refine .nil ?_
   clear hH
   have hH:∃ R,Sat B w J2 (blk b9 [I64 s.id,F64 s.ord,S s.urls,.bool s.login,.bool s.proxy,.bool s.back,S s.calls,.slice sa s.rel.length sc,.pointer (some pp),.pointer (some qq)] 160::blk b8 [I64 s.id,F64 s.ord,S s.urls,.bool s.login,.bool s.proxy,.bool s.back,S s.calls,.slice ra s.rel.length rc] 59::R):=⟨_,((hS.pick 3 rfl).pick 3 rfl)⟩
   refine And.intro (by intro _ _; exact hH) ?_
   refine WD.branch [3] (by kernel_rfl) rfl (WO.cons rfl ?_ (WO.nil))
   refine WL.append (size:=10) (bytes:=96) hS (.of rfl) (.of rfl) (k:=3) rfl X63 X3m rfl rfl rfl rfl rfl rfl rfl ⟨by omega,by unfold maxLen; omega⟩ rfl ?_
   clear hS; intro v34 w hS; try dsimp only [List.set] at hS
   obtain ⟨a34,c34,rfl,hcap34,_⟩:=hS.vecSlice (k:=3) (v:=v34) rfl
   refine .nil ?_
   clear hH
   have hH:∃ R,Sat B w J2 (blk b9 [I64 s.id,F64 s.ord,S s.urls,.bool s.login,.bool s.proxy,.bool s.back,S s.calls,.slice sa s.rel.length sc,.pointer (some pp),.pointer (some qq)] 160::blk b8 [I64 s.id,F64 s.ord,S s.urls,.bool s.login,.bool s.proxy,.bool s.back,S s.calls,.slice ra s.rel.length rc] 59::R):=⟨_,((hS.pick 2 rfl).pick 2 rfl)⟩
   refine And.intro (by intro _ _; exact hH) ?_
   refine WD.branch [8] (by kernel_rfl) rfl (WO.cons rfl ?_ (WO.nil))
   refine WL.append (size:=1) (bytes:=8) hS (.of rfl) (.of rfl) (k:=3) rfl Xaf X6h rfl rfl rfl rfl rfl rfl rfl ⟨by omega,by unfold maxLen; omega⟩ rfl ?_
   clear hS; intro v39 w hS; try dsimp only [List.set] at hS
   obtain ⟨a39,c39,rfl,hcap39,_⟩:=hS.vecSlice (k:=3) (v:=v39) rfl
   refine .nil ?_
   clear hH
   have hH:∃ R,Sat B w J2 (blk b9 [I64 s.id,F64 s.ord,S s.urls,.bool s.login,.bool s.proxy,.bool s.back,S s.calls,.slice sa s.rel.length sc,.pointer (some pp),.pointer (some qq)] 160::blk b8 [I64 s.id,F64 s.ord,S s.urls,.bool s.login,.bool s.proxy,.bool s.back,S s.calls,.slice ra s.rel.length rc] 59::R):=⟨_,((hS.pick 1 rfl).pick 1 rfl)⟩
   refine And.intro (by intro _ _; exact hH) ?_
   refine .tp (i:=9) rfl (by kernel_rfl) (fun w=>(.assign (.of rfl))) rfl (.tp (i:=10) rfl (by kernel_rfl) (fun w=>(.assign (.of rfl))) rfl (.done (by kernel_rfl) (.region (.run 2 rfl ⟨⟨by omega,by omega⟩,trivial⟩ (.nil ?_)))))
   have hfin:=((hS.drop (k:=0) rfl).drop (k:=0) rfl)
   refine ⟨(i+1,J2,.slice a34 (i+1) c34,.slice a39 (i+1) c39,E ++ [X11 s sa sc pp qq]),⟨rfl,rfl,rfl,rfl,rfl,trivial⟩,⟨by (try dsimp only); omega,Le.trans hJ hJ2,by (try dsimp only); rw [Y0,hEl]; rfl,fun c hc=>?_,fun j u hu=>?_,fun j u hj hu=>?_,?_⟩,by (try dsimp only); omega⟩
   ·rcases Y12.1 hc with h | h
    ·exact h10 c h
    ·simp at h; subst h; rfl
   ·(try dsimp only at hu)
    rw [htn] at hu
    rcases Yv j i with h1 | h1
    ·rw [Yi (by omega)] at hu
     obtain ⟨c,e1,e2⟩:=hEE j u hu
     exact ⟨c,by rw [Yi (by omega)]; exact e1,e2.mono hJ2⟩
    ·rw [Yt (by omega),hln] at hu
     have hj0:j - i=0:=by have:=(Y4.1 hu).1; simp at this; omega
     rw [hj0] at hu
     cases hu
     exact ⟨_,by rw [Yt (by omega),hEl,hj0]; rfl,hent2⟩
   ·rcases Yv j i with h1 | h1
    ·exact hok j u h1 hu
    ·have e:j=i:=by (try dsimp only at hj); omega
     subst e
     rw [hs] at hu; cases hu
     exact hbad0
   ·(try dsimp only)
    rw [hnx,Y21]
    simpa [X11] using hfin
 have hc17:=hb17; try simp only [Y5] at hc17
 refine .exit (.seq ?_)
 have hin:i=l.length:=by omega
 subst hin
 have hol:(ords l).length=l.length:=Y13 ..
 rw [Y11 (Ys _)] at hEE
 rw [Y11 (by omega)] at hS
 obtain ⟨oa,oc,rfl,hoc,_⟩:=hS.vecSlice (k:=1) rfl
 obtain ⟨ea,ec,rfl,hec,_⟩:=hS.vecSlice (k:=0) rfl
 obtain ⟨J1,hJ1,hOR,hS1⟩:=hS.freezeVec (k:=1) rfl
 try dsimp only [List.eraseIdx] at hS1
 obtain ⟨J2,hJ2,hER,hS2⟩:=hS1.freezeVec (k:=0) rfl
 clear hS hS1
 have hS:=hS2
 clear hS2
 try dsimp only [List.eraseIdx] at hS
 replace hJ:=Le.trans hJ (Le.trans hJ1 hJ2)
 replace hOR:=hOR.mono hJ2
 replace hEE:=fun j s h=>let ⟨c,h1,h2⟩:=hEE j s h; (⟨c,h1,EntAt.mono h2 (Le.trans hJ1 hJ2)⟩:∃ c,E[j]?=some c∧EntAt J2 s c)
 refine .region (.val (.build (cs:=[_]) X6 Xgx rfl) rfl (.boxA (cs:=[_]) hS (.of rfl) rfl ?_))
 clear hS; intro b42 w hS
 refine .q 1 rfl (.nil (.seq (.seq ?_)))
 rw [← hol] at hOR ⊢
 refine .t 1 rfl (.call Tryz.func148 rfl (X0 (.of rfl) X4) rfl (Xj3 (ords l) hom (by omega) oa oc B _ J2 hOR _ hS) ?_)
 clear hS
 rintro _ w ⟨D,va,vc,rfl,hD,hS⟩
 obtain ⟨J3,hJ3,hDR,hS2⟩:=hS.freezeVec (k:=0) rfl
 clear hS
 have hS:=hS2
 clear hS2
 try dsimp only [List.eraseIdx] at hS
 replace hJ:=Le.trans hJ hJ3
 rw [hol] at hD hDR ⊢
 have hDl:=hD.len
 refine .run 2 rfl ⟨⟨_,Xm⟩,trivial⟩ (.nil (.block ?_))
 replace hS:=(hS.vecNil 160 10).pick 1 rfl
 try dsimp only [List.eraseIdx] at hS
 refine .loop (σ:=Value×Nat) (fun ⟨kv,j⟩=>[(5,.slice ea l.length ec),(11,ptr b42 0),(44,.slice va l.length vc),(45,I64 (l.length:Nat)),(46,I64 (j:Nat))]) (fun ⟨kv,j⟩ w=>j≤l.length∧Sat B w J3 (blk b42 [kv] 162::Vec 160 10 kv j (X96 E (D.take j)).flatten::As)) (fun ⟨kv,j⟩=>l.length - j) (.slice none 0 0,0) ⟨rfl,rfl,rfl,rfl,rfl,trivial⟩ ⟨Yp _,hS⟩ ?_
 rintro ⟨kv,j⟩ w ⟨hj,hS⟩
 change WC _ _ _ _ [(5,.slice ea l.length ec),(11,ptr b42 0),(44,.slice va l.length vc),(45,I64 (l.length:Nat)),(46,I64 (j:Nat))] w
 refine .seq (.q 1 rfl (.seq ?_))
 refine WC.cond rfl (fun hb47=>?_) (fun hb47=>?_)
 ·
  have hc47:=hb47; try simp only [Y5] at hc47
  refine .skip (.seq (.block (.seq ?_)))
  obtain ⟨d,hd⟩:∃ d,D[j]?=some d:=⟨_,Y7 (by omega)⟩
  have hdm:d∈Srt.upto l.length:=hD.2.mem_iff.1 (Yr hd)
  have hdr:=Srt.upto_mem.1 hdm
  obtain ⟨s,hs⟩:∃ s,l[d.toNat]?=some s:=⟨_,Y7 (by omega)⟩
  obtain ⟨c,hc,ra,rc,pp,qq,Q,T,rfl,hent⟩:=hEE d.toNat s hs
  obtain ⟨pe,rfl,hpe⟩:=(hER.mono hJ3).2 (by omega)
  have hx:=X4q (hpe.add (d.toNat*10)) 10
  rw [X2h E h10 d.toNat _ hc] at hx
  have hnr:(X96 E (D.take (j+1))).flatten=(X96 E (D.take j)).flatten ++ X11 s ra rc pp qq:=by
   unfold X96
   rw [Y1a,hd,Yy,Y21]
   simp [Yd,hc]
  unfold X11 at hx hnr
  obtain ⟨dp,rfl,hdp⟩:=hDR.2 (by omega)
  obtain ⟨ka,kc,rfl,hkc,_⟩:=hS.vecSlice (k:=1) rfl
  have hdx:((D.map I64).drop ((j:Int).toNat*1))[0]?=some (I64 d):=by rw [Y1d,Yk,Y1i,Y2d,Yx,hd]; rfl
  refine .region (.val (.indexAddrI (.of rfl) (.of rfl) (by omega) (by omega) Xm Qs3) rfl (.val (.ldI (v:=I64 d) (.of rfl) hS (hdp.add _) Qg3 hdx) rfl (.q 1 rfl (.nil (.drawn (fun w=>∃ R,Sat B w J3 (blk b42 [.slice ka j kc] 162::R)) (fun j=>!([13].contains j)) (by kernel_rfl) ?_)))))
  replace hS:=hS.drew; generalize w.drew=w at hS ⊢
  have hH:∃ R,Sat B w J3 (blk b42 [.slice ka j kc] 162::R):=⟨_,(hS.pick 0 rfl)⟩
  refine .tp (i:=0) rfl (by kernel_rfl) (fun w=>(.move (.of rfl))) rfl (.tp (i:=1) rfl (by kernel_rfl) (fun w=>(.move (.of rfl))) rfl (.tp (i:=2) rfl (by kernel_rfl) (fun w=>(.nilCheck (.of rfl))) rfl (.tp (i:=3) rfl (by kernel_rfl) (fun w=>(.fieldAddr 0 (.of rfl) Xdv rfl rfl Xcu rfl)) rfl (.tk (i:=4) rfl (by kernel_rfl) hH (fun w ⟨R,hS⟩=>(.ld (.of rfl) hS (k:=0) rfl Xj1 rfl)) rfl (.tp (i:=5) rfl (by kernel_rfl) (fun w=>(.move (.of rfl))) rfl (.tp (i:=6) rfl (by kernel_rfl) (fun w=>(.move (.of rfl))) rfl (.tp (i:=7) rfl (by kernel_rfl) (fun w=>(.indexAddrI (.of rfl) (.of rfl) (by omega) (by omega) X63 X2w)) rfl (.tk (i:=8) rfl (by kernel_rfl) hH (fun w ⟨R,hS⟩=>(.ldsI (.of rfl) hS hx Xcb X2w rfl (fun _ _ h=>h))) rfl ?_))))))))
  refine WD.branch [9] (by kernel_rfl) rfl (WO.cons rfl ?_ (WO.nil))
  refine .buildSlice (cs:=[_,_,_,_,_,_,_,_,_,_]) hS (X5 (.of rfl) X6) X63 X2w Xfu rfl rfl rfl rfl ?_
  clear hS; intro b59 w hS
  refine .nil ?_
  clear hH
  have hH:∃ R,Sat B w J3 (blk b42 [.slice ka j kc] 162::R):=⟨_,(hS.pick 1 rfl)⟩
  refine And.intro (by intro _ _; exact hH) ?_
  refine WD.branch [10] (by kernel_rfl) rfl (WO.cons rfl ?_ (WO.nil))
  refine WL.append (size:=10) (bytes:=96) hS (.of rfl) (.of rfl) (k:=1) rfl X63 X3m rfl rfl rfl rfl rfl rfl rfl ⟨by omega,by unfold maxLen; omega⟩ rfl ?_
  clear hS; intro v60 w hS; try dsimp only [List.set] at hS
  obtain ⟨a60,c60,rfl,hcap60,_⟩:=hS.vecSlice (k:=1) (v:=v60) rfl
  refine .nil ?_
  clear hH
  have hH:∃ R,Sat B w J3 (blk b42 [.slice ka j kc] 162::R):=⟨_,(hS.pick 0 rfl)⟩
  refine And.intro (by intro _ _; exact hH) ?_
  refine .tp (i:=11) rfl (by kernel_rfl) (fun w=>(.nilCheck (.of rfl))) rfl (.tp (i:=12) rfl (by kernel_rfl) (fun w=>(.fieldAddr 0 (.of rfl) Xdv rfl rfl Xcu rfl)) rfl ?_)
  refine WD.branch [13] (by kernel_rfl) rfl (WO.cons rfl ?_ (WO.nil))
  refine .st1 hS (k:=0) rfl (.of rfl) (.of rfl) rfl Xcu (by simp) ?_
  clear hS; intro w hS; try dsimp only [List.set] at hS
  refine .nil ?_
  refine And.intro (by intro h; cases h) ?_
  refine .done (by kernel_rfl) (.region (.run 2 rfl ⟨⟨by omega,by omega⟩,trivial⟩ (.nil ?_)))
  refine ⟨(.slice a60 (j+1) c60,j+1),⟨rfl,rfl,rfl,rfl,rfl,trivial⟩,⟨by (try dsimp only); omega,?_⟩,by (try dsimp only); omega⟩
  (try dsimp only)
  rw [hnr]; exact hS
 have hc47:=hb47; try simp only [Y5] at hc47
 refine .exit (.seq (.q 4 rfl (.ret (X8v Tryz.results102 rfl rfl rfl ?_))))
 have hjn:j=l.length:=by omega
 subst hjn
 rw [Y11 (by omega)] at hS
 obtain ⟨ka,kc,rfl,hkc,_⟩:=hS.vecSlice (k:=1) rfl
 obtain ⟨J4,hJ4,hKR,hS1⟩:=hS.freezeVec (k:=1) rfl
 try dsimp only [List.eraseIdx] at hS1
 obtain ⟨J5,hJ5,hb5,hS2⟩:=hS1.freeze (k:=0) rfl
 have hw:X5i l=(0,0):=Xfk (fun q t ht=>hok q t (by have:=(Y4.1 ht).1; omega) ht)
 have hpl:(X4t l D).length=l.length:=by unfold X4t; rw [Y13,hDl]
 refine ⟨_,rfl,J5,Le.trans hJ (Le.trans hJ4 hJ5),hS2,.inr ⟨by rw [hw],_,D,rfl,hD,ka,kc,X96 E D,?_,by rw [hpl]; exact hkc,by unfold X96 X4t; rw [Y13,Y13],fun q s hq=>?_⟩⟩
 ·rw [hpl]
  exact ⟨rfl,_,_,_,hb5,fun q v hq=>by simpa using hq⟩
 ·unfold X4t at hq
  rw [Yx] at hq
  cases hdq:D[q]? with
  | none=>rw [hdq] at hq; cases hq
  | some d =>
   rw [hdq] at hq
   have hdr:=Srt.upto_mem.1 (hD.2.mem_iff.1 (Yr hdq))
   obtain ⟨u,hu⟩:∃ u,l[d.toNat]?=some u:=⟨_,Y7 (by omega)⟩
   have hus:u=s:=by
    have h2:=hq
    rw [Y3f,Yd,hu] at h2
    exact Option.some.inj h2
   subst hus
   obtain ⟨c,hc,hent⟩:=hEE d.toNat u hu
   have hql:=(Y4.1 hdq).1
   obtain ⟨kp,rfl,hkp⟩:=(hKR.mono hJ5).2 (by omega)
   have hpk:(X96 E D)[q]?=some c:=by unfold X96; rw [Yx,hdq]; simp [Yd,hc]
   have h10':∀ c∈X96 E D,c.length=10:=fun c hc=>by
    unfold X96 at hc
    obtain ⟨d',hd',rfl⟩:=Y2c.1 hc
    have hdr':=Srt.upto_mem.1 (hD.2.mem_iff.1 hd')
    rw [Yd,Y7 (by omega)]
    exact h10 _ (Y2k _)
   have hx:=X4q (hkp.add (q*10)) 10
   rw [X2h _ h10' q _ hpk] at hx
   exact ⟨kp,c,rfl,hpk,hx,hent.mono (Le.trans hJ3 (Le.trans hJ4 hJ5))⟩
theorem X5q:Bld Tryz.prog 59 [(0,1),(1,1),(2,1),(3,1),(4,1),(5,1),(6,1),(7,1)] [.int .i64 0,.float .f64 0,S [],.bool false,.bool false,.bool false,S [],.slice none 0 0]:=X2l Xdt Xmt (fun w=>by simp [go_sem])
theorem X8l (pr:Sv→Bool):∀ (l:List Sv) (i:Nat),(X1q pr l i=-1∧l.find? pr=none)∨(∃ j s,X1q pr l i=((i+j:Nat):Int)∧l[j]?=some s∧pr s=true∧l.find? pr=some s)
 | [],_=>.inl ⟨rfl,rfl⟩
 | a::l,i=>by
  rw [X1q,Y4i]
  cases ha:pr a with
  | true=>exact .inr ⟨0,a,rfl,rfl,ha,rfl⟩
  | false =>
   rw [if_neg (by decide)]
   rcases X8l pr l (i+1) with ⟨h1,h2⟩ | ⟨j,s,h1,h2,h3,h4⟩
   ·exact .inl ⟨h1,h2⟩
   ·exact .inr ⟨j+1,s,by rw [h1]; congr 1; omega,h2,h3,h4⟩
theorem X4v (pr:Sv→Bool) (l:List Sv):(X1q pr l 0=-1∧l.find? pr=none)∨(∃ (j:Nat) (s:Sv),X1q pr l 0=(j:Int)∧l[j]?=some s∧pr s=true∧l.find? pr=some s):=by
 rcases X8l pr l 0 with h | ⟨j,s,h1,h2⟩
 ·exact .inl h
 ·exact .inr ⟨j,s,by rw [h1,Yf],h2⟩
theorem Xas {l:List UInt8} {Q:List Pl} (h:cmp l=.ok Q) (s:List UInt8):(Xmp l s).1=mat Q s:=by unfold Xmp; rw [h]
def X24 (lo:List Sv) (s:List UInt8):Sv×List UInt8×Nat :=
 if (Ul.nU s).2≠0 then (z0,[],(Ul.nU s).2) else if 100<(Ul.nU s).1.length then (z0,[],2)
 else match lo.find? (fun t=>(Xmp t.urls (Ul.nU s).1).1) with
  | none=>(z0,[],31)
  | some t=>(t,(Ul.nU s).1,0)
abbrev HTTPSC:List UInt8:=[104,116,116,112,115,58]
def Xc8 (lo:List Sv) (id:Int) (s:List UInt8):List UInt8×Bool :=
 match lo.find? (fun t=>t.id == id) with
 | none=>([],false)
 | some u=>if (((((Ul.nU s).2:Int) != 0 || decide (100<((Ul.nU s).1.length:Int))) || !(X1o (Ul.nU s).1 HTTPSC)) || !((Xmp u.calls (Ul.nU s).1).1))=true then ([],false) else ((Ul.nU s).1,true)
theorem Xe0 (pr:Addr) (lo:List Sv) (hlo:lo.length≤100000) (hrl:∀ s∈lo,s.rel.length≤1000000) (s:List UInt8) (hs:s.length≤1000000) (a:Option Addr) (cc:Nat) (E:List (List Value)) (B w:World) (I:Im) (hK:Known I) (hreg:At I pr [.slice a lo.length cc]) (hE:EntsIn I a E lo) (As:List X9) (hS:Sat B w I As) :
  Calls Tryz.prog 50 [.pointer (some pr),S s].toArray w (Ret fun v w'=>∃ J u c n e,Le I J∧v=.tuple #[.agg (List.toArray c),S n,I64 ((e:Nat):Int)]∧SvAt J u c∧X24 lo s=(u,n,e)∧Sat B w' J As):=by
 refine calls Qf50 rfl Tryz.ntmps50 rfl (.seq (.region (.allocA (cs:=[_,_,_,_,_,_,_,_]) hS Xmt rfl ?_)))
 clear hS; intro b4 w hS
 refine .q 2 rfl (.nil (.seq (.t 1 rfl (.call Tryz.func108 rfl (X0 (.of rfl) X4) rfl (X8n s hs B _ I hK _ hS) ?_))))
 clear hS
 rintro _ w ⟨rfl,hS⟩
 refine .q 3 rfl (.alloc1 hS Qz9 rfl rfl ?_)
 clear hS; intro b7 w hS
 refine .st1 hS (k:=0) rfl (.of rfl) (.of rfl) rfl Qs9 (by simp) ?_
 clear hS; intro w hS; try dsimp only [List.set] at hS
 refine .q 1 rfl (.nil (.seq (.seq (.t 3 rfl (.gval rfl rfl (fun hg1=>(.ld (.of rfl) hS (k:=0) rfl Qg9 rfl)) rfl (.gval rfl rfl (fun hg1=>(.len (.gd hg1 rfl) Qu9)) rfl (.gval rfl rfl (fun hg1=>(.gtr (.gd hg1 rfl) (.of rfl))) rfl (.val (.pand (.of rfl) (.of rfl) (.of rfl)) rfl (.nil ?_)))))))))
 refine WC.cond rfl (fun hb21=>?_) (fun hb21=>?_)
 ·
  have hc21:=hb21; try simp only [Y5] at hc21
  refine .q 1 rfl (.seq (.seq (.q 2 rfl ?_)))
  refine WC.cond rfl (fun hb23=>?_) (fun hb23=>by exfalso; simp only [Y5] at hb23; omega)
  have hc23:=hb23; try simp only [Y5] at hc23
  refine .seq (.region (.val (.build (cs:=[_,_,_,_,_,_,_,_]) X6 X5q rfl) rfl (.q 1 rfl (.stA hS (k:=1) rfl (.of rfl) (.of rfl) rfl X74 rfl (by simp) ?_))))
  clear hS; intro w hS; try dsimp only [List.set] at hS
  try simp only [Ym,Yc,Yg,Y9,Yl,Yo,Yf] at hS
  refine .q 2 rfl (.nil (.ret (Xlq (b:=_) (cs:=[_,_,_,_,_,_,_,_]) Qr50 hS (k:=1) rfl Xjs X74 rfl rfl rfl rfl ?_)))
  exact ⟨_,rfl,I,z0,_,[],2,Le.refl _,rfl,⟨none,0,rfl,Ys _,RS.nil _ _⟩,(by unfold X24; rw [if_neg (by simp at hb21; omega),if_pos (by simp at hb21; omega)]),((hS.drop (k:=0) rfl).drop (k:=0) rfl)⟩
 have hc21:=hb21; try simp only [Y5] at hc21
 refine .skip (.seq (.seq (.q 2 rfl ?_)))
 refine WC.cond rfl (fun hb23=>?_) (fun hb23=>?_)
 ·
  have hc23:=hb23; try simp only [Y5] at hc23
  refine .seq (.region (.val (.build (cs:=[_,_,_,_,_,_,_,_]) X6 X5q rfl) rfl (.q 1 rfl (.stA hS (k:=1) rfl (.of rfl) (.of rfl) rfl X74 rfl (by simp) ?_))))
  clear hS; intro w hS; try dsimp only [List.set] at hS
  try simp only [Ym,Yc,Yg,Y9,Yl,Yo,Yf] at hS
  refine .q 2 rfl (.nil (.ret (Xlq (b:=_) (cs:=[_,_,_,_,_,_,_,_]) Qr50 hS (k:=1) rfl Xjs X74 rfl rfl rfl rfl ?_)))
  exact ⟨_,rfl,I,z0,_,[],_,Le.refl _,rfl,⟨none,0,rfl,Ys _,RS.nil _ _⟩,(by unfold X24; rw [if_pos (by omega)]),((hS.drop (k:=0) rfl).drop (k:=0) rfl)⟩
 have hc23:=hb23; try simp only [Y5] at hc23
 refine .skip (.seq ?_)
 have hz:(Ul.nU s).2=0:=by omega
 have hn100:(Ul.nU s).1.length≤100:=by
  rw [hz] at hb21
  simp at hb21
  omega
 refine .t 2 rfl (.val (.fieldAddrI 0 (.of rfl) Xdv rfl rfl Xcu rfl) rfl (.val (.ldI (.of rfl) hS (At.add hreg _) Xj1 rfl) rfl (.val (.makeFunc (X0 (.of rfl) X4)) rfl ?_)))
 refine WL.call Xl3 rfl (X0 (.of rfl) (X0 (.of rfl) X4)) rfl (X3i a cc lo hlo (fun t=>(Xmp t.urls (Ul.nU s).1).1) 110 _ Tryz.func110 rfl [ptr b7 0] B _ I (blk b7 [S (Ul.nU s).1] 9::blk b4 [I64 0,F64 0,S [],.bool false,.bool false,.bool false,S [],.slice none 0 0] 59::As) (fun w h=>hE.now h) (fun t c ht w h=>by
  obtain ⟨ta,tc,tp,tq,Q,_,rfl,_,_,hQ,hpat,_⟩:=ht
  refine (Xhq hQ ta tc tp tq (Ul.nU s).1 (by omega) b7 B w I hpat _ h).mono fun e w' ⟨v,e1,e2,e3⟩=>⟨v,e1,?_,e3⟩
  rw [e2,Xas hQ]) hS) ?_
 clear hS
 rintro _ w ⟨rfl,hS⟩
 refine .q 1 rfl (.nil (.seq (.seq (.q 2 rfl ?_))))
 refine WC.cond rfl (fun hb33=>?_) (fun hb33=>?_)
 ·
  have hc33:=hb33; try simp only [Y5] at hc33
  refine .seq (.region (.val (.build (cs:=[_,_,_,_,_,_,_,_]) X6 X5q rfl) rfl (.stA hS (k:=1) rfl (.of rfl) (.of rfl) rfl X74 rfl (by simp) ?_)))
  clear hS; intro w hS; try dsimp only [List.set] at hS
  try simp only [Ym,Yc,Yg,Y9,Yl,Yo,Yf] at hS
  refine .q 2 rfl (.nil (.ret (Xlq (b:=_) (cs:=[_,_,_,_,_,_,_,_]) Qr50 hS (k:=1) rfl Xjs X74 rfl rfl rfl rfl ?_)))
  exact ⟨_,rfl,I,z0,_,[],31,Le.refl _,rfl,⟨none,0,rfl,Ys _,RS.nil _ _⟩,(by
   have hno:lo.find? (fun t=>(Xmp t.urls (Ul.nU s).1).1)=none:=by
    rcases X4v (fun t=>(Xmp t.urls (Ul.nU s).1).1) lo with ⟨_,h⟩ | ⟨j,u,hj,_⟩
    ·exact h
    ·exfalso; rw [hj] at hc33; omega
   unfold X24
   rw [if_neg (by omega),if_neg (by omega),hno]),((hS.drop (k:=0) rfl).drop (k:=0) rfl)⟩
 have hc33:=hb33; try simp only [Y5] at hc33
 refine .skip (.seq ?_)
 rcases X4v (fun t=>(Xmp t.urls (Ul.nU s).1).1) lo with ⟨hneg,_⟩ | ⟨j,u,hj,hu,hpu,hfind⟩
 ·exfalso; rw [hneg] at hc33; omega
 rw [hj]
 obtain ⟨p,c,rfl,hc,hx0,ra,rc,pp,qq,Q,T,rfl,hrc,hrr,hQ,hpQ,hT,hpT⟩:=hE.2 j u hu
 have hjl:=(Y4.1 hu).1
 have hsm:=hrl u (Yr hu)
 have hx:=X4q hx0 8
 simp only [X11,Y2u,Ym] at hx
 refine .drawn (fun w=>∃ J9 R,Le I J9∧Sat B w J9 (blk b7 [S (Ul.nU s).1] 9::R)) (fun j=>!([].contains j)) (by kernel_rfl) ?_
 replace hS:=hS.drew; generalize w.drew=w at hS ⊢
 have hH:∃ J9 R,Le I J9∧Sat B w J9 (blk b7 [S (Ul.nU s).1] 9::R):=⟨_,_,Le.refl _,(hS.pick 0 rfl)⟩
 refine .tp (i:=0) rfl (by kernel_rfl) (fun w=>(.move (.of rfl))) rfl (.tp (i:=1) rfl (by kernel_rfl) (fun w=>(.nilCheck (.of rfl))) rfl (.tp (i:=2) rfl (by kernel_rfl) (fun w=>(.fieldAddrI 0 (.of rfl) Xdv rfl rfl Xcu rfl)) rfl (.tk (i:=3) rfl (by kernel_rfl) hH (fun w ⟨J9,R,hL9,hS⟩=>(.ldI (.of rfl) hS (At.add (hreg.mono hL9) _) Xj1 rfl)) rfl (.tp (i:=4) rfl (by kernel_rfl) (fun w=>(.move (.of rfl))) rfl (.tp (i:=5) rfl (by kernel_rfl) (fun w=>(.indexAddrI (.of rfl) (.of rfl) (by omega) (by omega) X63 X2w)) rfl (.tp (i:=6) rfl (by kernel_rfl) (fun w=>(.fieldAddrI 0 (.of rfl) Xgl rfl rfl X74 rfl)) rfl (.tk (i:=7) rfl (by kernel_rfl) hH (fun w ⟨J9,R,hL9,hS⟩=>(.ldsI (.of rfl) hS (hx.mono hL9) Xjs X74 rfl (fun _ _ h=>h))) rfl (.tk (i:=9) rfl (by kernel_rfl) hH (fun w ⟨J9,R,hL9,hS⟩=>(.ld (.of rfl) hS (k:=0) rfl Qg9 rfl)) rfl ?_))))))))
 refine WD.branch [8] (by kernel_rfl) rfl (WO.cons rfl ?_ (WO.nil))
 refine .call Tryz.func112 rfl (X0 (.of rfl) X4) rfl (Xpb u ra rc hsm B _ I hrr _ hS) ?_
 clear hS
 rintro _ w ⟨J2,cs,hJ2,rfl,hsv,hS⟩
 obtain ⟨sa,sc,rfl,hq1,hq2⟩:=hsv
 have hsv:SvAt J2 u (X2v u sa sc):=⟨sa,sc,rfl,hq1,hq2⟩
 refine .nil ?_
 clear hH
 have hH:∃ J9 R,Le I J9∧Sat B w J9 (blk b7 [S (Ul.nU s).1] 9::R):=⟨_,_,hJ2,(hS.pick 0 rfl)⟩
 refine And.intro (by intro _ _; exact hH) ?_
 refine WD.branch [10] (by kernel_rfl) rfl (WO.cons rfl ?_ (WO.nil))
 refine .stA hS (k:=1) rfl (.of rfl) (.of rfl) rfl X74 rfl (by simp) ?_
 clear hS; intro w hS; try dsimp only [List.set] at hS
 try simp only [Ym,Yc,Yg,Y9,Yl,Yo,Yf] at hS
 refine .nil ?_
 clear hH
 have hH:∃ J9 R,Le I J9∧Sat B w J9 (blk b7 [S (Ul.nU s).1] 9::R):=⟨_,_,hJ2,(hS.pick 0 rfl)⟩
 refine And.intro (by intro _ _; exact hH) ?_
 refine .tp (i:=11) rfl (by kernel_rfl) (fun w=>(.assign (.of rfl))) rfl (.tp (i:=12) rfl (by kernel_rfl) (fun w=>(.assign (.of rfl))) rfl (.done (by kernel_rfl) (.ret (Xlq (b:=_) (cs:=[_,_,_,_,_,_,_,_]) Qr50 hS (k:=1) rfl Xjs X74 rfl rfl rfl rfl ?_))))
 exact ⟨_,rfl,J2,u,_,(Ul.nU s).1,0,hJ2,rfl,hsv,(by unfold X24; rw [if_neg (by omega),if_neg (by omega),hfind]),((hS.drop (k:=0) rfl).drop (k:=0) rfl)⟩
theorem Xbs (pr:Addr) (lo:List Sv) (hlo:lo.length≤100000) (hrl:∀ s∈lo,s.rel.length≤1000000) (id:Int) (s:List UInt8) (hs:s.length≤1000000) (a:Option Addr) (cc:Nat) (E:List (List Value)) (B w:World) (I:Im) (hK:Known I) (hreg:At I pr [.slice a lo.length cc]) (hE:EntsIn I a E lo) (As:List X9) (hS:Sat B w I As) :
  Calls Tryz.prog 51 [.pointer (some pr),I64 id,S s].toArray w (Ret fun v w'=>v=.tuple #[S (Xc8 lo id s).1,.bool (Xc8 lo id s).2]∧Sat B w' I As):=by
 refine calls Tryz.func51 rfl Tryz.ntmps51 rfl (.seq (.region (.box1 hS (.of rfl) rfl rfl ?_)))
 clear hS; intro b4 w hS
 refine .q 2 rfl (.nil (.seq (.t 1 rfl (.call Tryz.func108 rfl (X0 (.of rfl) X4) rfl (X8n s hs B _ I hK _ hS) ?_))))
 clear hS
 rintro _ w ⟨rfl,hS⟩
 refine .q 5 rfl (.nil (.seq (.t 2 rfl ?_)))
 refine WL.val (.fieldAddrI 0 (.of rfl) Xdv rfl rfl Xcu rfl) rfl ?_
 refine WL.val (.ldI (.of rfl) hS (At.add hreg _) Xj1 rfl) rfl ?_
 refine .val (.makeFunc (X0 (.of rfl) X4)) rfl ?_
 refine WL.call Xl3 rfl (X0 (.of rfl) (X0 (.of rfl) X4)) rfl (X3i a cc lo hlo (fun t=>t.id == id) 113 _ Tryz.func113 rfl [ptr b4 0] B _ I (blk b4 [I64 id] 3::As) (fun w h=>hE.now h) (fun t c ht w h=>by
  obtain ⟨ta,tc,tp,tq,Q,_,rfl,_,_,hQ,hpat,_⟩:=ht
  exact Xjm t ta tc tp tq id b4 B w I _ h) hS) ?_
 clear hS
 rintro _ w ⟨rfl,hS⟩
 refine .q 1 rfl (.nil (.seq (.seq (.region ?_))))
 have hi0:=X4v (fun t=>t.id == id) lo
 rcases hi0 with ⟨hneg,hnone⟩ | ⟨j,u,hj,hu,hpu,hfind⟩
 ·
  have hd:decide (X1q (fun t=>t.id == id) lo 0<0)=true:=by rw [hneg]; rfl
  refine .val (.move (.of rfl)) rfl (.q 2 rfl (.gval rfl rfl (fun hg1=>(.move (.of rfl))) rfl (.gval rfl rfl (fun hg1=>(.neq (.gd hg1 rfl) (.of rfl))) rfl (.val (.por (.of rfl) (.of rfl) (.of rfl)) rfl (.q 1 rfl (.gval rfl rfl (fun hg1=>(.move (.of rfl))) rfl (.gval rfl rfl (fun hg1=>(.len (.gd hg1 rfl) Qu9)) rfl (.gval rfl rfl (fun hg1=>(.gtr (.gd hg1 rfl) (.of rfl))) rfl (.val (.por (.of rfl) (.of rfl) (.of rfl)) rfl (.q 1 rfl (.gval rfl rfl (fun hg1=>(.move (.of rfl))) rfl ?_)))))))))))
  refine WL.gcall (T:=fun w=>Sat B w I (blk b4 [I64 id] 3::As)) rfl rfl rfl Qf90 rfl (fun hg1=>(X0 (.gd hg1 rfl) (X0 (.of rfl) X4))) rfl (fun hg1=>X18 (X1m (Ul.nU s).1 _ w (by (try simp only [Y5] at hg1); omega) (by decide)) hS) hS ?_
  clear hS; rintro w hS
  refine .gval rfl rfl (fun hg1=>(.not (.gd hg1 rfl))) rfl (.val (.por (.of rfl) (.of rfl) (.of rfl)) rfl (.q 1 rfl (.gval (v:=.bool false) rfl rfl (fun hg1=>absurd hg1 (by simp [hd])) rfl (.gval (v:=.bool false) rfl rfl (fun hg1=>absurd hg1 (by simp [hd])) rfl (.gval (v:=.bool false) rfl rfl (fun hg1=>absurd hg1 (by simp [hd])) rfl (.gval (v:=.bool false) rfl rfl (fun hg1=>absurd hg1 (by simp [hd])) rfl (.gval (v:=.bool false) rfl rfl (fun hg1=>absurd hg1 (by simp [hd])) rfl (.gval (v:=.bool false) rfl rfl (fun hg1=>absurd hg1 (by simp [hd])) rfl (.gval (v:=.bool false) rfl rfl (fun hg1=>absurd hg1 (by simp [hd])) rfl (.gval (v:=.bool false) rfl rfl (fun hg1=>absurd hg1 (by simp [hd])) rfl (.gval (v:=.bool false) rfl rfl (fun hg1=>absurd hg1 (by simp [hd])) rfl (.gval (v:=.bool false) rfl rfl (fun hg1=>absurd hg1 (by simp [hd])) rfl (.gval (v:=.bool false) rfl rfl (fun hg1=>absurd hg1 (by simp [hd])) rfl (.val (.por (.of rfl) (.of rfl) (.of rfl)) rfl (.nil ?_)))))))))))))))
  refine WC.cond rfl (fun hb50=>?_) (fun hb50=>?_)
  ·
   have hc50:=hb50; try simp only [Y5] at hc50
   refine .seq (.q 2 rfl (.ret (X1g Qr51 rfl rfl ?_)))
   refine ⟨_,rfl,?_,hS.drop (k:=0) rfl⟩
   unfold Xc8
   rw [hnone]
  have hc50:=hb50; try simp only [Y5] at hc50
  refine .skip (.seq (.q 3 rfl (.ret (X1g Qr51 rfl rfl ?_))))
  exfalso
  rw [hd] at hb50
  simp at hb50
 ·
  rw [hj]
  obtain ⟨p,c,rfl,hc,hx0,ra,rc,pp,qq,Q,T,rfl,hrc,hrr,hQ,hpQ,hT,hpT⟩:=hE.2 j u hu
  have hjl:=(Y4.1 hu).1
  have hsm:=hrl u (Yr hu)
  have hx:=hx0
  refine .val (.move (.of rfl)) rfl (.q 2 rfl (.gval rfl rfl (fun hg1=>(.move (.of rfl))) rfl (.gval rfl rfl (fun hg1=>(.neq (.gd hg1 rfl) (.of rfl))) rfl (.val (.por (.of rfl) (.of rfl) (.of rfl)) rfl (.q 1 rfl (.gval rfl rfl (fun hg1=>(.move (.of rfl))) rfl (.gval rfl rfl (fun hg1=>(.len (.gd hg1 rfl) Qu9)) rfl (.gval rfl rfl (fun hg1=>(.gtr (.gd hg1 rfl) (.of rfl))) rfl (.val (.por (.of rfl) (.of rfl) (.of rfl)) rfl (.q 1 rfl (.gval rfl rfl (fun hg1=>(.move (.of rfl))) rfl ?_)))))))))))
  refine WL.gcall (T:=fun w=>Sat B w I (blk b4 [I64 id] 3::As)) rfl rfl rfl Qf90 rfl (fun hg1=>(X0 (.gd hg1 rfl) (X0 (.of rfl) X4))) rfl (fun hg1=>X18 (X1m (Ul.nU s).1 _ w (by (try simp only [Y5] at hg1); omega) (by decide)) hS) hS ?_
  clear hS; rintro w hS
  refine .gval rfl rfl (fun hg1=>(.not (.gd hg1 rfl))) rfl (.val (.por (.of rfl) (.of rfl) (.of rfl)) rfl (.q 1 rfl (.gval rfl rfl (fun hg1=>(.move (.of rfl))) rfl (.gval rfl rfl (fun hg1=>(.nilCheck (.gd hg1 rfl))) rfl ?_))))
  refine WL.gval rfl rfl (fun hg1=>(by exact .fieldAddrI 0 (.gd hg1 rfl) Xdv rfl rfl Xcu rfl)) rfl ?_
  refine WL.gval rfl rfl (fun hg1=>(by exact (.ldI (.gd hg1 rfl) hS (At.add hreg _) Xj1 rfl))) rfl ?_
  refine .gval rfl rfl (fun hg1=>(.move (.of rfl))) rfl ?_
  refine WL.gval rfl rfl (fun hg1=>(by exact .indexAddrI (.gd hg1 rfl) (.gd hg1 rfl) (by (try simp only [Y5] at hg1); omega) (by (try simp only [Y5] at hg1); omega) X63 X2w)) rfl ?_
  refine WL.gval rfl rfl (fun hg1=>(by exact .fieldAddrI 9 (.gd hg1 rfl) Xgl rfl rfl Tryz.sizeOf158 rfl)) rfl ?_
  refine WL.gval rfl rfl (fun hg1=>(by exact (.ldI (.gd hg1 rfl) hS (At.add hx _) Tryz.isAgg158 rfl))) rfl ?_
  refine .gval rfl rfl (fun hg1=>(.move (.of rfl))) rfl ?_
  refine WL.gcall (T:=fun w=>Sat B w I (blk b4 [I64 id] 3::As)) rfl rfl rfl Tryz.func111 rfl (fun hg1=>(X0 (.gd hg1 rfl) (X0 (.gd hg1 rfl) X4))) rfl (fun hg1=>Xbb hT qq (Ul.nU s).1 (by (try simp only [Y5] at hg1); omega) B _ I _ hS hpT) hS ?_
  clear hS; rintro w hS
  refine .gval rfl rfl (fun hg1=>(.not (.gd hg1 rfl))) rfl (.val (.por (.of rfl) (.of rfl) (.of rfl)) rfl (.nil ?_))
  refine WC.cond rfl (fun hb50=>?_) (fun hb50=>?_)
  ·
   have hc50:=hb50; try simp only [Y5] at hc50
   refine .seq (.q 2 rfl (.ret (X1g Qr51 rfl rfl ?_)))
   refine ⟨_,rfl,?_,hS.drop (k:=0) rfl⟩
   unfold Xc8
   rw [hfind]
   simp only
   rw [show decide ((j:Int)<0)=false from decide_eq_false (by omega),Y3i] at hb50
   rw [if_pos (by rw [Xas hT]; exact hb50)]
  have hc50:=hb50; try simp only [Y5] at hc50
  refine .skip (.seq (.q 3 rfl (.ret (X1g Qr51 rfl rfl ?_))))
  refine ⟨_,rfl,?_,hS.drop (k:=0) rfl⟩
  unfold Xc8
  rw [hfind]
  simp only
  rw [show decide ((j:Int)<0)=false from decide_eq_false (by omega),Y3i] at hb50
  rw [if_neg (by rw [Xas hT,Y2g]; exact hb50)]
  rfl
end Go.Proofs.YtfibbpgikjggfaaGreatDoor
namespace Go.Proofs.YtfibbpgikjggfaaGreatDoor
open Gk Ul Pc Tk Tr
theorem Ex.indexU {P:Program} {n:Nat} {L:Env} {w:World} {d:Option Nat} {ty t:TypeId} {pos:String} {af:Array Edge} {g:Option (Nat×Bool)} {x y:Operand} {l:List UInt8} {i:Nat} {c:UInt8} (hx:Ev n L x (S l)) (hy:Ev n L y (U64 i)) (hc:l[i]?=some c) (hT:P.underlying t=some .string):Ex P n L w ⟨d,.index t x y,ty,pos,af,g⟩ (U8 c.toNat) w :=
 fun a ha=>by
  have h1:i<l.length:=(Y4.1 hc).1
  have h2:=(Y4.1 hc).2
  have h3:0≤(i:Int)∧(i:Int)<((ByteArray.size ⟨l.toArray⟩:Nat):Int):=⟨by omega,by show (i:Int)<(l.length:Int); omega⟩
  have h:=run_index_string (P:=P) w t ⟨l.toArray⟩ .u64 i hT
  rw [dif_pos h3] at h
  have h4:(⟨l.toArray⟩:ByteArray)[((i:Nat):Int).toNat]'(by show ((i:Nat):Int).toNat<l.length; omega)=c:=h2
  rw [h4] at h
  simp [execOp,hx a ha,hy a ha,h]
theorem Ex.bytesStr {P:Program} {n:Nat} {L:Env} {B w:World} {I:Im} {As:List X9} {k:Nat} {ty:TypeId} {pos:String} {af:Array Edge} {g:Option (Nat×Bool)} {x:Operand} {d:Option Nat} {src dst E:TypeId} {b o cap m:Nat} {l:List UInt8} {cs:List Value} (hx:Ev n L x (.slice (some (ad b o)) m cap)) (hm:l.length=m) (hS:Sat B w I As) (hk:As[k]?=some (blk b cs E)) (hs:P.underlying src=some (.slice E)) (he:P.underlying E=some (.int .u8)) (hd:P.underlying dst=some .string)
  (hc:∀ j (hj:j<l.length),cs[o+j]?=some (U8 (l[j].toNat:Int))):Ex P n L w ⟨d,.convert src dst x,ty,pos,af,g⟩ (S l) w:=fun a ha=>by
 subst hm
 have hb:=hS.block hk
 have h:=run_convert_bytes_back (P:=P) w src dst E (ad b o) cap l hs he hd (fun j hj=>by rw [Xt]; exact Xp hb (hc j hj))
 simp [execOp,hx a ha,h]
theorem Xno (d i:Nat):((d:Nat):Int) / 2 ^ (4*(i:Int)).toNat=((d / 16 ^ i:Nat):Int):=by
 rw [show (4*(i:Int)).toNat=4*i by omega,show (16:Nat) ^ i=2 ^ (4*i) by rw [Nat.pow_mul],Int.natCast_ediv,Int.natCast_pow]
 rfl
theorem Xdn (k:Int):(X6t k).length≤6:=by
 unfold X6t
 split
 ·simp
 ·rename_i h
  have:k=1∨k=2∨k=3∨k=4∨k=5∨k=6:=by omega
  rcases this with e | e | e | e | e | e <;> (subst e; decide)
def dg (n:Nat):UInt8:=if n<10 then UInt8.ofNat (48+n) else UInt8.ofNat (87+n)
theorem hex_dg {n:Nat} (h:n<16):HEXD[n]?=some (dg n):=(by decide:∀ n:Fin 16,HEXD[n.val]?=some (dg n.val)) ⟨n,h⟩
theorem X7f:∀ (k n:Nat),X6y (k+1) n=dg (n / 16 ^ k % 16)::X6y k n
 | 0,n=>by simp [X6y,dg]
 | k+1,n=>by
  rw [X6y,X7f k (n / 16),Y4g,← Nat.pow_succ',Yu,X6y]
theorem Xh2 {α:Type} (z v:α) (X:List α):∀ n:Nat,(List.replicate (n+1) z ++ X).set n v=List.replicate n z ++ v::X
 | 0=>rfl
 | n+1=>by
  rw [List.replicate_succ,Yu,Y2x,Xh2 z v X n]
  rfl
def lay (i d:Nat):List Value:=List.replicate (16 - i) (U8 0) ++ bcs (X6y i d)
theorem Xou {i d:Nat} (h:i≤16):(lay i d).length=16:=by
 unfold lay
 rw [Y0,Y30,Y13,X48]; omega
theorem Xot {i d:Nat} (h:i<16):(lay i d).set (15 - i) (U8 (dg (d / 16 ^ i % 16)).toNat)=lay (i+1) d:=by
 unfold lay
 rw [show 16 - i=(15 - i)+1 by omega,Xh2,show 16 - (i+1)=15 - i by omega,X7f]
 rfl
theorem Xnd {d j:Nat} {D:List UInt8} (h:X6y 16 d=D) (hj:j<D.length):(lay 16 d)[0+j]?=some (U8 (D[j].toNat:Int)):=by
 have e:lay 16 d=bcs D:=by unfold lay; rw [h]; rfl
 rw [e,Yf,Yx,Y7 hj]
 rfl
theorem Xm3 (kind:Int) (d:Nat) (hd:d<18446744073709551616) (B w:World) (I:Im) (hP:PreAt I) (As:List X9) (hS:Sat B w I As) :
  Calls Tryz.prog 159 [I64 kind,U64 (d:Nat)].toArray w (Ret fun v w'=>v=(if X6t kind=[] then .tuple #[S [],I64 8] else .tuple #[S (X6t kind ++ 45::X6y 16 d),I64 0])∧Sat B w' I As):=by
 refine calls Tryz.func159 rfl Tryz.ntmps159 rfl (.seq (.q 2 rfl (.seq (.t 1 rfl (.call Tryz.func158 rfl (X0 (.of rfl) X4) rfl (X9c kind B _ I hP _ hS) ?_)))))
 clear hS
 rintro _ w ⟨rfl,hS⟩
 refine .q 1 rfl (.nil (.seq (.seq (.q 2 rfl ?_))))
 refine WC.cond rfl (fun hb12=>?_) (fun hb12=>?_)
 ·
  have hc12:=hb12; try simp only [Y5] at hc12
  refine .seq (.q 2 rfl (.ret (X1g Tryz.results159 rfl rfl ?_)))
  exact ⟨_,rfl,by rw [if_pos (by simpa using hb12)],hS⟩
 have hc12:=hb12; try simp only [Y5] at hc12
 refine .skip (.seq (.region ?_))
 refine WL.make (l:=16) hS (.of rfl) (.of rfl) X19 X86 rfl (by simp [Tryz.t5] <;> omega) (by omega) rfl rfl rfl ?_
 clear hS; intro b13 w hS
 refine .q 1 rfl (.nil (.seq (.seq ?_)))
 replace hS:Sat B w I (blk b13 (lay 0 d) 5::As):=hS
 refine .region (.run 3 rfl ⟨⟨_,X19⟩,trivial⟩ (.nil (.block (.loop (σ:=Nat) (fun i=>[(1,U64 (d:Nat)),(6,S (X6t kind)),(7,.slice (some (ad b13 0)) 16 16),(15,I64 16),(16,I64 (i:Nat))]) (fun i w=>i≤16∧Sat B w I (blk b13 (lay i d) 5::As)) (fun i=>16 - i) 0 ⟨rfl,rfl,rfl,rfl,rfl,trivial⟩ ⟨Yp _,hS⟩ ?_))))
 rintro i w ⟨hi,hS⟩
 change WC _ _ _ _ [(1,U64 (d:Nat)),(6,S (X6t kind)),(7,.slice (some (ad b13 0)) 16 16),(15,I64 16),(16,I64 (i:Nat))] w
 refine .seq (.q 1 rfl (.seq ?_))
 refine WC.cond rfl (fun hb17=>?_) (fun hb17=>?_)
 ·
  have hc17:=hb17; try simp only [Y5] at hc17
  refine .skip (.seq (.block (.seq (.q 2 rfl (.region (.run 6 rfl ⟨⟨by omega,by omega⟩,⟨by omega,by omega⟩,trivial⟩ ?_))))))
  refine WL.val (.shr (.of rfl) (.of rfl) (by omega) (by show (4*(i:Int))≤64; omega)) rfl ?_
  rw [Xno d i]
  refine .val (.and64 (a:=d / 16 ^ i) (b:=15) (Y44 (Nat.div_le_self _ _) hd) (by omega) (.of rfl) (.of rfl)) rfl ?_
  rw [show (d / 16 ^ i) &&& 15=d / 16 ^ i % 16 from Nat.and_two_pow_sub_one_eq_mod _ 4]
  refine .val (Ex.indexU (l:=HEXD) (.of rfl) (.of rfl) (hex_dg (Nat.mod_lt _ (by decide))) Qu9) rfl ?_
  refine WL.val (.indexAddr (.of rfl) (.of rfl) (by omega) (by omega) X19 Qs5) rfl ?_
  refine WL.st1 hS (k:=0) rfl (.of rfl) (.of rfl) rfl Qs5 (by rw [Xou hi]; omega) ?_
  clear hS; intro w hS; try dsimp only [List.set] at hS
  rw [show 0+(15 - (i:Int)).toNat*1=15 - i by omega,Xot (show i<16 by omega)] at hS
  refine .nil (.region (.run 2 rfl ⟨⟨by omega,by omega⟩,trivial⟩ (.nil ?_)))
  refine ⟨i+1,⟨rfl,rfl,rfl,rfl,rfl,trivial⟩,⟨by (try dsimp only); omega,hS⟩,by (try dsimp only); omega⟩
 have hc17:=hb17; try simp only [Y5] at hc17
 refine .exit (.seq ?_)
 have h16:i=16:=by omega
 subst h16
 have hpl:=Xdn kind
 have hdl:=X48 16 d
 generalize hdg:X6y 16 d=D at *
 refine .region ?_
 refine WL.run 3 rfl ⟨by (try simp only [Y0,Y6,Yh]); omega,trivial⟩ ?_
 refine .val (Ex.bytesStr (l:=D) (o:=0) (.of rfl) hdl hS (k:=0) rfl X19 Qu5 Qu9 (fun j hj=>Xnd hdg hj)) rfl ?_
 refine WL.run 3 rfl ⟨by (try simp only [Y0,Y6,Yh]); omega,trivial⟩ ?_
 refine .nil (.ret (X1g Tryz.results159 rfl rfl ?_))
 exact ⟨_,rfl,by rw [if_neg (by simpa using hb12),Y8]; rfl,hS.drop (k:=0) rfl⟩
end Go.Proofs.YtfibbpgikjggfaaGreatDoor
namespace Gk
open Go
def X4c (E:TypeId) (v:Value) (xs:List Value):X9:=fun h =>
 (v=.slice none 0 0∧xs=[]∧h=[]) ∨
  (∃ g cs p,v=.slice (some p) 0 0∧xs=[]∧h=[(g,Xh cs E)])∨∃ g cap ys rest,v=.slice (some ⟨g,List.length ys,none⟩) xs.length cap∧h=[(g,Xh (ys ++ xs ++ rest) E)]∧xs.length≤cap∧cap≤maxLen∧xs.length+rest.length=cap
section
variable {P:Program} {B w w':World} {I:Im} {As:List X9} {k:Nat} {E:TypeId} {v:Value} {xs:List Value}
theorem Sat.vecoNil (hS:Sat B w I As) (E:Nat):Sat B w I (X4c E (.slice none 0 0) []::As):=by
 obtain ⟨h,hs,hg⟩:=hS
 exact ⟨h,⟨[],h,rfl,.inl ⟨rfl,rfl,rfl⟩,hs⟩,hg⟩
theorem Sat.vecoSlice (hS:Sat B w I As) (hk:As[k]?=some (X4c E v xs)):∃ a c,v=.slice a xs.length c∧xs.length≤c∧(xs≠[]→∃ p,a=some p) :=
 hS.pure_ hk fun _ hh=>by
  rcases hh with ⟨rfl,rfl,_⟩ | ⟨_,_,p,rfl,rfl,_⟩ | ⟨g,cap,ys,rest,rfl,_,h3,_⟩
  ·exact ⟨none,0,rfl,Ys _,fun h=>absurd rfl h⟩
  ·exact ⟨some p,0,rfl,Ys _,fun h=>absurd rfl h⟩
  ·exact ⟨_,_,rfl,h3,fun _=>⟨_,rfl⟩⟩
theorem Sat.vecoCons {x:Value} (hS:Sat B w I As) (hk:As[k]?=some (X4c E v (x::xs))):∃ g off c,v=.slice (some ⟨g,off,none⟩) (xs.length+1) c∧xs.length+1≤c :=
 hS.pure_ hk fun _ hh=>by
  rcases hh with ⟨_,h,_⟩ | ⟨_,_,_,_,h,_⟩ | ⟨g,cap,ys,rest,rfl,_,h3,_⟩
  ·cases h
  ·cases h
  ·exact ⟨_,_,_,rfl,h3⟩
theorem Sat.vecoAt {p:Addr} {m c:Nat} (hS:Sat B w I As) (hk:As[k]?=some (X4c E (.slice (some p) m c) xs)) {j:Nat} {u:Value} (hu:xs[j]?=some u):w.cell? (p.add j)=some u:=by
 obtain ⟨g,hs,hg⟩:=hS
 obtain ⟨h1,h2,hp,ha,hset,_⟩:=hs.at_ hk
 rcases ha with ⟨hv,_⟩ | ⟨_,_,_,_,h,_⟩ | ⟨b,cap,ys,rest,hv,rfl,h3,h4,h5⟩
 ·cases hv
 ·subst h; simp at hu
 ·injection hv with hv1 hv2 hv3
  injection hv1 with hv1
  subst hv1
  have hb:w.heap[b]?=some (Xh (ys ++ xs ++ rest) E):=(hg.perm hp).own b _ (by simp)
  rw [show (⟨b,ys.length,none⟩:Addr).add j=ad b (ys.length+j) from Xt b ys.length j]
  refine Xp hb ?_
  have hj:=(Y4.1 hu).1
  rw [Y8,Yt (by omega),Y29,Yi hj]
  exact hu
theorem Sat.vecoCut {g off n c:Nat} {x:Value} (hS:Sat B w I As) (hk:As[k]?=some (X4c E (.slice (some ⟨g,off,none⟩) n c) (x::xs))):Sat B w I (As.set k (X4c E (sliced (some ⟨g,off,none⟩) 1 n c 1) xs)) :=
 hS.say hk fun _ hh=>by
  rcases hh with ⟨hv,_⟩ | ⟨_,_,_,_,h,_⟩ | ⟨b,cap,ys,rest,hv,rfl,h3,h4,h5⟩
  ·cases hv
  ·cases h
  ·injection hv with hv1 hv2 hv3
   injection hv1 with hv1
   injection hv1 with hv1 hv4
   subst hv1; subst hv3; subst hv4
   simp only [Y6] at h3 h5 hv2
   by_cases h0:c=1
   ·have e:xs=[]:=Ye (by omega)
    subst e
    refine .inr <| .inl ⟨g,_,⟨g,ys.length,none⟩,?_,rfl,rfl⟩
    unfold sliced
    rw [if_pos h0,hv2,h0]
    rfl
   ·refine .inr <| .inr ⟨g,c - 1,ys ++ [x],rest,?_,by simp,by omega,by omega,by omega⟩
    unfold sliced
    rw [if_neg h0,hv2,Y0]
    rfl
theorem X71 (w:World) (t ty e:TypeId) (i:TypeInfo) (ht:P.underlying t=some (.slice e)) (hi:P.info? e=some i)
  (g off sLen sCap:Nat) (cur:Array Value) (hg:w.heap[g]?=some (.cells cur e (0,0)))
  (a:Addr) (m c:Nat) (news:List Value) (hl:news.length=m*i.size) (hnews:∀ j u,news[j]?=some u→w.cell? (a.add j)=some u) (h1:∀ u∈news,u.oneCell'=true)
  (hroom:sLen+m≤sCap) (hfit:off+sLen*i.size+news.length≤cur.size) :
  (Builtin.append_ #[t,t] ty #[.slice (some ⟨g,off,none⟩) sLen sCap,.slice (some a) m c]).run P w =
   .ok (.slice (some ⟨g,off,none⟩) (sLen+m) sCap) (w.setRow g (cur.toList.take (off+sLen*i.size) ++ news ++ cur.toList.drop (off+sLen*i.size+news.length)).toArray):=by
 have hf:=run_firstCells_some (P:=P) w i.size m a m c news hl hnews
 have hst:=run_storeCells_at P g (off+sLen*i.size) e news 0 cur w hg (by simpa using hfit) h1
 simp only [Y2d] at hst
 simp [Builtin.append_,run_underlying ht,Go.sizeOf,typeInfo,hi,Builtin.lenOf,hroom,hf,Addr.add_lit,hst]
theorem zc_len (z:Array Value) (hz:z.size=1) (n:Nat):(Builtin.zeroCells z n).toList.length=n:=by rw [Y2s,size_zeroCells,hz,Y1i]
theorem X8i (hS:Sat B w I As) {t ty:TypeId} {i:TypeInfo} {z:Value} {bytes:Nat} (ht:P.underlying t=some (.slice E)) (hi:P.info? E=some i) (hz:i.zero=some z)
  (hsize:i.size=1) (hby:i.bytes=bytes) (hzs:z.cells.size=1) (hk:As[k]?=some (X4c E v xs)) {p:Addr} {m c:Nat} {news:List Value} (hl:news.length=m) (hm:0<m)
  (hnews:∀ j u,news[j]?=some u→w.cell? (p.add j)=some u) (h1:∀ u∈news,u.oneCell'=true) (h63:xs.length+m≤maxLen) (hbytes:(xs.length+m)*bytes≤140737488355328) :
  ∃ v' w',(Builtin.append_ #[t,t] ty #[v,.slice (some p) m c]).run P w=.ok v' w'∧Sat B w' I (As.set k (X4c E v' (xs ++ news))):=by
 subst hby
 have hlk:k<As.length:=(Y4.1 hk).1
 have hsmall:xs.length+m≤9223372036854775807:=by simp only [maxLen] at h63; omega
 have fresh:∀ (xs:List Value) (old:Nat),xs.length+m≤maxLen→∀ (As':List X9),Sat B w I As'→k<As'.length→Sat B (w.drew.alloc (.cells (xs.toArray ++ news.toArray ++ Builtin.zeroCells z.cells (grownCap w (xs.length+m) old E - (xs.length+m))) E)) I
   (As'.set k (X4c E (.slice (some ⟨w.heap.size,0,none⟩) (xs.length+m) (grownCap w (xs.length+m) old E)) (xs ++ news))):=by
  intro xs old h63 As' hS hlk
  obtain ⟨A0,hk⟩:∃ A0,As'[k]?=some A0:=⟨_,Y7 hlk⟩
  have hge:=grownCap_ge w (xs.length+m) old E
  have hcm:grownCap w (xs.length+m) old E≤maxLen:=grownCap_le_maxLen w (xs.length+m) old E h63
  have hS2:=hS.drew.alloc (.cells (xs.toArray ++ news.toArray ++ Builtin.zeroCells z.cells (grownCap w (xs.length+m) old E - (xs.length+m))) E)
  have e1:(own w.drew.heap.size (.cells (xs.toArray ++ news.toArray ++ Builtin.zeroCells z.cells (grownCap w (xs.length+m) old E - (xs.length+m))) E))=blk w.heap.size ((xs ++ news) ++ (Builtin.zeroCells z.cells (grownCap w (xs.length+m) old E - (xs.length+m))).toList) E:=by
   unfold blk Xh
   congr 2
   apply Array.ext'
   simp
  rw [e1] at hS2
  have hS3:=hS2.say (k:=0) (A':=X4c E (.slice (some ⟨w.heap.size,0,none⟩) (xs.length+m) (grownCap w (xs.length+m) old E)) (xs ++ news)) rfl (fun _ hh=>.inr <| .inr ⟨w.heap.size,_,[],_,by rw [Y0,hl]; rfl,by rw [Yc]; exact hh,by rw [Y0,hl]; exact hge,hcm,by
   rw [Y0,hl,zc_len _ hzs]; omega⟩)
  obtain ⟨h,hs,hg⟩:=hS3
  obtain ⟨q1,q2,rfl,hq1,hq2⟩:=hs
  obtain ⟨h1',h2',hp,_,hset,_⟩:=SepAll.at_ hk hq2
  obtain ⟨h',hs',hp'⟩:=hset _ q1 hq1
  have g:=hg.perm (hp.append_left q1)
  have:(q1 ++ (h1' ++ h2')).Perm ((q1 ++ h2') ++ h1'):=by
   rw [Y8]
   exact (Y1f).append_left q1
  exact ⟨h',hs',(g.perm this).left.perm hp'.symm⟩
 obtain ⟨g,hs,hg⟩:=hS
 obtain ⟨h1',h2',hp,ha,hset,_⟩:=hs.at_ hk
 rcases ha with ⟨rfl,rfl,_⟩ | ⟨_,_,q,rfl,rfl,_⟩ | ⟨b,cap,ys,rest,rfl,rfl,h3,h4,h5⟩
 ·have hr:=run_append_nil (P:=P) w t ty E i z ht hi hz p m c news (by rw [hsize,hl,Y1i]) hnews hm (by simp only [Yh,Yf] at hsmall; omega) (by have hb:=hbytes; simp only [Yh,Yf] at hb; omega)
  have hgr:=fresh [] 0 (by simpa using h63) As ⟨g,hs,hg⟩ hlk
  simp only [Yh,Yf,Yc,Y42] at hgr ⊢
  exact ⟨_,_,hr,hgr⟩
 ·have hr:=run_append_grow (P:=P) w t ty E i z ht hi hz q 0 0 [] (by simp) (fun j u hu=>by simp at hu) p m c news (by rw [hsize,hl,Y1i]) hnews (by omega) (by simp only [Yh,Yf] at hsmall; omega) (growslice_fits (by omega) (by simpa using hbytes))
  have hgr:=fresh [] 0 (by simpa using h63) As ⟨g,hs,hg⟩ hlk
  simp only [Yh,Yf,Yc,Y42] at hgr hr ⊢
  exact ⟨_,_,hr,hgr⟩
 ·obtain ⟨h',hs',hp'⟩:=hset (blk b (ys ++ xs ++ rest) E) _ rfl
  have hSo:Sat B w I (As.set k (blk b (ys ++ xs ++ rest) E)):=⟨h',hs',hg.perm (hp.trans hp'.symm)⟩
  have hko:(As.set k (blk b (ys ++ xs ++ rest) E))[k]?=some (blk b (ys ++ xs ++ rest) E):=by simp [hlk]
  have hblk:=hSo.block hko
  by_cases hroom:xs.length+m≤cap
  ·have hr:=X71 (P:=P) w t ty E i ht hi b ys.length xs.length cap (ys ++ xs ++ rest).toArray hblk p m c news (by rw [hsize,hl,Y1i]) hnews h1 hroom (by
    simp only [Y3k,Y0,hsize]; omega)
   have e2:((ys ++ xs ++ rest).take (ys.length+xs.length*i.size) ++ news ++ (ys ++ xs ++ rest).drop (ys.length+xs.length*i.size+news.length)).toArray=(ys ++ (xs ++ news) ++ rest.drop news.length).toArray:=by
    rw [hsize,Y1i,← Y0,Y3l,Y4d,Y15 (by omega:(ys ++ xs).length≤(ys ++ xs).length+news.length)]
    simp
   rw [e2] at hr
   refine ⟨_,_,hr,?_⟩
   have hw:=hSo.write (w':=w.setRow b (ys ++ (xs ++ news) ++ rest.drop news.length).toArray) (o':=Xh (ys ++ (xs ++ news) ++ rest.drop news.length) E) hko rfl rfl rfl (setRow_heap w b _ _ E _ hblk) (fun x hx=>setRow_other w b x _ hx)
   have hsh:=hw.say (k:=k) (A:=own b (Xh (ys ++ (xs ++ news) ++ rest.drop news.length) E)) (A':=X4c E (.slice (some ⟨b,ys.length,none⟩) (xs.length+m) cap) (xs ++ news)) (by simp [hlk]) (fun _ hh=>.inr <| .inr ⟨b,cap,ys,rest.drop news.length,by rw [Y0,hl],hh,by rw [Y0,hl]; exact hroom,h4,by
    rw [Y0,Yj]; omega⟩)
   simpa using hsh
  ·have holds:∀ j u,xs[j]?=some u→w.cell? ((⟨b,ys.length,none⟩:Addr).add j)=some u:=fun j u hu=>by
    rw [show (⟨b,ys.length,none⟩:Addr).add j=ad b (ys.length+j) from Xt b ys.length j]
    refine Xp hblk ?_
    have hj:=(Y4.1 hu).1
    rw [Y8,Yt (by omega),Y29,Yi hj]
    exact hu
   have hr:=run_append_grow (P:=P) w t ty E i z ht hi hz ⟨b,ys.length,none⟩ xs.length cap xs (by rw [hsize,Y1i]) holds p m c news (by rw [hsize,hl,Y1i]) hnews (by omega) (by omega) (growslice_fits (by omega) hbytes)
   exact ⟨_,_,hr,fresh xs cap h63 As ⟨g,hs,hg⟩ hlk⟩
theorem WL.appendO {n d:Nat} {K:X2y} {L:Env} {ops:Array Oper} {rest:List Oper} {ty:TypeId} {pos:String} {af:Array Edge} {t:TypeId} {x y:Operand} {m c:Nat} {a:Option Addr} {news:List Value} {i:TypeInfo} {z:Value} {bytes:Nat} (hS:Sat B w I As) (hx:Ev n L x v) (hy:Ev n L y (.slice a m c)) (hr:RS I a 1 m news)
  (hk:As[k]?=some (X4c E v xs)) (ht:P.underlying t=some (.slice E)) (hi:P.info? E=some i) (hz:i.zero=some z) (hsize:i.size=1) (hby:i.bytes=bytes) (hzs:z.cells.size=1)
  (h1:news.all Value.oneCell'=true) (h63:(xs.length+m)*bytes≤140737488355328∧xs.length+m≤maxLen) (hd:Nat.blt d n=true)
  (h:∀ v' w',Sat B w' I (As.set k (X4c E v' (xs ++ news)))→WL P n ops K rest ((d,v')::L) w') :
  WL P n ops K (⟨some d,.call ⟨.builtin .append,#[x,y],#[t,t]⟩,ty,pos,af,none⟩::rest) L w:=by
 rcases Y1k m with h0 | h0
 ·subst h0
  have hy0:news=[]:=Ye (by simpa using hr.1)
  subst hy0
  obtain ⟨a0,c0,rfl,hc0,_⟩:=hS.vecoSlice hk
  have hr:(Builtin.append_ #[t,t] ty #[.slice a0 xs.length c0,.slice a 0 c]).run P w=.ok (.slice a0 xs.length c0) w:=by
   cases a0 <;> cases a <;> simp [Builtin.append_,run_underlying ht,Go.sizeOf,typeInfo,hi,Builtin.lenOf,Builtin.firstCells,loadCells,loadCellsFrom,storeCells,hc0]
  have hlk:k<As.length:=(Y4.1 hk).1
  have h2:=h (.slice a0 xs.length c0) w (by
   have:As.set k (X4c E (.slice a0 xs.length c0) (xs ++ []))=As:=by
    rw [Yg]
    have:=(Y4.1 hk).2
    rw [← this,Y3m]
   rw [this]; exact hS)
  refine WL.val (v:=.slice a0 xs.length c0) (w':=w) (fun a ha=>?_) hd h2
  simp [execOp,resolve,invoke,builtin,hx a ha,hy a ha,hr]
 ·obtain ⟨p,rfl,hA⟩:=hr.2 h0
  obtain ⟨v',w',hr',hS'⟩:=X8i (P:=P) (ty:=ty) hS ht hi hz hsize hby hzs hk (p:=p) (m:=m) (c:=c) (by have:=hr.1; omega) h0 (fun j u hu=>X28 hS hA hu) (Y18.1 h1) h63.2 h63.1
  refine WL.val (v:=v') (w':=w') (fun a ha=>?_) hd (h _ _ hS')
  simp [execOp,resolve,invoke,builtin,hx a ha,hy a ha,hr']
end
end Gk
