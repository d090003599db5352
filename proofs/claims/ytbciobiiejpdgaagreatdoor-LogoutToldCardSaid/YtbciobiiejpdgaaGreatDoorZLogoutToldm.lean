/- 'LogoutTold': what the card says. -/
import Derived.Test.YtbciobiiejpdgaaGreatDoorMTH
import Derived.Test.YtbciobiiejpdgaaGreatDoorRows
import Derived.Test.YtbciobiiejpdgaaGreatDoorCards
import Derived.Test.YtbciobiiejpdgaaGreatDoorTie
import Derived.WalkKit
import Derived.ProofKit
import Derived.OpenShut
import Derived.KernelRfl
import Derived.LaidOnce
import Derived.SevenTiedAt
namespace Go.Proofs.YtbciobiiejpdgaaGreatDoor.logoutTold
open Go.ChangeShapes Go.WideShapes Go.ChangeAt Go.RowKit Gk
open Go.ChangeMaps (open_string shut_string)
set_option linter.unusedVariables false
theorem knob:ownKnob Tryz.prog.godebug=none:=by kernel_rfl
theorem laidOut:laidOutB Tryz.prog=true:=by kernel_rfl
theorem plainLaid:(Rows.logoutToldRow.laid.all fun x=>x.2.handleName?.isNone)=true:=by kernel_rfl
theorem wit1 (os:Os):((World.laidAll Tryz.prog os Rows.logoutToldRow.laid).forCall (fun _ _=>0) ⟨#[],#[.agg #[.slice none 0 0,.slice none 0 0,.int .i64 0,.int .i64 0,.int .i64 0,.int .i64 0,.int .i64 0,.int .i64 0,.int .i64 0,.int .i64 0,.int .i64 0,.int .i64 0,.int .i64 0,.int .i64 0,.int .i64 0,.int .i64 0,.int .i64 0,.int .i64 0,.int .i64 0,.int .i64 0,.int .i64 0,.int .i64 0,.int .i64 0,.int .i64 0,.float .f64 0,.float .f64 0,.float .f64 0,.int .i64 0],.slice none 0 0,.slice none 0 0],[]⟩).Shaped Tryz.prog:=World.shaped_of_ZipB (by kernel_rfl) (by kernel_rfl)
theorem wit2 (os:Os):laidMetH Tryz.prog Rows.logoutToldRow.laid ((World.laidAll Tryz.prog os Rows.logoutToldRow.laid).forCall (fun _ _=>0) ⟨#[],#[.agg #[.slice none 0 0,.slice none 0 0,.int .i64 0,.int .i64 0,.int .i64 0,.int .i64 0,.int .i64 0,.int .i64 0,.int .i64 0,.int .i64 0,.int .i64 0,.int .i64 0,.int .i64 0,.int .i64 0,.int .i64 0,.int .i64 0,.int .i64 0,.int .i64 0,.int .i64 0,.int .i64 0,.int .i64 0,.int .i64 0,.int .i64 0,.int .i64 0,.float .f64 0,.float .f64 0,.float .f64 0,.int .i64 0],.slice none 0 0,.slice none 0 0],[]⟩).memory:=by
  rw [MakeChecks.laidMetH_plain _ _ _ plainLaid]
  exact laidMet_laidAll _ (by kernel_rfl) (by kernel_rfl)
theorem wit3 (os:Os):Input.okWideB Tryz.checked.prog ((World.laidAll Tryz.prog os Rows.logoutToldRow.laid).forCall (fun _ _=>0) ⟨#[],#[.agg #[.slice none 0 0,.slice none 0 0,.int .i64 0,.int .i64 0,.int .i64 0,.int .i64 0,.int .i64 0,.int .i64 0,.int .i64 0,.int .i64 0,.int .i64 0,.int .i64 0,.int .i64 0,.int .i64 0,.int .i64 0,.int .i64 0,.int .i64 0,.int .i64 0,.int .i64 0,.int .i64 0,.int .i64 0,.int .i64 0,.int .i64 0,.int .i64 0,.float .f64 0,.float .f64 0,.float .f64 0,.int .i64 0],.slice none 0 0,.slice none 0 0],[]⟩) 7 ⟨#[],#[.agg #[.slice none 0 0,.slice none 0 0,.int .i64 0,.int .i64 0,.int .i64 0,.int .i64 0,.int .i64 0,.int .i64 0,.int .i64 0,.int .i64 0,.int .i64 0,.int .i64 0,.int .i64 0,.int .i64 0,.int .i64 0,.int .i64 0,.int .i64 0,.int .i64 0,.int .i64 0,.int .i64 0,.int .i64 0,.int .i64 0,.int .i64 0,.int .i64 0,.float .f64 0,.float .f64 0,.float .f64 0,.int .i64 0],.slice none 0 0,.slice none 0 0],[]⟩=true:=by kernel_rfl
theorem wit4 (os:Os) (H:Type) (enc:TypeId×Value→H):Rows.logoutToldSpec.preB enc Tryz.checked.prog Tryz.f7 Rows.logoutToldRow.domain false ((World.laidAll Tryz.prog os Rows.logoutToldRow.laid).forCall (fun _ _=>0) ⟨#[],#[.agg #[.slice none 0 0,.slice none 0 0,.int .i64 0,.int .i64 0,.int .i64 0,.int .i64 0,.int .i64 0,.int .i64 0,.int .i64 0,.int .i64 0,.int .i64 0,.int .i64 0,.int .i64 0,.int .i64 0,.int .i64 0,.int .i64 0,.int .i64 0,.int .i64 0,.int .i64 0,.int .i64 0,.int .i64 0,.int .i64 0,.int .i64 0,.int .i64 0,.float .f64 0,.float .f64 0,.float .f64 0,.int .i64 0],.slice none 0 0,.slice none 0 0],[]⟩).memory #[.agg #[.slice none 0 0,.slice none 0 0,.int .i64 0,.int .i64 0,.int .i64 0,.int .i64 0,.int .i64 0,.int .i64 0,.int .i64 0,.int .i64 0,.int .i64 0,.int .i64 0,.int .i64 0,.int .i64 0,.int .i64 0,.int .i64 0,.int .i64 0,.int .i64 0,.int .i64 0,.int .i64 0,.int .i64 0,.int .i64 0,.int .i64 0,.int .i64 0,.float .f64 0,.float .f64 0,.float .f64 0,.int .i64 0],.slice none 0 0,.slice none 0 0] 8=true:=by kernel_rfl
theorem wit5 (os:Os) (H:Type) (enc:TypeId×Value→H):Rows.logoutToldSpec.sizedB enc Tryz.checked.prog Tryz.f7 false ((World.laidAll Tryz.prog os Rows.logoutToldRow.laid).forCall (fun _ _=>0) ⟨#[],#[.agg #[.slice none 0 0,.slice none 0 0,.int .i64 0,.int .i64 0,.int .i64 0,.int .i64 0,.int .i64 0,.int .i64 0,.int .i64 0,.int .i64 0,.int .i64 0,.int .i64 0,.int .i64 0,.int .i64 0,.int .i64 0,.int .i64 0,.int .i64 0,.int .i64 0,.int .i64 0,.int .i64 0,.int .i64 0,.int .i64 0,.int .i64 0,.int .i64 0,.float .f64 0,.float .f64 0,.float .f64 0,.int .i64 0],.slice none 0 0,.slice none 0 0],[]⟩).memory #[.agg #[.slice none 0 0,.slice none 0 0,.int .i64 0,.int .i64 0,.int .i64 0,.int .i64 0,.int .i64 0,.int .i64 0,.int .i64 0,.int .i64 0,.int .i64 0,.int .i64 0,.int .i64 0,.int .i64 0,.int .i64 0,.int .i64 0,.int .i64 0,.int .i64 0,.int .i64 0,.int .i64 0,.int .i64 0,.int .i64 0,.int .i64 0,.int .i64 0,.float .f64 0,.float .f64 0,.float .f64 0,.int .i64 0],.slice none 0 0,.slice none 0 0] 8=true:=by kernel_rfl
theorem wit (os:Os) (H:Type) (enc:TypeId×Value→H):WitT enc {} Tryz.checked os 7 Tryz.f7 Rows.logoutToldSpec Rows.logoutToldRow.domain false (fun w _=>laidMetH Tryz.prog Rows.logoutToldRow.laid w) :=
  ChangeSpec.witness_shaped (X:=(fun w _=>laidMetH Tryz.prog Rows.logoutToldRow.laid w)) false (World.laidAll Tryz.prog os Rows.logoutToldRow.laid) #[.agg #[.slice none 0 0,.slice none 0 0,.int .i64 0,.int .i64 0,.int .i64 0,.int .i64 0,.int .i64 0,.int .i64 0,.int .i64 0,.int .i64 0,.int .i64 0,.int .i64 0,.int .i64 0,.int .i64 0,.int .i64 0,.int .i64 0,.int .i64 0,.int .i64 0,.int .i64 0,.int .i64 0,.int .i64 0,.int .i64 0,.int .i64 0,.int .i64 0,.float .f64 0,.float .f64 0,.float .f64 0,.int .i64 0],.slice none 0 0,.slice none 0 0] 8 (World.laidAll_os _ _ _) (wit1 os) (wit3 os) (wit4 os H enc) (wit5 os H enc) (wit2 os)
set_option maxRecDepth 100000 in
theorem lifted (os:Os) (started:os.Started) (H:Type) (enc:TypeId×Value→H) :
    ReturnsInHanded {} Tryz.checked os 7 .any (fun w args=>(Rows.logoutToldSpec.pre enc Tryz.prog Tryz.f7 Rows.logoutToldRow.domain false w args∧laidMetH Tryz.prog Rows.logoutToldRow.laid w)∧sizedMet enc Tryz.prog Tryz.f7 (OpenSpec.ofChange Rows.logoutToldSpec) false w args) (Rows.logoutToldSpec.post enc Tryz.prog Tryz.f7 false true false false):=by
  refine X7e (C:=Tryz.checked) (X:=(fun w _=>laidMetH Tryz.prog Rows.logoutToldRow.laid w)) (fun _ _ _ hh h=>h.of_heap hh) knob started (by kernel_rfl) Tryz.func7 (wit os H enc) ?_
  intro W base args ds gs before hval0 hW hL0 hsh
  have hL:=hL0
  rw [MakeChecks.laidMetH_plain _ _ _ plainLaid] at hL
  have hK:=Xmw (Lib.laidMet.reads hL (.tail _ (.tail _ (.tail _ (.tail _ (.tail _ (.tail _ (.head _)))))))) (Lib.laidMet.reads hL (.tail _ (.tail _ (.head _)))) (Lib.laidMet.reads hL (.tail _ (.tail _ (.tail _ (.tail _ (.tail _ (.tail _ (.tail _ (.head _))))))))) (Lib.laidMet.reads hL (.tail _ (.tail _ (.tail _ (.tail _ (.tail _ (.tail _ (.tail _ (.tail _ (.head _)))))))))) (Lib.laidMet.reads hL (.tail _ (.tail _ (.tail _ (.tail _ (.tail _ (.head _))))))) (Lib.laidMet.reads hL (.tail _ (.tail _ (.tail _ (.tail _ (.head _)))))) hsh
  have hval:∀ (j:Nat) t v,Tryz.f7.params[j]?=some t→args[j]?=some v→Value.okWide Tryz.prog W .any base t v:=hval0
  have hW':=hW
  obtain ⟨p,q,hA0,hV,rfl,hfz,hnd⟩:=hW
  have hA:DataW.TrodAll enc Tryz.prog W 0 (fun _=>true) true Tryz.f7.params.toList args.toList ds p:=hA0
  rw [Tryz.params7] at hA hval
  obtain ⟨v0,vs0,d0,ds0,p0,q0,hargs,rfl,rfl,h0,r0⟩:=trodAll_cons hA
  obtain ⟨v1,vs1,d1,ds1,p1,q1,rfl,rfl,rfl,h1,r1⟩:=trodAll_cons r0
  obtain ⟨v2,vs2,d2,ds2,p2,q2,rfl,rfl,rfl,h2,r2⟩:=trodAll_cons r1
  obtain ⟨rfl,rfl,rfl⟩:=trodAll_nil r2
  obtain rfl:args=#[v0,v1,v2]:=by cases args; simp_all
  obtain ⟨rfl,rfl⟩:=trodVars_none hV
  have k0:=h0
  obtain ⟨f0,hf0⟩:=h0
  obtain ⟨ar0,rfl,hsz0⟩:=Go.WideShapes.okWide_struct Tryz.underlying29 (hval 0 29 v0 rfl rfl)
  obtain ⟨c0,a0,cap0,ua0,ucap0,e0,hC0⟩:=Xsf hf0
  have ee0:ar0=(X17 c0 a0 cap0 ua0 ucap0).toArray:=Array.ext' (by simpa [Value.cells] using e0)
  subst ee0
  have k1:=h1
  obtain ⟨f1,hf1⟩:=h1
  obtain ⟨sa1,sn1,sc1,rfl⟩:=Go.WideShapes.okWide_slice Tryz.underlying65 (hval 1 65 v1 rfl rfl)
  obtain ⟨a1,cap1,l1,hc1,hcap1,hcm1,hR1,hfit1⟩:=Xa7 (cells:=Xf) (c:=10) (fit:=Xtg) Tryz.underlying65 (by kernel_rfl) (by decide) (fun n cs y h=>Xs7 h) hf1
  simp [Value.cells] at hc1
  obtain ⟨rfl,rfl,rfl⟩:=hc1
  have k2:=h2
  obtain ⟨f2,hf2⟩:=h2
  obtain ⟨sa2,sn2,sc2,rfl⟩:=Go.WideShapes.okWide_slice Tryz.underlying101 (hval 2 101 v2 rfl rfl)
  obtain ⟨a2,cap2,l2,hc2,hcap2,hcm2,hR2,hfit2⟩:=Xa7 (cells:=Xhr) (c:=1) (fit:=fun _=>True) Tryz.underlying101 (by kernel_rfl) (by decide) (fun n cs y h=>Xjs h) hf2
  simp [Value.cells] at hc2
  obtain ⟨rfl,rfl,rfl⟩:=hc2
  clear hA0 hval0
  simp only [List.append_nil] at hW'
  refine (Xap c0 a0 cap0 ua0 ucap0 _ sc1 l1 (Nat.le_trans hcap1 hcm1) _ sc2 l2 (Nat.le_trans hcap2 hcm2)   W W (im0 W) hK.1.1 hK.1.2 hK.2 hC0 hR1 hR2 [] (sat0 W)).mono fun e W' he=>?_
  obtain ⟨_,rfl,rfl,J,hJ,hS⟩:=he
  exact ⟨_,rfl,Xnl (pv:=[]) hW' (hS.below hJ) (fun _ _ _=>(trodAll_cons_mk (shut_bool Tryz.underlying4 _) trodAll_mk0)) ((trodAll_cons_mk (Go.RowKit.Below.trod laidOut (by kernel_rfl) (of_decide_eq_true (by kernel_rfl)) k0 (hS.below hJ) (fun x hx=>by simpa using hW'.lt x (by simp [hx]))) (trodAll_cons_mk (Go.RowKit.Below.trod laidOut (by kernel_rfl) (of_decide_eq_true (by kernel_rfl)) k1 (hS.below hJ) (fun x hx=>by simpa using hW'.lt x (by simp [hx]))) (trodAll_cons_mk (Go.RowKit.Below.trod laidOut (by kernel_rfl) (of_decide_eq_true (by kernel_rfl)) k2 (hS.below hJ) (fun x hx=>by simpa using hW'.lt x (by simp [hx]))) trodAll_mk0)))) rfl (by simp)⟩
theorem jand {a b:Bool} (h:a=true) (k:b=true):(a && b)=true:=by rw [h,k]; rfl
theorem j0:(Rows.logoutToldRow.wf (OpenSpec.ofChange Rows.logoutToldSpec))=true:=by kernel_rfl
theorem j1:(laidOutB Tryz.prog)=true:=by kernel_rfl
theorem j2:(mapsRowed Tryz.prog)=true:=by kernel_rfl
theorem j3:(Tryz.f7.params.all (Tryz.prog.readableRec ·))=true:=by kernel_rfl
theorem j4:(namedTie Tryz.prog Rows.logoutToldRow.named Rows.logoutToldSpec.vars)=true:=by kernel_rfl
theorem j5:((Rows.logoutToldRow.stops == []))=true:=by kernel_rfl
theorem j6:((Tryz.prog.stops == []))=true:=by kernel_rfl
theorem j7:((Rows.logoutToldRow.knobs == []))=true:=by kernel_rfl
theorem j8:((Tryz.prog.stopKnobs == []))=true:=by kernel_rfl
theorem j9:((Rows.logoutToldRow.inPlace == Tryz.prog.inPlace 7))=true:=by kernel_rfl
theorem j10:((Rows.logoutToldRow.unfollowed == Tryz.prog.unfollowed 7))=true:=by kernel_rfl
theorem j11:((Rows.logoutToldRow.recurses == Tryz.prog.recurses 7))=true:=by kernel_rfl
theorem j12:((Rows.logoutToldRow.named == Tryz.prog.varsNamed 7))=true:=by kernel_rfl
theorem j13:((Rows.logoutToldRow.maps == (Tryz.f7.params.toList ++ Rows.logoutToldSpec.plain.varTypes Tryz.prog).any (Tryz.prog.mapsRec ·)))=true:=by kernel_rfl
theorem j14:((Rows.logoutToldRow.ifaces == (Tryz.f7.params.toList ++ Rows.logoutToldSpec.plain.varTypes Tryz.prog).any (Tryz.prog.ifacesRec ·)))=true:=by kernel_rfl
theorem j15:((Rows.logoutToldRow.mapsOut == Tryz.prog.mapsAmong Tryz.f7.resultTypes.toList))=true:=by kernel_rfl
theorem j16:((Rows.logoutToldRow.loops == (Tryz.f7.params.toList ++ Rows.logoutToldSpec.plain.varTypes Tryz.prog).any (Tryz.prog.loopsFrom ·)))=true:=by kernel_rfl
theorem j17:((Rows.logoutToldRow.wideKeys == (Tryz.f7.params.toList ++ Rows.logoutToldSpec.plain.varTypes Tryz.prog ++ Tryz.f7.resultTypes.toList).any (Tryz.prog.wideKeysFrom ·)))=true:=by kernel_rfl
theorem j18:(Rows.logoutToldSpec.vars.all (Tryz.prog.varReadable ·))=true:=by kernel_rfl
theorem j19:(Tryz.f7.resultTypes.all (fun t=>Tryz.prog.readableRec t && decide (t<Tryz.prog.types.size)))=true:=by kernel_rfl
theorem j20:((Rows.logoutToldRow.ifacesOut == Tryz.f7.resultTypes.toList.any (Tryz.prog.ifacesRec ·)))=true:=by kernel_rfl
theorem j21:((Rows.logoutToldRow.loopsOut == Tryz.f7.resultTypes.toList.any (Tryz.prog.loopsFrom ·)))=true:=by kernel_rfl
theorem j22:((Rows.logoutToldRow.plainKeys == Tryz.prog.plainKeys))=true:=by kernel_rfl
theorem j23:(Rows.logoutToldRow.shortTexts.isNone)=true:=by kernel_rfl
theorem j24:(Tryz.prog.stopsHeard)=true:=by kernel_rfl
theorem j25:(Tryz.prog.mayEnter)=true:=by kernel_rfl
theorem j26:((Rows.logoutToldRow.lifted == Tryz.prog.liftsFinal))=true:=by kernel_rfl
theorem j27:((Tryz.prog.make == some Rows.logoutToldRow.make))=true:=by kernel_rfl
theorem j28:((Rows.logoutToldRow.kinds == (if Rows.logoutToldRow.domain.isEmpty then [] else Tryz.f7.params.toList.map fun t=>match Tryz.prog.underlying t with | some (.int k)=>some k | _=>none)))=true:=by kernel_rfl
theorem j29:((Rows.logoutToldRow.pinned == Rows.logoutToldRow.pinnedBy))=true:=by kernel_rfl
theorem j30:((Rows.logoutToldRow.veiled == (Tryz.f7.params.toList ++ Rows.logoutToldSpec.plain.varTypes Tryz.prog ++ Tryz.f7.resultTypes.toList).any (Tryz.prog.veiledRec ·)))=true:=by kernel_rfl
theorem j31:(Rows.logoutToldRow.veiledFits Tryz.prog Tryz.f7.params.toList (Tryz.f7.params.toList ++ Rows.logoutToldSpec.plain.varTypes Tryz.prog ++ Tryz.f7.resultTypes.toList))=true:=by kernel_rfl
set_option maxRecDepth 100000 in
theorem facts:joinedFacts Tryz.prog 7 Tryz.f7 Rows.logoutToldSpec Rows.logoutToldRow=true:=by
  unfold joinedFacts
  exact (jand (jand (jand (jand (jand (jand (jand (jand (jand (jand (jand (jand (jand (jand (jand (jand (jand (jand (jand (jand (jand (jand (jand (jand (jand (jand (jand (jand (jand (jand (jand j0 j1) j2) j3) j4) j5) j6) j7) j8) j9) j10) j11) j12) j13) j14) j15) j16) j17) j18) j19) j20) j21) j22) j23) j24) j25) j26) j27) j28) j29) j30) j31)
theorem over:Rows.logoutToldRow.holds Tryz.pinned (OpenSpec.ofChange Rows.logoutToldSpec) :=
  OpenClaim.holds_of_wide 7 Tryz.f7 rfl rfl rfl rfl rfl rfl rfl ⟨rfl,rfl,rfl,rfl,rfl⟩ rfl rfl rfl rfl rfl (by kernel_rfl) Tryz.func7 facts
    (of_decide_eq_true (by kernel_rfl)) (by unfold Func.isWrapper; first | (rw [if_pos (by decide +kernel)]; kernel_rfl) | (rw [if_neg (by decide +kernel)]; exact ⟨rfl,rfl⟩))
    (fun os started H enc _=>lifted os started H enc)
end Go.Proofs.YtbciobiiejpdgaaGreatDoor.logoutTold
namespace Go.Proofs.YtbciobiiejpdgaaGreatDoor
theorem logoutTold:Rows.LogoutToldCardSaid :=
  Claim7.holds_tied_plain_at .later [] [.data, .data, .data, .data, .sentinel, .sentinel, .data, .widerDeep, .widerDeep, .pinned] true (true, "26b9ea3839e40aff174482b81f08c8e6462f9b0982ca90b3a91fec393b2f2f29") true logoutTold.over (fun _ h => by cases h) (by kernel_rfl) (fun _ h => by cases h) logoutTold_row_tie rfl ⟨rfl, rfl⟩ (by kernel_rfl) rfl
    (fun f fn hf hfn=>by
      obtain rfl : f = 7 := Option.some.inj ((show Tryz.prog.funcNamed "matricula/matriculalaw23.LogoutTold" = some 7 by kernel_rfl).symm.trans hf) |>.symm
      obtain rfl:fn=Tryz.f7:=(Option.some.inj (Tryz.func7.symm.trans hfn)).symm
      exact ⟨by kernel_rfl,fun j t ht=>by
        rw [Tryz.params7] at ht
        have hm:t∈[29,65,101]:=by simpa using Array.mem_of_getElem? ht
        have hall:([29,65,101].all fun u=>!Tryz.prog.wantsStandIn u)=true:=by kernel_rfl
        exact (show Tryz.prog.wantsStandIn t=false by simpa using List.all_eq_true.1 hall t hm)⟩)
    (by kernel_rfl)
end Go.Proofs.YtbciobiiejpdgaaGreatDoor
