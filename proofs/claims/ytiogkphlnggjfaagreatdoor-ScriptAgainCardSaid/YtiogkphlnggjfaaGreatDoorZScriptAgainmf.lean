/- 'ScriptAgain': what the card says. -/
import Derived.Test.YtiogkphlnggjfaaGreatDoorF28F
import Derived.Test.YtiogkphlnggjfaaGreatDoorRows
import Derived.Test.YtiogkphlnggjfaaGreatDoorCards
import Derived.Test.YtiogkphlnggjfaaGreatDoorTie
import Derived.WalkKit
import Derived.ProofKit
import Derived.OpenShut
import Derived.KernelRfl
import Derived.LaidOnce
import Derived.SevenTiedAt
namespace Go.Proofs.YtiogkphlnggjfaaGreatDoor.scriptAgain
open W9
open Go.ChangeShapes Go.WideShapes Go.ChangeAt Go.RowKit Gk
open Go.ChangeMaps (open_string shut_string)
set_option linter.unusedVariables false
theorem knob:ownKnob Tryz.prog.godebug=none:=by kernel_rfl
theorem laidOut:laidOutB Tryz.prog=true:=by kernel_rfl
theorem plainLaid:(Rows.scriptAgainRow.laid.all fun x=>x.2.handleName?.isNone)=true:=by kernel_rfl
theorem wit1 (os:Os):((World.laidAll Tryz.prog os Rows.scriptAgainRow.laid).forCall (fun _ _=>0) ⟨#[],#[.agg #[.slice none 0 0,.slice none 0 0,.int .i64 0,.int .i64 0,.int .i64 0,.int .i64 0,.int .i64 0,.int .i64 0,.int .i64 0,.int .i64 0,.int .i64 0,.int .i64 0,.int .i64 0,.int .i64 0,.int .i64 0,.int .i64 0,.int .i64 0,.int .i64 0,.int .i64 0,.int .i64 0,.int .i64 0,.int .i64 0,.int .i64 0,.int .i64 0,.float .f64 0,.float .f64 0,.float .f64 0,.int .i64 0],.int .u16 0,.slice none 0 0,.slice none 0 0],[]⟩).Shaped Tryz.prog:=World.shaped_of_ZipB (by kernel_rfl) (by kernel_rfl)
theorem wit2 (os:Os):laidMetH Tryz.prog Rows.scriptAgainRow.laid ((World.laidAll Tryz.prog os Rows.scriptAgainRow.laid).forCall (fun _ _=>0) ⟨#[],#[.agg #[.slice none 0 0,.slice none 0 0,.int .i64 0,.int .i64 0,.int .i64 0,.int .i64 0,.int .i64 0,.int .i64 0,.int .i64 0,.int .i64 0,.int .i64 0,.int .i64 0,.int .i64 0,.int .i64 0,.int .i64 0,.int .i64 0,.int .i64 0,.int .i64 0,.int .i64 0,.int .i64 0,.int .i64 0,.int .i64 0,.int .i64 0,.int .i64 0,.float .f64 0,.float .f64 0,.float .f64 0,.int .i64 0],.int .u16 0,.slice none 0 0,.slice none 0 0],[]⟩).memory:=by
  rw [MakeChecks.laidMetH_plain _ _ _ plainLaid]
  exact laidMet_laidAll _ (by kernel_rfl) (by kernel_rfl)
theorem wit3 (os:Os):Input.okWideB Tryz.checked.prog ((World.laidAll Tryz.prog os Rows.scriptAgainRow.laid).forCall (fun _ _=>0) ⟨#[],#[.agg #[.slice none 0 0,.slice none 0 0,.int .i64 0,.int .i64 0,.int .i64 0,.int .i64 0,.int .i64 0,.int .i64 0,.int .i64 0,.int .i64 0,.int .i64 0,.int .i64 0,.int .i64 0,.int .i64 0,.int .i64 0,.int .i64 0,.int .i64 0,.int .i64 0,.int .i64 0,.int .i64 0,.int .i64 0,.int .i64 0,.int .i64 0,.int .i64 0,.float .f64 0,.float .f64 0,.float .f64 0,.int .i64 0],.int .u16 0,.slice none 0 0,.slice none 0 0],[]⟩) 3 ⟨#[],#[.agg #[.slice none 0 0,.slice none 0 0,.int .i64 0,.int .i64 0,.int .i64 0,.int .i64 0,.int .i64 0,.int .i64 0,.int .i64 0,.int .i64 0,.int .i64 0,.int .i64 0,.int .i64 0,.int .i64 0,.int .i64 0,.int .i64 0,.int .i64 0,.int .i64 0,.int .i64 0,.int .i64 0,.int .i64 0,.int .i64 0,.int .i64 0,.int .i64 0,.float .f64 0,.float .f64 0,.float .f64 0,.int .i64 0],.int .u16 0,.slice none 0 0,.slice none 0 0],[]⟩=true:=by kernel_rfl
theorem wit4 (os:Os) (H:Type) (Ar:TypeId×Value→H):Rows.scriptAgainSpec.preB Ar Tryz.checked.prog Tryz.f3 Rows.scriptAgainRow.domain false ((World.laidAll Tryz.prog os Rows.scriptAgainRow.laid).forCall (fun _ _=>0) ⟨#[],#[.agg #[.slice none 0 0,.slice none 0 0,.int .i64 0,.int .i64 0,.int .i64 0,.int .i64 0,.int .i64 0,.int .i64 0,.int .i64 0,.int .i64 0,.int .i64 0,.int .i64 0,.int .i64 0,.int .i64 0,.int .i64 0,.int .i64 0,.int .i64 0,.int .i64 0,.int .i64 0,.int .i64 0,.int .i64 0,.int .i64 0,.int .i64 0,.int .i64 0,.float .f64 0,.float .f64 0,.float .f64 0,.int .i64 0],.int .u16 0,.slice none 0 0,.slice none 0 0],[]⟩).memory #[.agg #[.slice none 0 0,.slice none 0 0,.int .i64 0,.int .i64 0,.int .i64 0,.int .i64 0,.int .i64 0,.int .i64 0,.int .i64 0,.int .i64 0,.int .i64 0,.int .i64 0,.int .i64 0,.int .i64 0,.int .i64 0,.int .i64 0,.int .i64 0,.int .i64 0,.int .i64 0,.int .i64 0,.int .i64 0,.int .i64 0,.int .i64 0,.int .i64 0,.float .f64 0,.float .f64 0,.float .f64 0,.int .i64 0],.int .u16 0,.slice none 0 0,.slice none 0 0] 8=true:=by kernel_rfl
theorem wit5 (os:Os) (H:Type) (Ar:TypeId×Value→H):Rows.scriptAgainSpec.sizedB Ar Tryz.checked.prog Tryz.f3 false ((World.laidAll Tryz.prog os Rows.scriptAgainRow.laid).forCall (fun _ _=>0) ⟨#[],#[.agg #[.slice none 0 0,.slice none 0 0,.int .i64 0,.int .i64 0,.int .i64 0,.int .i64 0,.int .i64 0,.int .i64 0,.int .i64 0,.int .i64 0,.int .i64 0,.int .i64 0,.int .i64 0,.int .i64 0,.int .i64 0,.int .i64 0,.int .i64 0,.int .i64 0,.int .i64 0,.int .i64 0,.int .i64 0,.int .i64 0,.int .i64 0,.int .i64 0,.float .f64 0,.float .f64 0,.float .f64 0,.int .i64 0],.int .u16 0,.slice none 0 0,.slice none 0 0],[]⟩).memory #[.agg #[.slice none 0 0,.slice none 0 0,.int .i64 0,.int .i64 0,.int .i64 0,.int .i64 0,.int .i64 0,.int .i64 0,.int .i64 0,.int .i64 0,.int .i64 0,.int .i64 0,.int .i64 0,.int .i64 0,.int .i64 0,.int .i64 0,.int .i64 0,.int .i64 0,.int .i64 0,.int .i64 0,.int .i64 0,.int .i64 0,.int .i64 0,.int .i64 0,.float .f64 0,.float .f64 0,.float .f64 0,.int .i64 0],.int .u16 0,.slice none 0 0,.slice none 0 0] 8=true:=by kernel_rfl
theorem wit (os:Os) (H:Type) (Ar:TypeId×Value→H):vM Ar {} Tryz.checked os 3 Tryz.f3 Rows.scriptAgainSpec Rows.scriptAgainRow.domain false (fun w _=>laidMetH Tryz.prog Rows.scriptAgainRow.laid w) :=
  ChangeSpec.witness_shaped (X:=(fun w _=>laidMetH Tryz.prog Rows.scriptAgainRow.laid w)) false (World.laidAll Tryz.prog os Rows.scriptAgainRow.laid) #[.agg #[.slice none 0 0,.slice none 0 0,.int .i64 0,.int .i64 0,.int .i64 0,.int .i64 0,.int .i64 0,.int .i64 0,.int .i64 0,.int .i64 0,.int .i64 0,.int .i64 0,.int .i64 0,.int .i64 0,.int .i64 0,.int .i64 0,.int .i64 0,.int .i64 0,.int .i64 0,.int .i64 0,.int .i64 0,.int .i64 0,.int .i64 0,.int .i64 0,.float .f64 0,.float .f64 0,.float .f64 0,.int .i64 0],.int .u16 0,.slice none 0 0,.slice none 0 0] 8 (World.laidAll_os _ _ _) (wit1 os) (wit3 os) (wit4 os H Ar) (wit5 os H Ar) (wit2 os)
set_option maxRecDepth 100000 in
theorem lifted (os:Os) (started:os.Started) (H:Type) (Ar:TypeId×Value→H) :
    ReturnsInHanded {} Tryz.checked os 3 .any (fun w args=>(Rows.scriptAgainSpec.pre Ar Tryz.prog Tryz.f3 Rows.scriptAgainRow.domain false w args∧laidMetH Tryz.prog Rows.scriptAgainRow.laid w)∧sizedMet Ar Tryz.prog Tryz.f3 (OpenSpec.ofChange Rows.scriptAgainSpec) false w args) (Rows.scriptAgainSpec.post Ar Tryz.prog Tryz.f3 false true false false):=by
  refine Xav (C:=Tryz.checked) (X:=(fun w _=>laidMetH Tryz.prog Rows.scriptAgainRow.laid w)) (fun _ _ _ hh h=>h.of_heap hh) knob started (by kernel_rfl) Tryz.func3 (wit os H Ar) ?_
  intro W base args ds gs before hval0 hW hL0 hsh
  have hL:=hL0
  rw [MakeChecks.laidMetH_plain _ _ _ plainLaid] at hL
  have hK:=rz (Lib.laidMet.reads hL (.tail _ (.tail _ (.tail _ (.tail _ (.tail _ (.head _))))))) (Lib.laidMet.reads hL (.tail _ (.tail _ (.head _)))) (Lib.laidMet.reads hL (.tail _ (.tail _ (.tail _ (.tail _ (.tail _ (.tail _ (.head _)))))))) (Lib.laidMet.reads hL (.tail _ (.tail _ (.tail _ (.tail _ (.tail _ (.tail _ (.tail _ (.head _))))))))) (Lib.laidMet.reads hL (.tail _ (.tail _ (.tail _ (.head _))))) hsh
  have hval:∀ (j:Nat) t v,Tryz.f3.params[j]?=some t→args[j]?=some v→Value.okWide Tryz.prog W .any base t v:=hval0
  have hW':=hW
  obtain ⟨p,q,hA0,hV,rfl,hfz,hnd⟩:=hW
  have hA:DataW.TrodAll Ar Tryz.prog W 0 (fun _=>true) true Tryz.f3.params.toList args.toList ds p:=hA0
  rw [Tryz.params3] at hA hval
  obtain ⟨v0,vs0,d0,ds0,p0,q0,hargs,rfl,rfl,h0,r0⟩:=trodAll_cons hA
  obtain ⟨v1,vs1,d1,ds1,p1,q1,rfl,rfl,rfl,h1,r1⟩:=trodAll_cons r0
  obtain ⟨v2,vs2,d2,ds2,p2,q2,rfl,rfl,rfl,h2,r2⟩:=trodAll_cons r1
  obtain ⟨v3,vs3,d3,ds3,p3,q3,rfl,rfl,rfl,h3,r3⟩:=trodAll_cons r2
  obtain ⟨rfl,rfl,rfl⟩:=trodAll_nil r3
  obtain rfl:args=#[v0,v1,v2,v3]:=by cases args; simp_all
  obtain ⟨rfl,rfl⟩:=trodVars_none hV
  have k0:=h0
  obtain ⟨f0,hf0⟩:=h0
  obtain ⟨DW,rfl,hsz0⟩:=Go.WideShapes.okWide_struct Tryz.underlying29 (hval 0 29 v0 rfl rfl)
  obtain ⟨c0,a0,cap0,ua0,ucap0,e0,hC0⟩:=rO hf0
  have ee0:DW=(FL c0 a0 cap0 ua0 ucap0).toArray:=Array.ext' (by simpa [Value.cells] using e0)
  subst ee0
  obtain ⟨s1,rfl,rfl,rfl,w1⟩:=open_int Tryz.underlying30 (hval 1 30 v1 rfl rfl) h1
  have k2:=h2
  obtain ⟨f2,hf2⟩:=h2
  obtain ⟨sa2,sn2,sc2,rfl⟩:=Go.WideShapes.okWide_slice Tryz.underlying31 (hval 2 31 v2 rfl rfl)
  obtain ⟨a2,cap2,l2,hc2,hcap2,hcm2,hE2,hfit2⟩:=Xgd hf2
  simp [Value.cells] at hc2
  obtain ⟨rfl,rfl,rfl⟩:=hc2
  have k3:=h3
  obtain ⟨f3,hf3⟩:=h3
  obtain ⟨sa3,sn3,sc3,rfl⟩:=Go.WideShapes.okWide_slice Tryz.underlying31 (hval 3 31 v3 rfl rfl)
  obtain ⟨a3,cap3,l3,hc3,hcap3,hcm3,hE3,hfit3⟩:=Xgd hf3
  simp [Value.cells] at hc3
  obtain ⟨rfl,rfl,rfl⟩:=hc3
  clear hA0 hval0
  simp only [List.append_nil] at hW'
  refine (Xez c0 a0 cap0 ua0 ucap0 l2 _ sc2 (Nat.le_trans hcap2 hcm2) hfit2 l3 _ sc3 (Nat.le_trans hcap3 hcm3) hfit3 s1 (by have h:=w1; simp only [Go.Lit.wf,Bool.and_eq_true,decide_eq_true_eq] at h; exact ⟨h.1,h.2⟩) W W (Fk W) hK.1 hK.2 hC0 hE2 hE3 [] (Aar W)).mono fun e W' he=>?_
  obtain ⟨_,rfl,rfl,J,hJ,hS⟩:=he
  exact ⟨_,rfl,o7 (n:=[]) hW' (hS.below hJ) (fun _ _ _=>(trodAll_cons_mk (shut_bool Tryz.underlying4 _) trodAll_mk0)) ((trodAll_cons_mk (Go.RowKit.Below.trod laidOut (by kernel_rfl) (of_decide_eq_true (by kernel_rfl)) k0 (hS.below hJ) (fun x hx=>by simpa using hW'.lt x (by simp [hx]))) (trodAll_cons_mk (shut_int Tryz.underlying30 w1) (trodAll_cons_mk (Go.RowKit.Below.trod laidOut (by kernel_rfl) (of_decide_eq_true (by kernel_rfl)) k2 (hS.below hJ) (fun x hx=>by simpa using hW'.lt x (by simp [hx]))) (trodAll_cons_mk (Go.RowKit.Below.trod laidOut (by kernel_rfl) (of_decide_eq_true (by kernel_rfl)) k3 (hS.below hJ) (fun x hx=>by simpa using hW'.lt x (by simp [hx]))) trodAll_mk0))))) rfl (by simp)⟩
theorem jand {a b:Bool} (h:a=true) (k:b=true):(a && b)=true:=by rw [h,k]; rfl
theorem j0:(Rows.scriptAgainRow.wf (OpenSpec.ofChange Rows.scriptAgainSpec))=true:=by kernel_rfl
theorem j1:(laidOutB Tryz.prog)=true:=by kernel_rfl
theorem j2:(mapsRowed Tryz.prog)=true:=by kernel_rfl
theorem j3:(Tryz.f3.params.all (Tryz.prog.readableRec ·))=true:=by kernel_rfl
theorem j4:(namedTie Tryz.prog Rows.scriptAgainRow.named Rows.scriptAgainSpec.vars)=true:=by kernel_rfl
theorem j5:((Rows.scriptAgainRow.stops == []))=true:=by kernel_rfl
theorem j6:((Tryz.prog.stops == []))=true:=by kernel_rfl
theorem j7:((Rows.scriptAgainRow.knobs == []))=true:=by kernel_rfl
theorem j8:((Tryz.prog.stopKnobs == []))=true:=by kernel_rfl
theorem j9:((Rows.scriptAgainRow.inPlace == Tryz.prog.inPlace 3))=true:=by kernel_rfl
theorem j10:((Rows.scriptAgainRow.unfollowed == Tryz.prog.unfollowed 3))=true:=by kernel_rfl
theorem j11:((Rows.scriptAgainRow.recurses == Tryz.prog.recurses 3))=true:=by kernel_rfl
theorem j12:((Rows.scriptAgainRow.named == Tryz.prog.varsNamed 3))=true:=by kernel_rfl
theorem j13:((Rows.scriptAgainRow.maps == (Tryz.f3.params.toList ++ Rows.scriptAgainSpec.plain.varTypes Tryz.prog).any (Tryz.prog.mapsRec ·)))=true:=by kernel_rfl
theorem j14:((Rows.scriptAgainRow.ifaces == (Tryz.f3.params.toList ++ Rows.scriptAgainSpec.plain.varTypes Tryz.prog).any (Tryz.prog.ifacesRec ·)))=true:=by kernel_rfl
theorem j15:((Rows.scriptAgainRow.mapsOut == Tryz.prog.mapsAmong Tryz.f3.resultTypes.toList))=true:=by kernel_rfl
theorem j16:((Rows.scriptAgainRow.loops == (Tryz.f3.params.toList ++ Rows.scriptAgainSpec.plain.varTypes Tryz.prog).any (Tryz.prog.loopsFrom ·)))=true:=by kernel_rfl
theorem j17:((Rows.scriptAgainRow.wideKeys == (Tryz.f3.params.toList ++ Rows.scriptAgainSpec.plain.varTypes Tryz.prog ++ Tryz.f3.resultTypes.toList).any (Tryz.prog.wideKeysFrom ·)))=true:=by kernel_rfl
theorem j18:(Rows.scriptAgainSpec.vars.all (Tryz.prog.varReadable ·))=true:=by kernel_rfl
theorem j19:(Tryz.f3.resultTypes.all (fun t=>Tryz.prog.readableRec t && decide (t<Tryz.prog.types.size)))=true:=by kernel_rfl
theorem j20:((Rows.scriptAgainRow.ifacesOut == Tryz.f3.resultTypes.toList.any (Tryz.prog.ifacesRec ·)))=true:=by kernel_rfl
theorem j21:((Rows.scriptAgainRow.loopsOut == Tryz.f3.resultTypes.toList.any (Tryz.prog.loopsFrom ·)))=true:=by kernel_rfl
theorem j22:((Rows.scriptAgainRow.plainKeys == Tryz.prog.plainKeys))=true:=by kernel_rfl
theorem j23:(Rows.scriptAgainRow.shortTexts.isNone)=true:=by kernel_rfl
theorem j24:(Tryz.prog.stopsHeard)=true:=by kernel_rfl
theorem j25:(Tryz.prog.mayEnter)=true:=by kernel_rfl
theorem j26:((Rows.scriptAgainRow.lifted == Tryz.prog.liftsFinal))=true:=by kernel_rfl
theorem j27:((Tryz.prog.make == some Rows.scriptAgainRow.make))=true:=by kernel_rfl
theorem j28:((Rows.scriptAgainRow.kinds == (if Rows.scriptAgainRow.domain.isEmpty then [] else Tryz.f3.params.toList.map fun t=>match Tryz.prog.underlying t with | some (.int k)=>some k | _=>none)))=true:=by kernel_rfl
theorem j29:((Rows.scriptAgainRow.pinned == Rows.scriptAgainRow.pinnedBy))=true:=by kernel_rfl
theorem j30:((Rows.scriptAgainRow.veiled == (Tryz.f3.params.toList ++ Rows.scriptAgainSpec.plain.varTypes Tryz.prog ++ Tryz.f3.resultTypes.toList).any (Tryz.prog.veiledRec ·)))=true:=by kernel_rfl
theorem j31:(Rows.scriptAgainRow.veiledFits Tryz.prog Tryz.f3.params.toList (Tryz.f3.params.toList ++ Rows.scriptAgainSpec.plain.varTypes Tryz.prog ++ Tryz.f3.resultTypes.toList))=true:=by kernel_rfl
set_option maxRecDepth 100000 in
theorem facts:joinedFacts Tryz.prog 3 Tryz.f3 Rows.scriptAgainSpec Rows.scriptAgainRow=true:=by
  unfold joinedFacts
  exact (jand (jand (jand (jand (jand (jand (jand (jand (jand (jand (jand (jand (jand (jand (jand (jand (jand (jand (jand (jand (jand (jand (jand (jand (jand (jand (jand (jand (jand (jand (jand j0 j1) j2) j3) j4) j5) j6) j7) j8) j9) j10) j11) j12) j13) j14) j15) j16) j17) j18) j19) j20) j21) j22) j23) j24) j25) j26) j27) j28) j29) j30) j31)
theorem over:Rows.scriptAgainRow.holds Tryz.pinned (OpenSpec.ofChange Rows.scriptAgainSpec) :=
  OpenClaim.holds_of_wide 3 Tryz.f3 rfl rfl rfl rfl rfl rfl rfl ⟨rfl,rfl,rfl,rfl,rfl⟩ rfl rfl rfl rfl rfl (by kernel_rfl) Tryz.func3 facts
    (of_decide_eq_true (by kernel_rfl)) (by unfold Func.isWrapper; first | (rw [if_pos (by decide +kernel)]; kernel_rfl) | (rw [if_neg (by decide +kernel)]; exact ⟨rfl,rfl⟩))
    (fun os started H Ar _=>lifted os started H Ar)
end Go.Proofs.YtiogkphlnggjfaaGreatDoor.scriptAgain
namespace Go.Proofs.YtiogkphlnggjfaaGreatDoor
open W9
theorem scriptAgain:Rows.ScriptAgainCardSaid :=
  Claim7.holds_tied_plain_at .later [] [.data, .data, .data, .data, .data, .data, .widerDeep, .widerDeep, .pinned] true (true, "6b2a23afdffec7cfa8323318e3478186105e70f16b245e58f885c63766052f2d") false scriptAgain.over (fun _ h => by cases h) (by kernel_rfl) (fun _ h => by cases h) scriptAgain_row_tie rfl ⟨rfl, rfl⟩ (by kernel_rfl) rfl
    (fun f fn hf hfn=>by
      obtain rfl : f = 3 := Option.some.inj ((show Tryz.prog.funcNamed "matricula/matriculalaw26.ScriptAgain" = some 3 by kernel_rfl).symm.trans hf) |>.symm
      obtain rfl:fn=Tryz.f3:=(Option.some.inj (Tryz.func3.symm.trans hfn)).symm
      exact ⟨by kernel_rfl,fun j t ht=>by
        rw [Tryz.params3] at ht
        have hm:t∈[29,30,31,31]:=by simpa using Array.mem_of_getElem? ht
        have hall:([29,30,31,31].all fun u=>!Tryz.prog.wantsStandIn u)=true:=by kernel_rfl
        exact (show Tryz.prog.wantsStandIn t=false by simpa using List.all_eq_true.1 hall t hm)⟩)
    (vw _ rfl)
end Go.Proofs.YtiogkphlnggjfaaGreatDoor
