/- 'ServerRefuses': what the card says. -/
import Derived.Test.YtnbngknffkcefaaGreatDoorF30F
import Derived.Test.YtnbngknffkcefaaGreatDoorRows
import Derived.Test.YtnbngknffkcefaaGreatDoorCards
import Derived.Test.YtnbngknffkcefaaGreatDoorTie
import Derived.WalkKit
import Derived.ProofKit
import Derived.OpenShut
import Derived.KernelRfl
import Derived.LaidOnce
import Derived.SevenTiedAt
namespace Go.Proofs.YtnbngknffkcefaaGreatDoor.serverRefuses
open W9
open Go.ChangeShapes Go.WideShapes Go.ChangeAt Go.RowKit Gk
open Go.ChangeMaps (open_string shut_string)
set_option linter.unusedVariables false
theorem knob:ownKnob Tryz.prog.godebug=none:=by kernel_rfl
theorem laidOut:laidOutB Tryz.prog=true:=by kernel_rfl
theorem plainLaid:(Rows.serverRefusesRow.laid.all fun x=>x.2.handleName?.isNone)=true:=by kernel_rfl
theorem wit1 (os:Os):((World.laidAll Tryz.prog os Rows.serverRefusesRow.laid).forCall (fun _ _=>0) ⟨#[],#[.agg #[.slice none 0 0,.slice none 0 0,.int .i64 0,.int .i64 0,.int .i64 0,.int .i64 0,.int .i64 0,.int .i64 0,.int .i64 0,.int .i64 0,.int .i64 0,.int .i64 0,.int .i64 0,.int .i64 0,.int .i64 0,.int .i64 0,.int .i64 0,.int .i64 0,.int .i64 0,.int .i64 0,.int .i64 0,.int .i64 0,.int .i64 0,.int .i64 0,.float .f64 0,.float .f64 0,.float .f64 0,.int .i64 0],.slice none 0 0,.string ⟨#[]⟩],[]⟩).Shaped Tryz.prog:=World.shaped_of_ZipB (by kernel_rfl) (by kernel_rfl)
theorem wit2 (os:Os):laidMetH Tryz.prog Rows.serverRefusesRow.laid ((World.laidAll Tryz.prog os Rows.serverRefusesRow.laid).forCall (fun _ _=>0) ⟨#[],#[.agg #[.slice none 0 0,.slice none 0 0,.int .i64 0,.int .i64 0,.int .i64 0,.int .i64 0,.int .i64 0,.int .i64 0,.int .i64 0,.int .i64 0,.int .i64 0,.int .i64 0,.int .i64 0,.int .i64 0,.int .i64 0,.int .i64 0,.int .i64 0,.int .i64 0,.int .i64 0,.int .i64 0,.int .i64 0,.int .i64 0,.int .i64 0,.int .i64 0,.float .f64 0,.float .f64 0,.float .f64 0,.int .i64 0],.slice none 0 0,.string ⟨#[]⟩],[]⟩).memory:=by
  rw [MakeChecks.laidMetH_plain _ _ _ plainLaid]
  exact laidMet_laidAll _ (by kernel_rfl) (by kernel_rfl)
theorem wit3 (os:Os):Input.okWideB Tryz.checked.prog ((World.laidAll Tryz.prog os Rows.serverRefusesRow.laid).forCall (fun _ _=>0) ⟨#[],#[.agg #[.slice none 0 0,.slice none 0 0,.int .i64 0,.int .i64 0,.int .i64 0,.int .i64 0,.int .i64 0,.int .i64 0,.int .i64 0,.int .i64 0,.int .i64 0,.int .i64 0,.int .i64 0,.int .i64 0,.int .i64 0,.int .i64 0,.int .i64 0,.int .i64 0,.int .i64 0,.int .i64 0,.int .i64 0,.int .i64 0,.int .i64 0,.int .i64 0,.float .f64 0,.float .f64 0,.float .f64 0,.int .i64 0],.slice none 0 0,.string ⟨#[]⟩],[]⟩) 3 ⟨#[],#[.agg #[.slice none 0 0,.slice none 0 0,.int .i64 0,.int .i64 0,.int .i64 0,.int .i64 0,.int .i64 0,.int .i64 0,.int .i64 0,.int .i64 0,.int .i64 0,.int .i64 0,.int .i64 0,.int .i64 0,.int .i64 0,.int .i64 0,.int .i64 0,.int .i64 0,.int .i64 0,.int .i64 0,.int .i64 0,.int .i64 0,.int .i64 0,.int .i64 0,.float .f64 0,.float .f64 0,.float .f64 0,.int .i64 0],.slice none 0 0,.string ⟨#[]⟩],[]⟩=true:=by kernel_rfl
theorem wit4 (os:Os) (H:Type) (Aq:TypeId×Value→H):Rows.serverRefusesSpec.preB Aq Tryz.checked.prog Tryz.f3 Rows.serverRefusesRow.domain false ((World.laidAll Tryz.prog os Rows.serverRefusesRow.laid).forCall (fun _ _=>0) ⟨#[],#[.agg #[.slice none 0 0,.slice none 0 0,.int .i64 0,.int .i64 0,.int .i64 0,.int .i64 0,.int .i64 0,.int .i64 0,.int .i64 0,.int .i64 0,.int .i64 0,.int .i64 0,.int .i64 0,.int .i64 0,.int .i64 0,.int .i64 0,.int .i64 0,.int .i64 0,.int .i64 0,.int .i64 0,.int .i64 0,.int .i64 0,.int .i64 0,.int .i64 0,.float .f64 0,.float .f64 0,.float .f64 0,.int .i64 0],.slice none 0 0,.string ⟨#[]⟩],[]⟩).memory #[.agg #[.slice none 0 0,.slice none 0 0,.int .i64 0,.int .i64 0,.int .i64 0,.int .i64 0,.int .i64 0,.int .i64 0,.int .i64 0,.int .i64 0,.int .i64 0,.int .i64 0,.int .i64 0,.int .i64 0,.int .i64 0,.int .i64 0,.int .i64 0,.int .i64 0,.int .i64 0,.int .i64 0,.int .i64 0,.int .i64 0,.int .i64 0,.int .i64 0,.float .f64 0,.float .f64 0,.float .f64 0,.int .i64 0],.slice none 0 0,.string ⟨#[]⟩] 8=true:=by kernel_rfl
theorem wit5 (os:Os) (H:Type) (Aq:TypeId×Value→H):Rows.serverRefusesSpec.sizedB Aq Tryz.checked.prog Tryz.f3 false ((World.laidAll Tryz.prog os Rows.serverRefusesRow.laid).forCall (fun _ _=>0) ⟨#[],#[.agg #[.slice none 0 0,.slice none 0 0,.int .i64 0,.int .i64 0,.int .i64 0,.int .i64 0,.int .i64 0,.int .i64 0,.int .i64 0,.int .i64 0,.int .i64 0,.int .i64 0,.int .i64 0,.int .i64 0,.int .i64 0,.int .i64 0,.int .i64 0,.int .i64 0,.int .i64 0,.int .i64 0,.int .i64 0,.int .i64 0,.int .i64 0,.int .i64 0,.float .f64 0,.float .f64 0,.float .f64 0,.int .i64 0],.slice none 0 0,.string ⟨#[]⟩],[]⟩).memory #[.agg #[.slice none 0 0,.slice none 0 0,.int .i64 0,.int .i64 0,.int .i64 0,.int .i64 0,.int .i64 0,.int .i64 0,.int .i64 0,.int .i64 0,.int .i64 0,.int .i64 0,.int .i64 0,.int .i64 0,.int .i64 0,.int .i64 0,.int .i64 0,.int .i64 0,.int .i64 0,.int .i64 0,.int .i64 0,.int .i64 0,.int .i64 0,.int .i64 0,.float .f64 0,.float .f64 0,.float .f64 0,.int .i64 0],.slice none 0 0,.string ⟨#[]⟩] 8=true:=by kernel_rfl
theorem wit (os:Os) (H:Type) (Aq:TypeId×Value→H):u0 Aq {} Tryz.checked os 3 Tryz.f3 Rows.serverRefusesSpec Rows.serverRefusesRow.domain false (fun w _=>laidMetH Tryz.prog Rows.serverRefusesRow.laid w) :=
  ChangeSpec.witness_shaped (X:=(fun w _=>laidMetH Tryz.prog Rows.serverRefusesRow.laid w)) false (World.laidAll Tryz.prog os Rows.serverRefusesRow.laid) #[.agg #[.slice none 0 0,.slice none 0 0,.int .i64 0,.int .i64 0,.int .i64 0,.int .i64 0,.int .i64 0,.int .i64 0,.int .i64 0,.int .i64 0,.int .i64 0,.int .i64 0,.int .i64 0,.int .i64 0,.int .i64 0,.int .i64 0,.int .i64 0,.int .i64 0,.int .i64 0,.int .i64 0,.int .i64 0,.int .i64 0,.int .i64 0,.int .i64 0,.float .f64 0,.float .f64 0,.float .f64 0,.int .i64 0],.slice none 0 0,.string ⟨#[]⟩] 8 (World.laidAll_os _ _ _) (wit1 os) (wit3 os) (wit4 os H Aq) (wit5 os H Aq) (wit2 os)
set_option maxRecDepth 100000 in
theorem lifted (os:Os) (started:os.Started) (H:Type) (Aq:TypeId×Value→H) :
    ReturnsInHanded {} Tryz.checked os 3 .any (fun w args=>(Rows.serverRefusesSpec.pre Aq Tryz.prog Tryz.f3 Rows.serverRefusesRow.domain false w args∧laidMetH Tryz.prog Rows.serverRefusesRow.laid w)∧sizedMet Aq Tryz.prog Tryz.f3 (OpenSpec.ofChange Rows.serverRefusesSpec) false w args) (Rows.serverRefusesSpec.post Aq Tryz.prog Tryz.f3 false true false false):=by
  refine X9i (C:=Tryz.checked) (X:=(fun w _=>laidMetH Tryz.prog Rows.serverRefusesRow.laid w)) (fun _ _ _ hh h=>h.of_heap hh) knob started (by kernel_rfl) Tryz.func3 (wit os H Aq) ?_
  intro W base args ds gs before hval0 hW hL0 hsh hwt
  have hL:=hL0
  rw [MakeChecks.laidMetH_plain _ _ _ plainLaid] at hL
  have hK:=qn (Lib.laidMet.reads hL (.tail _ (.tail _ (.tail _ (.tail _ (.tail _ (.head _))))))) (Lib.laidMet.reads hL (.tail _ (.tail _ (.head _)))) (Lib.laidMet.reads hL (.tail _ (.tail _ (.tail _ (.tail _ (.tail _ (.tail _ (.head _)))))))) (Lib.laidMet.reads hL (.tail _ (.tail _ (.tail _ (.tail _ (.tail _ (.tail _ (.tail _ (.head _))))))))) (Lib.laidMet.reads hL (.tail _ (.tail _ (.tail _ (.head _))))) hsh
  have hval:∀ (j:Nat) t v,Tryz.f3.params[j]?=some t→args[j]?=some v→Value.okWide Tryz.prog W .any base t v:=hval0
  have hW':=hW
  obtain ⟨p,q,hA0,hV,rfl,hfz,hnd⟩:=hW
  have hA:DataW.TrodAll Aq Tryz.prog W 0 (fun _=>true) true Tryz.f3.params.toList args.toList ds p:=hA0
  rw [Tryz.params3] at hA hval
  obtain ⟨v0,vs0,d0,ds0,p0,q0,hargs,rfl,rfl,h0,r0⟩:=trodAll_cons hA
  obtain ⟨v1,vs1,d1,ds1,p1,q1,rfl,rfl,rfl,h1,r1⟩:=trodAll_cons r0
  obtain ⟨v2,vs2,d2,ds2,p2,q2,rfl,rfl,rfl,h2,r2⟩:=trodAll_cons r1
  obtain ⟨rfl,rfl,rfl⟩:=trodAll_nil r2
  obtain rfl:args=#[v0,v1,v2]:=by cases args; simp_all
  obtain ⟨rfl,rfl⟩:=trodVars_none hV
  change (DataW.weightsEach Tryz.prog (29::30::9::_) (d0::d1::d2::_)).all _=true at hwt
  simp only [DataW.weightsEach,List.all_append,Bool.and_eq_true] at hwt
  have k0:=h0
  obtain ⟨f0,hf0⟩:=h0
  obtain ⟨DF,rfl,hsz0⟩:=Go.WideShapes.okWide_struct Tryz.underlying29 (hval 0 29 v0 rfl rfl)
  obtain ⟨c0,a0,cap0,ua0,ucap0,e0,hC0⟩:=qH hf0
  have ee0:DF=(Ie c0 a0 cap0 ua0 ucap0).toArray:=Array.ext' (by simpa [Value.cells] using e0)
  subst ee0
  have k1:=h1
  obtain ⟨f1,hf1⟩:=h1
  obtain ⟨sa1,sn1,sc1,rfl⟩:=Go.WideShapes.okWide_slice Tryz.underlying30 (hval 1 30 v1 rfl rfl)
  obtain ⟨a1,cap1,l1,hc1,hcap1,hcm1,hE1,hfit1⟩:=qI hf1
  simp [Value.cells] at hc1
  obtain ⟨rfl,rfl,rfl⟩:=hc1
  obtain ⟨s2,rfl,rfl,rfl,w2⟩:=open_string Tryz.underlying9 (hval 2 9 v2 rfl rfl) h2
  clear hA0 hval0
  simp only [List.append_nil] at hW'
  refine (Xbk c0 a0 cap0 ua0 ucap0 l1 _ sc1 (by have h:=Xq7 Tryz.underlying30 hf1 hwt.2.1; rw [show Tryz.prog.bytesOf 36=80 from by kernel_rfl] at h; unfold Go.reachBytes at h; omega) hfit1 s2.data.toList w2 W W (EV W) hK.1 hK.2 hC0 hE1 [] (Ado W)).mono fun e W' he=>?_
  obtain ⟨_,rfl,rfl,J,hJ,hS⟩:=he
  exact ⟨_,rfl,nR (n:=[]) hW' (hS.below hJ) (fun _ _ _=>(trodAll_cons_mk (shut_bool Tryz.underlying4 _) trodAll_mk0)) ((trodAll_cons_mk (Go.RowKit.Below.trod laidOut (by kernel_rfl) (of_decide_eq_true (by kernel_rfl)) k0 (hS.below hJ) (fun x hx=>by simpa using hW'.lt x (by simp [hx]))) (trodAll_cons_mk (Go.RowKit.Below.trod laidOut (by kernel_rfl) (of_decide_eq_true (by kernel_rfl)) k1 (hS.below hJ) (fun x hx=>by simpa using hW'.lt x (by simp [hx]))) (trodAll_cons_mk (shut_string Tryz.underlying9 w2) trodAll_mk0)))) rfl (by simp)⟩
theorem jand {a b:Bool} (h:a=true) (k:b=true):(a && b)=true:=by rw [h,k]; rfl
theorem j0:(Rows.serverRefusesRow.wf (OpenSpec.ofChange Rows.serverRefusesSpec))=true:=by kernel_rfl
theorem j1:(laidOutB Tryz.prog)=true:=by kernel_rfl
theorem j2:(mapsRowed Tryz.prog)=true:=by kernel_rfl
theorem j3:(Tryz.f3.params.all (Tryz.prog.readableRec ·))=true:=by kernel_rfl
theorem j4:(namedTie Tryz.prog Rows.serverRefusesRow.named Rows.serverRefusesSpec.vars)=true:=by kernel_rfl
theorem j5:((Rows.serverRefusesRow.stops == []))=true:=by kernel_rfl
theorem j6:((Tryz.prog.stops == []))=true:=by kernel_rfl
theorem j7:((Rows.serverRefusesRow.knobs == []))=true:=by kernel_rfl
theorem j8:((Tryz.prog.stopKnobs == []))=true:=by kernel_rfl
theorem j9:((Rows.serverRefusesRow.inPlace == Tryz.prog.inPlace 3))=true:=by kernel_rfl
theorem j10:((Rows.serverRefusesRow.unfollowed == Tryz.prog.unfollowed 3))=true:=by kernel_rfl
theorem j11:((Rows.serverRefusesRow.recurses == Tryz.prog.recurses 3))=true:=by kernel_rfl
theorem j12:((Rows.serverRefusesRow.named == Tryz.prog.varsNamed 3))=true:=by kernel_rfl
theorem j13:((Rows.serverRefusesRow.maps == (Tryz.f3.params.toList ++ Rows.serverRefusesSpec.plain.varTypes Tryz.prog).any (Tryz.prog.mapsRec ·)))=true:=by kernel_rfl
theorem j14:((Rows.serverRefusesRow.ifaces == (Tryz.f3.params.toList ++ Rows.serverRefusesSpec.plain.varTypes Tryz.prog).any (Tryz.prog.ifacesRec ·)))=true:=by kernel_rfl
theorem j15:((Rows.serverRefusesRow.mapsOut == Tryz.prog.mapsAmong Tryz.f3.resultTypes.toList))=true:=by kernel_rfl
theorem j16:((Rows.serverRefusesRow.loops == (Tryz.f3.params.toList ++ Rows.serverRefusesSpec.plain.varTypes Tryz.prog).any (Tryz.prog.loopsFrom ·)))=true:=by kernel_rfl
theorem j17:((Rows.serverRefusesRow.wideKeys == (Tryz.f3.params.toList ++ Rows.serverRefusesSpec.plain.varTypes Tryz.prog ++ Tryz.f3.resultTypes.toList).any (Tryz.prog.wideKeysFrom ·)))=true:=by kernel_rfl
theorem j18:(Rows.serverRefusesSpec.vars.all (Tryz.prog.varReadable ·))=true:=by kernel_rfl
theorem j19:(Tryz.f3.resultTypes.all (fun t=>Tryz.prog.readableRec t && decide (t<Tryz.prog.types.size)))=true:=by kernel_rfl
theorem j20:((Rows.serverRefusesRow.ifacesOut == Tryz.f3.resultTypes.toList.any (Tryz.prog.ifacesRec ·)))=true:=by kernel_rfl
theorem j21:((Rows.serverRefusesRow.loopsOut == Tryz.f3.resultTypes.toList.any (Tryz.prog.loopsFrom ·)))=true:=by kernel_rfl
theorem j22:((Rows.serverRefusesRow.plainKeys == Tryz.prog.plainKeys))=true:=by kernel_rfl
theorem j23:(Rows.serverRefusesRow.shortTexts.isNone)=true:=by kernel_rfl
theorem j24:(Tryz.prog.stopsHeard)=true:=by kernel_rfl
theorem j25:(Tryz.prog.mayEnter)=true:=by kernel_rfl
theorem j26:((Rows.serverRefusesRow.lifted == Tryz.prog.liftsFinal))=true:=by kernel_rfl
theorem j27:((Tryz.prog.make == some Rows.serverRefusesRow.make))=true:=by kernel_rfl
theorem j28:((Rows.serverRefusesRow.kinds == (if Rows.serverRefusesRow.domain.isEmpty then [] else Tryz.f3.params.toList.map fun t=>match Tryz.prog.underlying t with | some (.int k)=>some k | _=>none)))=true:=by kernel_rfl
theorem j29:((Rows.serverRefusesRow.pinned == Rows.serverRefusesRow.pinnedBy))=true:=by kernel_rfl
theorem j30:((Rows.serverRefusesRow.veiled == (Tryz.f3.params.toList ++ Rows.serverRefusesSpec.plain.varTypes Tryz.prog ++ Tryz.f3.resultTypes.toList).any (Tryz.prog.veiledRec ·)))=true:=by kernel_rfl
theorem j31:(Rows.serverRefusesRow.veiledFits Tryz.prog Tryz.f3.params.toList (Tryz.f3.params.toList ++ Rows.serverRefusesSpec.plain.varTypes Tryz.prog ++ Tryz.f3.resultTypes.toList))=true:=by kernel_rfl
set_option maxRecDepth 100000 in
theorem facts:joinedFacts Tryz.prog 3 Tryz.f3 Rows.serverRefusesSpec Rows.serverRefusesRow=true:=by
  unfold joinedFacts
  exact (jand (jand (jand (jand (jand (jand (jand (jand (jand (jand (jand (jand (jand (jand (jand (jand (jand (jand (jand (jand (jand (jand (jand (jand (jand (jand (jand (jand (jand (jand (jand j0 j1) j2) j3) j4) j5) j6) j7) j8) j9) j10) j11) j12) j13) j14) j15) j16) j17) j18) j19) j20) j21) j22) j23) j24) j25) j26) j27) j28) j29) j30) j31)
theorem over:Rows.serverRefusesRow.holds Tryz.pinned (OpenSpec.ofChange Rows.serverRefusesSpec) :=
  OpenClaim.holds_of_wide 3 Tryz.f3 rfl rfl rfl rfl rfl rfl rfl ⟨rfl,rfl,rfl,rfl,rfl⟩ rfl rfl rfl rfl rfl (by kernel_rfl) Tryz.func3 facts
    (of_decide_eq_true (by kernel_rfl)) (by unfold Func.isWrapper; first | (rw [if_pos (by decide +kernel)]; kernel_rfl) | (rw [if_neg (by decide +kernel)]; exact ⟨rfl,rfl⟩))
    (fun os started H Aq _=>lifted os started H Aq)
end Go.Proofs.YtnbngknffkcefaaGreatDoor.serverRefuses
namespace Go.Proofs.YtnbngknffkcefaaGreatDoor
open W9
theorem serverRefuses:Rows.ServerRefusesCardSaid :=
  Claim7.holds_tied_plain_at .later [] [.data, .data, .data, .data, .data, .data, .widerDeep, .widerDeep, .pinned] true (true, "d32ac0cd69b6b9b0ff14676ec661f3abc3250a0a09d16eae945b65fd6c73b034") false serverRefuses.over (fun _ h => by cases h) (by kernel_rfl) (fun _ h => by cases h) serverRefuses_row_tie rfl ⟨rfl, rfl⟩ (by kernel_rfl) rfl
    (fun f fn hf hfn=>by
      obtain rfl : f = 3 := Option.some.inj ((show Tryz.prog.funcNamed "matricula/matriculalaw25.ServerRefuses" = some 3 by kernel_rfl).symm.trans hf) |>.symm
      obtain rfl:fn=Tryz.f3:=(Option.some.inj (Tryz.func3.symm.trans hfn)).symm
      exact ⟨by kernel_rfl,fun j t ht=>by
        rw [Tryz.params3] at ht
        have hm:t∈[29,30,9]:=by simpa using Array.mem_of_getElem? ht
        have hall:([29,30,9].all fun u=>!Tryz.prog.wantsStandIn u)=true:=by kernel_rfl
        exact (show Tryz.prog.wantsStandIn t=false by simpa using List.all_eq_true.1 hall t hm)⟩)
    (uI _ rfl)
end Go.Proofs.YtnbngknffkcefaaGreatDoor
