/- 'LogoutEnds': what the card says. -/
import Derived.Test.YtbciobiiejpdgaaGreatDoorMEH
import Derived.Test.YtbciobiiejpdgaaGreatDoorRows
import Derived.Test.YtbciobiiejpdgaaGreatDoorCards
import Derived.Test.YtbciobiiejpdgaaGreatDoorTie
import Derived.WalkKit
import Derived.ProofKit
import Derived.OpenShut
import Derived.KernelRfl
import Derived.LaidOnce
import Derived.SevenTiedAt
namespace Go.Proofs.YtbciobiiejpdgaaGreatDoor.logoutEnds
open Go.ChangeShapes Go.WideShapes Go.ChangeAt Go.RowKit Gk
open Go.ChangeMaps (open_string shut_string)
set_option linter.unusedVariables false
theorem knob:ownKnob Tryz.prog.godebug=none:=by kernel_rfl
theorem laidOut:laidOutB Tryz.prog=true:=by kernel_rfl
theorem plainLaid:(Rows.logoutEndsRow.laid.all fun x=>x.2.handleName?.isNone)=true:=by kernel_rfl
theorem wit1 (os:Os):((World.laidAll Tryz.prog os Rows.logoutEndsRow.laid).forCall (fun _ _=>0) ⟨#[],#[.agg #[.slice none 0 0,.slice none 0 0,.int .i64 0,.int .i64 0,.int .i64 0,.int .i64 0,.int .i64 0,.int .i64 0,.int .i64 0,.int .i64 0,.int .i64 0,.int .i64 0,.int .i64 0,.int .i64 0,.int .i64 0,.int .i64 0,.int .i64 0,.int .i64 0,.int .i64 0,.int .i64 0,.int .i64 0,.int .i64 0,.int .i64 0,.int .i64 0,.float .f64 0,.float .f64 0,.float .f64 0,.int .i64 0],.slice none 0 0,.string ⟨#[]⟩,.int .i64 0],[]⟩).Shaped Tryz.prog:=World.shaped_of_ZipB (by kernel_rfl) (by kernel_rfl)
theorem wit2 (os:Os):laidMetH Tryz.prog Rows.logoutEndsRow.laid ((World.laidAll Tryz.prog os Rows.logoutEndsRow.laid).forCall (fun _ _=>0) ⟨#[],#[.agg #[.slice none 0 0,.slice none 0 0,.int .i64 0,.int .i64 0,.int .i64 0,.int .i64 0,.int .i64 0,.int .i64 0,.int .i64 0,.int .i64 0,.int .i64 0,.int .i64 0,.int .i64 0,.int .i64 0,.int .i64 0,.int .i64 0,.int .i64 0,.int .i64 0,.int .i64 0,.int .i64 0,.int .i64 0,.int .i64 0,.int .i64 0,.int .i64 0,.float .f64 0,.float .f64 0,.float .f64 0,.int .i64 0],.slice none 0 0,.string ⟨#[]⟩,.int .i64 0],[]⟩).memory:=by
  rw [MakeChecks.laidMetH_plain _ _ _ plainLaid]
  exact laidMet_laidAll _ (by kernel_rfl) (by kernel_rfl)
theorem wit3 (os:Os):Input.okWideB Tryz.checked.prog ((World.laidAll Tryz.prog os Rows.logoutEndsRow.laid).forCall (fun _ _=>0) ⟨#[],#[.agg #[.slice none 0 0,.slice none 0 0,.int .i64 0,.int .i64 0,.int .i64 0,.int .i64 0,.int .i64 0,.int .i64 0,.int .i64 0,.int .i64 0,.int .i64 0,.int .i64 0,.int .i64 0,.int .i64 0,.int .i64 0,.int .i64 0,.int .i64 0,.int .i64 0,.int .i64 0,.int .i64 0,.int .i64 0,.int .i64 0,.int .i64 0,.int .i64 0,.float .f64 0,.float .f64 0,.float .f64 0,.int .i64 0],.slice none 0 0,.string ⟨#[]⟩,.int .i64 0],[]⟩) 6 ⟨#[],#[.agg #[.slice none 0 0,.slice none 0 0,.int .i64 0,.int .i64 0,.int .i64 0,.int .i64 0,.int .i64 0,.int .i64 0,.int .i64 0,.int .i64 0,.int .i64 0,.int .i64 0,.int .i64 0,.int .i64 0,.int .i64 0,.int .i64 0,.int .i64 0,.int .i64 0,.int .i64 0,.int .i64 0,.int .i64 0,.int .i64 0,.int .i64 0,.int .i64 0,.float .f64 0,.float .f64 0,.float .f64 0,.int .i64 0],.slice none 0 0,.string ⟨#[]⟩,.int .i64 0],[]⟩=true:=by kernel_rfl
theorem wit4 (os:Os) (H:Type) (enc:TypeId×Value→H):Rows.logoutEndsSpec.preB enc Tryz.checked.prog Tryz.f6 Rows.logoutEndsRow.domain false ((World.laidAll Tryz.prog os Rows.logoutEndsRow.laid).forCall (fun _ _=>0) ⟨#[],#[.agg #[.slice none 0 0,.slice none 0 0,.int .i64 0,.int .i64 0,.int .i64 0,.int .i64 0,.int .i64 0,.int .i64 0,.int .i64 0,.int .i64 0,.int .i64 0,.int .i64 0,.int .i64 0,.int .i64 0,.int .i64 0,.int .i64 0,.int .i64 0,.int .i64 0,.int .i64 0,.int .i64 0,.int .i64 0,.int .i64 0,.int .i64 0,.int .i64 0,.float .f64 0,.float .f64 0,.float .f64 0,.int .i64 0],.slice none 0 0,.string ⟨#[]⟩,.int .i64 0],[]⟩).memory #[.agg #[.slice none 0 0,.slice none 0 0,.int .i64 0,.int .i64 0,.int .i64 0,.int .i64 0,.int .i64 0,.int .i64 0,.int .i64 0,.int .i64 0,.int .i64 0,.int .i64 0,.int .i64 0,.int .i64 0,.int .i64 0,.int .i64 0,.int .i64 0,.int .i64 0,.int .i64 0,.int .i64 0,.int .i64 0,.int .i64 0,.int .i64 0,.int .i64 0,.float .f64 0,.float .f64 0,.float .f64 0,.int .i64 0],.slice none 0 0,.string ⟨#[]⟩,.int .i64 0] 8=true:=by kernel_rfl
theorem wit5 (os:Os) (H:Type) (enc:TypeId×Value→H):Rows.logoutEndsSpec.sizedB enc Tryz.checked.prog Tryz.f6 false ((World.laidAll Tryz.prog os Rows.logoutEndsRow.laid).forCall (fun _ _=>0) ⟨#[],#[.agg #[.slice none 0 0,.slice none 0 0,.int .i64 0,.int .i64 0,.int .i64 0,.int .i64 0,.int .i64 0,.int .i64 0,.int .i64 0,.int .i64 0,.int .i64 0,.int .i64 0,.int .i64 0,.int .i64 0,.int .i64 0,.int .i64 0,.int .i64 0,.int .i64 0,.int .i64 0,.int .i64 0,.int .i64 0,.int .i64 0,.int .i64 0,.int .i64 0,.float .f64 0,.float .f64 0,.float .f64 0,.int .i64 0],.slice none 0 0,.string ⟨#[]⟩,.int .i64 0],[]⟩).memory #[.agg #[.slice none 0 0,.slice none 0 0,.int .i64 0,.int .i64 0,.int .i64 0,.int .i64 0,.int .i64 0,.int .i64 0,.int .i64 0,.int .i64 0,.int .i64 0,.int .i64 0,.int .i64 0,.int .i64 0,.int .i64 0,.int .i64 0,.int .i64 0,.int .i64 0,.int .i64 0,.int .i64 0,.int .i64 0,.int .i64 0,.int .i64 0,.int .i64 0,.float .f64 0,.float .f64 0,.float .f64 0,.int .i64 0],.slice none 0 0,.string ⟨#[]⟩,.int .i64 0] 8=true:=by kernel_rfl
theorem wit (os:Os) (H:Type) (enc:TypeId×Value→H):WitT enc {} Tryz.checked os 6 Tryz.f6 Rows.logoutEndsSpec Rows.logoutEndsRow.domain false (fun w _=>laidMetH Tryz.prog Rows.logoutEndsRow.laid w) :=
  ChangeSpec.witness_shaped (X:=(fun w _=>laidMetH Tryz.prog Rows.logoutEndsRow.laid w)) false (World.laidAll Tryz.prog os Rows.logoutEndsRow.laid) #[.agg #[.slice none 0 0,.slice none 0 0,.int .i64 0,.int .i64 0,.int .i64 0,.int .i64 0,.int .i64 0,.int .i64 0,.int .i64 0,.int .i64 0,.int .i64 0,.int .i64 0,.int .i64 0,.int .i64 0,.int .i64 0,.int .i64 0,.int .i64 0,.int .i64 0,.int .i64 0,.int .i64 0,.int .i64 0,.int .i64 0,.int .i64 0,.int .i64 0,.float .f64 0,.float .f64 0,.float .f64 0,.int .i64 0],.slice none 0 0,.string ⟨#[]⟩,.int .i64 0] 8 (World.laidAll_os _ _ _) (wit1 os) (wit3 os) (wit4 os H enc) (wit5 os H enc) (wit2 os)
set_option maxRecDepth 100000 in
theorem lifted (os:Os) (started:os.Started) (H:Type) (enc:TypeId×Value→H) :
    ReturnsInHanded {} Tryz.checked os 6 .any (fun w args=>(Rows.logoutEndsSpec.pre enc Tryz.prog Tryz.f6 Rows.logoutEndsRow.domain false w args∧laidMetH Tryz.prog Rows.logoutEndsRow.laid w)∧sizedMet enc Tryz.prog Tryz.f6 (OpenSpec.ofChange Rows.logoutEndsSpec) false w args) (Rows.logoutEndsSpec.post enc Tryz.prog Tryz.f6 false true false false):=by
  refine X7j (C:=Tryz.checked) (X:=(fun w _=>laidMetH Tryz.prog Rows.logoutEndsRow.laid w)) (fun _ _ _ hh h=>h.of_heap hh) knob started (by kernel_rfl) Tryz.func6 (wit os H enc) ?_
  intro W base args ds gs before hval0 hW hL0 hsh
  have hL:=hL0
  rw [MakeChecks.laidMetH_plain _ _ _ plainLaid] at hL
  have hK:=Xos (Lib.laidMet.reads hL (.tail _ (.tail _ (.tail _ (.tail _ (.tail _ (.tail _ (.head _)))))))) (Lib.laidMet.reads hL (.tail _ (.tail _ (.head _)))) (Lib.laidMet.reads hL (.tail _ (.tail _ (.tail _ (.tail _ (.tail _ (.tail _ (.tail _ (.head _))))))))) (Lib.laidMet.reads hL (.tail _ (.tail _ (.tail _ (.tail _ (.tail _ (.tail _ (.tail _ (.tail _ (.head _)))))))))) (Lib.laidMet.reads hL (.tail _ (.tail _ (.tail _ (.tail _ (.tail _ (.head _))))))) (Lib.laidMet.reads hL (.tail _ (.tail _ (.tail _ (.tail _ (.head _)))))) hsh
  have hval:∀ (j:Nat) t v,Tryz.f6.params[j]?=some t→args[j]?=some v→Value.okWide Tryz.prog W .any base t v:=hval0
  have hW':=hW
  obtain ⟨p,q,hA0,hV,rfl,hfz,hnd⟩:=hW
  have hA:DataW.TrodAll enc Tryz.prog W 0 (fun _=>true) true Tryz.f6.params.toList args.toList ds p:=hA0
  rw [Tryz.params6] at hA hval
  obtain ⟨v0,vs0,d0,ds0,p0,q0,hargs,rfl,rfl,h0,r0⟩:=trodAll_cons hA
  obtain ⟨v1,vs1,d1,ds1,p1,q1,rfl,rfl,rfl,h1,r1⟩:=trodAll_cons r0
  obtain ⟨v2,vs2,d2,ds2,p2,q2,rfl,rfl,rfl,h2,r2⟩:=trodAll_cons r1
  obtain ⟨v3,vs3,d3,ds3,p3,q3,rfl,rfl,rfl,h3,r3⟩:=trodAll_cons r2
  obtain ⟨rfl,rfl,rfl⟩:=trodAll_nil r3
  obtain rfl:args=#[v0,v1,v2,v3]:=by cases args; simp_all
  obtain ⟨rfl,rfl⟩:=trodVars_none hV
  have k0:=h0
  obtain ⟨f0,hf0⟩:=h0
  obtain ⟨ar0,rfl,hsz0⟩:=Go.WideShapes.okWide_struct Tryz.underlying29 (hval 0 29 v0 rfl rfl)
  obtain ⟨c0,a0,cap0,ua0,ucap0,e0,hC0⟩:=Xtb hf0
  have ee0:ar0=(X1v c0 a0 cap0 ua0 ucap0).toArray:=Array.ext' (by simpa [Value.cells] using e0)
  subst ee0
  have k1:=h1
  obtain ⟨f1,hf1⟩:=h1
  obtain ⟨sa1,sn1,sc1,rfl⟩:=Go.WideShapes.okWide_slice Tryz.underlying65 (hval 1 65 v1 rfl rfl)
  obtain ⟨a1,cap1,l1,hc1,hcap1,hcm1,hR1,hfit1⟩:=Xfo (cells:=X5) (c:=10) (fit:=Xuk) Tryz.underlying65 (by kernel_rfl) (by decide) (fun n cs y h=>Xtd h) hf1
  simp [Value.cells] at hc1
  obtain ⟨rfl,rfl,rfl⟩:=hc1
  obtain ⟨s2,rfl,rfl,rfl,w2⟩:=open_string Tryz.underlying9 (hval 2 9 v2 rfl rfl) h2
  obtain ⟨s3,rfl,rfl,rfl,w3⟩:=open_int Tryz.underlying3 (hval 3 3 v3 rfl rfl) h3
  clear hA0 hval0
  simp only [List.append_nil] at hW'
  refine (Xbm c0 a0 cap0 ua0 ucap0 _ sc1 l1 (Nat.le_trans hcap1 hcm1) s2.data.toList s3  W W (im0 W) hK.1.1 hK.1.2 hK.2 hC0 hR1 [] (sat0 W)).mono fun e W' he=>?_
  obtain ⟨_,rfl,rfl,J,hJ,hS⟩:=he
  exact ⟨_,rfl,Xpe (pv:=[]) hW' (hS.below hJ) (fun _ _ _=>(trodAll_cons_mk (shut_bool Tryz.underlying4 _) trodAll_mk0)) ((trodAll_cons_mk (Go.RowKit.Below.trod laidOut (by kernel_rfl) (of_decide_eq_true (by kernel_rfl)) k0 (hS.below hJ) (fun x hx=>by simpa using hW'.lt x (by simp [hx]))) (trodAll_cons_mk (Go.RowKit.Below.trod laidOut (by kernel_rfl) (of_decide_eq_true (by kernel_rfl)) k1 (hS.below hJ) (fun x hx=>by simpa using hW'.lt x (by simp [hx]))) (trodAll_cons_mk (shut_string Tryz.underlying9 w2) (trodAll_cons_mk (shut_int Tryz.underlying3 w3) trodAll_mk0))))) rfl (by simp)⟩
theorem jand {a b:Bool} (h:a=true) (k:b=true):(a && b)=true:=by rw [h,k]; rfl
theorem j0:(Rows.logoutEndsRow.wf (OpenSpec.ofChange Rows.logoutEndsSpec))=true:=by kernel_rfl
theorem j1:(laidOutB Tryz.prog)=true:=by kernel_rfl
theorem j2:(mapsRowed Tryz.prog)=true:=by kernel_rfl
theorem j3:(Tryz.f6.params.all (Tryz.prog.readableRec ·))=true:=by kernel_rfl
theorem j4:(namedTie Tryz.prog Rows.logoutEndsRow.named Rows.logoutEndsSpec.vars)=true:=by kernel_rfl
theorem j5:((Rows.logoutEndsRow.stops == []))=true:=by kernel_rfl
theorem j6:((Tryz.prog.stops == []))=true:=by kernel_rfl
theorem j7:((Rows.logoutEndsRow.knobs == []))=true:=by kernel_rfl
theorem j8:((Tryz.prog.stopKnobs == []))=true:=by kernel_rfl
theorem j9:((Rows.logoutEndsRow.inPlace == Tryz.prog.inPlace 6))=true:=by kernel_rfl
theorem j10:((Rows.logoutEndsRow.unfollowed == Tryz.prog.unfollowed 6))=true:=by kernel_rfl
theorem j11:((Rows.logoutEndsRow.recurses == Tryz.prog.recurses 6))=true:=by kernel_rfl
theorem j12:((Rows.logoutEndsRow.named == Tryz.prog.varsNamed 6))=true:=by kernel_rfl
theorem j13:((Rows.logoutEndsRow.maps == (Tryz.f6.params.toList ++ Rows.logoutEndsSpec.plain.varTypes Tryz.prog).any (Tryz.prog.mapsRec ·)))=true:=by kernel_rfl
theorem j14:((Rows.logoutEndsRow.ifaces == (Tryz.f6.params.toList ++ Rows.logoutEndsSpec.plain.varTypes Tryz.prog).any (Tryz.prog.ifacesRec ·)))=true:=by kernel_rfl
theorem j15:((Rows.logoutEndsRow.mapsOut == Tryz.prog.mapsAmong Tryz.f6.resultTypes.toList))=true:=by kernel_rfl
theorem j16:((Rows.logoutEndsRow.loops == (Tryz.f6.params.toList ++ Rows.logoutEndsSpec.plain.varTypes Tryz.prog).any (Tryz.prog.loopsFrom ·)))=true:=by kernel_rfl
theorem j17:((Rows.logoutEndsRow.wideKeys == (Tryz.f6.params.toList ++ Rows.logoutEndsSpec.plain.varTypes Tryz.prog ++ Tryz.f6.resultTypes.toList).any (Tryz.prog.wideKeysFrom ·)))=true:=by kernel_rfl
theorem j18:(Rows.logoutEndsSpec.vars.all (Tryz.prog.varReadable ·))=true:=by kernel_rfl
theorem j19:(Tryz.f6.resultTypes.all (fun t=>Tryz.prog.readableRec t && decide (t<Tryz.prog.types.size)))=true:=by kernel_rfl
theorem j20:((Rows.logoutEndsRow.ifacesOut == Tryz.f6.resultTypes.toList.any (Tryz.prog.ifacesRec ·)))=true:=by kernel_rfl
theorem j21:((Rows.logoutEndsRow.loopsOut == Tryz.f6.resultTypes.toList.any (Tryz.prog.loopsFrom ·)))=true:=by kernel_rfl
theorem j22:((Rows.logoutEndsRow.plainKeys == Tryz.prog.plainKeys))=true:=by kernel_rfl
theorem j23:(Rows.logoutEndsRow.shortTexts.isNone)=true:=by kernel_rfl
theorem j24:(Tryz.prog.stopsHeard)=true:=by kernel_rfl
theorem j25:(Tryz.prog.mayEnter)=true:=by kernel_rfl
theorem j26:((Rows.logoutEndsRow.lifted == Tryz.prog.liftsFinal))=true:=by kernel_rfl
theorem j27:((Tryz.prog.make == some Rows.logoutEndsRow.make))=true:=by kernel_rfl
theorem j28:((Rows.logoutEndsRow.kinds == (if Rows.logoutEndsRow.domain.isEmpty then [] else Tryz.f6.params.toList.map fun t=>match Tryz.prog.underlying t with | some (.int k)=>some k | _=>none)))=true:=by kernel_rfl
theorem j29:((Rows.logoutEndsRow.pinned == Rows.logoutEndsRow.pinnedBy))=true:=by kernel_rfl
theorem j30:((Rows.logoutEndsRow.veiled == (Tryz.f6.params.toList ++ Rows.logoutEndsSpec.plain.varTypes Tryz.prog ++ Tryz.f6.resultTypes.toList).any (Tryz.prog.veiledRec ·)))=true:=by kernel_rfl
theorem j31:(Rows.logoutEndsRow.veiledFits Tryz.prog Tryz.f6.params.toList (Tryz.f6.params.toList ++ Rows.logoutEndsSpec.plain.varTypes Tryz.prog ++ Tryz.f6.resultTypes.toList))=true:=by kernel_rfl
set_option maxRecDepth 100000 in
theorem facts:joinedFacts Tryz.prog 6 Tryz.f6 Rows.logoutEndsSpec Rows.logoutEndsRow=true:=by
  unfold joinedFacts
  exact (jand (jand (jand (jand (jand (jand (jand (jand (jand (jand (jand (jand (jand (jand (jand (jand (jand (jand (jand (jand (jand (jand (jand (jand (jand (jand (jand (jand (jand (jand (jand j0 j1) j2) j3) j4) j5) j6) j7) j8) j9) j10) j11) j12) j13) j14) j15) j16) j17) j18) j19) j20) j21) j22) j23) j24) j25) j26) j27) j28) j29) j30) j31)
theorem over:Rows.logoutEndsRow.holds Tryz.pinned (OpenSpec.ofChange Rows.logoutEndsSpec) :=
  OpenClaim.holds_of_wide 6 Tryz.f6 rfl rfl rfl rfl rfl rfl rfl ⟨rfl,rfl,rfl,rfl,rfl⟩ rfl rfl rfl rfl rfl (by kernel_rfl) Tryz.func6 facts
    (of_decide_eq_true (by kernel_rfl)) (by unfold Func.isWrapper; first | (rw [if_pos (by decide +kernel)]; kernel_rfl) | (rw [if_neg (by decide +kernel)]; exact ⟨rfl,rfl⟩))
    (fun os started H enc _=>lifted os started H enc)
end Go.Proofs.YtbciobiiejpdgaaGreatDoor.logoutEnds
namespace Go.Proofs.YtbciobiiejpdgaaGreatDoor
theorem logoutEnds:Rows.LogoutEndsCardSaid :=
  Claim7.holds_tied_plain_at .later [] [.data, .data, .data, .data, .sentinel, .sentinel, .data, .widerDeep, .widerDeep, .pinned] true (true, "26b9ea3839e40aff174482b81f08c8e6462f9b0982ca90b3a91fec393b2f2f29") true logoutEnds.over (fun _ h => by cases h) (by kernel_rfl) (fun _ h => by cases h) logoutEnds_row_tie rfl ⟨rfl, rfl⟩ (by kernel_rfl) rfl
    (fun f fn hf hfn=>by
      obtain rfl : f = 6 := Option.some.inj ((show Tryz.prog.funcNamed "matricula/matriculalaw23.LogoutEnds" = some 6 by kernel_rfl).symm.trans hf) |>.symm
      obtain rfl:fn=Tryz.f6:=(Option.some.inj (Tryz.func6.symm.trans hfn)).symm
      exact ⟨by kernel_rfl,fun j t ht=>by
        rw [Tryz.params6] at ht
        have hm:t∈[29,65,9,3]:=by simpa using Array.mem_of_getElem? ht
        have hall:([29,65,9,3].all fun u=>!Tryz.prog.wantsStandIn u)=true:=by kernel_rfl
        exact (show Tryz.prog.wantsStandIn t=false by simpa using List.all_eq_true.1 hall t hm)⟩)
    (by kernel_rfl)
end Go.Proofs.YtbciobiiejpdgaaGreatDoor
