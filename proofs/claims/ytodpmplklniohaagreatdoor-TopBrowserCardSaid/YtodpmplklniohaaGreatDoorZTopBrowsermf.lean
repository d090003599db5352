/- 'TopBrowser': what the card says. -/
import Derived.Test.YtodpmplklniohaaGreatDoorFUF
import Derived.Test.YtodpmplklniohaaGreatDoorRows
import Derived.Test.YtodpmplklniohaaGreatDoorCards
import Derived.Test.YtodpmplklniohaaGreatDoorTie
import Derived.WalkKit
import Derived.ProofKit
import Derived.OpenShut
import Derived.KernelRfl
import Derived.LaidOnce
import Derived.SevenTiedAt
namespace Go.Proofs.YtodpmplklniohaaGreatDoor.topBrowser
open W9
open Go.ChangeShapes Go.WideShapes Go.ChangeAt Go.RowKit Gk
open Go.ChangeMaps (open_string shut_string)
set_option linter.unusedVariables false
theorem knob:ownKnob Tryz.prog.godebug=none:=by kernel_rfl
theorem laidOut:laidOutB Tryz.prog=true:=by kernel_rfl
theorem plainLaid:(Rows.topBrowserRow.laid.all fun x=>x.2.handleName?.isNone)=true:=by kernel_rfl
theorem wit1 (os:Os):((World.laidAll Tryz.prog os Rows.topBrowserRow.laid).forCall (fun _ _=>0) ⟨#[],#[.string ⟨#[]⟩,.string ⟨#[]⟩,.string ⟨#[]⟩,.agg #[.int .u64 0,.int .u64 0,.int .u64 0,.int .u64 0]],[]⟩).Shaped Tryz.prog:=World.shaped_of_ZipB (by kernel_rfl) (by kernel_rfl)
theorem wit2 (os:Os):laidMetH Tryz.prog Rows.topBrowserRow.laid ((World.laidAll Tryz.prog os Rows.topBrowserRow.laid).forCall (fun _ _=>0) ⟨#[],#[.string ⟨#[]⟩,.string ⟨#[]⟩,.string ⟨#[]⟩,.agg #[.int .u64 0,.int .u64 0,.int .u64 0,.int .u64 0]],[]⟩).memory:=by
  rw [MakeChecks.laidMetH_plain _ _ _ plainLaid]
  exact laidMet_laidAll _ (by kernel_rfl) (by kernel_rfl)
theorem wit3 (os:Os):Input.okWideB Tryz.checked.prog ((World.laidAll Tryz.prog os Rows.topBrowserRow.laid).forCall (fun _ _=>0) ⟨#[],#[.string ⟨#[]⟩,.string ⟨#[]⟩,.string ⟨#[]⟩,.agg #[.int .u64 0,.int .u64 0,.int .u64 0,.int .u64 0]],[]⟩) 3 ⟨#[],#[.string ⟨#[]⟩,.string ⟨#[]⟩,.string ⟨#[]⟩,.agg #[.int .u64 0,.int .u64 0,.int .u64 0,.int .u64 0]],[]⟩=true:=by kernel_rfl
theorem wit4 (os:Os) (H:Type) (AD:TypeId×Value→H):Rows.topBrowserSpec.preB AD Tryz.checked.prog Tryz.f3 Rows.topBrowserRow.domain false ((World.laidAll Tryz.prog os Rows.topBrowserRow.laid).forCall (fun _ _=>0) ⟨#[],#[.string ⟨#[]⟩,.string ⟨#[]⟩,.string ⟨#[]⟩,.agg #[.int .u64 0,.int .u64 0,.int .u64 0,.int .u64 0]],[]⟩).memory #[.string ⟨#[]⟩,.string ⟨#[]⟩,.string ⟨#[]⟩,.agg #[.int .u64 0,.int .u64 0,.int .u64 0,.int .u64 0]] 8=true:=by kernel_rfl
theorem wit5 (os:Os) (H:Type) (AD:TypeId×Value→H):Rows.topBrowserSpec.sizedB AD Tryz.checked.prog Tryz.f3 false ((World.laidAll Tryz.prog os Rows.topBrowserRow.laid).forCall (fun _ _=>0) ⟨#[],#[.string ⟨#[]⟩,.string ⟨#[]⟩,.string ⟨#[]⟩,.agg #[.int .u64 0,.int .u64 0,.int .u64 0,.int .u64 0]],[]⟩).memory #[.string ⟨#[]⟩,.string ⟨#[]⟩,.string ⟨#[]⟩,.agg #[.int .u64 0,.int .u64 0,.int .u64 0,.int .u64 0]] 8=true:=by kernel_rfl
theorem wit (os:Os) (H:Type) (AD:TypeId×Value→H):AbW AD {} Tryz.checked os 3 Tryz.f3 Rows.topBrowserSpec Rows.topBrowserRow.domain false (fun w _=>laidMetH Tryz.prog Rows.topBrowserRow.laid w) :=
  ChangeSpec.witness_shaped (X:=(fun w _=>laidMetH Tryz.prog Rows.topBrowserRow.laid w)) false (World.laidAll Tryz.prog os Rows.topBrowserRow.laid) #[.string ⟨#[]⟩,.string ⟨#[]⟩,.string ⟨#[]⟩,.agg #[.int .u64 0,.int .u64 0,.int .u64 0,.int .u64 0]] 8 (World.laidAll_os _ _ _) (wit1 os) (wit3 os) (wit4 os H AD) (wit5 os H AD) (wit2 os)
set_option maxRecDepth 100000 in
theorem lifted (os:Os) (started:os.Started) (H:Type) (AD:TypeId×Value→H) :
    ReturnsInHanded {} Tryz.checked os 3 .any (fun w args=>(Rows.topBrowserSpec.pre AD Tryz.prog Tryz.f3 Rows.topBrowserRow.domain false w args∧laidMetH Tryz.prog Rows.topBrowserRow.laid w)∧sizedMet AD Tryz.prog Tryz.f3 (OpenSpec.ofChange Rows.topBrowserSpec) false w args) (Rows.topBrowserSpec.post AD Tryz.prog Tryz.f3 false true false false):=by
  refine Xas (C:=Tryz.checked) (X:=(fun w _=>laidMetH Tryz.prog Rows.topBrowserRow.laid w)) (fun _ _ _ hh h=>h.of_heap hh) knob started (by kernel_rfl) Tryz.func3 (wit os H AD) ?_
  intro W base args ds gs before hval0 hW hL0 Hw
  have hL:=hL0
  rw [MakeChecks.laidMetH_plain _ _ _ plainLaid] at hL
  have hK:=Abl (Lib.laidMet.reads hL (.tail _ (.tail _ (.tail _ (.tail _ (.tail _ (.tail _ (.tail _ (.head _))))))))) (Lib.laidMet.reads hL (.tail _ (.tail _ (.head _)))) (Lib.laidMet.reads hL (.tail _ (.tail _ (.tail _ (.tail _ (.tail _ (.tail _ (.tail _ (.tail _ (.head _)))))))))) (Lib.laidMet.reads hL (.tail _ (.tail _ (.tail _ (.tail _ (.tail _ (.tail _ (.tail _ (.tail _ (.tail _ (.head _))))))))))) (Lib.laidMet.reads hL (.tail _ (.tail _ (.tail _ (.head _))))) (Lib.laidMet.reads hL (.tail _ (.tail _ (.tail _ (.tail _ (.tail _ (.tail _ (.head _)))))))) (Lib.laidMet.reads hL (.tail _ (.tail _ (.tail _ (.tail _ (.tail _ (.head _))))))) Hw
  have Adx:∀ (j:Nat) t v,Tryz.f3.params[j]?=some t→args[j]?=some v→Value.okWide Tryz.prog W .any base t v:=hval0
  have hW':=hW
  obtain ⟨p,q,hA0,hV,rfl,hfz,Qq⟩:=hW
  have hA:DataW.TrodAll AD Tryz.prog W 0 (fun _=>true) true Tryz.f3.params.toList args.toList ds p:=hA0
  rw [Tryz.params3] at hA Adx
  obtain ⟨v0,vs0,d0,ds0,p0,q0,Aav,rfl,rfl,h0,r0⟩:=trodAll_cons hA
  obtain ⟨v1,vs1,d1,ds1,p1,q1,rfl,rfl,rfl,h1,r1⟩:=trodAll_cons r0
  obtain ⟨v2,vs2,d2,ds2,p2,q2,rfl,rfl,rfl,h2,r2⟩:=trodAll_cons r1
  obtain ⟨v3,vs3,d3,ds3,p3,q3,rfl,rfl,rfl,h3,r3⟩:=trodAll_cons r2
  obtain ⟨rfl,rfl,rfl⟩:=trodAll_nil r3
  obtain rfl:args=#[v0,v1,v2,v3]:=by cases args; simp_all
  obtain ⟨rfl,rfl⟩:=trodVars_none hV
  obtain ⟨s0,rfl,rfl,rfl,w0⟩:=open_string Tryz.underlying9 (Adx 0 9 v0 rfl rfl) h0
  obtain ⟨s1,rfl,rfl,rfl,w1⟩:=open_string Tryz.underlying9 (Adx 1 9 v1 rfl rfl) h1
  obtain ⟨s2,rfl,rfl,rfl,w2⟩:=open_string Tryz.underlying9 (Adx 2 9 v2 rfl rfl) h2
  have k3:=h3
  obtain ⟨f3,hf3⟩:=h3
  obtain ⟨ar3,rfl,hsz3⟩:=Xs6 Tryz.underlying23 (Adx 3 23 v3 rfl rfl)
  obtain ⟨d0',d1',d2',d3',e3,ZC,EB,mO,hd3⟩:=Xy8 hf3
  have ee3:ar3=([BH (d0':Nat),BH (d1':Nat),BH (d2':Nat),BH (d3':Nat)]:List Value).toArray:=Array.ext' (by simpa [Value.cells] using e3)
  subst ee3
  clear hA0 hval0
  simp only [List.append_nil] at hW'
  refine (Xhf d0' d1' d2' d3' ZC EB mO hd3 s0.data.toList s1.data.toList s2.data.toList w0 w1 w2 W W (ZG W) hK.1 hK.2  [] (Ah6 W)).mono fun e W' he=>?_
  obtain ⟨_,rfl,rfl,J,hJ,hS⟩:=he
  exact ⟨_,rfl,zp (pv:=[]) hW' (hS.below hJ) (fun _ _ _=>(trodAll_cons_mk (shut_bool Tryz.underlying4 _) trodAll_mk0)) ((trodAll_cons_mk (shut_string Tryz.underlying9 w0) (trodAll_cons_mk (shut_string Tryz.underlying9 w1) (trodAll_cons_mk (shut_string Tryz.underlying9 w2) (trodAll_cons_mk (Go.RowKit.Below.trod laidOut (by kernel_rfl) (of_decide_eq_true (by kernel_rfl)) k3 (hS.below hJ) (fun x hx=>by simpa using hW'.lt x (by simp [hx]))) trodAll_mk0))))) rfl (by simp)⟩
theorem jand {a b:Bool} (h:a=true) (k:b=true):(a && b)=true:=by rw [h,k]; rfl
theorem j0:(Rows.topBrowserRow.wf (OpenSpec.ofChange Rows.topBrowserSpec))=true:=by kernel_rfl
theorem j1:(laidOutB Tryz.prog)=true:=by kernel_rfl
theorem j2:(mapsRowed Tryz.prog)=true:=by kernel_rfl
theorem j3:(Tryz.f3.params.all (Tryz.prog.readableRec ·))=true:=by kernel_rfl
theorem j4:(namedTie Tryz.prog Rows.topBrowserRow.named Rows.topBrowserSpec.vars)=true:=by kernel_rfl
theorem j5:((Rows.topBrowserRow.stops == []))=true:=by kernel_rfl
theorem j6:((Tryz.prog.stops == []))=true:=by kernel_rfl
theorem j7:((Rows.topBrowserRow.knobs == []))=true:=by kernel_rfl
theorem j8:((Tryz.prog.stopKnobs == []))=true:=by kernel_rfl
theorem j9:((Rows.topBrowserRow.inPlace == Tryz.prog.inPlace 3))=true:=by kernel_rfl
theorem j10:((Rows.topBrowserRow.unfollowed == Tryz.prog.unfollowed 3))=true:=by kernel_rfl
theorem j11:((Rows.topBrowserRow.recurses == Tryz.prog.recurses 3))=true:=by kernel_rfl
theorem j12:((Rows.topBrowserRow.named == Tryz.prog.varsNamed 3))=true:=by kernel_rfl
theorem j13:((Rows.topBrowserRow.maps == (Tryz.f3.params.toList ++ Rows.topBrowserSpec.plain.varTypes Tryz.prog).any (Tryz.prog.mapsRec ·)))=true:=by kernel_rfl
theorem j14:((Rows.topBrowserRow.ifaces == (Tryz.f3.params.toList ++ Rows.topBrowserSpec.plain.varTypes Tryz.prog).any (Tryz.prog.ifacesRec ·)))=true:=by kernel_rfl
theorem j15:((Rows.topBrowserRow.mapsOut == Tryz.prog.mapsAmong Tryz.f3.resultTypes.toList))=true:=by kernel_rfl
theorem j16:((Rows.topBrowserRow.loops == (Tryz.f3.params.toList ++ Rows.topBrowserSpec.plain.varTypes Tryz.prog).any (Tryz.prog.loopsFrom ·)))=true:=by kernel_rfl
theorem j17:((Rows.topBrowserRow.wideKeys == (Tryz.f3.params.toList ++ Rows.topBrowserSpec.plain.varTypes Tryz.prog ++ Tryz.f3.resultTypes.toList).any (Tryz.prog.wideKeysFrom ·)))=true:=by kernel_rfl
theorem j18:(Rows.topBrowserSpec.vars.all (Tryz.prog.varReadable ·))=true:=by kernel_rfl
theorem j19:(Tryz.f3.resultTypes.all (fun t=>Tryz.prog.readableRec t && decide (t<Tryz.prog.types.size)))=true:=by kernel_rfl
theorem j20:((Rows.topBrowserRow.ifacesOut == Tryz.f3.resultTypes.toList.any (Tryz.prog.ifacesRec ·)))=true:=by kernel_rfl
theorem j21:((Rows.topBrowserRow.loopsOut == Tryz.f3.resultTypes.toList.any (Tryz.prog.loopsFrom ·)))=true:=by kernel_rfl
theorem j22:((Rows.topBrowserRow.plainKeys == Tryz.prog.plainKeys))=true:=by kernel_rfl
theorem j23:(Rows.topBrowserRow.shortTexts.isNone)=true:=by kernel_rfl
theorem j24:(Tryz.prog.stopsHeard)=true:=by kernel_rfl
theorem j25:(Tryz.prog.mayEnter)=true:=by kernel_rfl
theorem j26:((Rows.topBrowserRow.lifted == Tryz.prog.liftsFinal))=true:=by kernel_rfl
theorem j27:((Tryz.prog.make == some Rows.topBrowserRow.make))=true:=by kernel_rfl
theorem j28:((Rows.topBrowserRow.kinds == (if Rows.topBrowserRow.domain.isEmpty then [] else Tryz.f3.params.toList.map fun t=>match Tryz.prog.underlying t with | some (.int k)=>some k | _=>none)))=true:=by kernel_rfl
theorem j29:((Rows.topBrowserRow.pinned == Rows.topBrowserRow.pinnedBy))=true:=by kernel_rfl
theorem j30:((Rows.topBrowserRow.veiled == (Tryz.f3.params.toList ++ Rows.topBrowserSpec.plain.varTypes Tryz.prog ++ Tryz.f3.resultTypes.toList).any (Tryz.prog.veiledRec ·)))=true:=by kernel_rfl
theorem j31:(Rows.topBrowserRow.veiledFits Tryz.prog Tryz.f3.params.toList (Tryz.f3.params.toList ++ Rows.topBrowserSpec.plain.varTypes Tryz.prog ++ Tryz.f3.resultTypes.toList))=true:=by kernel_rfl
set_option maxRecDepth 100000 in
theorem facts:joinedFacts Tryz.prog 3 Tryz.f3 Rows.topBrowserSpec Rows.topBrowserRow=true:=by
  unfold joinedFacts
  exact (jand (jand (jand (jand (jand (jand (jand (jand (jand (jand (jand (jand (jand (jand (jand (jand (jand (jand (jand (jand (jand (jand (jand (jand (jand (jand (jand (jand (jand (jand (jand j0 j1) j2) j3) j4) j5) j6) j7) j8) j9) j10) j11) j12) j13) j14) j15) j16) j17) j18) j19) j20) j21) j22) j23) j24) j25) j26) j27) j28) j29) j30) j31)
theorem over:Rows.topBrowserRow.holds Tryz.pinned (OpenSpec.ofChange Rows.topBrowserSpec) :=
  OpenClaim.holds_of_wide 3 Tryz.f3 rfl rfl rfl rfl rfl rfl rfl ⟨rfl,rfl,rfl,rfl,rfl⟩ rfl rfl rfl rfl rfl (by kernel_rfl) Tryz.func3 facts
    (of_decide_eq_true (by kernel_rfl)) (by unfold Func.isWrapper; first | (rw [if_pos (by decide +kernel)]; kernel_rfl) | (rw [if_neg (by decide +kernel)]; exact ⟨rfl,rfl⟩))
    (fun os started H AD _=>lifted os started H AD)
end Go.Proofs.YtodpmplklniohaaGreatDoor.topBrowser
namespace Go.Proofs.YtodpmplklniohaaGreatDoor
open W9
theorem topBrowser:Rows.TopBrowserCardSaid :=
  Claim7.holds_tied_plain_at .later [] [.data, .data, .data, .data, .data, .sentinel, .sentinel, .data, .widerDeep, .widerDeep, .pinned] true (true, "6e8d4fb33c7bb4d9ab9022d5c1db46e2581061565a00fb2b00d1c135b6864cd6") true topBrowser.over (fun _ h => by cases h) (by kernel_rfl) (fun _ h => by cases h) topBrowser_row_tie rfl ⟨rfl, rfl⟩ (by kernel_rfl) rfl
    (fun f fn hf EJ=>by
      obtain rfl : f = 3 := Option.some.inj ((show Tryz.prog.funcNamed "matricula/matriculatop.TopBrowser" = some 3 by kernel_rfl).symm.trans hf) |>.symm
      obtain rfl:fn=Tryz.f3:=(Option.some.inj (Tryz.func3.symm.trans EJ)).symm
      exact ⟨by kernel_rfl,fun j t ht=>by
        rw [Tryz.params3] at ht
        have hm:t∈[9,9,9,23]:=by simpa using Array.mem_of_getElem? ht
        have AW:([9,9,9,23].all fun u=>!Tryz.prog.wantsStandIn u)=true:=by kernel_rfl
        exact (show Tryz.prog.wantsStandIn t=false by simpa using List.all_eq_true.1 AW t hm)⟩)
    (AbT _ rfl)
end Go.Proofs.YtodpmplklniohaaGreatDoor
