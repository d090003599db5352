/- Part 4 of what the proof stands on: W16f, W16g, W18l, W17a, W18m, W18n, W17c, PatN, W17d, PatT, PatU, PatV, PatW, PatX, PatY, PatR, PatQ, PatL, PatO. -/
import Derived.Test.YtfibbpgikjggfaaGreatDoorM2PC
import Derived.Test.YtfibbpgikjggfaaGreatDoorChecked
set_option linter.unusedVariables false
set_option linter.unusedSimpArgs false
namespace Go.Proofs.YtfibbpgikjggfaaGreatDoor
open Gk Rk
set_option maxHeartbeats 400000 in
theorem Xjo {l:List Nat} {p:Addr} {I:Im} (hx:Cx I l p) (b0 n c:Nat) (r:List Value) (hn:l.length=n) (hb:n≤100000) (B w:World) (As:List X7) (hS:Sat B w I (blk b0 ((Srt.upto n).map I64 ++ r) 3::As)) :
  Cz 226 [.slice (some (ad b0 0)) n c,I64 n,CF p] w fun v w'=>v=.tuple #[]∧∃ D,Srt.Ord (kx l) n D∧Sat B w' I (blk b0 ((D).map I64 ++ r) 3::As):=by
 refine calls Xo6 rfl Tryz.ntmps226 rfl (.seq (.q 1 rfl (.seq (.q 3 rfl (.seq (.block (.loop (σ:=Int×Int×List Int×List Int) (fun ⟨a,b,M,R⟩=>[(0,.slice (some (ad b0 0)) n c),(1,I64 n),(2,CF p),(6,I64 20),(7,I64 a),(8,I64 b)]) (fun ⟨a,b,M,R⟩ w=>a=M.length∧b=a+20∧Srt.Full (kx l) 20 M∧Srt.cross M R∧R.Pairwise (·<·)∧(M ++ R).Perm (Srt.upto n)∧Sat B w I (blk b0 ((M ++ R).map I64 ++ r) 3::As)) (fun ⟨a,b,M,R⟩=>R.length) (0,20,[],Srt.upto n) ⟨rfl,rfl,rfl,rfl,rfl,rfl,trivial⟩ ⟨rfl,rfl,.nil,(fun _ h=>by cases h),Srt.upto_lt n,.refl _,hS⟩ ?_)))))));rintro ⟨a,b,M,R⟩ w ⟨ha,hb2,hF,hc,hR,hP,hS⟩;have hPl:=hP.length_eq;rw [Y0,Srt.upto_len] at hPl;have hin:∀ x∈R,0≤x∧x<(l.length:Int):=fun x hx=>by rw [hn]; exact Srt.upto_mem.1 (hP.mem_iff.1 (Y20 _ hx))
 refine .seq (.seq (.q 3 rfl ?_));refine .cond rfl (fun hb13=>?_) fun hb13=>?_
 ·have hc13:=hb13; simp only [Y6] at hc13;refine .skip (.block (.seq (.t 4 rfl ?_)));have hTD:R.take 20 ++ R.drop 20=R:=Y11 20 R;rw [← hTD] at hS;refine .call Xkv rfl (ec9 rfl (ec9 rfl (ec9 rfl (ec9 rfl X0)))) rfl (Xr9 hx M (R.take 20) (R.drop 20) (hR.sublist (List.take_sublist 20 R)) (fun x h=>hin x (Y48 h)) b0 n c r _ b (by omega) (by rw [Yt]; omega) (by omega) (by rw [Yt,Yp]; omega) B w As hS) ?_;rintro _ w ⟨rfl,M2,hM2,hMs,hS⟩;refine .nil (.seq (.q 2 rfl (.region (.run 4 rfl ⟨⟨by omega,by omega⟩,trivial⟩ (.nil ?_)))));refine ⟨(b,b+20,M ++ M2,R.drop 20),⟨rfl,rfl,rfl,rfl,rfl,rfl,trivial⟩,⟨by have h1:=hM2.length_eq; rw [Yt] at h1; (try dsimp only); rw [Y0]; omega,rfl,?_,?_,hR.sublist (List.drop_sublist 20 R),?_,?_⟩,by (try dsimp only); rw [Yp]; omega⟩
  ·exact hF.append (.one (by rw [hM2.length_eq,Yt]; omega) hMs) (Srt.cross_permr (Srt.cross_sub hc (fun _ h=>h) (fun _ h=>Y48 h)) hM2)
  ·refine Srt.cross_app (Srt.cross_sub hc (fun _ h=>h) (fun _ h=>List.mem_of_mem_drop h)) (Srt.cross_perm ?_ hM2);intro u hu t ht;rw [← Y11 20 R] at hR;exact (Y1t.1 hR).2.2 u hu t ht
  ·rw [Yf];refine List.Perm.trans (List.Perm.append_left M (hM2.append_right _)) ?_;rw [Y11]; exact hP
  ·rw [Yf]; exact hS
 have hc13:=hb13; simp only [Y6] at hc13;refine .exit (.seq (.t 4 rfl ?_));replace hS:Sat B w I (blk b0 ((M ++ (R ++ [])).map I64 ++ r) 3::As):=by simpa using hS
 refine .call Xkv rfl (ec9 rfl (ec9 rfl (ec9 rfl (ec9 rfl X0)))) rfl (Xr9 hx M R [] hR hin b0 n c r _ n (by omega) (by omega) (by omega) (by simp only [Yj]; omega) B w As hS) ?_;rintro _ w ⟨rfl,M2,hM2,hMs,hS⟩;refine .nil (.block ?_);refine .loop (σ:=Int×List Int) (fun ⟨s,D⟩=>[(0,.slice (some (ad b0 0)) n c),(1,I64 n),(2,CF p),(6,I64 s)]) (fun ⟨s,D⟩ w=>20≤s∧s≤1000000∧Srt.Runs (kx l) s.toNat D∧D.Perm (Srt.upto n)∧Sat B w I (blk b0 ((D).map I64 ++ r) 3::As)) (fun ⟨s,D⟩=>(n - s:Int).toNat) (20,M ++ M2) ⟨rfl,rfl,rfl,rfl,trivial⟩ ⟨by decide,by decide,⟨M,M2,rfl,hF,by rw [hM2.length_eq]; omega,hMs,Srt.cross_permr hc hM2⟩,(List.Perm.append_left M hM2).trans hP,by simpa using hS⟩ ?_;rintro ⟨s,D⟩ w ⟨hs20,hsb,hRu,hP,hS⟩;have hDl:=hP.length_eq;rw [Srt.upto_len] at hDl;refine .seq (.seq (.q 3 rfl ?_));refine .cond rfl (fun hb30=>?_) fun hb30=>?_
 ·have hc30:=hb30; simp only [Y6] at hc30;refine .skip (.block (.seq (.region (.run 4 rfl ⟨⟨by omega,by omega⟩,trivial⟩ (.nil (.seq (.block ?_)))))));obtain ⟨E0,U0,rfl,hE0,hU0,hU0s,hEU⟩:=hRu;refine .loop (σ:=Int×Int×List Int×List Int) (fun ⟨a,b,Md,E⟩=>[(0,.slice (some (ad b0 0)) n c),(1,I64 n),(2,CF p),(6,I64 s),(7,I64 a),(8,I64 b)]) (fun ⟨a,b,Md,E⟩ w=>a=Md.length∧b=a+2*s∧Srt.Full (kx l) (2*s).toNat Md∧Srt.Full (kx l) s.toNat E∧Srt.cross E U0∧Srt.cross Md (E ++ U0)∧(Md ++ (E ++ U0)).Perm (Srt.upto n)∧Sat B w I (blk b0 ((Md ++ (E ++ U0)).map I64 ++ r) 3::As)) (fun ⟨a,b,Md,E⟩=>E.length) (0,2*s,[],E0) ⟨rfl,rfl,rfl,rfl,rfl,rfl,trivial⟩ ⟨rfl,by (try dsimp only); omega,.nil,hE0,hEU,(fun _ h=>by cases h),hP,hS⟩ ?_;rintro ⟨a,b,Md,E⟩ w ⟨ha,hb2,hMd,hE,hEU,hc,hP,hS⟩;have hPl:=hP.length_eq;rw [Y0,Y0,Srt.upto_len] at hPl;have hin:∀ x∈E ++ U0,0≤x∧x<(l.length:Int):=fun x hx=>by rw [hn]; exact Srt.upto_mem.1 (hP.mem_iff.1 (Y20 _ hx))
  refine .seq (.seq (.q 3 rfl ?_));refine .cond rfl (fun hb35=>?_) fun hb35=>?_
  ·have hc35:=hb35; simp only [Y6] at hc35;refine .skip (.block (.seq (.region (.run 7 rfl ⟨⟨by omega,by omega⟩,trivial⟩ ?_))));obtain ⟨U,V,T,rfl,hUl,hVl,hUs,hVs,hUV,hUT,hVT,hT⟩:=hE.two (by omega);simp only [Y0] at hPl
   have hTU:Srt.cross T U0:=Srt.cross_sub hEU (fun _ h=>by simp [h]) (fun _ h=>h);rw [show Md ++ ((U ++ (V ++ T)) ++ U0)=Md ++ (U ++ (V ++ (T ++ U0))) by simp only [Yf]] at hS;refine .call Xlg rfl (ec9 rfl (ec9 rfl (ec9 rfl (ec9 rfl (ec9 rfl X0))))) rfl (Xki hx _ Md U V (T ++ U0) hUs hVs hUV (fun x h=>hin x (by rcases Y16.1 h with h | h <;> simp [h])) (by omega) (by omega) (Yu _) b0 n c r _ _ _ (by omega) (by omega) (by omega) (by omega) (by simp only [Y0]; omega) B w As hS) ?_;rintro _ w ⟨rfl,M3,hM3,hMs3,hS⟩;refine .nil (.seq (.q 2 rfl (.region (.run 5 rfl ⟨⟨by omega,by omega⟩,⟨by omega,by omega⟩,trivial⟩ (.nil ?_)))));refine ⟨(b,b+2*s,Md ++ M3,T),⟨rfl,rfl,rfl,rfl,rfl,rfl,trivial⟩,⟨by (try dsimp only); rw [Y0,hM3.length_eq,Y0]; omega,rfl,?_,hT,hTU,?_,?_,?_⟩,by (try dsimp only); simp only [Y0]; omega⟩
   ·exact hMd.append (.one (by rw [hM3.length_eq,Y0]; omega) hMs3) (Srt.cross_permr (Srt.cross_sub hc (fun _ h=>h) (fun x h=>by rcases Y16.1 h with h | h <;> simp [h])) hM3)
   ·refine Srt.cross_app (Srt.cross_sub hc (fun _ h=>h) (fun x h=>by rcases Y16.1 h with h | h <;> simp [h])) (Srt.cross_perm ?_ hM3);exact Srt.cross_app (Srt.cross_appr hUT (Srt.cross_sub hEU (fun _ h=>Y1s _ h) (fun _ h=>h))) (Srt.cross_appr hVT (Srt.cross_sub hEU (fun _ h=>by simp [h]) (fun _ h=>h)))
   ·refine List.Perm.trans ?_ hP;simp only [Yf]
    refine List.Perm.append_left Md ?_
    have:=hM3.append_right (T ++ U0)
    simpa [Yf] using this
   ·rw [Yf]; exact hS
  have hc35:=hb35; simp only [Y6] at hc35;refine .exit (.seq (.seq (.region (.run 4 rfl ⟨⟨by omega,by omega⟩,trivial⟩ (.nil (.seq (.q 3 rfl ?_)))))));refine .cond rfl (fun hb54=>?_) fun hb54=>?_
  ·have hc54:=hb54; simp only [Y6] at hc54;refine .t 5 rfl ?_;have hEf:E.length=s.toNat∧Srt.So (kx l) E:=by
    rcases hE.few (by omega) with h | h
    ·subst h; simp at hPl; omega
    ·exact h
   replace hS:Sat B w I (blk b0 ((Md ++ (E ++ (U0 ++ []))).map I64 ++ r) 3::As):=by simpa using hS
   refine .call Xlg rfl (ec9 rfl (ec9 rfl (ec9 rfl (ec9 rfl (ec9 rfl X0))))) rfl (Xki hx _ Md E U0 [] hEf.2 hU0s hEU (fun x h=>hin x h) (by omega) (by omega) (Yu _) b0 n c r _ _ _ (by omega) (by omega) (by omega) (by omega) (by simp only [Yj]; omega) B w As hS) ?_;rintro _ w ⟨rfl,M3,hM3,hMs3,hS⟩;refine .nil (.region (.run 3 rfl ⟨⟨by omega,by omega⟩,trivial⟩ (.nil ?_)));refine ⟨(s*2,Md ++ M3),⟨rfl,rfl,rfl,rfl,trivial⟩,⟨by omega,by omega,⟨Md,M3,rfl,by rw [show (s*2).toNat=(2*s).toNat by omega]; exact hMd,by rw [hM3.length_eq,Y0]; omega,hMs3,Srt.cross_permr hc hM3⟩,?_,by simpa using hS⟩,by (try dsimp only); omega⟩;exact (List.Perm.append_left Md hM3).trans hP
  have hc54:=hb54; simp only [Y6] at hc54;refine .skip (.region (.run 3 rfl ⟨⟨by omega,by omega⟩,trivial⟩ (.nil ?_)));have hq:(E ++ U0).length<(s*2).toNat∧Srt.So (kx l) (E ++ U0):=by
   rcases hE.few (by omega) with h | h
   ·subst h; simp only [Ye]; exact ⟨by omega,hU0s⟩
   ·have hU00:U0=[]:=Yl (by omega);subst hU00;rw [Y9]; exact ⟨by omega,h.2⟩
  refine ⟨(s*2,Md ++ (E ++ U0)),⟨rfl,rfl,rfl,rfl,trivial⟩,⟨by omega,by omega,⟨Md,E ++ U0,rfl,by rw [show (s*2).toNat=(2*s).toNat by omega]; exact hMd,hq.1,hq.2,hc⟩,hP,hS⟩,by (try dsimp only); omega⟩
 have hc30:=hb30; simp only [Y6] at hc30;refine .exit (X7n Tryz.results226 ?_);refine ⟨_,rfl,rfl,D,⟨hRu.sorted (by omega) (by omega),hP⟩,hS⟩
theorem Xt8 (cv:Value) (w:World) :
  Cz 245 [.slice none 0 0,I64 0,I64 0,cv] w fun v w'=>v=.tuple #[]∧w=w':=by
 obtain ⟨w0,hw0⟩:∃ w0,w=w0:=⟨_,rfl⟩
 rw [show (fun (v:Value) (w':World)=>v=.tuple #[]∧w=w')=(fun v w'=>v=.tuple #[]∧w0=w') by rw [hw0]];refine calls Xkv rfl Tryz.ntmps245 rfl (.seq (.region (.run 3 rfl ⟨⟨by omega,by omega⟩,trivial⟩ (.nil (.block (.loop (σ:=Unit) (fun _=>[(2,I64 0),(8,I64 1)]) (fun _ w=>w=w0) (fun _=>0) () ⟨rfl,rfl,trivial⟩ hw0 ?_))))));rintro _ w hw;refine .seq (.seq (.q 3 rfl (.condF (rfl) (.exit (X7n Tryz.results245 ?_)))));exact ⟨_,rfl,rfl,hw.symm⟩
theorem Xje (cv:Value) (w:World) :
  Cz 226 [.slice none 0 0,I64 0,cv] w fun v w'=>v=.tuple #[]∧w=w':=by
 obtain ⟨w0,hw0⟩:∃ w0,w=w0:=⟨_,rfl⟩
 rw [show (fun (v:Value) (w':World)=>v=.tuple #[]∧w=w')=(fun v w'=>v=.tuple #[]∧w0=w') by rw [hw0]];refine calls Xo6 rfl Tryz.ntmps226 rfl (.seq (.q 1 rfl (.seq (.q 3 rfl (.seq (.block (.loop (σ:=Unit) (fun _=>[(0,.slice none 0 0),(1,I64 0),(2,cv),(6,I64 20),(7,I64 0),(8,I64 20)]) (fun _ w=>w=w0) (fun _=>0) () ⟨rfl,rfl,rfl,rfl,rfl,rfl,trivial⟩ hw0 ?_)))))));rintro _ w hw;refine .seq (.seq (.q 3 rfl (.condF (rfl) (.exit (.seq (.t 4 rfl (.call Xkv rfl (ec9 rfl (ec9 rfl (ec9 rfl (ec9 rfl X0)))) rfl (Xt8 _ _) ?_)))))));rintro _ _ ⟨rfl,rfl⟩;refine .nil (.block (.loop (σ:=Unit) (fun _=>[(1,I64 0),(6,I64 20)]) (fun _ w=>w=w0) (fun _=>0) () ⟨rfl,rfl,trivial⟩ hw ?_));rintro _ w hw;refine .seq (.seq (.q 3 rfl (.condF (rfl) (.exit (X7n Tryz.results226 ?_)))));exact ⟨_,rfl,rfl,hw.symm⟩
theorem Xql (cv:Value) (w:World) :
  Cz 190 [.slice none 0 0,cv] w fun v w'=>v=.tuple #[]∧w=w':=by
 refine calls Tryz.func190 rfl Tryz.ntmps190 rfl (.region (.run 4 rfl ⟨⟨_,Xd⟩,trivial⟩ (.call Xo6 rfl (ec9 rfl (ec9 rfl (ec9 rfl X0))) rfl (Xje _ _) ?_)));rintro _ _ ⟨rfl,rfl⟩;refine .nil (X7n Tryz.results190 ?_);exact ⟨_,rfl,rfl,rfl⟩
theorem Xhz {l:List Nat} {p:Addr} {I:Im} (hx:Cx I l p) (b0 n c:Nat) (r:List Value) (hn:l.length=n) (hb:n≤100000) (B w:World) (As:List X7) (hS:Sat B w I (blk b0 ((Srt.upto n).map I64 ++ r) 3::As)) :
  Cz 190 [.slice (some (ad b0 0)) n c,CF p] w fun v w'=>v=.tuple #[]∧∃ D,Srt.Ord (kx l) n D∧Sat B w' I (blk b0 ((D).map I64 ++ r) 3::As):=by
 refine calls Tryz.func190 rfl Tryz.ntmps190 rfl (.region (.run 4 rfl ⟨⟨_,Xd⟩,trivial⟩ (.call Xo6 rfl (ec9 rfl (ec9 rfl (ec9 rfl X0))) rfl (Xjo hx b0 n c r hn hb B w As hS) ?_)));rintro _ w ⟨rfl,D,hD,hS⟩;refine .nil (X7n Tryz.results190 ?_);exact ⟨_,rfl,rfl,D,hD,hS⟩
theorem Xq3 {l:List Nat} {p:Addr} {I:Im} (hx:Cx I l p) (u:Value) (n:Nat) (hn:l.length=n) (hb:n≤100000) (B w:World) (As:List X7) (hS:Sat B w I (Vec 3 1 u n ((Srt.upto n).map I64)::As)) :
  Cz 190 [u,CF p] w fun v w'=>v=.tuple #[]∧∃ D,Srt.Ord (kx l) n D∧Sat B w' I (Vec 3 1 u n ((D).map I64)::As):=by
 rcases Y1r n with h0 | h0
 ·subst h0;have hcase:u=.slice none 0 0∨∃ b0 c r,u=.slice (some (ad b0 0)) 0 c∧c≤maxLen∧r.length=c∧Sat B w I (blk b0 (([]:List Int).map I64 ++ r) 3::As):=by
   obtain ⟨h,⟨h1,h2,rfl,⟨hl,ha⟩,hr⟩,hg⟩:=hS;rcases ha with ⟨hv,_,_⟩ | ⟨b,cap,rest,rfl,rfl,h3,h4,h5⟩
   ·exact .inl hv
   ·exact .inr ⟨b,cap,rest,rfl,h4,by simp [Srt.upto] at h5; exact h5,_,⟨_,h2,rfl,rfl,hr⟩,hg⟩
  rcases hcase with rfl | ⟨b0,c,r,rfl,hcm,hrl,hSo⟩
  ·refine (Xql (CF p) w).mono ?_;rintro e w' ⟨v,rfl,rfl,rfl⟩;exact ⟨_,rfl,rfl,[],⟨.nil,.refl _⟩,hS⟩
  ·refine (Xhz hx b0 0 c r hn (by decide) B w As hSo).mono ?_;rintro e w' ⟨v,rfl,rfl,D,hD,hS'⟩;have hD0:D=[]:=Yl hD.len;subst hD0;exact ⟨_,rfl,rfl,[],hD,hS'.vecShut (k:=0) (n:=0) (xs:=[]) (size:=1) (cap:=c) (rest:=r) rfl (Yo _) hcm rfl (by simpa using hrl)⟩
 ·obtain ⟨b0,c,r,rfl,hnc,hcm,hxl,hxr,hSo⟩:=hS.vecOpen (k:=0) rfl h0;refine (Xhz hx b0 n c r hn hb B w As hSo).mono ?_;rintro e w' ⟨v,rfl,rfl,D,hD,hS'⟩;refine ⟨_,rfl,rfl,D,hD,hS'.vecShut (k:=0) (n:=n) (xs:=D.map I64) (size:=1) (cap:=c) (rest:=r) rfl hnc hcm (by rw [Y10,hD.len]; omega) ?_⟩;rw [Y10,hD.len];rw [hxl] at hxr;omega
theorem Xl6 (l:List Nat) (small:∀ v∈l,v<18446744073709551616) (hl:l.length≤100000) (a:Option Addr) (c:Nat) (B w:World) (I:Im) (hr:RS I a 1 l.length (l.map F64)) (As:List X7) (hS:Sat B w I As) :
  Cz 148 [.slice a l.length c] w fun v w'=>∃ D va vc,v=.slice va l.length vc∧Srt.Ord (kx l) l.length D∧Sat B w' I (Vec 3 1 (.slice va l.length vc) l.length (D.map I64)::As):=by
 refine calls Tryz.func148 rfl Tryz.ntmps148 rfl (.seq (.region (.box1 hS (.of rfl) rfl rfl ?_)));intro b1 w hS;refine .q 1 rfl (.nil (.seq (.q 1 rfl (.seq (.seq (.region (.val (.lo rfl hS (k:=0) rfl Tryz.isAgg167 rfl) rfl (.run 2 rfl ⟨⟨_,X61⟩,trivial⟩ (.nil (.block ?_))))))))));replace hS:=hS.vecNil 3 1;refine .loop (σ:=Nat×Option Addr×Nat) (fun ⟨k,va,vc⟩=>[(1,ptr b1 0),(3,.slice va k vc),(6,I64 l.length),(7,I64 (k:Nat))]) (fun ⟨k,va,vc⟩ w=>k≤l.length∧Sat B w I (Vec 3 1 (.slice va k vc) k ((Srt.upto k).map I64)::blk b1 [.slice a l.length c] 167::As)) (fun ⟨k,va,vc⟩=>l.length - k) (0,none,0) ⟨rfl,rfl,rfl,rfl,trivial⟩ ⟨Yo _,hS⟩ ?_;rintro ⟨k,va,vc⟩ w ⟨hk,hS⟩;refine .seq (.q 1 rfl (.seq ?_));refine .cond rfl (fun hb8=>?_) fun hb8=>?_
 ·have hc8:=hb8; simp only [Y6] at hc8;refine .skip (.seq (.block (.seq (.q 2 rfl (.t 2 rfl (.buildSlice (cs:=[_]) hS (pc9 rfl X4) Xd Qs3 Qz3 rfl rfl rfl rfl ?_))))));intro b12 w hS;refine .append (size:=1) (bytes:=8) hS (.of rfl) (.of rfl) (k:=0) rfl Xd X1c rfl rfl rfl rfl rfl rfl rfl ⟨by omega,by unfold maxLen; omega⟩ rfl ?_;intro v13 w hS;obtain ⟨a13,c13,rfl,hcap13,_⟩:=hS.vecSlice (k:=0) (v:=v13) rfl;refine .q 1 rfl (.nil (.region (.run 2 rfl ⟨⟨by omega,by omega⟩,trivial⟩ (.nil ?_))));refine ⟨(k+1,a13,c13),⟨rfl,rfl,rfl,rfl,trivial⟩,⟨by (try dsimp only); omega,?_⟩,by (try dsimp only); omega⟩;rw [Srt.upto,Yv]; exact hS
 have hc8:=hb8; simp only [Y6] at hc8;refine .exit (.seq (.t 1 rfl (.val (.makeFunc (ec9 rfl X0)) rfl ?_)));obtain rfl:k=l.length:=by omega
 obtain ⟨J,hJ,hJb,hT⟩:=hS.freeze (k:=1) rfl; clear hS; have hS:=hT; clear hT;have hcx:Cx J l (ad b1 0):=⟨⟨a,c,⟨rfl,_,_,_,hJb,fun j v h=>by simpa using h⟩,hr.mono hJ⟩,small⟩
 refine .call Tryz.func190 rfl (ec9 rfl (ec9 rfl X0)) rfl (Xq3 hcx _ l.length rfl (by omega) B w As hS) ?_;rintro _ w ⟨rfl,D,hD,hS⟩;refine .nil (.seq (.q 2 rfl (.ret (X9 Tryz.results148 rfl ?_))));exact ⟨_,rfl,D,va,vc,rfl,hD,hS.weaken hJ⟩
end Go.Proofs.YtfibbpgikjggfaaGreatDoor
namespace Go.Proofs.YtfibbpgikjggfaaGreatDoor
open Gk Rk
theorem X3q:Tryz.prog.info? 4=some Tryz.t4:=by kernel_rfl
set_option maxHeartbeats 400000 in
theorem Xe0 (l:List Nat) (small:∀ v∈l,v<18446744073709551616) (hl:l.length≤100000) (a:Option Addr) (c:Nat) (B w:World) (I:Im) (hr:RS I a 1 l.length (l.map F64)) (As:List X7) (hS:Sat B w I As) :
  Cz 118 [.slice a l.length c] w fun v w'=>∃ D va vc,v=.slice va l.length vc∧Srt.Ord (kx l) l.length D∧Sat B w' I (Vec 3 1 (.slice va l.length vc) l.length (D.map I64)::As):=by
 refine calls Tryz.func118 rfl Tryz.ntmps118 rfl (.seq (.q 1 rfl (.seq (.q 1 rfl (.seq (.region (.run 2 rfl ⟨⟨_,X61⟩,trivial⟩ ?_)))))));refine .make (l:=l.length) hS (.of rfl) (.of rfl) X30 X3q rfl (by simp [Tryz.t4] <;> omega) (by omega) rfl rfl rfl ?_;intro b9 w hS;refine .q 1 rfl (.nil (.seq (.block ?_)));replace hS:=hS.vecNil 3 1;refine .loop (σ:=List Bool×List Int×List Int×Option Addr×Nat) (fun ⟨us,Os,T,va,vc⟩=>[(0,.slice a l.length c),(3,.slice va Os.length vc),(4,.slice (some (ad b9 0)) l.length l.length)]) (fun ⟨us,Os,T,va,vc⟩ w=>Srt.Sel (kx l) l.length us Os T∧Sat B w I (Vec 3 1 (.slice va Os.length vc) Os.length (Os.map I64)::blk b9 (us.map Value.bool ++ []) 4::As)) (fun ⟨us,Os,T,va,vc⟩=>T.length) (List.replicate l.length false,[],Srt.upto l.length,none,0) ⟨rfl,rfl,rfl,trivial⟩ ⟨Srt.Sel.start _ _,by rw [Y2y,Y9]; exact hS⟩ ?_;rintro ⟨us,Os,T,va,vc⟩ w ⟨hsel,hS⟩;have hsl:=hsel.len;have hse:=hsel.lens;refine .seq (.seq (.region (.run 5 rfl ⟨⟨_,Xd⟩,⟨_,X61⟩,trivial⟩ (.nil ?_))));refine .cond rfl (fun hb14=>?_) fun hb14=>?_
 ·have hc14:=hb14; simp only [Y6] at hc14;refine .skip (.block (.seq (.q 1 rfl (.seq (.seq (.q 1 rfl (.block (.loop (σ:=Nat×Int) (fun ⟨i,best⟩=>[(0,.slice a l.length c),(3,.slice va Os.length vc),(4,.slice (some (ad b9 0)) l.length l.length),(5,I64 best),(6,I64 (i:Nat))]) (fun ⟨i,best⟩ w=>i≤l.length∧-1≤best∧Srt.Best (kx l) T i best∧Sat B w I (Vec 3 1 (.slice va Os.length vc) Os.length (Os.map I64)::blk b9 (us.map Value.bool ++ []) 4::As)) (fun ⟨i,best⟩=>l.length - i) (0,-1) ⟨rfl,rfl,rfl,rfl,rfl,trivial⟩ ⟨Yo _,by decide,.inl ⟨rfl,fun t ht=>(hsel.mem ht).1⟩,hS⟩ ?_))))))));rintro ⟨i,best⟩ w ⟨hi,hbn,hbest,hS⟩;have hbl:=hbest.lt;refine .seq (.seq (.region (.run 4 rfl ⟨⟨_,X61⟩,trivial⟩ (.nil ?_))));refine .cond rfl (fun hb18=>?_) fun hb18=>?_
  ·have hc18:=hb18; simp only [Y6] at hc18;refine .skip (.seq (.block (.seq ?_)));obtain ⟨pa,rfl,ha⟩:=hr.2 (by omega);refine .quiet (by kernel_rfl) (by kernel_rfl) hS (.val (fun w hS=>(.mo rfl)) rfl (.val (fun w hS=>(.mo rfl)) rfl (.val (fun w hS=>(.io rfl rfl (by omega) (by omega) X30 Qs4)) rfl (.val (fun w hS=>.ldE .bool us false [] (i:=(i:Int)) (.of rfl) hS (k:=1) rfl rfl Qg4 (by omega) (by omega)) rfl (.val (fun w hS=>(.not (.of rfl))) rfl (.val (fun w hS=>(.mo rfl)) rfl (.gval rfl rfl rfl (fun hg1 w hS=>(.mo rfl)) rfl (.gval rfl rfl rfl (fun hg1 w hS=>(.lss (.gd hg1 rfl) (.of rfl))) rfl (.gval rfl rfl rfl (fun hg1 w hS=>(.move (.gd hg1 rfl))) rfl (.gval2 rfl rfl rfl (fun hg1 hg2 w hS=>(.mo rfl)) rfl (.gval2 rfl rfl rfl (fun hg1 hg2 w hS=>(.mo rfl)) rfl ?_)))))))))));refine .gval2 rfl rfl rfl (fun hg1 hg2 w hS=>(.indexAddrI (.gd2 hg1 hg2 rfl) (.gd2 hg1 hg2 rfl) (by (try simp only [Y6] at hg1 hg2); omega) (by (try simp only [Y6] at hg1 hg2); omega) X61 Xns)) rfl ?_;refine .gval2 rfl rfl rfl (fun hg1 hg2 w hS=>.ldEI F64 l 0 (i:=(i:Int)) (.gd2 hg1 hg2 rfl) hS ha rfl Qg27 (by omega) (by omega)) rfl (.gcall2 rfl rfl rfl Tryz.func160 rfl (fun hg1 hg2=>(X6 (.gd2 hg1 hg2 rfl) X0)) rfl (fun hg1 hg2 w hS=>Xbh _ (X6v small (i:Int).toNat) B w I _ hS) (.gval2 rfl rfl rfl (fun hg1 hg2 w hS=>(.mo rfl)) rfl (.gval2 rfl rfl rfl (fun hg1 hg2 w hS=>(.mo rfl)) rfl ?_)));refine .gval2 rfl rfl rfl (fun hg1 hg2 w hS=>(.indexAddrI (.gd2 hg1 hg2 rfl) (.gd2 hg1 hg2 rfl) (by (try simp only [Y6] at hg1 hg2); omega) (by (try simp only [Y6] at hg1 hg2); omega) X61 Xns)) rfl ?_;refine .gval2 rfl rfl rfl (fun hg1 hg2 w hS=>.ldEI F64 l 0 (i:=best) (.gd2 hg1 hg2 rfl) hS ha rfl Qg27 (by (try simp only [Y6] at hg1 hg2); omega) (by omega)) rfl ?_;refine .gcall2 rfl rfl rfl Tryz.func160 rfl (fun hg1 hg2=>(X6 (.gd2 hg1 hg2 rfl) X0)) rfl (fun hg1 hg2 w hS=>Xbh _ (X6v small best.toNat) B w I _ hS) (.gval2 rfl rfl rfl (fun hg1 hg2 w hS=>(.lss (.gd2 hg1 hg2 rfl) (.gd2 hg1 hg2 rfl))) rfl (.gval rfl rfl rfl (fun hg1 w hS=>(.por (.gd hg1 rfl) (.of rfl) (.gd hg1 rfl))) rfl (.val (fun w hS=>(.pa rfl rfl rfl)) rfl (.nil ?_))));intro w hS;refine .cond rfl (fun hb42=>?_) fun hb42=>?_
   ·have hc42:=hb42; simp only [Y6] at hc42;refine .q 2 rfl (.region (.run 3 rfl ⟨⟨by omega,by omega⟩,trivial⟩ (.nil ?_)));have e1:Xlv (l.getD (i:Int).toNat 0)=kx l (i:Int):=rfl;have e2:Xlv (l.getD best.toNat 0)=kx l best:=rfl;rw [e1,e2] at hb42;have hc1:us.getD i false=false∧(best<0∨kx l (i:Int)<kx l best):=by
     simp only [Ym,Yq,Y1j,decide_eq_true_eq,Y33,Int.ofNat_lt] at hb42
     exact hb42
    exact ⟨(i+1,(i:Int)),⟨rfl,rfl,rfl,rfl,rfl,trivial⟩,⟨by (try dsimp only); omega,by (try dsimp only); omega,hbest.take hsel (by omega) hc1.1 hc1.2,hS⟩,by (try dsimp only); omega⟩
   have hc42:=hb42; simp only [Y6] at hc42;refine .skip (.region (.run 3 rfl ⟨⟨by omega,by omega⟩,trivial⟩ (.nil ?_)));have e1:Xlv (l.getD (i:Int).toNat 0)=kx l (i:Int):=rfl;have e2:Xlv (l.getD best.toNat 0)=kx l best:=rfl;rw [e1,e2] at hb42;have hc1:us.getD i false=true∨(¬ best<0∧¬ kx l (i:Int)<kx l best):=by
    simp only [Ym,Y2m,Y15,decide_eq_false_iff_not,Bool.not_eq_false',Int.ofNat_lt] at hb42
    exact hb42
   exact ⟨(i+1,best),⟨rfl,rfl,rfl,rfl,rfl,trivial⟩,⟨by (try dsimp only); omega,hbn,hbest.keep hsel hc1,hS⟩,by (try dsimp only); omega⟩
  have hc18:=hb18; simp only [Y6] at hc18;refine .exit (.seq ?_);have hin:i=l.length:=by omega
  subst hin;have hst:=hsel.step hbest (by omega);have hbm:=hbest.is (by omega);refine .t 2 rfl (.val (.io rfl rfl (by omega) (by omega) X30 Qs4) rfl (.stE .bool us [] (u:=true) hS (k:=1) rfl (.of rfl) (.of rfl) rfl rfl Qs4 (by omega) (by omega) ?_));intro w hS; dsimp only [List.set] at hS;refine .nil (.t 2 rfl (.buildSlice (cs:=[_]) hS (pc9 rfl X4) Xd Qs3 Qz3 rfl rfl rfl rfl ?_));intro b49 w hS;refine .append (size:=1) (bytes:=8) hS (.of rfl) (.of rfl) (k:=0) rfl Xd X1c rfl rfl rfl rfl rfl rfl rfl ⟨by omega,by unfold maxLen; omega⟩ rfl ?_;intro v50 w hS;obtain ⟨a50,c50,rfl,hcap50,_⟩:=hS.vecSlice (k:=0) (v:=v50) rfl;refine .q 1 rfl (.nil ?_);refine ⟨(us.set best.toNat true,Os ++ [best],T.erase best,a50,c50),⟨rfl,?_,rfl,trivial⟩,⟨hst.2.2,?_⟩,by (try dsimp only); rw [Y4w hbm]; omega⟩
  ·rw [Y0]; rfl
  ·rw [Y0,Yv]; exact hS
 have hc14:=hb14; simp only [Y6] at hc14;refine .exit (.seq (.q 2 rfl (.ret (X9 Tryz.results118 rfl ?_))));exact ⟨_,rfl,Os,va,vc,by rw [show l.length=Os.length by omega],hsel.done (by omega),(by rw [show l.length=Os.length by omega]; exact hS.drop (k:=1) rfl)⟩
end Go.Proofs.YtfibbpgikjggfaaGreatDoor
namespace Go.Proofs.YtfibbpgikjggfaaGreatDoor
open Gk
def Xs9 (s:Sv):Bool:=!((decide (100<(s.urls.length:Int)) && decide ((s.urls.length:Int)≤200) || decide (100<(s.calls.length:Int)) && decide ((s.calls.length:Int)≤200)) || decide (20<(s.rel.length:Int)))
def few (l:List Sv):Bool:=l.all Xs9 && decide ((l.length:Int)≤20)
theorem Xuk (a:Option Addr) (cap:Nat) (l:List Sv) (hcap:l.length≤cap) (hcm:cap≤maxLen) (B w:World) (I:Im) (hl:SvsAt I a l) (As:List X7) (hS:Sat B w I As) :
  Cz 100 [.slice a l.length cap] w fun v w'=>v=.bool (few l)∧Sat B w' I As:=by
 unfold maxLen at hcm;refine calls Tryz.func100 rfl Tryz.ntmps100 rfl (.seq (.q 1 rfl (.seq (.seq (.q 1 rfl (.block (.loop (σ:=Nat) (fun i=>[(0,.slice a l.length cap),(3,I64 (i:Nat))]) (fun i w=>i≤l.length∧(∀ (j:Nat) (s:Sv),j<i→l[j]?=some s→Xs9 s=true)∧Sat B w I As) (fun i=>l.length - i) 0 ⟨rfl,rfl,trivial⟩ ⟨Yo _,fun _ _ h=>absurd h (by omega),hS⟩ ?_)))))));rintro i w ⟨hi,hok,hS⟩;refine .seq (.seq (.region (.run 4 rfl ⟨⟨_,X7d⟩,trivial⟩ (.nil ?_))));refine .cond rfl (fun hb7=>?_) fun hb7=>?_
 ·have hc7:=hb7; simp only [Y6] at hc7;refine .skip (.seq (.block (.seq ?_)));obtain ⟨s,hs⟩:∃ s,l[i]?=some s:=⟨_,Y4 (by omega)⟩
  obtain ⟨p,ra,rc,rfl,hx,hrc,hr⟩:=hl i s hs;unfold X16 at hx;refine .t 2 rfl (.val (.ii rfl rfl (by omega) (by omega) X7d X2b) rfl (.val (.fi 2 rfl X5r rfl rfl Qs9 rfl) rfl (.val (.ldI (.of rfl) hS (At.add hx _) Qg9 rfl) rfl (.run 3 rfl ⟨Qu9,trivial⟩ (.gm rfl rfl rfl rfl (.gm rfl rfl rfl rfl ?_))))));refine .gval rfl rfl (fun hg1=>(.indexAddrI (.gd hg1 rfl) (.gd hg1 rfl) (by (try simp only [Y6] at hg1); omega) (by (try simp only [Y6] at hg1); omega) X7d X2b)) rfl ?_;refine .gval rfl rfl (fun hg1=>(.fieldAddrI 2 (.gd hg1 rfl) X5r rfl rfl Qs9 rfl)) rfl (.gval rfl rfl (fun hg1=>(.ldI (.gd hg1 rfl) hS (At.add hx _) Qg9 rfl)) rfl (.gval rfl rfl (fun hg1=>(.len (.gd hg1 rfl) Qu9)) rfl (.gval rfl rfl (fun hg1=>(.leq (.gd hg1 rfl) (.of rfl))) rfl (.val (.pa rfl rfl rfl) rfl (.q 1 rfl (.gm rfl rfl rfl rfl (.gm rfl rfl rfl rfl ?_)))))));refine .gval rfl rfl (fun hg1=>(.indexAddrI (.gd hg1 rfl) (.gd hg1 rfl) (by (try simp only [Y6] at hg1); omega) (by (try simp only [Y6] at hg1); omega) X7d X2b)) rfl ?_;refine .gval rfl rfl (fun hg1=>(.fieldAddrI 6 (.gd hg1 rfl) X5r rfl rfl Qs9 rfl)) rfl (.gval rfl rfl (fun hg1=>(.ldI (.gd hg1 rfl) hS (At.add hx _) Qg9 rfl)) rfl (.gval rfl rfl (fun hg1=>(.len (.gd hg1 rfl) Qu9)) rfl (.gval rfl rfl (fun hg1=>(.gtr (.gd hg1 rfl) (.of rfl))) rfl (.gval rfl rfl (fun hg1=>(.move (.gd hg1 rfl))) rfl (.gval2 rfl rfl rfl (fun hg1 hg2=>(.mo rfl)) rfl (.gval2 rfl rfl rfl (fun hg1 hg2=>(.mo rfl)) rfl ?_))))));refine .gval2 rfl rfl rfl (fun hg1 hg2=>(.indexAddrI (.gd2 hg1 hg2 rfl) (.gd2 hg1 hg2 rfl) (by (try simp only [Y6] at hg1 hg2); omega) (by (try simp only [Y6] at hg1 hg2); omega) X7d X2b)) rfl ?_;refine .gval2 rfl rfl rfl (fun hg1 hg2=>(.fieldAddrI 6 (.gd2 hg1 hg2 rfl) X5r rfl rfl Qs9 rfl)) rfl (.gval2 rfl rfl rfl (fun hg1 hg2=>(.ldI (.gd2 hg1 hg2 rfl) hS (At.add hx _) Qg9 rfl)) rfl (.gval2 rfl rfl rfl (fun hg1 hg2=>(.len (.gd2 hg1 hg2 rfl) Qu9)) rfl (.gval2 rfl rfl rfl (fun hg1 hg2=>(.leq (.gd2 hg1 hg2 rfl) (.of rfl))) rfl (.gval rfl rfl (fun hg1=>(.pand (.gd hg1 rfl) (.gd hg1 rfl) (.of rfl))) rfl (.val (.po rfl rfl rfl) rfl (.q 1 rfl (.gm rfl rfl rfl rfl (.gm rfl rfl rfl rfl ?_))))))));refine .gval rfl rfl (fun hg1=>(.indexAddrI (.gd hg1 rfl) (.gd hg1 rfl) (by (try simp only [Y6] at hg1); omega) (by (try simp only [Y6] at hg1); omega) X7d X2b)) rfl ?_;refine .gval rfl rfl (fun hg1=>(.fieldAddrI 7 (.gd hg1 rfl) X5r rfl rfl Xk0 rfl)) rfl (.gval rfl rfl (fun hg1=>(.ldI (.gd hg1 rfl) hS (At.add hx _) Xkb rfl)) rfl (.gval rfl rfl (fun hg1=>(.lenSlice (.gd hg1 rfl) X19)) rfl (.gval rfl rfl (fun hg1=>(.gtr (.gd hg1 rfl) (.of rfl))) rfl (.val (.po rfl rfl rfl) rfl (.nil ?_)))));refine .cond rfl (fun hb52=>?_) fun hb52=>?_
  ·refine .seq (.q 1 rfl (.ret (X9 Tryz.results100 rfl ?_)));refine ⟨_,rfl,?_,hS⟩
   have:few l=false:=by
    unfold few;rw [show l.all Xs9=false from Y2e.2 ⟨s,Yi hs,by unfold Xs9; rw [hb52]; decide⟩];rfl
   rw [this]
  have hc52:=hb52; simp only [Y6] at hc52;refine .skip (.region (.run 3 rfl ⟨⟨by omega,by omega⟩,trivial⟩ (.nil ?_)));refine ⟨i+1,⟨rfl,rfl,trivial⟩,⟨by omega,fun j u hj hu=>?_,hS⟩,by omega⟩;rcases Yr j i with h1 | h1
  ·exact hok j u h1 hu
  ·have e:j=i:=by omega
   subst e;rw [hs] at hu; cases hu;unfold Xs9; rw [hb52]; rfl
 have hc7:=hb7; simp only [Y6] at hc7;refine .exit (.seq (.region (.run 4 rfl ⟨⟨_,X7d⟩,trivial⟩ (.nil (.ret (X9 Tryz.results100 rfl ?_))))));refine ⟨_,rfl,?_,hS⟩
 have:l.all Xs9=true:=Y1b.2 fun s hs=>by
  obtain ⟨j,hj⟩:=Yx.1 hs;exact hok j s (by have:=(Y5.1 hj).1; omega) hj
 unfold few;rw [this,Y2u]
theorem Xlz (a b:Option Addr) (ca cb:Nat) (la lb:List (List UInt8)) (hla:la.length≤ca) (hlb:lb.length≤cb) (hlm:la.length≤140737488355328) (B w:World) (I:Im) (hA:RS I a 1 la.length (la.map S)) (hB:RS I b 1 lb.length (lb.map S)) (As:List X7) (hS:Sat B w I As) :
  Cz 36 [.slice a la.length ca,.slice b lb.length cb] w fun v w'=>v=.bool (decide (la=lb))∧Sat B w' I As:=by
 refine calls Tryz.func36 rfl Tryz.ntmps36 rfl (.seq (.q 1 rfl (.seq (.seq (.region (.run 5 rfl ⟨⟨_,X19⟩,⟨_,X19⟩,trivial⟩ (.nil ?_)))))));refine .cond rfl (fun hb10=>?_) fun hb10=>?_
 ·have hc10:=hb10; simp only [Y6] at hc10;refine .seq (.q 1 rfl (.ret (X9 Tryz.results36 rfl ?_)));exact ⟨_,rfl,by rw [decide_eq_false (fun e=>by subst e; omega)],hS⟩
 have hc10:=hb10; simp only [Y6] at hc10;refine .skip (.seq (.seq (.q 1 rfl (.block (.loop (σ:=Nat) (fun i=>[(0,.slice a la.length ca),(1,.slice b lb.length cb),(5,I64 (i:Nat))]) (fun i w=>i≤la.length∧(∀ j,j<i→la[j]?=lb[j]?)∧Sat B w I As) (fun i=>la.length - i) 0 ⟨rfl,rfl,rfl,trivial⟩ ⟨Yo _,fun _ h=>absurd h (by omega),hS⟩ ?_)))));rintro i w ⟨hi,hok,hS⟩;refine .seq (.seq (.region (.run 4 rfl ⟨⟨_,X19⟩,trivial⟩ (.nil ?_))));refine .cond rfl (fun hb14=>?_) fun hb14=>?_
 ·have hc14:=hb14; simp only [Y6] at hc14;refine .skip (.seq (.block (.seq ?_)));obtain ⟨x,hx⟩:∃ x,la[i]?=some x:=⟨_,Y4 (by omega)⟩
  obtain ⟨y,hy⟩:∃ y,lb[i]?=some y:=⟨_,Y4 (by omega)⟩
  obtain ⟨p,rfl,hp⟩:=hA.2 (by omega);obtain ⟨q,rfl,hq⟩:=hB.2 (by omega);have hpx:((la.map S).drop ((i:Int).toNat*1))[0]?=some (S x):=by rw [Y1e,Ym,Y1i,Y2c,Yy,hx]; rfl
  have hqy:((lb.map S).drop ((i:Int).toNat*1))[0]?=some (S y):=by rw [Y1e,Ym,Y1i,Y2c,Yy,hy]; rfl
  refine .quiet (by kernel_rfl) (by kernel_rfl) hS (.val (fun w hS=>(.mo rfl)) rfl (.val (fun w hS=>(.mo rfl)) rfl (.val (fun w hS=>(.ii rfl rfl (by omega) (by omega) X19 Qs9)) rfl (.val (fun w hS=>(.ldI (v:=S x) (.of rfl) hS (hp.add _) Qg9 hpx)) rfl (.val (fun w hS=>(.mo rfl)) rfl (.val (fun w hS=>(.mo rfl)) rfl (.val (fun w hS=>(.ii rfl rfl (by omega) (by omega) X19 Qs9)) rfl (.val (fun w hS=>(.ldI (v:=S y) (.of rfl) hS (hq.add _) Qg9 hqy)) rfl (.val (fun w hS=>(.nes (.of rfl) (.of rfl))) rfl (.nil ?_))))))))));intro w hS;refine .cond rfl (fun hb25=>?_) fun hb25=>?_
  ·refine .seq (.q 1 rfl (.ret (X9 Tryz.results36 rfl ?_)));exact ⟨_,rfl,by rw [decide_eq_false (fun e=>by subst e; rw [hx] at hy; cases hy; simp at hb25)],hS⟩
  have hc25:=hb25; simp only [Y6] at hc25;refine .skip (.region (.run 3 rfl ⟨⟨by omega,by omega⟩,trivial⟩ (.nil ?_)));refine ⟨i+1,⟨rfl,rfl,rfl,trivial⟩,⟨by omega,fun j hj=>?_,hS⟩,by omega⟩;rcases Yr j i with h1 | h1
  ·exact hok j h1
  ·have e:j=i:=by omega
   subst e;rw [hx,hy,show x=y by simpa using hb25]
 have hc14:=hb14; simp only [Y6] at hc14;refine .exit (.seq (.q 1 rfl (.ret (X9 Tryz.results36 rfl ?_))));refine ⟨_,rfl,?_,hS⟩;rw [decide_eq_true (Y26 fun j=>?_)];rcases Yr j la.length with h | h
 ·exact hok j (by omega)
 ·rw [Y1u h,Y1u (by omega)]
end Go.Proofs.YtfibbpgikjggfaaGreatDoor
namespace Go.Proofs.YtfibbpgikjggfaaGreatDoor
open Gk Pat
theorem Xla (kind:Int) (own c:UInt8) (w:World) :
  Cz 204 [I64 kind,U8 own.toNat,U8 c.toNat] w fun v w'=>v=.bool (takes kind own c)∧w=w':=by
 refine calls Tryz.func204 rfl Tryz.ntmps204 rfl (.seq (.q 1 rfl (.seq (.t 3 rfl (.gm rfl rfl rfl rfl (.gval rfl rfl (fun hg1=>(.eql (.gd hg1 rfl) (.of rfl))) rfl (.gval rfl rfl (fun hg1=>(.move (.gd hg1 rfl))) rfl (.gval2 rfl rfl rfl (fun hg1 hg2=>(.mo rfl)) rfl (.gval2 rfl rfl rfl (fun hg1 hg2=>(.neq (.gd2 hg1 hg2 rfl) (.of rfl))) rfl (.gval rfl rfl (fun hg1=>(.pand (.gd hg1 rfl) (.gd hg1 rfl) (.of rfl))) rfl (.val (.po rfl rfl rfl) rfl (.q 1 rfl (.gm rfl rfl rfl rfl (.gval rfl rfl (fun hg1=>(.eql (.gd hg1 rfl) (.of rfl))) rfl (.gval rfl rfl (fun hg1=>(.move (.gd hg1 rfl))) rfl (.gval2 rfl rfl rfl (fun hg1 hg2=>(.mo rfl)) rfl (.gval2 rfl rfl rfl (fun hg1 hg2=>(.mo rfl)) rfl (.gval2 rfl rfl rfl (fun hg1 hg2=>(.eql (.gd2 hg1 hg2 rfl) (.gd2 hg1 hg2 rfl))) rfl (.gval rfl rfl (fun hg1=>(.pand (.gd hg1 rfl) (.gd hg1 rfl) (.of rfl))) rfl (.val (.po rfl rfl rfl) rfl (.q 1 rfl (.nil (.ret (X9 Tryz.results204 rfl ?_))))))))))))))))))))))));exact ⟨_,rfl,rfl,rfl⟩
set_option maxHeartbeats 400000 in
theorem Xox (s:List UInt8) (fr:List Bool) (p:Addr) (c:Nat) (kind:Int) (own:UInt8) (many:Bool) (B w:World) (I:Im) (As:List X7) (hS:Sat B w I As) (hp:At I p (fr.map Value.bool)) (hl:fr.length=s.length+1) (hb:s.length≤1000000) :
  Cz 161 [S s,.slice (some p) fr.length c,I64 kind,U8 own.toNat,.bool many] w fun v w'=>∃ J q,Le I J∧v=.slice (some q) (s.length+1) (s.length+1)∧At J q ((ends s fr kind own many).map Value.bool)∧Sat B w' J As:=by
 refine calls Xk6 rfl Tryz.ntmps161 rfl (.seq (.q 1 rfl (.seq (.region (.run 3 rfl ⟨Qu9,⟨by omega,by omega⟩,trivial⟩ ?_)))));refine .make (l:=s.length+1) hS (.of rfl) (.of rfl) X30 X3q rfl (by simp [Tryz.t4] <;> omega) (by omega) rfl rfl rfl ?_;intro b17 w hS;refine .q 1 rfl (.nil (.seq (.seq (.q 1 rfl (.block ?_)))));refine .loop (σ:=Nat) (fun k=>[(0,S s),(1,.slice (some p) fr.length c),(2,I64 kind),(3,U8 own.toNat),(4,.bool many),(11,.slice (some (ad b17 0)) (s.length+1) (s.length+1)),(12,I64 (k:Nat))]) (fun k w=>k≤s.length+1∧Sat B w I (blk b17 ((iter (X54 s fr kind own many) (List.replicate (s.length+1) false) k).map Value.bool ++ []) 4::As)) (fun k=>s.length+1 - k) 0 ⟨rfl,rfl,rfl,rfl,rfl,rfl,rfl,trivial⟩ ⟨Yo _,by rw [iter,Y2y,Y9]; exact hS⟩ ?_;rintro k w ⟨hk,hS⟩;have ho:=X2i s fr kind own many (List.replicate (s.length+1) false) k;rw [Y1z] at ho;refine .seq (.seq (.region (.run 4 rfl ⟨Qu9,trivial⟩ (.nil ?_))));refine .cond rfl (fun hb21=>?_) fun hb21=>?_
 ·have hc21:=hb21; simp only [Y6] at hc21;refine .skip (.seq (.block ?_));refine .cutS (σ:=Unit) (fun u=>[(0,S s),(1,.slice (some p) fr.length c),(2,I64 kind),(3,U8 own.toNat),(4,.bool many),(11,.slice (some (ad b17 0)) (s.length+1) (s.length+1)),(12,I64 (k:Nat))]) (fun u w=>Sat B w I (blk b17 ((Xnr fr many (iter (X54 s fr kind own many) (List.replicate (s.length+1) false) k) k).map Value.bool ++ []) 4::As)) ?_ ?_
  ·refine .seq (.t 2 rfl (.gm rfl rfl rfl rfl (.gm rfl rfl rfl rfl ?_)));refine .gval rfl rfl (fun hg1=>(.indexAddrI (.gd hg1 rfl) (.gd hg1 rfl) (by (try simp only [Y6] at hg1); omega) (by (try simp only [Y6] at hg1); omega) X30 Qs4)) rfl ?_;refine .gval rfl rfl (fun hg1=>.ldEI .bool fr false (.gd hg1 rfl) hS hp rfl Qg4 (by omega) (by omega)) rfl (.val (.pa rfl rfl rfl) rfl (.nil ?_));refine .cond rfl (fun hb30=>?_) fun hb30=>?_
   ·have hc30:=hb30; simp only [Y6] at hc30;refine .t 2 rfl (.val (.io rfl rfl (by omega) (by omega) X30 Qs4) rfl (.stE .bool (iter (X54 s fr kind own many) (List.replicate (s.length+1) false) k) [] (u:=true) hS (k:=0) rfl (.of rfl) (.of rfl) rfl rfl Qs4 (by omega) (by omega) ?_));intro w hS; dsimp only [List.set] at hS;refine .nil (⟨(),⟨rfl,rfl,rfl,rfl,rfl,rfl,rfl,trivial⟩,?_⟩);rw [Xnr,hb30]; exact hS
   refine .skip (⟨(),⟨rfl,rfl,rfl,rfl,rfl,rfl,rfl,trivial⟩,?_⟩);rw [Xnr,hb30]; exact hS
  rintro u w hS;have ho1:=X6e fr many (iter (X54 s fr kind own many) (List.replicate (s.length+1) false) k) k;rw [ho] at ho1;obtain ⟨o1,ho1e⟩:∃ o1,o1=Xnr fr many (iter (X54 s fr kind own many) (List.replicate (s.length+1) false) k) k:=⟨_,rfl⟩
  rw [← ho1e] at hS ho1;refine .seq (.q 2 rfl ?_);refine .cond rfl (fun hb35=>?_) fun hb35=>?_
  ·have hc35:=hb35; simp only [Y6] at hc35;refine .seq (.region (.run 6 rfl ⟨⟨by omega,by omega⟩,⟨⟨by omega,by omega⟩,Qu9⟩,trivial⟩ (.call Tryz.func204 rfl (ec9 rfl (ec9 rfl (ec9 rfl X0))) rfl (Xla _ _ _ _) ?_)));rintro _ _ ⟨rfl,rfl⟩;refine .q 1 rfl (.nil (.seq (.t 2 rfl (.gm rfl rfl rfl rfl (.gm rfl rfl rfl rfl (.gval rfl rfl (fun hg1=>(.sub (.gd hg1 rfl) (.of rfl) ⟨by omega,by omega⟩)) rfl ?_))))));refine .gval rfl rfl (fun hg1=>(.indexAddrI (.gd hg1 rfl) (.gd hg1 rfl) (by (try simp only [Y6] at hg1); omega) (by (try simp only [Y6] at hg1); omega) X30 Qs4)) rfl ?_;refine .gval rfl rfl (fun hg1=>.ldEI .bool fr false (.gd hg1 rfl) hS hp rfl Qg4 (by omega) (by omega)) rfl (.gval rfl rfl (fun hg1=>(.move (.gd hg1 rfl))) rfl (.gval2 rfl rfl rfl (fun hg1 hg2=>(.mo rfl)) rfl (.gval2 rfl rfl rfl (fun hg1 hg2=>(.move (.gd2 hg1 hg2 rfl))) rfl (.gval3 rfl rfl rfl (fun hg1 hg2 hg3=>(.mo rfl)) rfl (.gval3 rfl rfl rfl (fun hg1 hg2 hg3=>(.mo rfl)) rfl (.gval3 rfl rfl rfl (fun hg1 hg2 hg3=>(.sub (.gd3 hg1 hg2 hg3 rfl) (.of rfl) ⟨by omega,by omega⟩)) rfl ?_))))));refine .gval3 rfl rfl rfl (fun hg1 hg2 hg3=>(.indexAddr (.gd3 hg1 hg2 hg3 rfl) (.gd3 hg1 hg2 hg3 rfl) (by (try simp only [Y6] at hg1 hg2 hg3); omega) (by (try simp only [Y6] at hg1 hg2 hg3); omega) X30 Qs4)) rfl ?_;refine .gval3 rfl rfl rfl (fun hg1 hg2 hg3=>.ldE .bool o1 false [] (.gd3 hg1 hg2 hg3 rfl) hS (k:=0) rfl rfl Qg4 (by omega) (by omega)) rfl (.gval2 rfl rfl rfl (fun hg1 hg2=>(.pand (.gd2 hg1 hg2 rfl) (.gd2 hg1 hg2 rfl) (.of rfl))) rfl (.gval rfl rfl (fun hg1=>(.por (.gd hg1 rfl) (.of rfl) (.gd hg1 rfl))) rfl (.val (.pa rfl rfl rfl) rfl (.nil ?_))));refine .cond rfl (fun hb60=>?_) fun hb60=>?_
   ·have hc60:=hb60; simp only [Y6] at hc60;refine .t 2 rfl (.val (.io rfl rfl (by omega) (by omega) X30 Qs4) rfl (.stE .bool o1 [] (u:=true) hS (k:=0) rfl (.of rfl) (.of rfl) rfl rfl Qs4 (by omega) (by omega) ?_));intro w hS; dsimp only [List.set] at hS;refine .nil (.region (.run 3 rfl ⟨⟨by omega,by omega⟩,trivial⟩ (.nil ?_)));refine ⟨k+1,⟨rfl,rfl,rfl,rfl,rfl,rfl,rfl,trivial⟩,⟨by omega,?_⟩,by omega⟩;have e:iter (X54 s fr kind own many) (List.replicate (s.length+1) false) (k+1)=o1.set (k:Int).toNat true:=by
     rw [iter,X54,← ho1e];simp only [Xnp]
     rw [hb60,hb35]; rfl
    rw [e]; exact hS
   have hc60:=hb60; simp only [Y6] at hc60;refine .skip (.region (.run 3 rfl ⟨⟨by omega,by omega⟩,trivial⟩ (.nil ?_)));refine ⟨k+1,⟨rfl,rfl,rfl,rfl,rfl,rfl,rfl,trivial⟩,⟨by omega,?_⟩,by omega⟩;have e:iter (X54 s fr kind own many) (List.replicate (s.length+1) false) (k+1)=o1:=by
    rw [iter,X54,← ho1e];simp only [Xnp]
    rw [hb60,hb35]; rfl
   rw [e]; exact hS
  have hc35:=hb35; simp only [Y6] at hc35;refine .skip (.region (.run 3 rfl ⟨⟨by omega,by omega⟩,trivial⟩ (.nil ?_)));refine ⟨k+1,⟨rfl,rfl,rfl,rfl,rfl,rfl,rfl,trivial⟩,⟨by omega,?_⟩,by omega⟩;have e:iter (X54 s fr kind own many) (List.replicate (s.length+1) false) (k+1)=o1:=by
   rw [iter,X54,← ho1e];simp only [Xnp]
   rw [hb35]; rfl
  rw [e]; exact hS
 have hc21:=hb21; simp only [Y6] at hc21;refine .exit (.seq (.q 2 rfl (.ret (X9 Tryz.results161 rfl ?_))));obtain rfl:k=s.length+1:=by omega
 obtain ⟨J,hJ,hb,hS⟩:=hS.freeze (k:=0) rfl;refine ⟨_,rfl,J,_,hJ,rfl,⟨rfl,_,_,_,hb,?_⟩,hS⟩;intro j v hj;rw [Y9,← ends] ;simpa using hj
set_option maxHeartbeats 400000 in
theorem Xf9 (l:List UInt8) (B w:World) (I:Im) (As:List X7) (hS:Sat B w I As) (hl:l.length≤9223372036854775807) :
  Cz 125 [S l] w fun v w'=>v=.tuple #[I64 (chk l).1,I64 (chk l).2]∧Sat B w' I As:=by
 refine calls Tryz.func125 rfl Tryz.ntmps125 rfl (.seq (.q 2 rfl (.seq (.seq (.region (.run 3 rfl ⟨Qu9,trivial⟩ (.nil ?_)))))));refine .cond rfl (fun hb8=>?_) fun hb8=>?_
 ·have hc8:=hb8; simp only [Y6] at hc8;refine .seq (.q 2 rfl (.ret (X1e Xfp rfl rfl ?_)));exact ⟨_,rfl,by rw [chk,if_pos (by omega)],hS⟩
 have hc8:=hb8; simp only [Y6] at hc8;refine .skip (.seq (.q 1 rfl (.seq (.seq (.q 1 rfl (.block ?_))))));refine .loop (σ:=Nat×Option Addr×Nat×List Int) (fun ⟨k,a,c,o⟩=>[(0,S l),(4,.slice a o.length c),(5,I64 (k:Nat))]) (fun ⟨k,a,c,o⟩ w=>k≤l.length∧o.length≤4∧chkGo (l.drop k) k o=chk l∧Sat B w I (Vec 3 1 (.slice a o.length c) o.length (o.map I64)::As)) (fun ⟨k,a,c,o⟩=>l.length - k) (0,none,0,[]) ⟨rfl,rfl,rfl,trivial⟩ ⟨Yo _,Yo _,by rw [chk,if_neg (by omega)]; rfl,hS.vecNil _ _⟩ ?_;rintro ⟨k,a,c,o⟩ w ⟨hk,ho4,hq,hS⟩;change WC _ _ _ _ [(0,S l),(4,.slice a o.length c),(5,I64 (k:Nat))] w;have hcap:=hS.vecCap (k:=0) rfl;refine .seq (.seq (.region (.run 4 rfl ⟨Qu9,trivial⟩ (.nil ?_))));refine .cond rfl (fun hb12=>?_) fun hb12=>?_
 ·have hc12:=hb12; simp only [Y6] at hc12;refine .skip (.seq (.block (.seq (.region (.run 3 rfl ⟨⟨⟨by omega,by omega⟩,Qu9⟩,trivial⟩ (.nil (.block (.seq (.q 2 rfl ?_)))))))));refine .cond rfl (fun hb18=>?_) fun hb18=>?_
  ·have hc18:=hb18; simp only [Y6] at hc18;refine .seq (.seq (.region (.run 3 rfl ⟨⟨_,Xd⟩,trivial⟩ (.nil ?_))));refine .cond rfl (fun hb22=>?_) fun hb22=>?_
   ·have hc22:=hb22; simp only [Y6] at hc22;refine .seq (.q 3 rfl (.ret (X1e Xfp rfl rfl ?_)));have e9:chk l=(24,(k:Int)):=by rw [← hq,X8 l (by omega),X1b,if_pos (by omega),if_pos (by omega)]
    exact ⟨_,rfl,by rw [e9],hS.drop (k:=0) rfl⟩
   have hc22:=hb22; simp only [Y6] at hc22;refine .skip (.region (.buildSlice (cs:=[]) hS X4 Xd Qs3 Qz3 rfl rfl rfl rfl ?_));intro b24 w hS;have hS:=hS.vecOf (k:=0) (E:=3) (size:=1) (n:=0) rfl rfl (by unfold maxLen; omega); dsimp only [List.set] at hS;refine .q 1 rfl (.appendV (size:=1) (bytes:=8) hS (.of rfl) (.of rfl) (k:=0) (j:=1) rfl rfl Xd X1c rfl rfl rfl rfl (Xsm _) ⟨by omega,by unfold maxLen; omega⟩ rfl ?_);intro v26 w hS; dsimp only [List.set] at hS;refine .q 1 rfl (.buildSlice (cs:=[_]) hS (pc9 rfl X4) Xd Qs3 Qz3 rfl rfl rfl rfl ?_);intro b28 w hS
   skip
   refine .append (size:=1) (bytes:=8) hS (.of rfl) (.of rfl) (k:=0) rfl Xd X1c rfl rfl rfl rfl rfl rfl rfl ⟨by omega,by unfold maxLen; omega⟩ rfl ?_;intro v29 w hS; try dsimp only [List.set] at hS
   obtain ⟨a29,c29,rfl,hcap29,_⟩:=hS.vecSlice (k:=0) (v:=v29) rfl;have hS:=hS.drop (k:=1) rfl; dsimp only [List.eraseIdx] at hS;have e8:0+o.length+1=(o ++ [(k:Int)]).length:=by simp
   rw [e8] at hS ⊢;refine .q 1 rfl (.nil (.region (.run 3 rfl ⟨⟨by omega,by omega⟩,trivial⟩ (.nil ?_))));refine ⟨(k+1,a29,c29,o ++ [(k:Int)]),⟨rfl,rfl,rfl,trivial⟩,⟨by omega,by simp; omega,?_,by simpa using hS⟩,by dsimp only; omega⟩;have e9:=hq;rw [X8 l (by omega),X1b,if_pos (by omega),if_neg (by omega)] at e9;exact e9
  have hc18:=hb18; simp only [Y6] at hc18;refine .seq (.q 2 rfl ?_);refine .cond rfl (fun hb30=>?_) fun hb30=>?_
  ·have hc30:=hb30; simp only [Y6] at hc30;refine .seq (.seq (.region (.run 3 rfl ⟨⟨_,Xd⟩,trivial⟩ (.nil ?_))));refine .cond rfl (fun hb34=>?_) fun hb34=>?_
   ·have hc34:=hb34; simp only [Y6] at hc34;refine .seq (.q 3 rfl (.ret (X1e Xfp rfl rfl ?_)));have e9:chk l=(10,(k:Int)):=by rw [← hq,X8 l (by omega),X1b,if_neg (by omega),if_pos (by omega),if_pos (by omega)]
    exact ⟨_,rfl,by rw [e9],hS.drop (k:=0) rfl⟩
   have hc34:=hb34; simp only [Y6] at hc34;refine .skip (.region (.run 4 rfl ⟨⟨_,Xd⟩,⟨by omega,by omega⟩,trivial⟩ (.val (.slcTo (.of rfl) (.of rfl) (by omega) (by omega) Xd Qs3) rfl ?_)));obtain ⟨a2,c2,e2,hS⟩:=hS.vecTakeI (k:=0) (f:=I64) (m:=((o.length:Int) - 1).toNat) rfl (by omega);rw [e2]; dsimp only [List.set] at hS;refine .val (.ao rfl) rfl (.nil (.region (.run 3 rfl ⟨⟨by omega,by omega⟩,trivial⟩ (.nil ?_))));refine ⟨(k+1,a2,c2,o.take ((o.length:Int) - 1).toNat),⟨rfl,rfl,rfl,trivial⟩,⟨by omega,by simp; omega,?_,hS⟩,by dsimp only; omega⟩;have e9:=hq;rw [X8 l (by omega),X1b,if_neg (by omega),if_pos (by omega),if_neg (by omega)] at e9;rw [show ((o.length:Int) - 1).toNat=o.length - 1 by omega];exact e9
  have hc30:=hb30; simp only [Y6] at hc30;refine .seq (.q 2 rfl ?_);refine .cond rfl (fun hb41=>?_) fun hb41=>?_
  ·have hc41:=hb41; simp only [Y6] at hc41;refine .seq (.region (.run 3 rfl ⟨⟨_,Xd⟩,trivial⟩ (.nil ?_)));refine .cond rfl (fun hb45=>?_) fun hb45=>?_
   ·have hc45:=hb45; simp only [Y6] at hc45;refine .seq (.q 3 rfl (.ret (X1e Xfp rfl rfl ?_)));have e9:chk l=(10,(k:Int)):=by rw [← hq,X8 l (by omega),X1b,if_neg (by omega),if_neg (by omega),if_pos (by omega),if_pos (by omega)]
    exact ⟨_,rfl,by rw [e9],hS.drop (k:=0) rfl⟩
   have hc45:=hb45; simp only [Y6] at hc45;refine .skip (.region (.run 3 rfl ⟨⟨by omega,by omega⟩,trivial⟩ (.nil ?_)));refine ⟨(k+1,a,c,o),⟨rfl,rfl,rfl,trivial⟩,⟨by omega,by omega,?_,hS⟩,by dsimp only; omega⟩;have e9:=hq;rw [X8 l (by omega),X1b,if_neg (by omega),if_neg (by omega),if_pos (by omega),if_neg (by omega)] at e9;exact e9
  have hc41:=hb41; simp only [Y6] at hc41;refine .seq (.q 2 rfl ?_);refine .cond rfl (fun hb47=>?_) fun hb47=>?_
  ·have hc47:=hb47; simp only [Y6] at hc47;refine .seq (.seq (.region (.run 5 rfl ⟨⟨by omega,by omega⟩,Qu9,trivial⟩ (.nil ?_))));refine .cond rfl (fun hb53=>?_) fun hb53=>?_
   ·have hc53:=hb53; simp only [Y6] at hc53;refine .seq (.q 3 rfl (.ret (X1e Xfp rfl rfl ?_)));have e9:chk l=(10,(k:Int)):=by rw [← hq,X8 l (by omega),X1b,if_neg (by omega),if_neg (by omega),if_neg (by omega),if_pos (by omega),Y17 (by omega)]
    exact ⟨_,rfl,by rw [e9],hS.drop (k:=0) rfl⟩
   have hc53:=hb53; simp only [Y6] at hc53;refine .skip (.region (.run 3 rfl ⟨⟨by omega,by omega⟩,trivial⟩ (.nil (.region (.run 3 rfl ⟨⟨by omega,by omega⟩,trivial⟩ (.nil ?_))))));refine ⟨(k+2,a,c,o),⟨rfl,rfl,rfl,trivial⟩,⟨by omega,by omega,?_,hS⟩,by dsimp only; omega⟩;have e9:=hq;rw [X8 l (by omega),X1b,if_neg (by omega),if_neg (by omega),if_neg (by omega),if_pos (by omega),X8 l (k:=k+1) (by omega)] at e9;exact e9
  have hc47:=hb47; simp only [Y6] at hc47;refine .skip (.region (.run 3 rfl ⟨⟨by omega,by omega⟩,trivial⟩ (.nil ?_)));refine ⟨(k+1,a,c,o),⟨rfl,rfl,rfl,trivial⟩,⟨by omega,by omega,?_,hS⟩,by dsimp only; omega⟩;have e9:=hq;rw [X8 l (by omega),X1b,if_neg (by omega),if_neg (by omega),if_neg (by omega),if_neg (by omega)] at e9;exact e9
 have hc12:=hb12; simp only [Y6] at hc12;refine .exit (.seq (.seq (.region (.run 3 rfl ⟨⟨_,Xd⟩,trivial⟩ (.nil ?_)))));refine .cond rfl (fun hb59=>?_) fun hb59=>?_
 ·have hc59:=hb59; simp only [Y6] at hc59;refine .seq ?_;obtain ⟨b8,c8,r,hv8,_,_,_,_,hS⟩:=hS.vecOpen (k:=0) rfl (by omega);injection hv8 with hv8 _ hv9; subst hv8; subst hv9
  dsimp only [List.set] at hS
  refine .quiet (by kernel_rfl) (by kernel_rfl) hS (.val (fun w hS=>(.mo rfl)) rfl (.val (fun w hS=>(.mo rfl)) rfl (.val (fun w hS=>(.lenSlice (.of rfl) Xd)) rfl (.val (fun w hS=>(.sub (.of rfl) (.of rfl) ⟨by omega,by omega⟩)) rfl (.val (fun w hS=>(.io rfl rfl (by omega) (by omega) Xd Qs3)) rfl (.val (fun w hS=>.ldE I64 o 0 r (.of rfl) hS (k:=0) rfl rfl Qg3 (by omega) (by omega)) rfl (.val (fun w hS=>(.ao rfl)) rfl (.val (fun w hS=>(.ao rfl)) rfl (.nil ?_)))))))));intro w hS;refine .ret (X1e Xfp rfl rfl ?_);have e9:chk l=(23,o.getD ((o.length:Int) - 1).toNat 0):=by rw [← hq,show ((o.length:Int) - 1).toNat=o.length - 1 by omega,Y17 (by omega),X9e,if_pos (by omega)]
  exact ⟨_,rfl,by rw [e9],hS.drop (k:=0) rfl⟩
 have hc59:=hb59; simp only [Y6] at hc59;refine .skip (.seq (.q 2 rfl (.ret (X1e Xfp rfl rfl ?_))));have e9:chk l=(0,0):=by rw [← hq,Y17 (by omega),X9e,if_neg (by omega)]
 exact ⟨_,rfl,by rw [e9],hS.drop (k:=0) rfl⟩
def bad (l:List Sv) (i:Nat) (s:Sv):Nat :=
 if i=16 then 5 else if (decide (s.id<0) || decide (8<(s.rel.length:Int)))=true then 1 else if (l.take i).any (fun t=>t.id == s.id)=true then 7
 else if (((Pat.chk s.urls).1 != 0) || ((Pat.chk s.calls).1 != 0))=true then 8 else 0
def X48 (l:List Sv):Nat→List Sv→Nat×Nat
 | _,[]=>(0,0)
 | i,s::r=>if bad l i s≠0 then (bad l i s,i) else X48 l (i+1) r
def X3a (l:List Sv):Nat×Nat:=X48 l 0 l
theorem X56 (l:List Sv):∀ (n i:Nat) (r:List Sv),(∀ j s,j<n→r[j]?=some s→bad l (i+j) s=0)→X48 l i r=X48 l (i+min n r.length) (r.drop n)
 | 0,i,r,_=>by simp
 | n+1,i,[],_=>by simp [X48]
 | n+1,i,s::r,h=>by
  have h0:=h 0 s (by omega) rfl;rw [Y2c] at h0;rw [X48,if_neg (by rw [h0]; decide),X56 l n (i+1) r (fun j t hj ht=>by have:=h (j+1) t (by omega) (by simpa using ht); rw [show i+1+j=i+(j+1) by omega]; exact this),Y7,Y8]
  congr 1
  omega
theorem X58 {l:List Sv} {i:Nat} {s:Sv} (h:∀ j t,j<i→l[j]?=some t→bad l j t=0) (hs:l[i]?=some s) (hb:bad l i s≠0):X3a l=(bad l i s,i):=by
 have hi:=(Y5.1 hs).1;unfold X3a;rw [X56 l i 0 l (fun j t hj ht=>by rw [Yd]; exact h j t hj ht),Yd,Y3h (by omega),Y1f hi,(Y5.1 hs).2,X48,if_pos hb]
theorem Xbp {l:List Sv} (h:∀ j t,l[j]?=some t→bad l j t=0):X3a l=(0,0):=by
 unfold X3a;rw [X56 l l.length 0 l (fun j t _ ht=>by rw [Yd]; exact h j t ht),Y3a];rfl
theorem Xko (a:Option Addr) (cap:Nat) (l:List Sv) (hcap:l.length≤100000) (hfit:∀ s∈l,s.urls.length≤9223372036854775807∧s.calls.length≤9223372036854775807) (B w:World) (I:Im) (hl:SvsAt I a l) (As:List X7) (hS:Sat B w I As) :
  Cz 66 [.slice a l.length cap] w fun v w'=>v=.tuple #[I64 ((X3a l).1:Nat),I64 ((X3a l).2:Nat)]∧Sat B w' I As:=by
 refine calls Tryz.func66 rfl Tryz.ntmps66 rfl (.seq (.q 2 rfl (.seq (.seq (.q 1 rfl (.block (.loop (σ:=Nat) (fun i=>[(0,.slice a l.length cap),(4,I64 (i:Nat))]) (fun i w=>i≤l.length∧(∀ (j:Nat) (t:Sv),j<i→l[j]?=some t→bad l j t=0)∧Sat B w I As) (fun i=>l.length - i) 0 ⟨rfl,rfl,trivial⟩ ⟨Yo _,fun _ _ h=>absurd h (by omega),hS⟩ ?_)))))));rintro i w ⟨hi,hok,hS⟩;refine .seq (.seq (.region (.run 4 rfl ⟨⟨_,X7d⟩,trivial⟩ (.nil ?_))));refine .cond rfl (fun hb13=>?_) fun hb13=>?_
 ·have hc13:=hb13; simp only [Y6] at hc13;refine .skip (.seq (.block (.seq (.seq ?_))));obtain ⟨s,hs⟩:∃ s,l[i]?=some s:=⟨_,Y4 (by omega)⟩
  obtain ⟨p,ra,rc,rfl,hx,hrc,hr⟩:=hl i s hs;obtain ⟨hsu,hsc⟩:=hfit s (Yi hs);unfold X16 at hx;refine .q 2 rfl (.cond rfl (fun hb17=>?_) fun hb17=>?_)
  ·have hc17:=hb17; simp only [Y6] at hc17;refine .seq (.q 3 rfl (.ret (X1e Qr66 rfl rfl ?_)));have hbd:bad l i s=5:=by
    unfold bad;rw [if_pos (by omega)]
   refine ⟨_,rfl,?_,hS⟩;rw [X58 hok hs (by rw [hbd]; decide),hbd];rfl
  have hc17:=hb17; simp only [Y6] at hc17;refine .skip (.seq (.seq (.t 2 rfl (.val (.ii rfl rfl (by omega) (by omega) X7d X2b) rfl (.val (.fi 0 rfl X5r rfl rfl Qs3 rfl) rfl (.val (.ldI (.of rfl) hS (At.add hx _) Qg3 rfl) rfl (.q 2 rfl (.gm rfl rfl rfl rfl (.gm rfl rfl rfl rfl ?_)))))))));refine .gval rfl rfl (fun hg1=>(.indexAddrI (.gd hg1 rfl) (.gd hg1 rfl) (by (try simp only [Y6] at hg1); omega) (by (try simp only [Y6] at hg1); omega) X7d X2b)) rfl ?_;refine .gval rfl rfl (fun hg1=>(.fieldAddrI 7 (.gd hg1 rfl) X5r rfl rfl Xk0 rfl)) rfl (.gval rfl rfl (fun hg1=>(.ldI (.gd hg1 rfl) hS (At.add hx _) Xkb rfl)) rfl (.gval rfl rfl (fun hg1=>(.lenSlice (.gd hg1 rfl) X19)) rfl (.gval rfl rfl (fun hg1=>(.gtr (.gd hg1 rfl) (.of rfl))) rfl (.val (.po rfl rfl rfl) rfl (.nil ?_)))));refine .cond rfl (fun hb33=>?_) fun hb33=>?_
  ·have hc33:=hb33; simp only [Y6] at hc33;refine .seq (.q 3 rfl (.ret (X1e Qr66 rfl rfl ?_)));have hbd:bad l i s=1:=by
    unfold bad;rw [if_neg (by omega),if_pos hb33]
   refine ⟨_,rfl,?_,hS⟩;rw [X58 hok hs (by rw [hbd]; decide),hbd];rfl
  have hc33:=hb33; simp only [Y6] at hc33;refine .skip (.seq (.seq (.q 1 rfl (.block (.loop (σ:=Nat) (fun k=>[(0,.slice (some p) l.length cap),(4,I64 (i:Nat)),(5,I64 (k:Nat))]) (fun k w=>k≤i∧(∀ (q:Nat) (t:Sv),q<k→l[q]?=some t→t.id≠s.id)∧Sat B w I As) (fun k=>i - k) 0 ⟨rfl,rfl,rfl,trivial⟩ ⟨Yo _,fun _ _ h=>absurd h (by omega),hS⟩ ?_)))));rintro k w ⟨hk,hids,hS⟩;refine .seq (.seq (.q 3 rfl ?_));refine .cond rfl (fun hb37=>?_) fun hb37=>?_
  ·have hc37:=hb37; simp only [Y6] at hc37;refine .skip (.seq (.block (.seq ?_)));obtain ⟨z,hzk⟩:∃ z,l[k]?=some z:=⟨_,Y4 (by omega)⟩
   obtain ⟨p2,ra2,rc2,e2,hz,_,_⟩:=hl k z hzk;cases e2
   unfold X16 at hz;refine .quiet (by kernel_rfl) (by kernel_rfl) hS (.val (fun w hS=>(.mo rfl)) rfl (.val (fun w hS=>(.mo rfl)) rfl (.val (fun w hS=>(.ii rfl rfl (by omega) (by omega) X7d X2b)) rfl (.val (fun w hS=>(.fi 0 rfl X5r rfl rfl Qs3 rfl)) rfl (.val (fun w hS=>(.ldI (.of rfl) hS (At.add hz _) Qg3 rfl)) rfl (.val (fun w hS=>(.mo rfl)) rfl (.val (fun w hS=>(.mo rfl)) rfl (.val (fun w hS=>(.ii rfl rfl (by omega) (by omega) X7d X2b)) rfl (.val (fun w hS=>(.fi 0 rfl X5r rfl rfl Qs3 rfl)) rfl (.val (fun w hS=>(.ldI (.of rfl) hS (At.add hx _) Qg3 rfl)) rfl (.val (fun w hS=>(.eql (.of rfl) (.of rfl))) rfl (.nil ?_))))))))))));intro w hS;refine .cond rfl (fun hb50=>?_) fun hb50=>?_
   ·have hc50:=hb50; simp only [Y6] at hc50;refine .seq (.q 3 rfl (.ret (X1e Qr66 rfl rfl ?_)));have hbd:bad l i s=7:=by
     unfold bad;rw [if_neg (by omega),if_neg (by rw [hb33]; decide),if_pos];rw [Y1w];exact ⟨z,Yi (i:=k) (by rw [Y1y,if_pos (by omega)]; exact hzk),hb50⟩
    refine ⟨_,rfl,?_,hS⟩;rw [X58 hok hs (by rw [hbd]; decide),hbd];rfl
   have hc50:=hb50; simp only [Y6] at hc50;refine .skip (.region (.run 3 rfl ⟨⟨by omega,by omega⟩,trivial⟩ (.nil ?_)));refine ⟨k+1,⟨rfl,rfl,rfl,trivial⟩,⟨by omega,fun q u hq hu=>?_,hS⟩,by omega⟩;rcases Yr q k with h1 | h1
   ·exact hids q u h1 hu
   ·have e:q=k:=by omega
    subst e;rw [hzk] at hu; cases hu;simpa using hb50
  have hc37:=hb37; simp only [Y6] at hc37;refine .exit (.seq ?_);have hno7:¬ (l.take i).any (fun t=>t.id == s.id)=true:=by
   rw [Y1g,Y2i];intro t ht;obtain ⟨q,hq⟩:=Yx.1 ht;rw [Y1y] at hq;split at hq
   ·rename_i hqi
    have:=hids q t (by omega) hq
    simpa using this
   ·cases hq
  refine .t 2 rfl (.val (.ii rfl rfl (by omega) (by omega) X7d X2b) rfl (.val (.fi 2 rfl X5r rfl rfl Qs9 rfl) rfl (.val (.ldI (.of rfl) hS (At.add hx _) Qg9 rfl) rfl (.call Tryz.func125 rfl (ec9 rfl X0) rfl (Xf9 s.urls B _ I As hS (by omega)) ?_))));rintro _ w ⟨rfl,hS⟩;refine .q 5 rfl (.nil (.seq (.t 2 rfl (.val (.ii rfl rfl (by omega) (by omega) X7d X2b) rfl (.val (.fi 6 rfl X5r rfl rfl Qs9 rfl) rfl (.val (.ldI (.of rfl) hS (At.add hx _) Qg9 rfl) rfl (.call Tryz.func125 rfl (ec9 rfl X0) rfl (Xf9 s.calls B _ I As hS (by omega)) ?_)))))));rintro _ w ⟨rfl,hS⟩;refine .q 5 rfl (.nil (.seq (.t 3 rfl (.gm rfl rfl rfl rfl (.gval rfl rfl (fun hg1=>(.neq (.gd hg1 rfl) (.of rfl))) rfl (.val (.po rfl rfl rfl) rfl (.nil ?_)))))));refine .cond rfl (fun hb75=>?_) fun hb75=>?_
  ·have hc75:=hb75; simp only [Y6] at hc75;refine .seq (.q 3 rfl (.ret (X1e Qr66 rfl rfl ?_)));have hbd:bad l i s=8:=by
    unfold bad;rw [if_neg (by omega),if_neg (by rw [hb33]; decide),if_neg hno7,if_pos hb75]
   refine ⟨_,rfl,?_,hS⟩;rw [X58 hok hs (by rw [hbd]; decide),hbd];rfl
  have hc75:=hb75; simp only [Y6] at hc75;refine .skip (.region (.run 3 rfl ⟨⟨by omega,by omega⟩,trivial⟩ (.nil ?_)));refine ⟨i+1,⟨rfl,rfl,trivial⟩,⟨by omega,fun j u hj hu=>?_,hS⟩,by omega⟩;rcases Yr j i with h1 | h1
  ·exact hok j u h1 hu
  ·have e:j=i:=by omega
   subst e;rw [hs] at hu; cases hu;unfold bad;rw [if_neg (by omega),if_neg (by rw [hb33]; decide),if_neg hno7,if_neg (by rw [hb75]; decide)]
 have hc13:=hb13; simp only [Y6] at hc13;refine .exit (.seq (.q 2 rfl (.ret (X1e Qr66 rfl rfl ?_))));refine ⟨_,rfl,?_,hS⟩;rw [Xbp (fun j t ht=>hok j t (by have:=(Y5.1 ht).1; omega) ht)];rfl
end Go.Proofs.YtfibbpgikjggfaaGreatDoor
namespace Go.Proofs.YtfibbpgikjggfaaGreatDoor
open Gk
theorem X78:Tryz.prog.info? 27=some Tryz.t27:=by kernel_rfl
theorem Xn5:Tryz.prog.info? 59=some Tryz.t59:=by kernel_rfl
def SvsIn (I:Im) (a:Option Addr) (L:List (List Value)) (l:List Sv):Prop:=L.length=l.length∧∀ (i:Nat) (s:Sv),l[i]?=some s→∃ p c,a=some p∧L[i]?=some c∧At I (p.add (i*8)) c∧SvAt I s c
theorem SvsIn.mono {I J:Im} {a:Option Addr} {L:List (List Value)} {l:List Sv} (h:SvsIn I a L l) (hl:Le I J):SvsIn J a L l:=⟨h.1,fun i s hs=>by
 obtain ⟨p,c,e,h0,h1,h2⟩:=h.2 i s hs;exact ⟨p,c,e,h0,h1.mono hl,h2.mono hl⟩⟩
theorem SvsIn.svs {I:Im} {a:Option Addr} {L:List (List Value)} {l:List Sv} (h:SvsIn I a L l):SvsAt I a l:=fun i s hs=>by
 obtain ⟨p,c,e,h0,h1,ra,rc,rfl,h2,h3⟩:=h.2 i s hs;exact ⟨p,ra,rc,e,h1,h2,h3⟩
def X4j (L:List (List Value)) (D:List Int):List (List Value):=D.map fun d=>L.getD d.toNat []
def ords (l:List Sv):List Nat:=l.map Sv.ord
theorem Xrq (a:Option Addr) (cap:Nat) (L:List (List Value)) (l:List Sv) (hln:l.length≤100000) (hsm:∀ v∈ords l,v<18446744073709551616) (B w:World) (I:Im) (hl:SvsIn I a L l) (As:List X7) (hS:Sat B w I As) :
  Cz 56 [.slice a l.length cap] w fun v w'=>∃ J D,Le I J∧Srt.Ord (kx (ords l)) l.length D∧Sat B w' J (Vec 59 8 v l.length (X4j L D).flatten::As):=by
 refine calls Tryz.func56 rfl Tryz.ntmps56 rfl (.seq (.q 1 rfl (.seq (.q 1 rfl (.seq (.seq (.q 1 rfl (.block ?_))))))));replace hS:=hS.vecNil 27 1;refine .loop (σ:=Value×Nat) (fun ⟨kv,i⟩=>[(0,.slice a l.length cap),(3,kv),(4,I64 (i:Nat))]) (fun ⟨kv,i⟩ w=>i≤l.length∧Sat B w I (Vec 27 1 kv i (((ords l).take i).map F64)::As)) (fun ⟨kv,i⟩=>l.length - i) (.slice none 0 0,0) ⟨rfl,rfl,rfl,trivial⟩ ⟨Yo _,hS⟩ ?_;rintro ⟨kv,i⟩ w ⟨hi,hS⟩;refine .seq (.seq (.region (.run 4 rfl ⟨⟨_,X7d⟩,trivial⟩ (.nil ?_))));refine .cond rfl (fun hb11=>?_) fun hb11=>?_
 ·have hc11:=hb11; simp only [Y6] at hc11;refine .skip (.seq (.block ?_));obtain ⟨s,hs⟩:∃ s,l[i]?=some s:=⟨_,Y4 (by omega)⟩
  obtain ⟨p,ra,rc,rfl,hx,hrc,hr⟩:=hl.svs i s hs;unfold X16 at hx;have hnx:((ords l).take (i+1)).map F64=((ords l).take i).map F64 ++ [F64 s.ord]:=by
   rw [Y12,ords,Yy,hs,Yv]; rfl
  have htl:((ords l).take i).length=i:=by rw [Yt,ords,Y10]; omega
  refine .t 3 rfl (.val (.ii rfl rfl (by omega) (by omega) X7d X2b) rfl (.val (.fi 1 rfl X5r rfl rfl Xns rfl) rfl (.val (.ldI (.of rfl) hS (At.add hx _) Qg27 rfl) rfl (.buildSlice (cs:=[_]) hS (pc9 rfl X4) X61 Xns Qz27 rfl rfl rfl rfl ?_))));clear hS; intro b20 w hS;refine .append (size:=1) (bytes:=8) hS (.of rfl) (.of rfl) (k:=0) rfl X61 X78 rfl rfl rfl rfl rfl rfl rfl ⟨by omega,by unfold maxLen; omega⟩ rfl ?_;clear hS; intro v21 w hS;obtain ⟨a21,c21,rfl,hcap21,_⟩:=hS.vecSlice (k:=0) (v:=v21) rfl;refine .q 1 rfl (.nil (.region (.run 3 rfl ⟨⟨by omega,by omega⟩,trivial⟩ (.nil ?_))));refine ⟨(_,i+1),⟨rfl,rfl,rfl,trivial⟩,⟨by (try dsimp only); omega,?_⟩,by (try dsimp only); omega⟩;rw [hnx]; exact hS
 have hc11:=hb11; simp only [Y6] at hc11;refine .exit (.seq ?_);have hin:i=l.length:=by omega
 subst hin;have hol:(ords l).length=l.length:=Y10 ..;rw [Yz (by omega)] at hS;obtain ⟨ka,kc,rfl,hkc,_⟩:=hS.vecSlice (k:=0) (v:=kv) rfl;obtain ⟨J,hJ,hOR,hS2⟩:=hS.freezeVec (k:=0) rfl;clear hS;have hS:=hS2;clear hS2;try dsimp only [List.eraseIdx] at hS
 rw [← hol] at hOR ⊢;refine .t 1 rfl (.call Tryz.func118 rfl (ec9 rfl X0) rfl (Xe0 (ords l) hsm (by omega) ka kc B _ J hOR As hS) ?_);clear hS;rintro _ w ⟨D,va,vc,rfl,hD,hS⟩;obtain ⟨J2,hJ2,hDR,hS2⟩:=hS.freezeVec (k:=0) rfl;clear hS;have hS:=hS2;clear hS2;try dsimp only [List.eraseIdx] at hS
 replace hJ:=Le.trans hJ hJ2;rw [hol] at hD hDR ⊢;have hDl:=hD.len;refine .q 1 rfl (.nil (.seq (.q 1 rfl (.seq (.seq (.q 1 rfl (.block ?_)))))));replace hS:=hS.vecNil 59 8;refine .loop (σ:=Value×Nat) (fun ⟨kv,j⟩=>[(0,.slice a l.length cap),(5,.slice va l.length vc),(6,kv),(7,I64 (j:Nat))]) (fun ⟨kv,j⟩ w=>j≤l.length∧Sat B w J2 (Vec 59 8 kv j (X4j L (D.take j)).flatten::As)) (fun ⟨kv,j⟩=>l.length - j) (.slice none 0 0,0) ⟨rfl,rfl,rfl,rfl,trivial⟩ ⟨Yo _,hS⟩ ?_;rintro ⟨kv,j⟩ w ⟨hj,hS⟩;refine .seq (.seq (.region (.run 4 rfl ⟨⟨_,Xd⟩,trivial⟩ (.nil ?_))));refine .cond rfl (fun hb27=>?_) fun hb27=>?_
 ·have hc27:=hb27; simp only [Y6] at hc27;refine .skip (.seq (.block ?_));obtain ⟨d,hd⟩:∃ d,D[j]?=some d:=⟨_,Y4 (by omega)⟩
  have hdm:d∈Srt.upto l.length:=hD.2.mem_iff.1 (Yi hd);have hdr:=Srt.upto_mem.1 hdm;obtain ⟨s,hs⟩:∃ s,l[d.toNat]?=some s:=⟨_,Y4 (by omega)⟩
  obtain ⟨p,c,rfl,hc,hx,ra,rc,rfl,hrc,hr⟩:=(hl.mono hJ).2 d.toNat s hs;have hnr:(X4j L (D.take (j+1))).flatten=(X4j L (D.take j)).flatten ++ X16 s ra rc:=by
   unfold X4j;rw [Y12,hd,Yv,Y2r];simp [Yc,hc]
  unfold X16 at hx hnr;obtain ⟨dp,rfl,hdp⟩:=hDR.2 (by omega);have hdx:((D.map I64).drop ((j:Int).toNat*1))[0]?=some (I64 d):=by rw [Y1e,Ym,Y1i,Y2c,Yy,hd]; rfl
  refine .t 4 rfl (.val (.ii rfl rfl (by omega) (by omega) Xd Qs3) rfl (.val (.ldI (v:=I64 d) (.of rfl) hS (hdp.add _) Qg3 hdx) rfl (.val (.ii rfl rfl (by omega) (by omega) X7d X2b) rfl (.val (.ldsI (.of rfl) hS hx Xfm X2b rfl (fun _ _ h=>h)) rfl (.buildSlice (cs:=[_,_,_,_,_,_,_,_]) hS (pc9 rfl X4) X7d X2b Xj3 rfl rfl rfl rfl ?_)))));clear hS; intro b38 w hS;refine .append (size:=8) (bytes:=80) hS (.of rfl) (.of rfl) (k:=0) rfl X7d Xn5 rfl rfl rfl rfl rfl rfl rfl ⟨by omega,by unfold maxLen; omega⟩ rfl ?_;clear hS; intro v39 w hS;obtain ⟨a39,c39,rfl,hcap39,_⟩:=hS.vecSlice (k:=0) (v:=v39) rfl;refine .q 1 rfl (.nil (.region (.run 3 rfl ⟨⟨by omega,by omega⟩,trivial⟩ (.nil ?_))));refine ⟨(_,j+1),⟨rfl,rfl,rfl,rfl,trivial⟩,⟨by (try dsimp only); omega,?_⟩,by (try dsimp only); omega⟩;rw [hnr]; exact hS
 have hc27:=hb27; simp only [Y6] at hc27;refine .exit (.seq (.q 2 rfl (.ret (X9 Tryz.results56 rfl ?_))));have hjn:j=l.length:=by omega
 subst hjn;rw [Yz (by omega)] at hS;exact ⟨_,rfl,J2,D,hJ,hD,hS⟩
end Go.Proofs.YtfibbpgikjggfaaGreatDoor
namespace Go.Proofs.YtfibbpgikjggfaaGreatDoor
open Gk Pat
theorem Xq9 (xs:List Value) (x y:Value) (r:List Value):((xs ++ [x]) ++ r).set (0+(xs.length:Int).toNat*1) y=(xs ++ [y]) ++ r:=by
 rw [Ym,Yd,Y1i,Yf,Y2d _ _ (Yu _)]
 simp
theorem Xt5 {l:List UInt8} {k:Nat} (h:hasPre (l.drop (k:Int).toNat) [42,42]=true) (hk:k<l.length):k+1<l.length:=by
 simp [hasPre] at h
 omega
theorem Xq6 {l:List UInt8} {k:Nat} (h:hasPre (l.drop (k:Int).toNat) [42,42]=true) (hk:k+1<l.length):(at_ l ((k+1:Nat):Int)).toNat=42:=by
 rw [Ym,X8 l (k:=k) (by omega),X8 l (k:=k+1) hk] at h;simp [hasPre] at h
 rw [show ((k+1:Nat):Int)=(k:Int)+1 from rfl,h.2.2]; rfl
theorem star1 {l:List UInt8} {k:Nat} {Q:List Pl} {stk:List PFr} {ats:List Int} {X:Except (Int×Int) (List Pl)} (h:hasPre (l.drop (k:Int).toNat) [42,42]=false) (hk:k<l.length∧(at_ l (k:Int)).toNat=42)
  (e:(match l.drop (k+1) with
   | d::r'=>if d.toNat=42 then cmpGo r' ((k:Int)+2) (Q ++ [(2,0,[])]) stk ats else cmpGo (d::r') ((k:Int)+1) (Q ++ [(3,0,[])]) stk ats
   | []=>cmpGo [] ((k:Int)+1) (Q ++ [(3,0,[])]) stk ats)=X):cmpGo (l.drop (k+1)) ((k:Int)+1) (Q ++ [(3,0,[])]) stk ats=X:=by
 cases hd:l.drop (k+1) with
 | nil=>rw [hd] at e; exact e
 | cons d r =>
  rw [hd] at e;have hne:¬ d.toNat=42:=fun h42=>by
   rw [Ym,X8 l (k:=k) hk.1,hd] at h;have h1:at_ l (k:Int)=42:=Y19.1 hk.2;have h2:d=42:=Y19.1 h42;rw [h1,h2] at h;simp [hasPre] at h
   omega
  simp only [hne,if_false] at e
  exact e
theorem Xip:Bld Tryz.prog 235 [(0,1),(1,1)] [.slice none 0 0,.int .i64 0]:=X2n Xfz Tryz.zeroValue235 (fun w=>by simp [go_sem])
theorem Xjj:Bld Tryz.prog 267 [(0,1),(1,1),(2,1)] [.slice none 0 0,.slice none 0 0,.slice none 0 0]:=X2n X1x Tryz.zeroValue267 (fun w=>by simp [go_sem])
set_option maxHeartbeats 1600000 in
theorem Xgc (l:List UInt8) (B w:World) (I:Im) (As:List X7) (hS:Sat B w I As) (hl:l.length≤9223372036854775807) :
  Calls Tryz.prog 189 [S l].toArray w (Ret fun v w'=>(∃ e a J,cmp l=.error (e,a)∧v=.tuple #[.pointer none,I64 e,I64 a]∧Le I J∧Sat B w' J As) ∨
   (∃ Q p J,cmp l=.ok Q∧v=.tuple #[.pointer (some p),I64 0,I64 0]∧Le I J∧PatI J p Q l.length∧Sat B w' J As)):=by
 refine calls Tryz.func189 rfl Tryz.ntmps189 rfl (.seq (.q 3 rfl (.seq (.seq (.region (.run 3 rfl ⟨Qu9,trivial⟩ (.nil ?_)))))));refine .cond rfl (fun hb12=>?_) fun hb12=>?_
 ·have hc12:=hb12; try simp only [Y6] at hc12
  refine .seq (.q 3 rfl (.ret (X7j Xgj rfl rfl rfl ?_)));exact ⟨_,rfl,.inl ⟨_,_,I,by rw [cmp,if_pos (by omega)],rfl,Le.refl I,hS⟩⟩
 have hc12:=hb12; try simp only [Y6] at hc12
 refine .skip (.seq (.region (.val (.build (cs:=[_,_,_]) X4 Xjj rfl) rfl (.boxA (cs:=[_,_,_]) hS (.of rfl) rfl ?_))));clear hS; intro b14 w hS;have hS:=((((Xjb hS).vecNil 3 1).vecNil 168 1).vecNil 238 3).pick 4 rfl;refine .q 1 rfl (.nil (.seq (.seq (.q 1 rfl (.block ?_)))));refine .loop (σ:=Nat×List PFr×List (Value×List Int)×List Pl×List X2e×Value×Value×Value×List Int×Im) (fun ⟨k,stk,st,Q,P,lv,sv,av,ats,J⟩=>[(0,S l),(5,ptr b14 0),(6,I64 (k:Nat))]) (fun ⟨k,stk,st,Q,P,lv,sv,av,ats,J⟩ w=>k≤l.length∧Q.length≤k∧st.map (·.2)=stk.reverse.map mks∧stk.length≤4∧ats.length=stk.length∧Frames Q Q.length stk∧RelP J P Q∧Le I J∧cmpGo (l.drop k) k Q stk ats=cmp l∧Sat B w J (blk b14 [lv,sv,av] 267::Vec 238 3 lv P.length (P.flatMap enc)::Vec 168 1 sv st.length (st.map (·.1))::Vec 3 1 av ats.length (ats.map I64)::X3v 3 st::As)) (fun ⟨k,stk,st,Q,P,lv,sv,av,ats,J⟩=>l.length - k) (0,[],[],[],[],.slice none 0 0,.slice none 0 0,.slice none 0 0,[],I) ⟨rfl,rfl,rfl,trivial⟩ ⟨Yo _,Yu _,rfl,by simp,rfl,trivial,RelP.nil _,Le.refl _,by rw [cmp,if_neg (by omega)]; rfl,hS⟩ ?_;rintro ⟨k,stk,st,Q,P,lv,sv,av,ats,J⟩ w ⟨hk,hQk,hst,hlen4,hats,hF,hR,hJ,hq,hS⟩;obtain ⟨la,lc,rfl,hlc,_⟩:=hS.vecSlice (k:=1) rfl;obtain ⟨sa,sc,rfl,hsc,_⟩:=hS.vecSlice (k:=2) rfl;obtain ⟨aa,ac,rfl,hac,_⟩:=hS.vecSlice (k:=3) rfl;have hst2:st.length=stk.length:=by have:=congrArg List.length hst; simpa using this
 have hPQ:=hR.1;refine .seq (.seq (.region (.run 4 rfl ⟨Qu9,trivial⟩ (.nil ?_))));refine .cond rfl (fun hb18=>?_) fun hb18=>?_
 ·have hc18:=hb18; try simp only [Y6] at hc18
  refine .skip (.seq (.block (.seq (.t 2 rfl (.val (.fo 1 rfl X1x rfl rfl X4x rfl) rfl (.val (.lo rfl hS (k:=0) rfl Xgy rfl) rfl (.run 2 rfl ⟨⟨_,X29⟩,trivial⟩ (.nil (.seq (.region (.run 4 rfl ⟨⟨⟨by omega,by omega⟩,Qu9⟩,trivial⟩ (.nil (.seq (.q 1 rfl (.block (.seq (.q 2 rfl ?_)))))))))))))))));refine .cond rfl (fun hb33=>?_) fun hb33=>?_
  ·have hc33:=hb33; try simp only [Y6] at hc33
   refine .t 1 rfl (.call X7v rfl (ec9 rfl (ec9 rfl (ec9 rfl X0))) rfl (X2p _ P.length _ _ _ _ _ _ _ _ _ _ hS (by omega)) ?_);clear hS;rintro _ w ⟨rfl,lv2,hS⟩;refine .nil (.region (.run 3 rfl ⟨⟨by omega,by omega⟩,trivial⟩ (.nil ?_)));have e9:=hq;rw [X8 l (by omega),Xf,if_pos (by omega)] at e9;refine ⟨(k+1,stk,st,Q ++ [(1,0,[])],P ++ [(1,0,.slice none 0 0)],lv2,.slice sa st.length sc,.slice aa ats.length ac,ats,J),⟨rfl,rfl,rfl,trivial⟩,⟨by omega,by rw [Y0]; simp; omega,hst,hlen4,hats,hF.app _,hR.snoc _ _ _ _ (IntsI.nil _),hJ,e9,?_⟩,by dsimp only; omega⟩;rw [Y0,Y1o]; exact hS
  have hc33:=hb33; try simp only [Y6] at hc33
  refine .seq (.q 2 rfl ?_);refine .cond rfl (fun hb37=>?_) fun hb37=>?_
  ·have hc37:=hb37; try simp only [Y6] at hc37
   refine .seq (.t 2 rfl (.val (.subFrom (.of rfl) (.of rfl) (by omega) (by omega) Qu9) rfl ?_));refine .call Qf90 rfl (ec9 rfl (ec9 rfl X0)) rfl (X26 _ _ _ (by simp; omega) (by simp)) ?_;rintro _ _ ⟨rfl,rfl⟩;refine .nil (.cond rfl (fun hb42=>?_) fun hb42=>?_)
   ·have hc42:=hb42; try simp only [Y6] at hc42
    refine .seq (.t 1 rfl (.call X7v rfl (ec9 rfl (ec9 rfl (ec9 rfl X0))) rfl (X2p _ P.length _ _ _ _ _ _ _ _ _ _ hS (by omega)) ?_));clear hS;rintro _ w ⟨rfl,lv2,hS⟩;refine .nil (.region (.run 3 rfl ⟨⟨by omega,by omega⟩,trivial⟩ (.nil (.region (.run 3 rfl ⟨⟨by omega,by omega⟩,trivial⟩ (.nil ?_))))));have e9:=hq;have hk2:k+1<l.length:=Xt5 hb42 (by omega);rw [X8 l (by omega),Xf,if_neg (by omega),if_pos (by omega),X8 l hk2] at e9;simp only [] at e9
    rw [if_pos (Xq6 hb42 hk2)] at e9;refine ⟨(k+2,stk,st,Q ++ [(2,0,[])],P ++ [(2,0,.slice none 0 0)],lv2,.slice sa st.length sc,.slice aa ats.length ac,ats,J),⟨rfl,rfl,rfl,trivial⟩,⟨by omega,by rw [Y0]; simp; omega,hst,hlen4,hats,hF.app _,hR.snoc _ _ _ _ (IntsI.nil _),hJ,e9,?_⟩,by dsimp only; omega⟩;rw [Y0,Y1o]; exact hS
   have hc42:=hb42; try simp only [Y6] at hc42
   refine .t 1 rfl (.call X7v rfl (ec9 rfl (ec9 rfl (ec9 rfl X0))) rfl (X2p _ P.length _ _ _ _ _ _ _ _ _ _ hS (by omega)) ?_);clear hS;rintro _ w ⟨rfl,lv2,hS⟩;refine .nil (.region (.run 3 rfl ⟨⟨by omega,by omega⟩,trivial⟩ (.nil ?_)));have e9:=hq;rw [X8 l (by omega),Xf,if_neg (by omega),if_pos (by omega)] at e9;have e9:=star1 hb42 (by omega) e9;refine ⟨(k+1,stk,st,Q ++ [(3,0,[])],P ++ [(3,0,.slice none 0 0)],lv2,.slice sa st.length sc,.slice aa ats.length ac,ats,J),⟨rfl,rfl,rfl,trivial⟩,⟨by omega,by rw [Y0]; simp; omega,hst,hlen4,hats,hF.app _,hR.snoc _ _ _ _ (IntsI.nil _),hJ,e9,?_⟩,by dsimp only; omega⟩;rw [Y0,Y1o]; exact hS
  have hc37:=hb37; try simp only [Y6] at hc37
  refine .seq (.q 2 rfl ?_);refine .cond rfl (fun hb49=>?_) fun hb49=>?_
  ·have hc49:=hb49; try simp only [Y6] at hc49
   refine .seq (.seq (.q 2 rfl ?_));refine .cond rfl (fun hb52=>?_) fun hb52=>?_
   ·have hc52:=hb52; try simp only [Y6] at hc52
    refine .seq (.q 4 rfl (.ret (X7j Xgj rfl rfl rfl ?_)));have e9:cmp l=.error (24,(k:Int)):=by rw [← hq,X8 l (by omega),Xf,if_neg (by omega),if_neg (by omega),if_pos (by omega),if_pos (by omega)]
    exact ⟨_,rfl,.inl ⟨_,_,J,e9,rfl,hJ,((((hS.drop (k:=0) rfl).drop (k:=0) rfl).drop (k:=0) rfl).drop (k:=0) rfl).drop (k:=0) rfl⟩⟩
   have hc52:=hb52; try simp only [Y6] at hc52
   refine .skip (.t 2 rfl (.call Tryz.func224 rfl (ec9 rfl (ec9 rfl X0)) rfl (Xgu _ P.length _ _ _ _ st ats _ _ _ _ _ hS (by omega) (by omega) (by omega)) ?_));clear hS;rintro _ w ⟨rfl,lv2,sv2,av2,mv2,hS⟩;refine .nil (.region (.run 3 rfl ⟨⟨by omega,by omega⟩,trivial⟩ (.nil ?_)));have e9:=hq;rw [X8 l (by omega),Xf,if_neg (by omega),if_neg (by omega),if_pos (by omega),if_neg (by omega)] at e9;have hx:=hR.1;refine ⟨(k+1,(Q.length,[])::stk,st ++ [(mv2,[(P.length:Int)])],Q ++ [(4,0,[])],P ++ [(4,0,.slice none 0 0)],lv2,sv2,av2,ats ++ [(k:Int)],J),⟨rfl,rfl,rfl,trivial⟩,⟨by omega,by rw [Y0]; simp; omega,?_,by simp; omega,by simp [hats],⟨by simp,by simp,by simp,fun b hb=>by simp at hb,hF.grow (by simp) (by simp) fun i hi hq2=>by rw [Yk hi]; exact hq2⟩,hR.snoc _ _ _ _ (IntsI.nil _),hJ,e9,?_⟩,by dsimp only; omega⟩
   ·simp [hst,mks,hx]
   ·simp only [Y0,Y1o,Yv,Y1h,Y1d,Y2q]; exact hS
  have hc49:=hb49; try simp only [Y6] at hc49
  refine .seq (.seq (.q 2 rfl ?_));refine .cond rfl (fun hb57=>?_) fun hb57=>?_
  ·have hc57:=hb57; try simp only [Y6] at hc57
   refine .skip ?_;refine .cond rfl (fun hb57=>?_) (fun hb57=>by exfalso; simp only [Y6] at hb57; omega);have hc57:=hb57; try simp only [Y6] at hc57
   refine .seq (.seq (.q 2 rfl ?_));refine .cond rfl (fun hb61=>?_) fun hb61=>?_
   ·have hc61:=hb61; try simp only [Y6] at hc61
    refine .seq (.q 4 rfl (.ret (X7j Xgj rfl rfl rfl ?_)));obtain rfl:stk=[]:=Yl (by omega);have e9:cmp l=.error (10,(k:Int)):=by rw [← hq,X8 l (by omega),Xf,if_neg (by omega),if_neg (by omega),if_neg (by omega),if_pos (by omega)]
    exact ⟨_,rfl,.inl ⟨_,_,J,e9,rfl,hJ,((((hS.drop (k:=0) rfl).drop (k:=0) rfl).drop (k:=0) rfl).drop (k:=0) rfl).drop (k:=0) rfl⟩⟩
   have hc61:=hb61; try simp only [Y6] at hc61
   refine .skip (.seq (.seq (.q 2 rfl ?_)));refine .cond rfl (fun hb64=>by exfalso; simp only [Y6] at hb64; omega) (fun hb64=>?_);have hc64:=hb64; try simp only [Y6] at hc64
   refine .skip (.seq ?_);obtain ⟨o,bs,rest,rfl⟩:∃ o bs rest,stk=(o,bs)::rest:=by
    cases stk with
    | nil=>exfalso; have:st.length=0:=hst2; omega
    | cons f r=>exact ⟨f.1,f.2,r,rfl⟩
   obtain ⟨st0,mv,rfl,hst0⟩:=Xhq hst;obtain ⟨hf1,hf2,hf3,hf4,hf5⟩:=id hF;simp only [Yv,Y1d,Y2q,Y0,Y1h] at hS
   have hl0:st0.length+1=rest.length+1:=by simpa using hst2
   have hats2:ats.length=rest.length+1:=by simpa using hats
   have hlen5:rest.length+1≤4:=by simpa using hlen4
   obtain ⟨gs,sc2,rs,hv8,hsc1,hsc2,hsc3,hsc4,hS⟩:=hS.vecOpen (k:=2) rfl (by omega);injection hv8 with hv8 _ hv9; subst hv8; subst hv9
   have e4:X3v 3 (st0 ++ [(mv,mks (o,bs))])=SepAll ((st0.map fun x=>Vec 3 1 x.1 x.2.length (x.2.map I64)) ++ [Vec 3 1 mv (mks (o,bs)).length ((mks (o,bs)).map I64)]):=by rw [X3v,Yv]; rfl
   rw [e4] at hS;replace hS:=hS.pop (k:=4) rfl;obtain ⟨ma,mc,rfl,hmc,_⟩:=hS.vecSlice (k:=0) rfl;have hmk:(mks (o,bs)).length=bs.length+1:=by simp [mks]
   have e28:(((st0 ++ [(Value.slice ma (mks (o,bs)).length mc,mks (o,bs))]).length:Nat):Int) - 1=(st0.length:Int):=by simp
   refine .drawn (fun w=>∃ R,Sat B w J (blk gs ((st0.map (·.1) ++ [Value.slice ma (mks (o,bs)).length mc]) ++ rs) 168::blk b14 [.slice la P.length lc,.slice (some (ad gs 0)) (st0.length+1) sc,.slice aa ats.length ac] 267::R)) (fun j=>!([22].contains j)) (by kernel_rfl) ?_;replace hS:=hS.drew; generalize w.drew=w at hS ⊢;have hH:=((hS.pick 1 rfl).pick 3 rfl)
   refine .tp (i:=0) rfl (by kernel_rfl) (fun w=>(.mo rfl)) rfl (.tp (i:=1) rfl (by kernel_rfl) (fun w=>(.no rfl)) rfl (.tp (i:=2) rfl (by kernel_rfl) (fun w=>(.fo 1 rfl X1x rfl rfl X4x rfl)) rfl (.tk (i:=3) rfl (by kernel_rfl) ⟨_,hH⟩ (fun w ⟨R,hS⟩=>(.lo rfl hS (k:=1) rfl Xgy rfl)) rfl (.tp (i:=4) rfl (by kernel_rfl) (fun w=>(.mo rfl)) rfl (.tp (i:=5) rfl (by kernel_rfl) (fun w=>(.sub (.of rfl) (.of rfl) ⟨by omega,by omega⟩)) rfl (.tp (i:=6) rfl (by kernel_rfl) (fun w=>(.mo rfl)) rfl (.tp (i:=7) rfl (by kernel_rfl) (fun w=>(.no rfl)) rfl (.tp (i:=8) rfl (by kernel_rfl) (fun w=>(.fo 1 rfl X1x rfl rfl X4x rfl)) rfl (.tk (i:=9) rfl (by kernel_rfl) ⟨_,hH⟩ (fun w ⟨R,hS⟩=>(.lo rfl hS (k:=1) rfl Xgy rfl)) rfl (.tp (i:=10) rfl (by kernel_rfl) (fun w=>(.mo rfl)) rfl (.tp (i:=11) rfl (by kernel_rfl) (fun w=>(.sub (.of rfl) (.of rfl) ⟨by omega,by omega⟩)) rfl (.tp (i:=12) rfl (by kernel_rfl) (fun w=>(.io rfl rfl (by omega) (by omega) X29 X15)) rfl ?_))))))))))));refine .tk (i:=13) rfl (by kernel_rfl) ⟨_,hH⟩ (fun w ⟨R,hS⟩=>.lo rfl hS (k:=0) rfl X38 (v:=Value.slice ma (mks (o,bs)).length mc) (by rw [e28]; simp)) rfl ?_;refine .tp (i:=14) rfl (by kernel_rfl) (fun w=>(.mo rfl)) rfl (.tp (i:=15) rfl (by kernel_rfl) (fun w=>(.no rfl)) rfl (.tp (i:=16) rfl (by kernel_rfl) (fun w=>(.fo 0 rfl X1x rfl rfl X6g rfl)) rfl (.tk (i:=17) rfl (by kernel_rfl) ⟨_,hH⟩ (fun w ⟨R,hS⟩=>(.lo rfl hS (k:=1) rfl X7t rfl)) rfl (.tp (i:=18) rfl (by kernel_rfl) (fun w=>(.lenSlice (.of rfl) X84)) rfl ?_))));refine .b1 19 (by kernel_rfl) rfl (.buildSlice (cs:=[_]) hS (pc9 rfl X4) Xd Qs3 Qz3 rfl rfl rfl rfl ?_);clear hS; intro b86 w hS;refine .nil ?_;clear hH;have hH:=((hS.pick 2 rfl).pick 4 rfl)
   refine ⟨fun _ _=>⟨_,hH⟩,?_⟩;refine .b1 20 (by kernel_rfl) rfl (.append (size:=1) (bytes:=8) hS (.of rfl) (.of rfl) (k:=0) rfl Xd X1c rfl rfl rfl rfl rfl rfl rfl ⟨by omega,by unfold maxLen; omega⟩ rfl ?_);clear hS; intro v87 w hS;obtain ⟨a87,c87,rfl,hcap87,_⟩:=hS.vecSlice (k:=0) (v:=v87) rfl;have hm28:mks (o,bs ++ [Q.length])=mks (o,bs) ++ [(P.length:Int)]:=by simp [mks,hR.1]
   refine .nil ?_;clear hH;have hH:=((hS.pick 1 rfl).pick 3 rfl)
   refine ⟨fun _ _=>⟨_,hH⟩,?_⟩;refine .tp (i:=21) rfl (by kernel_rfl) (fun w=>(.io rfl rfl (by omega) (by omega) X29 X15)) rfl (.b1 22 (by kernel_rfl) rfl ?_);refine .s1 hS (k:=3) rfl rfl rfl rfl X15 (by rw [e28]; simp) ?_;clear hS; intro w hS;rw [e28,show (st0.length:Int)=((st0.map (·.1)).length:Int) by simp,Xq9] at hS;replace hS:=hS.vecShut (k:=3) (n:=st0.length+1) (cap:=sc) (size:=1) rfl hsc1 hsc2 (by simp) (by simpa using hsc4);replace hS:=hS.push (k:=4) rfl;replace hS:=hS.say (k:=4) (A':=X3v 3 (st0 ++ [(.slice a87 ((mks (o,bs)).length+1) c87,mks (o,bs ++ [Q.length]))])) rfl (fun h hh=>by rw [hm28,X3v,Yv]; simp only [Y1d,Y2q,Y0,Y1h,Yv]; exact hh);refine .nil ?_;refine And.intro (by intro h; cases h) ?_;refine .done (by kernel_rfl) (.t 1 rfl (.call X7v rfl (ec9 rfl (ec9 rfl (ec9 rfl X0))) rfl (X2p _ P.length _ _ _ _ _ _ _ _ _ _ hS (by omega)) ?_));clear hS;rintro _ w ⟨rfl,lv2,hS⟩;refine .nil (.region (.run 3 rfl ⟨⟨by omega,by omega⟩,trivial⟩ (.nil ?_)));have e9:=hq;rw [X8 l (by omega),Xf,if_neg (by omega),if_neg (by omega),if_neg (by omega),if_pos (by omega)] at e9;simp only [] at e9
   have hx:=hR.1;refine ⟨(k+1,(o,bs ++ [Q.length])::rest,st0 ++ [(.slice a87 ((mks (o,bs)).length+1) c87,mks (o,bs ++ [Q.length]))],Q ++ [(5,0,[])],P ++ [(5,0,.slice none 0 0)],lv2,.slice (some (ad gs 0)) (st0.length+1) sc,.slice aa ats.length ac,ats,J),⟨rfl,rfl,rfl,trivial⟩,⟨by omega,by rw [Y0]; simp; omega,?_,by simpa using hlen4,by simpa using hats,⟨?_,?_,?_,?_,?_⟩,hR.snoc _ _ _ _ (IntsI.nil _),hJ,e9,?_⟩,by dsimp only; omega⟩
   ·simp [hst0]
   ·simp; omega
   ·rw [Yk hf1]; exact hf2
   ·simp; omega
   ·intro b hb;rcases Y16.1 hb with hb | hb
    ·have:=hf4 b hb; simp; omega
    ·simp at hb; subst hb; simp; omega
   ·exact hf5.grow (Yu _) (by simp) fun i hi hq2=>by rw [Yk (by omega)]; exact hq2
   ·simp only [Y0,Y1o,Yv,Y1h,Y1d,Y2q]; exact hS
  have hc57:=hb57; try simp only [Y6] at hc57
  refine .q 2 rfl (.cond rfl (fun hb57=>?_) fun hb57=>?_)
  ·have hc57:=hb57; try simp only [Y6] at hc57
   refine .seq (.seq (.q 2 rfl ?_));refine .cond rfl (fun hb61=>?_) fun hb61=>?_
   ·have hc61:=hb61; try simp only [Y6] at hc61
    refine .seq (.q 4 rfl (.ret (X7j Xgj rfl rfl rfl ?_)));obtain rfl:stk=[]:=Yl (by omega);have e9:cmp l=.error (10,(k:Int)):=by rw [← hq,X8 l (by omega),Xf,if_neg (by omega),if_neg (by omega),if_neg (by omega),if_neg (by omega),if_pos (by omega)]
    exact ⟨_,rfl,.inl ⟨_,_,J,e9,rfl,hJ,((((hS.drop (k:=0) rfl).drop (k:=0) rfl).drop (k:=0) rfl).drop (k:=0) rfl).drop (k:=0) rfl⟩⟩
   have hc61:=hb61; try simp only [Y6] at hc61
   refine .skip (.seq (.seq (.q 2 rfl ?_)));refine .cond rfl (fun hb64=>?_) (fun hb64=>by exfalso; simp only [Y6] at hb64; omega);have hc64:=hb64; try simp only [Y6] at hc64
   refine .seq (.t 1 rfl ?_);obtain ⟨o,bs,rest,rfl⟩:∃ o bs rest,stk=(o,bs)::rest:=by
    cases stk with
    | nil=>exfalso; have:st.length=0:=hst2; omega
    | cons f r=>exact ⟨f.1,f.2,r,rfl⟩
   obtain ⟨st0,mv,rfl,hst0⟩:=Xhq hst;obtain ⟨hf1,hf2,hf3,hf4,hf5⟩:=id hF;simp only [Yv,Y1d,Y2q,Y0,Y1h] at hS
   have hl0:st0.length+1=rest.length+1:=by simpa using hst2
   have hats2:ats.length=rest.length+1:=by simpa using hats
   have hlen5:rest.length+1≤4:=by simpa using hlen4
   refine .call Tryz.func225 rfl (ec9 rfl X0) rfl (Xn3 _ _ _ _ mv P Q st0 o bs ats _ _ _ _ hS hR (fun b hb=>by have:=hf4 b hb; have hx:=hR.1; omega) (by have hx:=hR.1; omega) 4 0 (hR.nil_of hf2) hf2 (by have hx:=hR.1; omega) (by omega) (by omega) (by omega)) ?_;clear hS;rintro _ w ⟨rfl,lv2,sv2,av2,P2,J2,hJ2,hR2,hS⟩;refine .nil (.exit (.region (.run 3 rfl ⟨⟨by omega,by omega⟩,trivial⟩ (.nil ?_))));have e9:=hq;rw [X8 l (by omega),Xf,if_neg (by omega),if_neg (by omega),if_neg (by omega),if_neg (by omega),if_pos (by omega)] at e9;simp only [] at e9
   have hx:=hR.1;refine ⟨(k+1,rest,st0,X1k Q.length o Q [] bs ++ [(6,0,[])],P2,lv2,sv2,av2,ats.take rest.length,J2),⟨rfl,rfl,rfl,trivial⟩,⟨by omega,by rw [Y0,X33]; simp; omega,hst0,by simp at hlen4; omega,by simp at hats; simp; omega,hF.close _,by rw [hx] at hR2; exact hR2,hJ.trans hJ2,e9,?_⟩,by dsimp only; omega⟩;have e5:(ats.take rest.length).length=st0.length:=by simp at hats; rw [Yt]; omega
   have e6:rest.length=st0.length:=by omega
   rw [e5,e6]; exact hS
  have hc57:=hb57; try simp only [Y6] at hc57
  refine .seq (.q 2 rfl ?_);refine .cond rfl (fun hb91=>?_) fun hb91=>?_
  ·have hc91:=hb91; try simp only [Y6] at hc91
   refine .seq (.seq (.region (.run 5 rfl ⟨⟨by omega,by omega⟩,Qu9,trivial⟩ (.nil ?_))));refine .cond rfl (fun hb97=>?_) fun hb97=>?_
   ·have hc97:=hb97; try simp only [Y6] at hc97
    refine .seq (.q 4 rfl (.ret (X7j Xgj rfl rfl rfl ?_)));have e9:cmp l=.error (10,(k:Int)):=by rw [← hq,X8 l (by omega),Xf,if_neg (by omega),if_neg (by omega),if_neg (by omega),if_neg (by omega),if_neg (by omega),if_pos (by omega),Y17 (by omega)]
    exact ⟨_,rfl,.inl ⟨_,_,J,e9,rfl,hJ,((((hS.drop (k:=0) rfl).drop (k:=0) rfl).drop (k:=0) rfl).drop (k:=0) rfl).drop (k:=0) rfl⟩⟩
   have hc97:=hb97; try simp only [Y6] at hc97
   refine .skip (.seq (.region (.run 3 rfl ⟨⟨by omega,by omega⟩,trivial⟩ (.nil (.region (.run 4 rfl ⟨⟨⟨by omega,by omega⟩,Qu9⟩,trivial⟩ (.call X7v rfl (ec9 rfl (ec9 rfl (ec9 rfl X0))) rfl (X2p _ P.length _ _ _ _ _ _ _ _ _ _ hS (by omega)) ?_)))))));clear hS;rintro _ w ⟨rfl,lv2,hS⟩;refine .nil (.region (.run 3 rfl ⟨⟨by omega,by omega⟩,trivial⟩ (.nil ?_)));have e9:=hq;rw [X8 l (by omega),Xf,if_neg (by omega),if_neg (by omega),if_neg (by omega),if_neg (by omega),if_neg (by omega),if_pos (by omega),X8 l (k:=k+1) (by omega)] at e9;simp only [] at e9
   refine ⟨(k+2,stk,st,Q ++ [(0,((at_ l ((k:Int)+1)).toNat:Int),[])],P ++ [(0,((at_ l ((k:Int)+1)).toNat:Int),.slice none 0 0)],lv2,.slice sa st.length sc,.slice aa ats.length ac,ats,J),⟨rfl,rfl,rfl,trivial⟩,⟨by omega,by rw [Y0]; simp; omega,hst,hlen4,hats,hF.app _,hR.snoc _ _ _ _ (IntsI.nil _),hJ,e9,?_⟩,by dsimp only; omega⟩;rw [Y0,Y1o]; exact hS
  have hc91:=hb91; try simp only [Y6] at hc91
  refine .t 2 rfl (.call X7v rfl (ec9 rfl (ec9 rfl (ec9 rfl X0))) rfl (X2p _ P.length _ _ _ _ _ _ _ _ _ _ hS (by omega)) ?_);clear hS;rintro _ w ⟨rfl,lv2,hS⟩;refine .nil (.region (.run 3 rfl ⟨⟨by omega,by omega⟩,trivial⟩ (.nil ?_)));have e9:=hq;rw [X8 l (by omega),Xf,if_neg (by omega),if_neg (by omega),if_neg (by omega),if_neg (by omega),if_neg (by omega),if_neg (by omega)] at e9;refine ⟨(k+1,stk,st,Q ++ [(0,((at_ l (k:Int)).toNat:Int),[])],P ++ [(0,((at_ l (k:Int)).toNat:Int),.slice none 0 0)],lv2,.slice sa st.length sc,.slice aa ats.length ac,ats,J),⟨rfl,rfl,rfl,trivial⟩,⟨by omega,by rw [Y0]; simp; omega,hst,hlen4,hats,hF.app _,hR.snoc _ _ _ _ (IntsI.nil _),hJ,e9,?_⟩,by dsimp only; omega⟩;rw [Y0,Y1o]; exact hS
 have hc18:=hb18; try simp only [Y6] at hc18
 refine .exit (.seq (.seq (.t 2 rfl (.val (.fo 2 rfl X1x rfl rfl X15 rfl) rfl (.val (.lo rfl hS (k:=0) rfl X38 rfl) rfl (.run 2 rfl ⟨⟨_,Xd⟩,trivial⟩ (.nil (.seq (.q 2 rfl ?_)))))))));refine .cond rfl (fun hb112=>?_) fun hb112=>?_
 ·have hc112:=hb112; try simp only [Y6] at hc112
  refine .seq ?_;obtain ⟨b8,c8,r,hv8,_,_,_,_,hS⟩:=hS.vecOpen (k:=3) rfl (by omega);injection hv8 with hv8 _ hv9; subst hv8; subst hv9
  refine .quiet (by kernel_rfl) (by kernel_rfl) hS (.val (fun w hS=>(.mo rfl)) rfl (.val (fun w hS=>(.no rfl)) rfl (.val (fun w hS=>(.fo 2 rfl X1x rfl rfl X15 rfl)) rfl (.val (fun w hS=>(.lo rfl hS (k:=0) rfl X38 rfl)) rfl (.val (fun w hS=>(.mo rfl)) rfl (.val (fun w hS=>(.sub (.of rfl) (.of rfl) ⟨by omega,by omega⟩)) rfl (.val (fun w hS=>(.io rfl rfl (by omega) (by omega) Xd Qs3)) rfl (.val (fun w hS=>.ldE I64 ats 0 r (.of rfl) hS (k:=3) rfl rfl Qg3 (by omega) (by omega)) rfl (.val (fun w hS=>(.ao rfl)) rfl (.val (fun w hS=>(.ao rfl)) rfl (.val (fun w hS=>(.ao rfl)) rfl (.nil ?_))))))))))));clear hS; intro w hS;refine .ret (X7j Xgj rfl rfl rfl ?_);have e9:cmp l=.error (23,ats.getD ((ats.length:Int) - 1).toNat 0):=by rw [← hq,show ((ats.length:Int) - 1).toNat=ats.length - 1 by omega,Y17 (by omega),X3w,if_pos (by omega)]
  exact ⟨_,rfl,.inl ⟨_,_,J,e9,rfl,hJ,((((hS.drop (k:=0) rfl).drop (k:=0) rfl).drop (k:=0) rfl).drop (k:=0) rfl).drop (k:=0) rfl⟩⟩
 have hc112:=hb112; try simp only [Y6] at hc112
 refine .skip (.seq (.t 1 rfl (.call X7v rfl (ec9 rfl (ec9 rfl (ec9 rfl X0))) rfl (X2p _ P.length _ _ _ _ _ _ _ _ _ _ hS (by omega)) ?_)));clear hS;rintro _ w ⟨rfl,lv2,hS⟩;refine .nil (.seq ?_);obtain ⟨a9,c9,rfl,hcap9,_⟩:=hS.vecSlice (k:=1) rfl;refine .t 2 rfl (.val (.fo 0 rfl X1x rfl rfl X6g rfl) rfl (.val (.lo rfl hS (k:=0) rfl X7t rfl) rfl (.run 2 rfl ⟨Qu9,trivial⟩ (.val (.build (cs:=[_,_]) (pc9 rfl (pc9 rfl X4)) Xip rfl) rfl (.boxA (cs:=[_,_]) hS (.of rfl) rfl ?_)))));clear hS; intro b130 w hS;refine .q 3 rfl (.nil (.ret (X7j Xgj rfl rfl rfl ?_)));have e9:cmp l=.ok (Q ++ [(7,0,[])]):=by rw [← hq,Y17 (by omega),X3w,if_neg (by omega)]
 obtain ⟨J2,hJ2,hrs,hS⟩:=hS.freezeVec (k:=2) rfl;obtain ⟨J3,hJ3,hb9,hS⟩:=hS.freeze (k:=0) rfl;refine ⟨_,rfl,.inr ⟨_,_,J3,e9,rfl,(hJ.trans hJ2).trans hJ3,⟨a9,c9,P ++ [(7,0,.slice none 0 0)],?_,?_,?_,?_⟩,(((hS.drop (k:=0) rfl).drop (k:=0) rfl).drop (k:=0) rfl).drop (k:=0) rfl⟩⟩
 ·refine ⟨rfl,_,_,_,hb9,fun j u hj=>?_⟩;rw [Y0] at hj;simpa using hj
 ·simpa using hcap9
 ·rw [Y0,Y1o]; exact hrs.mono hJ3
 ·exact ((hR.snoc _ _ _ _ (IntsI.nil _)).mono hJ2).mono hJ3
end Go.Proofs.YtfibbpgikjggfaaGreatDoor
namespace Pat
open Go Gk
def X7u (k:Int):Bool:=(((k == 2) || (k == 3)) || (k == 4)) || (k == 6)
def X6s (Q:List Pl):Nat→List Bool→Nat→List Bool
 | 0,set,_=>set
 | f+1,set,i=>bif set.getD i false then set else
   bif X7u (Q.getD i (7,0,[])).1 then X6s Q f ((Q.getD i (7,0,[])).2.2.foldl (fun s t=>X6s Q f s t.toNat) (set.set i true)) (i+1)
   else (Q.getD i (7,0,[])).2.2.foldl (fun s t=>X6s Q f s t.toNat) (set.set i true)
def X86 (s:List Bool):Nat:=s.countP (fun b=>!b)
def SubB (s t:List Bool):Prop:=s.length=t.length∧∀ i:Nat,s.getD i false=true→t.getD i false=true
theorem SubB.refl (s:List Bool):SubB s s:=⟨rfl,fun _ h=>h⟩
theorem SubB.trans {s t u:List Bool} (h:SubB s t) (k:SubB t u):SubB s u:=⟨h.1.trans k.1,fun i hi=>k.2 i (h.2 i hi)⟩
theorem SubB.set (s:List Bool) (i:Nat):SubB s (s.set i true):=by
 refine ⟨by simp,fun j hj=>?_⟩;rw [Yc] at hj ⊢;rw [Y27]
 by_cases e:i=j
 ·subst e;have hlt:i<s.length:=by
   apply Classical.byContradiction
   intro hn;rw [Y1u (by omega)] at hj;cases hj
  simp [hlt]
 ·simpa [e] using hj
theorem X6x:∀ {s t:List Bool},SubB s t→X86 t≤X86 s
 | [],[],_=>Yu _
 | [],_::_,h=>by cases h.1
 | _::_,[],h=>by cases h.1
 | a::s,b::t,h=>by
  have h1:SubB s t:=⟨by simpa using h.1,fun i hi=>by have:=h.2 (i+1) (by simpa using hi); simpa using this⟩
  have h2:=X6x h1;have h3:=h.2 0;unfold X86 at h2 ⊢;cases a <;> cases b <;> simp_all <;> omega
theorem Xal:∀ {s:List Bool} {i:Nat},i<s.length→s.getD i false=false→X86 (s.set i true)+1=X86 s
 | [],_,h,_=>by simp at h
 | a::s,0,_,h=>by simp at h; subst h; simp [X86]
 | a::s,i+1,h,h2=>by
  have:=Xal (s:=s) (i:=i) (by simpa using h) (by simpa using h2)
  unfold X86 at this ⊢;cases a <;> simp_all
theorem X5k (Q:List Pl):∀ (f:Nat) (s:List Bool) (i:Nat),SubB s (X6s Q f s i)
 | 0,s,_=>SubB.refl s
 | f+1,s,i=>by
  have fold:∀ (l:List Int) (s:List Bool),SubB s (l.foldl (fun s t=>X6s Q f s t.toNat) s):=by
   intro l
   induction l with
   | nil=>intro s; exact SubB.refl s
   | cons x l ih=>intro s; exact (X5k Q f s x.toNat).trans (ih _)
  rw [X6s];cases s.getD i false
  ·cases X7u (Q.getD i (7,0,[])).1
   ·exact (SubB.set s i).trans (fold _ _)
   ·exact ((SubB.set s i).trans (fold _ _)).trans (X5k Q f _ _)
  ·exact SubB.refl s
theorem Xid (Q:List Pl) (f:Nat):∀ (l:List Int) (s:List Bool),SubB s (l.foldl (fun s t=>X6s Q f s t.toNat) s)
 | [],s=>SubB.refl s
 | x::l,s=>(X5k Q f s x.toNat).trans (Xid Q f l _)
def WF (Q:List Pl):Prop:=∀ (i:Nat) (q:Pl),Q[i]?=some q→(∀ t∈q.2.2,0≤t∧t<(Q.length:Int))∧(X7u q.1=true→i+1<Q.length)∧(0≤q.1∧q.1≤7)∧(q.1≠7→i+1<Q.length)∧q.2.2.length≤Q.length
theorem Xng {α β:Type} (f:β→α→β) (b:β) (l:List α) (k:Nat) (d:α) (h:k<l.length):(l.take (k+1)).foldl f b=f ((l.take k).foldl f b) (l.getD k d):=by
 rw [Y3x h,Y34];simp [Yc,h]
theorem WF.at_ {Q:List Pl} (h:WF Q) {i:Nat} (hi:i<Q.length):(∀ t∈(Q.getD i (7,0,[])).2.2,0≤t∧t<(Q.length:Int))∧(X7u (Q.getD i (7,0,[])).1=true→i+1<Q.length)∧(0≤(Q.getD i (7,0,[])).1∧(Q.getD i (7,0,[])).1≤7)∧((Q.getD i (7,0,[])).1≠7→i+1<Q.length)∧(Q.getD i (7,0,[])).2.2.length≤Q.length:=by
 have e:Q[i]?=some (Q.getD i (7,0,[])):=by simp [Yc,hi]
 exact h i _ e
def X1j (k c:Int) (b:UInt8):Bool:=bif k == 0 then c == (b.toNat:Int) else bif (k == 1) || (k == 3) then (b.toNat:Int) != 47 else k == 2
def X3b (Q:List Pl) (F:Nat) (c:UInt8) (now:List Bool) (st:List Bool×Bool×Nat) (k:Nat):List Bool×Bool×Nat :=
 bif now.getD k false then
  bif X1j (Q.getD k (7,0,[])).1 (Q.getD k (7,0,[])).2.1 c then
   (X6s Q F st.1 (bif ((Q.getD k (7,0,[])).1 == 2) || ((Q.getD k (7,0,[])).1 == 3) then k else k+1),true,st.2.2+1)
  else (st.1,st.2.1,st.2.2+1)
 else st
def Xr6 (Q:List Pl) (F:Nat) (c:UInt8) (now:List Bool) (steps:Nat):List Bool×Bool×Nat:=iter (X3b Q F c now) (List.replicate Q.length false,false,steps) Q.length
def Xsv (Q:List Pl) (F:Nat):List UInt8→List Bool→Nat→List Bool×Nat
 | [],now,st=>(now,st)
 | c::r,now,st=>bif (Xr6 Q F c now st).2.1 then Xsv Q F r (Xr6 Q F c now st).1 (Xr6 Q F c now st).2.2 else ((Xr6 Q F c now st).1,(Xr6 Q F c now st).2.2)
def run (Q:List Pl) (l:List UInt8):List Bool×Nat:=Xsv Q (Q.length+1) l (X6s Q (Q.length+1) (List.replicate Q.length false) 0) 1
theorem Xg3 (Q:List Pl) (F:Nat) (c:UInt8) (now:List Bool) (st:List Bool×Bool×Nat) (k:Nat):st.2.2≤(X3b Q F c now st k).2.2∧(X3b Q F c now st k).2.2≤st.2.2+1:=by
 unfold X3b;cases now.getD k false <;> cases X1j (Q.getD k (7,0,[])).1 (Q.getD k (7,0,[])).2.1 c <;> simp
theorem Xm1 (Q:List Pl) (F:Nat) (c:UInt8) (now:List Bool) (st:List Bool×Bool×Nat) (k:Nat):(X3b Q F c now st k).1.length=st.1.length:=by
 unfold X3b;cases now.getD k false <;> cases X1j (Q.getD k (7,0,[])).1 (Q.getD k (7,0,[])).2.1 c <;> simp
 exact (X5k Q F _ _).1.symm
theorem X74 (Q:List Pl) (F:Nat) (c:UInt8) (now:List Bool) (st:List Bool×Bool×Nat):∀ k,(iter (X3b Q F c now) st k).1.length=st.1.length∧st.2.2≤(iter (X3b Q F c now) st k).2.2∧(iter (X3b Q F c now) st k).2.2≤st.2.2+k
 | 0=>⟨rfl,Yu _,Yu _⟩
 | k+1=>by
  have h:=X74 Q F c now st k;have h1:=Xg3 Q F c now (iter (X3b Q F c now) st k) k;have h2:=Xm1 Q F c now (iter (X3b Q F c now) st k) k;rw [iter];omega
theorem At.sub {I:Im} {p:Addr} {vs us:List Value} (h:At I p vs) (hu:∀ (j:Nat) (v:Value),us[j]?=some v→vs[j]?=some v):At I p us:=by
 obtain ⟨h1,arr,E,fr,h2,h3⟩:=h;exact ⟨h1,arr,E,fr,h2,fun j v hj=>h3 j v (hu j v hj)⟩
theorem At.place {I:Im} {la:Addr} {P:List X2e} {i:Nat} {x:X2e} (h:At I la (P.flatMap enc)) (hx:P[i]?=some x):At I (la.add (i*3)) [.int .u8 x.1,.int .u8 x.2.1,x.2.2]:=by
 refine At.sub (h.add (i*3)) fun j v hj=>?_
 have hl:j<3:=by have:=(Y5.1 hj).1; simpa using this
 rw [Y1e]
 have:=Xcq enc 3 X1h P [] i j x hx hl
 rw [Y9] at this;rw [this]; exact hj
theorem PatI.opened {I:Im} {p:Addr} {Q:List Pl} {n:Nat} (h:PatI I p Q n) (hQ:0<Q.length):∃ la c P,At I p [.slice (some la) Q.length c,I64 n]∧At I la (P.flatMap enc)∧RelP I P Q:=by
 obtain ⟨a,c,P,h1,h2,h3,h4⟩:=h;obtain ⟨la,rfl,h5⟩:=h3.2 (by rw [h4.1]; exact hQ);exact ⟨la,c,P,by rw [← h4.1]; exact h1,h5,h4⟩
theorem RelP.at_ {I:Im} {P:List X2e} {Q:List Pl} (h:RelP I P Q) {i:Nat} (hi:i<Q.length):∃ xa xc,P[i]?=some ((Q.getD i (7,0,[])).1,(Q.getD i (7,0,[])).2.1,.slice xa (Q.getD i (7,0,[])).2.2.length xc)∧∃ xp,0<(Q.getD i (7,0,[])).2.2.length→xa=some xp∧At I xp ((Q.getD i (7,0,[])).2.2.map I64):=by
 have e:Q[i]?=some (Q.getD i (7,0,[])):=by simp [Yc,hi]
 obtain ⟨⟨p1,p2,p3⟩,hp⟩:∃ p,P[i]?=some p:=⟨_,Y4 (by rw [h.1]; exact hi)⟩
 obtain ⟨a,b,_,xa,xc,h1,_,h2⟩:=h.2 i _ _ hp e;simp only at a b h1
 subst a; subst b; subst h1;refine ⟨xa,xc,hp,?_⟩
 by_cases h0:0<(Q.getD i (7,0,[])).2.2.length
 ·obtain ⟨xp,rfl,h3⟩:=h2.2 h0;exact ⟨xp,fun _=>⟨rfl,h3⟩⟩
 ·exact ⟨ad 0 0,fun h=>absurd h h0⟩
end Pat
namespace Go.Proofs.YtfibbpgikjggfaaGreatDoor
open Gk Pat
theorem getD_mem {l:List Int} {k:Nat} (h:k<l.length):l.getD k 0∈l:=by
 rw [Yc,Y4 h]; exact Y2t h
theorem Xad (l:List Bool):X86 l≤l.length:=Y45
set_option maxHeartbeats 800000 in
theorem Xgn (Q:List Pl) (p:Addr) (nn n:Nat) (hW:WF Q) (hn:Q.length=n) (hn2:n≤100000):∀ (f:Nat) (set:List Bool) (i:Int) (b c:Nat) (r:List Value) (B w:World) (I:Im) (As:List X7),
  Sat B w I (blk b (set.map Value.bool ++ r) 4::As)→PatI I p Q nn→set.length=n→0≤i→i<n→X86 set<f →
  Cz 201 [.pointer (some p),.slice (some (ad b 0)) n c,I64 i] w fun v w'=>v=.tuple #[]∧Sat B w' I (blk b ((X6s Q f set i.toNat).map Value.bool ++ r) 4::As):=by
 intro f
 induction f with
 | zero=>intros; omega
 | succ f ih =>
  intro set i b c r B w I As hS hp hset hi0 hi1 hf;refine calls Xjf rfl Tryz.ntmps201 rfl (.seq (.seq (.t 2 rfl (.val (.io rfl rfl (by omega) (by omega) X30 Qs4) rfl (.val (.ldE .bool set false r (.of rfl) hS (k:=0) rfl rfl Qg4 (by omega) (by omega)) rfl (.nil ?_))))));refine .cond rfl (fun hb12=>?_) fun hb12=>?_
  ·refine .ret (ret0 Xuh ?_);exact ⟨_,rfl,rfl,by rw [X6s,hb12]; exact hS⟩
  have hc12:=hb12; try simp only [Y6] at hc12
  refine .skip (.seq (.t 2 rfl (.val (.io rfl rfl (by omega) (by omega) X30 Qs4) rfl (.stE .bool set r (u:=true) hS (k:=0) rfl (.of rfl) (.of rfl) rfl rfl Qs4 (by omega) (by omega) ?_))));clear hS; intro w hS; dsimp only [List.set] at hS;refine .nil (.seq ?_);obtain ⟨la,lc,P,hpA,hlA,hR⟩:=hp.opened (by omega);obtain ⟨xa,xc,hx,xp,hxp⟩:=hR.at_ (i:=i.toNat) (by omega);have hus:=Xal (s:=set) (i:=i.toNat) (by omega) hb12;have hto:=(hW.at_ (i:=i.toNat) (by omega)).2.2.2.2;refine .t 2 rfl (.val (.fi 0 rfl Xfz rfl rfl X6g rfl) rfl (.val (.ldI (.of rfl) hS hpA X7t rfl) rfl (.q 1 rfl (.val (.ii rfl rfl (by omega) (by omega) X84 Xam) rfl (.val (.ldsI (us:=[_,_,_]) (.of rfl) hS (Pat.At.place hlA hx) Tryz.isAgg238 Xam rfl (fun _ _ h=>h)) rfl (.allocA (cs:=[_,_,_]) hS Xq5 rfl ?_))))));clear hS; intro b6 w hS;refine .so hS (k:=0) rfl rfl rfl rfl Xam rfl (by simp) ?_;clear hS; intro w hS;refine .nil (.seq (.seq (.region (.val (.fo 2 rfl X6l rfl rfl X15 rfl) rfl (.val (.lo rfl hS (k:=0) rfl X38 rfl) rfl (.run 2 rfl ⟨⟨_,Xd⟩,trivial⟩ (.nil (.block (.loop (σ:=Nat) (fun k=>[(0,.pointer (some p)),(1,.slice (some (ad b 0)) n c),(2,I64 i),(6,ptr b6 0),(24,.slice xa (Q.getD i.toNat (7,0,[])).2.2.length xc),(25,I64 (Q.getD i.toNat (7,0,[])).2.2.length),(26,I64 (k:Nat))]) (fun k w=>k≤(Q.getD i.toNat (7,0,[])).2.2.length∧Sat B w I (blk b6 [.int .u8 (Q.getD i.toNat (7,0,[])).1,.int .u8 (Q.getD i.toNat (7,0,[])).2.1,.slice xa (Q.getD i.toNat (7,0,[])).2.2.length xc] 238::blk b ((((Q.getD i.toNat (7,0,[])).2.2.take k).foldl (fun s t=>X6s Q f s t.toNat) (set.set i.toNat true)).map Value.bool ++ r) 4::As)) (fun k=>(Q.getD i.toNat (7,0,[])).2.2.length - k) 0 ⟨rfl,rfl,rfl,rfl,rfl,rfl,rfl,trivial⟩ ⟨Yo _,hS⟩ ?_)))))))));rintro k w ⟨hk,hS⟩;have hsub:=Xid Q f ((Q.getD i.toNat (7,0,[])).2.2.take k) (set.set i.toNat true);obtain ⟨S1,hS1⟩:∃ S1,S1=((Q.getD i.toNat (7,0,[])).2.2.take k).foldl (fun s t=>X6s Q f s t.toNat) (set.set i.toNat true):=⟨_,rfl⟩
  rw [← hS1] at hS hsub;refine .seq (.q 1 rfl (.seq ?_));refine .cond rfl (fun hb27=>?_) fun hb27=>?_
  ·have hc27:=hb27; try simp only [Y6] at hc27
   refine .skip (.seq (.block (.seq ?_)));obtain ⟨hxp1,hxA⟩:=hxp (by omega);rw [hxp1] at hS ⊢;refine .region (.val (.ii rfl rfl (by omega) (by omega) Xd Qs3) rfl (.val (.ldEI I64 (Q.getD i.toNat (7,0,[])).2.2 0 (.of rfl) hS hxA rfl Qg3 (by omega) (by omega)) rfl (.q 1 rfl (.nil (.t 3 rfl ?_)))));replace hS:=hS.pick 1 rfl;have ht:=(hW.at_ (i:=i.toNat) (by omega)).1 ((Q.getD i.toNat (7,0,[])).2.2.getD k 0) (getD_mem (by omega));refine .call Xjf rfl (ec9 rfl (ec9 rfl (ec9 rfl X0))) rfl (ih S1 ((Q.getD i.toNat (7,0,[])).2.2.getD k 0) b c r B w I _ hS hp (by have:=hsub.1; simp at this; omega) ht.1 (by omega) (by have:=X6x hsub; omega)) ?_;clear hS;rintro _ w ⟨rfl,hS⟩;replace hS:=hS.pick 1 rfl;refine .nil (.region (.run 2 rfl ⟨⟨by omega,by omega⟩,trivial⟩ (.nil ?_)));refine ⟨k+1,⟨rfl,rfl,rfl,rfl,rfl,rfl,rfl,trivial⟩,⟨by omega,?_⟩,by omega⟩;rw [Xng _ _ _ _ 0 (by omega),← hS1]; exact hS
  have hc27:=hb27; try simp only [Y6] at hc27
  refine .exit (.seq (.region (.val (.fo 0 rfl X6l rfl rfl Qs5 rfl) rfl (.val (.lo rfl hS (k:=0) rfl Qg5 rfl) rfl (.q 2 rfl (.gval rfl rfl (fun hg1=>(.fo 0 rfl X6l rfl rfl Qs5 rfl)) rfl (.gval rfl rfl (fun hg1=>(.ld (.gd hg1 rfl) hS (k:=0) rfl Qg5 rfl)) rfl (.gval rfl rfl (fun hg1=>(.eql (.gd hg1 rfl) (.of rfl))) rfl (.val (.po rfl rfl rfl) rfl (.q 1 rfl (.gval rfl rfl (fun hg1=>(.fo 0 rfl X6l rfl rfl Qs5 rfl)) rfl (.gval rfl rfl (fun hg1=>(.ld (.gd hg1 rfl) hS (k:=0) rfl Qg5 rfl)) rfl (.gval rfl rfl (fun hg1=>(.eql (.gd hg1 rfl) (.of rfl))) rfl (.val (.po rfl rfl rfl) rfl (.q 1 rfl (.gval rfl rfl (fun hg1=>(.fo 0 rfl X6l rfl rfl Qs5 rfl)) rfl (.gval rfl rfl (fun hg1=>(.ld (.gd hg1 rfl) hS (k:=0) rfl Qg5 rfl)) rfl (.gval rfl rfl (fun hg1=>(.eql (.gd hg1 rfl) (.of rfl))) rfl (.val (.po rfl rfl rfl) rfl (.nil ?_))))))))))))))))))));refine .cond rfl (fun hb52=>?_) fun hb52=>?_
  ·have hc52:=hb52; try simp only [Y6] at hc52
   refine .region (.run 4 rfl ⟨⟨by omega,by omega⟩,trivial⟩ ?_);replace hS:=hS.drop (k:=0) rfl;rw [Yz (by omega)] at hS1;have hsk:X7u (Q.getD i.toNat (7,0,[])).1=true:=hb52;have hnx:=(hW.at_ (i:=i.toNat) (by omega)).2.1 hsk;refine .call Xjf rfl (ec9 rfl (ec9 rfl (ec9 rfl X0))) rfl (ih S1 (i+1) b c r B w I _ hS hp (by have:=hsub.1; simp at this; omega) (by omega) (by omega) (by have:=X6x hsub; omega)) ?_;clear hS;rintro _ w ⟨rfl,hS⟩;refine .nil (X7n Xuh ?_);refine ⟨_,rfl,rfl,?_⟩;rw [X6s,hc12,hsk]; simp only [cond_true,cond_false]; rw [← hS1]; rw [show (i+1).toNat=i.toNat+1 by omega] at hS; exact hS
  have hc52:=hb52; try simp only [Y6] at hc52
  refine .skip (X7n Xuh ?_);have hsk:X7u (Q.getD i.toNat (7,0,[])).1=false:=hb52;replace hS:=hS.drop (k:=0) rfl;rw [Yz (by omega)] at hS1;refine ⟨_,rfl,rfl,?_⟩;rw [X6s,hc12,hsk]; simp only [cond_true,cond_false]; rw [← hS1]; exact hS
theorem Xpf (k c:Int) (b:UInt8) (v:Value) (B w:World) (I:Im) (As:List X7) (hS:Sat B w I As) :
  Cz 202 [.agg [.int .u8 k,.int .u8 c,v].toArray,U8 b.toNat] w fun v w'=>v=.bool (X1j k c b)∧Sat B w' I As:=by
 refine calls Tryz.func202 rfl Tryz.ntmps202 rfl (.seq (.region (.boxA (cs:=[_,_,_]) hS (.of rfl) rfl ?_)));intro b2 w hS;refine .q 1 rfl (.nil (.seq (.seq (.region (.val (.fo 0 rfl X6l rfl rfl Qs5 rfl) rfl (.val (.lo rfl hS (k:=0) rfl Qg5 rfl) rfl (.nil (.block (.seq (.q 2 rfl ?_))))))))));refine .cond rfl (fun hb7=>?_) fun hb7=>?_
 ·refine .seq (.region (.val (.fo 1 rfl X6l rfl rfl Qs5 rfl) rfl (.val (.lo rfl hS (k:=0) rfl Qg5 rfl) rfl (.q 3 rfl (.nil (.ret (X9 Xn9 rfl ?_)))))));exact ⟨_,rfl,by rw [X1j,hb7]; rfl,hS.drop (k:=0) rfl⟩
 refine .seq (.seq (.q 2 rfl ?_));refine .cond rfl (fun hb13=>?_) fun hb13=>?_
 ·refine .skip (.cond rfl (fun hb13=>?_) fun hb13=>?_)
  ·refine .seq (.q 3 rfl (.ret (X9 Xn9 rfl ?_)));exact ⟨_,rfl,by rw [X1j,hb7,hb13]; rfl,hS.drop (k:=0) rfl⟩
  refine .skip (.seq (.region (.val (.fo 0 rfl X6l rfl rfl Qs5 rfl) rfl (.val (.lo rfl hS (k:=0) rfl Qg5 rfl) rfl (.q 2 rfl (.nil (.ret (X9 Xn9 rfl ?_))))))));exfalso; simp_all
 refine .q 2 rfl (.cond rfl (fun hb13=>?_) fun hb13=>?_)
 ·refine .seq (.q 3 rfl (.ret (X9 Xn9 rfl ?_)));exact ⟨_,rfl,by rw [X1j,hb7,show (k == 1)=false by assumption,hb13]; rfl,hS.drop (k:=0) rfl⟩
 refine .skip (.seq (.region (.val (.fo 0 rfl X6l rfl rfl Qs5 rfl) rfl (.val (.lo rfl hS (k:=0) rfl Qg5 rfl) rfl (.q 2 rfl (.nil (.ret (X9 Xn9 rfl ?_))))))));exact ⟨_,rfl,by rw [X1j,hb7,show (k == 1)=false by assumption,hb13]; rfl,hS.drop (k:=0) rfl⟩
set_option maxHeartbeats 1600000 in
theorem Xt0 (Q:List Pl) (p:Addr) (nn:Nat) (s:List UInt8) (hW:WF Q) (hQ:0<Q.length) (hn2:Q.length≤1000) (hnn:nn≤1000) (hs:s.length≤1000000) (B w:World) (I:Im) (As:List X7) (hS:Sat B w I As) (hp:PatI I p Q nn) :
  Cz 156 [.pointer (some p),S s] w fun v w'=>v=.tuple #[.bool ((Pat.run Q s).1.getD (Q.length - 1) false),I64 (min ((Pat.run Q s).2:Int) (((nn:Int)+1)*((s.length:Int)+1)))]∧Sat B w' I As:=by
 refine calls Tryz.func156 rfl Tryz.ntmps156 rfl (.seq (.q 2 rfl (.scope (.seq ?_))));obtain ⟨la,lc,P,hpA,hlA,hR⟩:=hp.opened (by omega);refine .t 2 rfl (.val (.fi 0 rfl Xfz rfl rfl X6g rfl) rfl (.val (.ldI (.of rfl) hS hpA X7t rfl) rfl (.run 1 rfl ⟨⟨_,X84⟩,trivial⟩ ?_)));refine .make (l:=Q.length) hS (.of rfl) (.of rfl) X30 X3q rfl (by simp [Tryz.t4] <;> omega) (by omega) rfl rfl rfl ?_;intro b19 w hS;refine .q 2 rfl (.nil (.seq (.t 2 rfl ?_)));have hun:=Xad (List.replicate Q.length false);rw [Y1z] at hun;replace hS:Sat B w I (blk b19 ((List.replicate Q.length false).map Value.bool ++ []) 4::As):=by rw [Y2y,Y9]; exact hS
 refine .call Xjf rfl (ec9 rfl (ec9 rfl (ec9 rfl X0))) rfl (Xgn Q p nn Q.length hW rfl (by omega) (Q.length+1) (List.replicate Q.length false) 0 b19 _ [] B w I As hS hp (by simp) (by omega) (by omega) (by omega)) ?_;rintro _ w ⟨rfl,hS⟩;refine .nil (.seq (.label ?_));refine .cutS (σ:=List Bool×Nat×Nat) (fun ⟨now,steps,bn⟩=>[(0,.pointer (some p)),(1,S s),(6,.slice (some (ad bn 0)) Q.length Q.length),(7,I64 (steps:Nat))]) (fun ⟨now,steps,bn⟩ w=>now.length=Q.length∧(now,steps)=Pat.run Q s∧Sat B w I (blk bn (now.map Value.bool ++ []) 4::As)) ?_ ?_
 ·refine .seq (.region (.run 3 rfl ⟨Qu9,trivial⟩ (.nil (.block ?_))));refine .loop (σ:=List Bool×Nat×Nat×Nat) (fun ⟨now,steps0,bn,i⟩=>[(0,.pointer (some p)),(1,S s),(6,.slice (some (ad bn 0)) Q.length Q.length),(7,I64 (steps0:Nat)),(24,I64 s.length),(25,I64 (i:Nat))]) (fun ⟨now,steps0,bn,i⟩ w=>i≤s.length∧now.length=Q.length∧steps0≤1+i*1000∧Xsv Q (Q.length+1) (s.drop i) now steps0=Pat.run Q s∧Sat B w I (blk bn (now.map Value.bool ++ []) 4::As)) (fun ⟨now,steps0,bn,i⟩=>s.length - i) (X6s Q (Q.length+1) (List.replicate Q.length false) 0,1,b19,0) ⟨rfl,rfl,rfl,rfl,rfl,rfl,trivial⟩ ⟨Yo _,by rw [← (X5k Q _ _ _).1]; simp,by omega,rfl,hS⟩ ?_;rintro ⟨now,steps0,bn,i⟩ w ⟨hi,hnow,hsteps,hrun,hS⟩;have hit0:=X74 Q (Q.length+1) (at_ s (i:Int)) now (List.replicate Q.length false,false,steps0);refine .seq (.q 1 rfl (.seq ?_));refine .cond rfl (fun hb26=>?_) fun hb26=>?_
  ·have hc26:=hb26; simp only [Y6] at hc26;refine .skip (.seq (.block (.seq (.q 2 rfl (.seq (.t 2 rfl (.val (.fi 0 rfl Xfz rfl rfl X6g rfl) rfl (.val (.ldI (.of rfl) hS hpA X7t rfl) rfl (.run 1 rfl ⟨⟨_,X84⟩,trivial⟩ ?_)))))))));refine .make (l:=Q.length) hS (.of rfl) (.of rfl) X30 X3q rfl (by simp [Tryz.t4] <;> omega) (by omega) rfl rfl rfl ?_;intro b33 w hS;refine .q 2 rfl (.nil (.seq (.seq (.region (.run 3 rfl ⟨⟨_,X30⟩,trivial⟩ (.nil (.block ?_)))))));refine .loop (σ:=List Bool×Bool×Nat×Nat) (fun ⟨next,any,steps,k⟩=>[(0,.pointer (some p)),(1,S s),(7,I64 (steps:Nat)),(8,I64 (i:Nat)),(9,.slice (some (ad b33 0)) Q.length Q.length),(10,.bool any),(24,I64 s.length),(25,I64 (i:Nat)),(34,.slice (some (ad bn 0)) Q.length Q.length),(35,I64 Q.length),(36,I64 (k:Nat))]) (fun ⟨next,any,steps,k⟩ w=>k≤Q.length∧iter (X3b Q (Q.length+1) (at_ s (i:Int)) now) (List.replicate Q.length false,false,steps0) k=(next,any,steps)∧Sat B w I (blk b33 (next.map Value.bool ++ []) 4::blk bn (now.map Value.bool ++ []) 4::As)) (fun ⟨next,any,steps,k⟩=>Q.length - k) (List.replicate Q.length false,false,steps0,0) ⟨rfl,rfl,rfl,rfl,rfl,rfl,rfl,rfl,rfl,rfl,rfl,trivial⟩ ⟨Yo _,rfl,by rw [Y2y,Y9]; exact hS⟩ ?_;rintro ⟨next,any,steps,k⟩ w ⟨hk,hit,hS⟩;have hit1:=hit0 k;rw [hit] at hit1; simp only [Y1z] at hit1;refine .seq (.q 1 rfl (.seq ?_));refine .cond rfl (fun hb37=>?_) fun hb37=>?_
   ·have hc37:=hb37; simp only [Y6] at hc37;refine .skip (.seq (.block (.seq (.t 1 rfl (.val (.io rfl rfl (by omega) (by omega) X30 Qs4) rfl (.val (.ldE .bool now false [] (.of rfl) hS (k:=1) rfl rfl Qg4 (by omega) (by omega)) rfl (.q 2 rfl (.nil (.seq (.seq (.q 2 rfl ?_)))))))))));refine .cond rfl (fun hb42=>?_) fun hb42=>?_
    ·have hc42:=hb42; simp only [Y6] at hc42;refine .exit (.region (.run 2 rfl ⟨⟨by omega,by omega⟩,trivial⟩ (.nil ?_)));have hb42x:now.getD k false=false:=by simpa using hb42
     have e9:X3b Q (Q.length+1) (at_ s (i:Int)) now (next,any,steps) k=(next,any,steps):=by rw [X3b,hb42x]; rfl
     refine ⟨(next,any,steps,k+1),⟨rfl,rfl,rfl,rfl,rfl,rfl,rfl,rfl,rfl,rfl,rfl,trivial⟩,⟨by omega,by rw [iter,hit,e9],hS⟩,by dsimp only; omega⟩
    have hc42:=hb42; simp only [Y6] at hc42;refine .skip (.seq (.region (.run 3 rfl ⟨⟨by omega,by omega⟩,trivial⟩ (.nil (.seq ?_)))));have hnk:now.getD k false=true:=by simpa using hb42
    obtain ⟨xa,xc,hx,_⟩:=hR.at_ (i:=k) (by omega);refine .t 2 rfl (.val (.fi 0 rfl Xfz rfl rfl X6g rfl) rfl (.val (.ldI (.of rfl) hS hpA X7t rfl) rfl (.q 1 rfl (.val (.ii rfl rfl (by omega) (by omega) X84 Xam) rfl (.val (.ldsI (us:=[_,_,_]) (.of rfl) hS (Pat.At.place hlA hx) Tryz.isAgg238 Xam rfl (fun _ _ h=>h)) rfl (.allocA (cs:=[_,_,_]) hS Xq5 rfl ?_))))));intro b13 w hS;refine .so hS (k:=0) rfl rfl rfl rfl Xam rfl (by simp) ?_;intro w hS;refine .nil (.seq (.seq (.quiet (by kernel_rfl) (by kernel_rfl) hS (.val (fun w hS=>.lds (vs:=[.int .u8 (Q.getD k (7,0,[])).1,.int .u8 (Q.getD k (7,0,[])).2.1,.slice xa (Q.getD k (7,0,[])).2.2.length xc]) (.of rfl) hS (k:=0) rfl Tryz.isAgg238 Xam rfl (fun j v h=>by simpa using h)) rfl (.val (fun w hS=>(.mo rfl)) rfl (.val (fun w hS=>(.mo rfl)) rfl (.val (fun w hS=>(.index (.of rfl) (.of rfl) (by omega) (by omega) Qu9)) rfl (.call Tryz.func202 rfl (ec9 rfl (ec9 rfl X0)) rfl (fun w hS=>Xpf _ _ _ _ _ _ _ _ hS) (.val (fun w hS=>(.not (.of rfl))) rfl (.nil ?_))))))))));intro w hS;refine .cond rfl (fun hb57=>?_) fun hb57=>?_
    ·have hc57:=hb57; simp only [Y6] at hc57;refine .exit (.region (.run 2 rfl ⟨⟨by omega,by omega⟩,trivial⟩ (.nil ?_)));have hnk:now.getD k false=true:=by simpa using hb42
     have hfk:X1j (Q.getD k (7,0,[])).1 (Q.getD k (7,0,[])).2.1 (at_ s (i:Int))=false:=by simpa using hb57
     replace hS:=hS.drop (k:=0) rfl;have e9:X3b Q (Q.length+1) (at_ s (i:Int)) now (next,any,steps) k=(next,any,steps+1):=by rw [X3b,hnk,hfk]; rfl
     refine ⟨(next,any,steps+1,k+1),⟨rfl,rfl,rfl,rfl,rfl,rfl,rfl,rfl,rfl,rfl,rfl,trivial⟩,⟨by omega,by rw [iter,hit,e9],hS⟩,by dsimp only; omega⟩
    have hc57:=hb57; simp only [Y6] at hc57;refine .skip (.seq (.q 1 rfl (.seq (.region (.val (.fo 0 rfl X6l rfl rfl Qs5 rfl) rfl (.val (.lo rfl hS (k:=0) rfl Qg5 rfl) rfl (.q 2 rfl (.gval rfl rfl (fun hg1=>(.fo 0 rfl X6l rfl rfl Qs5 rfl)) rfl (.gval rfl rfl (fun hg1=>(.ld (.gd hg1 rfl) hS (k:=0) rfl Qg5 rfl)) rfl (.gval rfl rfl (fun hg1=>(.eql (.gd hg1 rfl) (.of rfl))) rfl (.val (.po rfl rfl rfl) rfl (.nil ?_))))))))))));refine .cond rfl (fun hb65=>?_) fun hb65=>?_
    ·have hc65:=hb65; simp only [Y6] at hc65;refine .t 3 rfl ?_;have hfk:X1j (Q.getD k (7,0,[])).1 (Q.getD k (7,0,[])).2.1 (at_ s (i:Int))=true:=by simpa using hb57
     replace hS:=hS.pick 1 rfl;have hun:=Xad next;refine .call Xjf rfl (ec9 rfl (ec9 rfl (ec9 rfl X0))) rfl (Xgn Q p nn Q.length hW rfl (by omega) (Q.length+1) next k b33 _ [] B w I _ hS hp (by omega) (by omega) (by omega) (by omega)) ?_;rintro _ w ⟨rfl,hS⟩;refine .nil (.region (.run 2 rfl ⟨⟨by omega,by omega⟩,trivial⟩ (.nil ?_)));have hst:((Q.getD k (7,0,[])).1 == 2 || (Q.getD k (7,0,[])).1 == 3)=true:=hb65;replace hS:=hS.drop (k:=1) rfl;have e9:X3b Q (Q.length+1) (at_ s (i:Int)) now (next,any,steps) k=(X6s Q (Q.length+1) next k,true,steps+1):=by rw [X3b,hnk,hfk,hst]; rfl
     refine ⟨(X6s Q (Q.length+1) next k,true,steps+1,k+1),⟨rfl,rfl,rfl,rfl,rfl,rfl,rfl,rfl,rfl,rfl,rfl,trivial⟩,⟨by omega,by rw [iter,hit,e9],hS⟩,by dsimp only; omega⟩
    have hc65:=hb65; simp only [Y6] at hc65;refine .region (.run 4 rfl ⟨⟨by omega,by omega⟩,trivial⟩ ?_);have hfk:X1j (Q.getD k (7,0,[])).1 (Q.getD k (7,0,[])).2.1 (at_ s (i:Int))=true:=by simpa using hb57
    have hk7:=(hW.at_ (i:=k) (by omega)).2.2.2.1 (fun e=>by rw [e,X1j] at hfk; simp at hfk);replace hS:=hS.pick 1 rfl;have hun:=Xad next;refine .call Xjf rfl (ec9 rfl (ec9 rfl (ec9 rfl X0))) rfl (Xgn Q p nn Q.length hW rfl (by omega) (Q.length+1) next (k+1) b33 _ [] B w I _ hS hp (by omega) (by omega) (by omega) (by omega)) ?_;rintro _ w ⟨rfl,hS⟩;refine .nil (.region (.run 2 rfl ⟨⟨by omega,by omega⟩,trivial⟩ (.nil ?_)));have hst:((Q.getD k (7,0,[])).1 == 2 || (Q.getD k (7,0,[])).1 == 3)=false:=hb65;replace hS:=hS.drop (k:=1) rfl;have e9:X3b Q (Q.length+1) (at_ s (i:Int)) now (next,any,steps) k=(X6s Q (Q.length+1) next (k+1),true,steps+1):=by rw [X3b,hnk,hfk,hst]; rfl
    refine ⟨(X6s Q (Q.length+1) next (k+1),true,steps+1,k+1),⟨rfl,rfl,rfl,rfl,rfl,rfl,rfl,rfl,rfl,rfl,rfl,trivial⟩,⟨by omega,by rw [iter,hit,e9],hS⟩,by dsimp only; omega⟩
   have hc37:=hb37; simp only [Y6] at hc37;refine .exit (.seq (.q 2 rfl (.seq (.q 2 rfl ?_))));refine .cond rfl (fun hb78=>?_) fun hb78=>?_
   ·have hc78:=hb78; simp only [Y6] at hc78;refine .exit ?_;have hkq:k=Q.length:=by omega
    subst hkq;have hB:Xr6 Q (Q.length+1) (at_ s (i:Int)) now steps0=(next,any,steps):=hit;replace hS:=hS.drop (k:=1) rfl;rw [X8 s (by omega),Xsv,hB] at hrun;rw [hc78] at hrun;exact ⟨(next,steps,b33),⟨rfl,rfl,rfl,rfl,trivial⟩,hit1.1,hrun,hS⟩
   have hc78:=hb78; simp only [Y6] at hc78;refine .skip (.region (.run 2 rfl ⟨⟨by omega,by omega⟩,trivial⟩ (.nil ?_)));have hkq:k=Q.length:=by omega
   subst hkq;have hB:Xr6 Q (Q.length+1) (at_ s (i:Int)) now steps0=(next,any,steps):=hit;replace hS:=hS.drop (k:=1) rfl;rw [X8 s (by omega),Xsv,hB] at hrun;have hany:any=true:=by simpa using hb78
   rw [hany] at hrun;exact ⟨(next,steps,b33,i+1),⟨rfl,rfl,rfl,rfl,rfl,rfl,trivial⟩,⟨by omega,hit1.1,by omega,hrun,hS⟩,by dsimp only; omega⟩
  have hc26:=hb26; simp only [Y6] at hc26;refine .exit ?_;rw [Y17 (by omega)] at hrun;exact ⟨(now,steps0,bn),⟨rfl,rfl,rfl,rfl,trivial⟩,hnow,hrun,hS⟩
 rintro ⟨now,steps,bn⟩ w ⟨hnow,hrun,hS⟩;refine .seq ?_;have hm1:((nn:Int)+1)*((s.length:Int)+1)≤1001*1000001:=Int.mul_le_mul (by omega) (by omega) (by omega) (by omega);have hm0:0≤((nn:Int)+1)*((s.length:Int)+1):=Int.mul_nonneg (by omega) (by omega);have hmul:Xr3 (((nn:Int)+1)*((s.length:Int)+1)):=⟨by omega,by omega⟩
 refine .quiet (by kernel_rfl) (by kernel_rfl) hS (.val (fun w hS=>(.mo rfl)) rfl (.val (fun w hS=>(.mo rfl)) rfl (.val (fun w hS=>(.no rfl)) rfl (.val (fun w hS=>(.fi 0 rfl Xfz rfl rfl X6g rfl)) rfl (.val (fun w hS=>.ldI (.of rfl) hS hpA X7t rfl) rfl (.val (fun w hS=>(.lenSlice (.of rfl) X84)) rfl (.val (fun w hS=>(.sub (.of rfl) (.of rfl) ⟨by omega,by omega⟩)) rfl (.val (fun w hS=>(.io rfl rfl (by omega) (by omega) X30 Qs4)) rfl (.val (fun w hS=>.ldE .bool now false [] (.of rfl) hS (k:=0) rfl rfl Qg4 (by omega) (by omega)) rfl (.val (fun w hS=>(.mo rfl)) rfl (.val (fun w hS=>(.mo rfl)) rfl (.val (fun w hS=>(.no rfl)) rfl (.val (fun w hS=>(.fi 1 rfl Xfz rfl rfl Qs3 rfl)) rfl (.val (fun w hS=>.ldI (.of rfl) hS (hpA.add 1) Qg3 rfl) rfl (.val (fun w hS=>(.add (.of rfl) (.of rfl) ⟨by omega,by omega⟩)) rfl (.val (fun w hS=>(.mo rfl)) rfl (.val (fun w hS=>(.len (.of rfl) Qu9)) rfl (.val (fun w hS=>(.add (.of rfl) (.of rfl) ⟨by omega,by omega⟩)) rfl (.val (fun w hS=>.mul (.of rfl) (.of rfl) hmul) rfl (.val (fun w hS=>(.min2 (.of rfl) (.of rfl))) rfl (.val (fun w hS=>(.ao rfl)) rfl (.val (fun w hS=>(.ao rfl)) rfl (.nil ?_)))))))))))))))))))))));intro w hS;refine .ret (X1e Tryz.results156 rfl rfl ?_);exact ⟨_,rfl,by rw [← hrun,show ((Q.length:Int) - 1).toNat=Q.length - 1 by omega],hS.drop (k:=0) rfl⟩
end Go.Proofs.YtfibbpgikjggfaaGreatDoor
namespace Pat
open Go Gk
inductive Pt
 | nil
 | lit (k c:Int) (r:Pt)
 | bar (r:Pt)
 | grp (b r:Pt)
namespace Pt
def len:Pt→Nat
 | nil=>0
 | lit _ _ r=>len r+1
 | bar r=>len r+1
 | grp b r=>len b+len r+2
def dep:Pt→Nat
 | nil=>0
 | lit _ _ r=>dep r
 | bar r=>dep r
 | grp b r=>max (dep b+1) (dep r)
def flat:Pt→Prop
 | nil=>True
 | lit _ _ r=>flat r
 | bar _=>False
 | grp _ r=>flat r
def app:Pt→Pt→Pt
 | nil,q=>q
 | lit k c r,q=>lit k c (app r q)
 | bar r,q=>bar (app r q)
 | grp b r,q=>grp b (app r q)
def tos:Pt→Nat→List Int
 | nil,_=>[]
 | lit _ _ r,n=>tos r (n+1)
 | bar r,n=>((n:Int)+1)::tos r (n+1)
 | grp b r,n=>tos r (n+2+len b)
def X51:Pt→Nat→List Nat
 | nil,_=>[]
 | lit _ _ r,n=>X51 r (n+1)
 | bar r,n=>n::X51 r (n+1)
 | grp b r,n=>X51 r (n+2+len b)
def pls (es:List Int):Pt→Nat→List Pl
 | nil,_=>[]
 | lit k c r,n=>(k,c,[])::pls es r (n+1)
 | bar r,n=>(5,0,es)::pls es r (n+1)
 | grp b r,n=>(4,0,tos b (n+1))::(pls [((n+1+len b:Nat):Int)] b (n+1) ++ (6,0,[])::pls es r (n+2+len b))
theorem X28:∀ (p:Pt) (es:List Int) (n:Nat),(pls es p n).length=p.len
 | nil,_,_=>rfl
 | lit _ _ r,es,n=>by simp [pls,len,X28 r]
 | bar r,es,n=>by simp [pls,len,X28 r]
 | grp b r,es,n=>by simp [pls,len,X28 b,X28 r]; omega
end Pt
open Pt
inductive Rep:List UInt8→Pt→Prop
 | nil:Rep [] .nil
 | one {l p}:Rep l p→Rep (63::l) (.lit 1 0 p)
 | all {l p}:Rep l p→Rep (42::42::l) (.lit 2 0 p)
 | few {l p}:l.head?≠some 42→Rep l p→Rep (42::l) (.lit 3 0 p)
 | grp {t l b p}:Rep t b→Rep l p→Rep (40::(t ++ 41::l)) (.grp b p)
 | bar {l p}:Rep l p→Rep (124::l) (.bar p)
 | esc {l p} (c:UInt8):Rep l p→Rep (92::c::l) (.lit 0 (c.toNat:Int) p)
 | byte {l p} (c:UInt8):c≠63→c≠42→c≠40→c≠124→c≠41→c≠92→Rep l p→Rep (c::l) (.lit 0 (c.toNat:Int) p)
theorem Rep.app {l m:List UInt8} {p q:Pt} (h:Rep l p) (k:Rep m q) (hs:l.getLast?=some 42→m.head?≠some 42):Rep (l ++ m) (p.app q):=by
 have sub:∀ {x:UInt8} {l:List UInt8},((x::l).getLast?=some 42→m.head?≠some 42)→l.getLast?=some 42→m.head?≠some 42:=by
  intro x l h1 h2;refine h1 ?_;cases l with
  | nil=>simp at h2
  | cons y l=>simpa using h2
 have suba:∀ {t l:List UInt8},((t ++ 41::l).getLast?=some 42→m.head?≠some 42)→l.getLast?=some 42→m.head?≠some 42:=by
  intro t l h1 h2;refine h1 ?_;rw [List.getLast?_append];cases l with
  | nil=>simp at h2
  | cons y l=>simp at h2 ⊢; simp [h2]
 induction h with
 | nil=>exact k
 | one _ ih=>exact .one (ih (sub hs))
 | all _ ih=>exact .all (ih (sub (sub hs)))
 | @few l p h1 _ ih =>
  refine .few ?_ (ih (sub hs));cases l with
  | nil=>exact hs rfl
  | cons y l=>exact h1
 | @grp t l b p hb _ _ ih =>
  have:=Rep.grp hb (ih (suba (sub hs)))
  simpa [Pt.app] using this
 | bar _ ih=>exact .bar (ih (sub hs))
 | esc c _ ih=>exact .esc c (ih (sub (sub hs)))
 | byte c h1 h2 h3 h4 h5 h6 _ ih=>exact .byte c h1 h2 h3 h4 h5 h6 (ih (sub hs))
def addm:List PFr→List Nat→List PFr
 | [],_=>[]
 | (o,bs)::r,ms=>(o,bs ++ ms)::r
theorem Xmz (o:Nat) (bs:List Nat) (r:List PFr) (ms:List Nat):addm ((o,bs)::r) ms=(o,bs ++ ms)::r:=rfl
theorem Xq4 (s:List PFr):addm s []=s:=by cases s <;> simp [addm]
theorem X47 {A B:List Pl} {o:Nat} (h:o<A.length) (xs:List Int):X10 (A ++ B) o xs=X10 A o xs ++ B:=by
 unfold X10;refine Y26 fun i=>?_
 rw [Y1p,Y2l,Y2l,List.length_modify,Y1p]
 by_cases e:o=i
 ·subst e; simp [h]
 ·simp [e]
theorem X9a (A:List Pl) (k c:Int) (d xs:List Int) (B:List Pl):X10 (A ++ (k,c,d)::B) A.length xs=A ++ (k,c,xs)::B:=by
 unfold X10;refine Y26 fun i=>?_
 rw [Y1p]
 by_cases e:A.length=i
 ·subst e; simp
 ·simp [e]
  rcases Yr i A.length with hi | hi
  ·rw [Yk hi,Yk hi]
  ·obtain ⟨j,rfl⟩:∃ j,i=A.length+(j+1):=⟨i - A.length - 1,by omega⟩
   rw [Yw (by omega),Yw (by omega)]
   simp
theorem Xg5 {A:List Pl} {o:Nat} {k c:Int} {d:List Int} (h:A[o]?=some (k,c,d)):X10 A o d=A:=by
 unfold X10;refine Y26 fun i=>?_
 rw [Y1p]
 by_cases e:o=i
 ·subst e; simp [h]
 ·simp [e]
theorem Xea (A:List Pl) (o:Nat) (x y:List Int):X10 (X10 A o x) o y=X10 A o y:=by
 unfold X10;refine Y26 fun i=>?_
 rw [Y1p,Y1p,Y1p]
 by_cases e:o=i
 ·subst e; simp [Y57,Function.comp_def]
 ·simp [e]
theorem X5l (A:List Pl) (o:Nat) (x:List Int):(X10 A o x).length=A.length:=by simp [X10]
theorem X41 (n o:Nat):∀ (p:Pt) (A:List Pl) (k c:Int) (d:List Int),A[o]?=some (k,c,d) →
  X1k n o (A ++ pls [] p A.length) d (X51 p A.length)=X10 A o (d ++ tos p A.length) ++ pls [(n:Int)] p A.length
 | .nil,A,k,c,d,h=>by simp [pls,X51,X1k,tos,Xg5 h]
 | .lit k' c' r,A,k,c,d,h=>by
  have ho:o<A.length:=(Y5.1 h).1;have ih:=X41 n o r (A ++ [(k',c',[])]) k c d (by rw [Yk ho]; exact h);rw [Y0,X47 ho] at ih;simpa [pls,X51,tos] using ih
 | .bar r,A,k,c,d,h=>by
  have ho:o<A.length:=(Y5.1 h).1;have ih:=X41 n o r (X10 A o (d ++ [(A.length:Int)+1]) ++ [(5,0,[(n:Int)])]) k c (d ++ [(A.length:Int)+1]) (by
   rw [Yk (by rw [X5l]; exact ho)]; simp [X10,h])
  rw [Y0,X5l,X47 (by rw [X5l]; exact ho),Xea] at ih;rw [X51,X1k,pls,X47 ho];have e:=X9a (X10 A o (d ++ [(A.length:Int)+1])) 5 0 [] [(n:Int)] (pls [] r (A.length+1));rw [X5l] at e;rw [e];simpa [pls,tos] using ih
 | .grp b r,A,k,c,d,h=>by
  have ho:o<A.length:=(Y5.1 h).1;have ih:=X41 n o r (A ++ ((4,0,tos b (A.length+1))::(pls [((A.length+1+len b:Nat):Int)] b (A.length+1) ++ [(6,0,[])]))) k c d (by rw [Yk ho]; exact h);have e:(A ++ ((4,0,tos b (A.length+1))::(pls [((A.length+1+len b:Nat):Int)] b (A.length+1) ++ [(6,0,[])]))).length=A.length+2+len b:=by
   simp [X28]; omega
  rw [e,X47 ho] at ih;simpa [pls,X51,tos] using ih
theorem hd_app {l rest:List UInt8} (h:l.head?≠some 42) (h2:l=[]→rest.head?≠some 42):(l ++ rest).head?≠some 42:=by
 cases l with
 | nil=>exact h2 rfl
 | cons y l=>exact h
theorem Xjk {l:List UInt8} (h:l.head?≠some 42) (i:Int) (Q:List Pl) (stk:List PFr) (ats:List Int):cmpGo (42::l) i Q stk ats=cmpGo l (i+1) (Q ++ [(3,0,[])]) stk ats:=by
 rw [Xf,if_neg (by decide),if_pos (by decide)];cases l with
 | nil=>rfl
 | cons d r =>
  have hd:¬ d.toNat=42:=fun e=>h (by rw [List.head?_cons]; exact congrArg _ (Y19.1 e))
  simp only [hd,if_false]
theorem X2k {c:UInt8} {n:UInt8} (h:c≠n):¬ c.toNat=n.toNat:=fun e=>h (Y19.1 e)
theorem X99 {l:List UInt8} {p:Pt} (h:Rep l p):∀ (rest:List UInt8) (i:Int) (Q:List Pl) (stk:List PFr) (ats:List Int),(l.getLast?=some 42→rest.head?≠some 42)→(p.flat∨stk≠[])→ats.length=stk.length→stk.length≤4 →
  (p.dep+stk.length≤4→cmpGo (l ++ rest) i Q stk ats=cmpGo rest (i+l.length) (Q ++ pls [] p Q.length) (addm stk (X51 p Q.length)) ats)∧(4<p.dep+stk.length→∀ X,cmpGo (l ++ rest) i Q stk ats≠.ok X):=by
 have sub:∀ {x:UInt8} {l rest:List UInt8},((x::l).getLast?=some 42→rest.head?≠some 42)→l.getLast?=some 42→rest.head?≠some 42:=by
  intro x l rest h1 h2;refine h1 ?_;cases l with
  | nil=>simp at h2
  | cons y l=>simpa using h2
 have suba:∀ {t l rest:List UInt8},((t ++ 41::l).getLast?=some 42→rest.head?≠some 42)→l.getLast?=some 42→rest.head?≠some 42:=by
  intro t l rest h1 h2;refine h1 ?_;rw [List.getLast?_append];cases l with
  | nil=>simp at h2
  | cons y l=>simp at h2 ⊢; simp [h2]
 induction h with
 | nil=>intro rest i Q stk ats _ _ _ h4; simp [pls,X51,Xq4,dep]; intro hh; omega
 | @one l p _ ih =>
  intro rest i Q stk ats hs hf ha h4
  have:=ih rest (i+1) (Q ++ [(1,0,[])]) stk ats (sub hs) hf ha h4
  rw [Ys,Xf,if_pos (show (63:UInt8).toNat=63 by decide)];simpa [pls,X51,dep,Int.add_assoc,Int.add_comm,Int.add_left_comm] using this
 | @all l p _ ih =>
  intro rest i Q stk ats hs hf ha h4
  have:=ih rest (i+2) (Q ++ [(2,0,[])]) stk ats (sub (sub hs)) hf ha h4
  rw [Ys,Xf,if_neg (show ¬ (42:UInt8).toNat=63 by decide),if_pos (show (42:UInt8).toNat=42 by decide)];simp only [Ys]
  rw [if_pos (show (42:UInt8).toNat=42 by decide)];rw [show i+((42::42::l).length:Nat)=i+2+(l.length:Int) by simp; omega];simpa [pls,X51,dep] using this
 | @few l p h1 _ ih =>
  intro rest i Q stk ats hs hf ha h4
  have:=ih rest (i+1) (Q ++ [(3,0,[])]) stk ats (sub hs) hf ha h4
  rw [Ys,Xjk (hd_app h1 fun e=>by subst e; exact hs rfl)];rw [show i+((42::l).length:Nat)=i+1+(l.length:Int) by simp; omega];simpa [pls,X51,dep] using this
 | @bar l p _ ih =>
  intro rest i Q stk ats hs hf ha h4;cases stk with
  | nil=>rcases hf with hf | hf; exact hf.elim; exact absurd rfl hf
  | cons f stk =>
   obtain ⟨o,bs⟩:=f
   have:=ih rest (i+1) (Q ++ [(5,0,[])]) ((o,bs ++ [Q.length])::stk) ats (sub hs) (.inr (by simp)) ha h4
   rw [Ys,Xf,if_neg (show ¬ (124:UInt8).toNat=63 by decide),if_neg (show ¬ (124:UInt8).toNat=42 by decide),if_neg (show ¬ (124:UInt8).toNat=40 by decide),if_pos (show (124:UInt8).toNat=124 by decide)];simp only []
   rw [show i+((124::l).length:Nat)=i+1+(l.length:Int) by simp; omega];simpa [pls,X51,dep,addm] using this
 | @esc l p c _ ih =>
  intro rest i Q stk ats hs hf ha h4
  have:=ih rest (i+2) (Q ++ [(0,(c.toNat:Int),[])]) stk ats (sub (sub hs)) hf ha h4
  rw [Ys,Xf,if_neg (show ¬ (92:UInt8).toNat=63 by decide),if_neg (show ¬ (92:UInt8).toNat=42 by decide),if_neg (show ¬ (92:UInt8).toNat=40 by decide),if_neg (show ¬ (92:UInt8).toNat=124 by decide),if_neg (show ¬ (92:UInt8).toNat=41 by decide),if_pos (show (92:UInt8).toNat=92 by decide)];simp only [Ys]
  rw [show i+((92::c::l).length:Nat)=i+2+(l.length:Int) by simp; omega];simpa [pls,X51,dep] using this
 | @byte l p c h1 h2 h3 h4' h5 h6 _ ih =>
  intro rest i Q stk ats hs hf ha h4
  have:=ih rest (i+1) (Q ++ [(0,(c.toNat:Int),[])]) stk ats (sub hs) hf ha h4
  rw [Ys,Xf,if_neg (show ¬ c.toNat=63 from X2k h1),if_neg (show ¬ c.toNat=42 from X2k h2),if_neg (show ¬ c.toNat=40 from X2k h3),if_neg (show ¬ c.toNat=124 from X2k h4'),if_neg (show ¬ c.toNat=41 from X2k h5),if_neg (show ¬ c.toNat=92 from X2k h6)];rw [show i+((c::l).length:Nat)=i+1+(l.length:Int) by simp; omega];simpa [pls,X51,dep] using this
 | @grp t l b p _ _ ihb ih =>
  intro rest i Q stk ats hs hf ha h4;rw [Ys,Yf,Ys,Xf,if_neg (show ¬ (40:UInt8).toNat=63 by decide),if_neg (show ¬ (40:UInt8).toNat=42 by decide),if_pos (show (40:UInt8).toNat=40 by decide)]
  by_cases h5:stk.length=4
  ·rw [if_pos h5];refine ⟨fun h=>?_,fun _ X h=>by cases h⟩;simp [dep] at h
   omega
  ·rw [if_neg h5];have h1:=ihb (41::(l ++ rest)) (i+1) (Q ++ [(4,0,[])]) ((Q.length,[])::stk) (ats ++ [i]) (fun _=>by simp) (.inr (by simp)) (by simp [ha]) (by simp; omega)
   by_cases h6:b.dep+(stk.length+1)≤4
   ·have h7:=h1.1 (by simpa using h6);rw [h7];have h8:=ih rest (i+1+t.length+1) (Q ++ ((4,0,tos b (Q.length+1))::(pls [((Q.length+1+len b:Nat):Int)] b (Q.length+1) ++ [(6,0,[])]))) stk ats (suba (sub hs)) hf ha h4;have hc:=X41 (Q.length+1+len b) Q.length b (Q ++ [(4,0,[])]) 4 0 [] (by simp);have hl:=X9a Q 4 0 [] (tos b (Q.length+1)) [];simp only [Y0,Y1h,Ye] at hc
    rw [hl] at hc;rw [Xf,if_neg (show ¬ (41:UInt8).toNat=63 by decide),if_neg (show ¬ (41:UInt8).toNat=42 by decide),if_neg (show ¬ (41:UInt8).toNat=40 by decide),if_neg (show ¬ (41:UInt8).toNat=124 by decide),if_pos (show (41:UInt8).toNat=41 by decide)];simp only [Xmz,Y0,Y1h,Ye,X28]
    rw [hc];have ht:(ats ++ [i]).take stk.length=ats:=by rw [← ha]; simp
    rw [ht];have e1:(Q ++ ((4,0,tos b (Q.length+1))::(pls [((Q.length+1+len b:Nat):Int)] b (Q.length+1) ++ [(6,0,[])]))).length=Q.length+2+len b:=by simp [X28]; omega
    rw [e1] at h8;have e2:i+((40::(t ++ 41::l)).length:Nat)=i+1+t.length+1+l.length:=by simp; omega
    rw [e2];have e3:4<(Pt.grp b p).dep+stk.length ↔ 4<p.dep+stk.length:=by simp [dep]; omega
    have e4:(Pt.grp b p).dep+stk.length≤4 ↔ p.dep+stk.length≤4:=by simp [dep]; omega
    rw [e3,e4];simpa [pls,X51] using h8
   ·refine ⟨fun h=>?_,fun _=>h1.2 (by simp; omega)⟩;simp [dep] at h
    omega
end Pat
namespace Pat
open Go Gk Pt
inductive Splits:Nat→List UInt8→Prop
 | last {l p}:Rep l p→p.flat→p.dep≤4→Splits 0 l
 | more {d t l p}:Rep t p→p.dep+(d+1)≤4→Splits d l→Splits (d+1) (t ++ 41::l)
theorem Splits.lit {d:Nat} {l pre:List UInt8} {k c:Int} (h:Splits d l) (hp:∀ {t p},(t.head?=some 42→l.head?=some 42)→Rep t p→Rep (pre ++ t) (.lit k c p)):Splits d (pre ++ l):=by
 cases h with
 | last h1 h2 h3=>exact .last (hp (fun h=>h) h1) h2 h3
 | @more d t l p h1 h2 h3 =>
  rw [← Yf];refine .more (hp ?_ h1) h2 h3;intro e;cases t with
  | nil=>simp at e
  | cons x t=>simpa using e
theorem Splits.grp {d:Nat} {t l:List UInt8} {b:Pt} (h:Splits d l) (h1:Rep t b) (h2:b.dep+(d+1)≤4):Splits d (40::(t ++ 41::l)):=by
 cases h with
 | @last _ p k1 k2 k3=>exact .last (.grp h1 k1) k2 (by simp [dep]; omega)
 | @more d t2 l2 p k1 k2 k3 =>
  have:=Splits.more (.grp h1 k1) (by simp [dep]; omega) k3
  simpa using this
theorem X65:∀ (n:Nat) (l:List UInt8) (i:Int) (Q:List Pl) (stk:List PFr) (ats:List Int) (X:List Pl),l.length≤n→ats.length=stk.length→stk.length≤4→cmpGo l i Q stk ats=.ok X→Splits stk.length l
 | n,[],i,Q,stk,ats,X,_,ha,h4,h=>by
  rw [X3w] at h;split at h
  ·cases h
  ·have e:stk.length=0:=by omega
   rw [e]; exact .last .nil trivial (by simp [dep])
 | 0,c::l,_,_,_,_,_,hn,_,_,_=>by simp at hn
 | n+1,c::l,i,Q,stk,ats,X,hn,ha,h4,h=>by
  have hn':l.length≤n:=by simpa using hn
  rw [Xf] at h;split at h
  ·rename_i e
   have e:c=63:=Y19.1 e;subst e;exact (X65 n l _ _ stk ats X hn' ha h4 h).lit (pre:=[63]) fun _ hr=>.one hr
  split at h
  ·rename_i e
   have e:c=42:=Y19.1 e;subst e;cases l with
   | nil=>exact (X65 n [] _ _ stk ats X hn' ha h4 h).lit (pre:=[42]) fun {t p} hd hr=>.few (fun e=>by have:=hd e; simp at this) hr
   | cons d r =>
    simp only at h
    split at h
    ·rename_i e2
     have e2:d=42:=Y19.1 e2;subst e2;exact (X65 n r _ _ stk ats X (by simp at hn'; omega) ha h4 h).lit (pre:=[42,42]) fun _ hr=>.all hr
    ·rename_i e2
     exact (X65 n (d::r) _ _ stk ats X hn' ha h4 h).lit (pre:=[42]) fun {t p} hd hr=>.few (fun e=>by have:=hd e; simp at this; subst this; exact e2 (by decide)) hr
  split at h
  ·rename_i e
   have e:c=40:=Y19.1 e;subst e;split at h
   ·cases h
   ·rename_i h5
    have hs:=X65 n l _ _ ((Q.length,[])::stk) (ats ++ [i]) X hn' (by simp [ha]) (by simp; omega) h;generalize hm:((Q.length,[])::stk:List PFr).length=m at hs;simp only [Y8] at hm
    cases hs with
    | last=>omega
    | @more d t l b h1 h2 h3 =>
     have hd:d=stk.length:=by omega
     subst hd;exact h3.grp h1 h2
  split at h
  ·rename_i e
   have e:c=124:=Y19.1 e;subst e;cases stk with
   | nil=>cases h
   | cons f stk =>
    obtain ⟨o,bs⟩:=f;have hs:=X65 n l _ _ ((o,bs ++ [Q.length])::stk) ats X hn' ha h4 h;cases hs with
    | more h1 h2 h3=>exact Splits.more (t:=124::_) (.bar h1) h2 h3
  split at h
  ·rename_i e
   have e:c=41:=Y19.1 e;subst e;cases stk with
   | nil=>cases h
   | cons f stk =>
    obtain ⟨o,bs⟩:=f;have hs:=X65 n l _ _ stk _ X hn' (by simp at ha; simp; omega) (by simp at h4; omega) h;exact Splits.more (t:=[]) .nil (by simp [dep] at *; omega) hs
  split at h
  ·rename_i e
   have e:c=92:=Y19.1 e;subst e;cases l with
   | nil=>cases h
   | cons d r=>exact (X65 n r _ _ stk ats X (by simp at hn'; omega) ha h4 h).lit (pre:=[92,d]) fun _ hr=>.esc d hr
  ·rename_i h1 h2 h3 h4' h5 h6
   have ne:∀ {n:UInt8},¬ c.toNat=n.toNat→c≠n:=fun h e=>h (by rw [e])
   exact (X65 n l _ _ stk ats X hn' ha h4 h).lit (pre:=[c]) fun _ hr=>.byte c (ne h1) (ne h2) (ne h3) (ne h4') (ne h5) (ne h6) hr
theorem Xlh {l:List UInt8} {Q:List Pl} (h:cmp l=.ok Q):l.length≤200∧∃ p,Rep l p∧p.flat∧p.dep≤4∧Q=pls [] p 0 ++ [(7,0,[])]:=by
 unfold cmp at h;split at h
 ·cases h
 ·rename_i hl
  refine ⟨by omega,?_⟩;have hs:=X65 l.length l 0 [] [] [] Q (Yu _) rfl (by simp) h;cases hs with
  | @last _ p h1 h2 h3 =>
   refine ⟨p,h1,h2,h3,?_⟩;have h5:=(X99 h1 [] 0 [] [] [] (fun _=>by simp) (.inl h2) rfl (by simp)).1 (by simpa using h3);rw [Y9,h,X3w] at h5;simpa using h5
theorem cmp_of {l:List UInt8} {p:Pt} (h:Rep l p) (hf:p.flat) (hl:l.length≤200) (hd:p.dep≤4):cmp l=.ok (pls [] p 0 ++ [(7,0,[])]):=by
 have h5:=(X99 h [] 0 [] [] [] (fun _=>by simp) (.inl hf) rfl (by simp)).1 (by simpa using hd);rw [cmp,if_neg (by omega)];rw [Y9,X3w] at h5;simpa using h5
theorem Xpt {l:List UInt8} {p:Pt} (h:Rep l p) (hf:p.flat) (hd:4<p.dep) (X:List Pl):cmp l≠.ok X:=by
 have h5:=(X99 h [] 0 [] [] [] (fun _=>by simp) (.inl hf) rfl (by simp)).2 (by simpa using hd) X;rw [Y9] at h5;unfold cmp;split
 ·intro e; cases e
 ·exact h5
theorem X1g:∀ (n:Nat) (l:List UInt8) (i:Int) (Q:List Pl) (stk:List PFr) (o:List Int),l.length≤n→o.length=stk.length →
  (∀ e,cmpGo l i Q stk o=.error e→chkGo l i o=e∧e.1≠0)∧(∀ X,cmpGo l i Q stk o=.ok X→chkGo l i o=(0,0))
 | n,[],i,Q,stk,o,_,ho=>by
  rw [X3w,X9e];split
  ·exact ⟨fun e h=>by injection h with h; subst h; exact ⟨rfl,by simp⟩,fun X h=>by cases h⟩
  ·exact ⟨fun e h=>(by cases h),fun X h=>rfl⟩
 | 0,c::l,_,_,_,_,hn,_=>by simp at hn
 | n+1,c::l,i,Q,stk,o,hn,ho=>by
  have hn':l.length≤n:=by simpa using hn
  rw [Xf,X1b]
  by_cases h63:c.toNat=63
  ·rw [if_pos h63,if_neg (by omega),if_neg (by omega),if_neg (by omega),if_neg (by omega)];exact X1g n l _ _ stk o hn' ho
  rw [if_neg h63]
  by_cases h42:c.toNat=42
  ·rw [if_pos h42,if_neg (by omega),if_neg (by omega),if_neg (by omega),if_neg (by omega)];cases l with
   | nil=>exact X1g n [] _ _ stk o hn' ho
   | cons d r =>
    simp only
    by_cases hd:d.toNat=42
    ·rw [if_pos hd,X1b,if_neg (by omega),if_neg (by omega),if_neg (by omega),if_neg (by omega),show i+1+1=i+2 by omega];exact X1g n r _ _ stk o (by simp at hn'; omega) ho
    ·rw [if_neg hd];exact X1g n (d::r) _ _ stk o hn' ho
  rw [if_neg h42]
  by_cases h40:c.toNat=40
  ·rw [if_pos h40,if_pos h40,← ho]
   by_cases h4:o.length=4
   ·rw [if_pos h4,if_pos h4];exact ⟨fun e h=>by injection h with h; subst h; exact ⟨rfl,by simp⟩,fun X h=>by cases h⟩
   ·rw [if_neg h4,if_neg h4];exact X1g n l _ _ _ (o ++ [i]) hn' (by simp [ho])
  rw [if_neg h40,if_neg h40]
  by_cases h124:c.toNat=124
  ·rw [if_pos h124,if_neg (by omega),if_pos h124];cases stk with
   | nil=>rw [if_pos (by simpa using ho)]; exact ⟨fun e h=>by injection h with h; subst h; exact ⟨rfl,by simp⟩,fun X h=>by cases h⟩
   | cons f stk =>
    rw [if_neg (by simp at ho; omega)];exact X1g n l _ _ _ o hn' ho
  rw [if_neg h124,if_neg h124]
  by_cases h41:c.toNat=41
  ·rw [if_pos h41,if_pos h41];cases stk with
   | nil=>rw [if_pos (by simpa using ho)]; exact ⟨fun e h=>by injection h with h; subst h; exact ⟨rfl,by simp⟩,fun X h=>by cases h⟩
   | cons f stk =>
    obtain ⟨fo,fb⟩:=f;simp only [Y8] at ho ⊢
    rw [if_neg (by omega),show stk.length=o.length - 1 by omega];exact X1g n l _ _ _ _ hn' (by simp; omega)
  rw [if_neg h41,if_neg h41]
  by_cases h92:c.toNat=92
  ·rw [if_pos h92,if_pos h92];cases l with
   | nil=>exact ⟨fun e h=>by injection h with h; subst h; exact ⟨rfl,by simp⟩,fun X h=>by cases h⟩
   | cons d r=>exact X1g n r _ _ stk o (by simp at hn'; omega) ho
  rw [if_neg h92,if_neg h92];exact X1g n l _ _ stk o hn' ho
def Succ (Q:List Pl) (i j:Nat):Prop:=(X7u (Q.getD i (7,0,[])).1=true∧j=i+1)∨(∃ t∈(Q.getD i (7,0,[])).2.2,j=t.toNat)
inductive Xd3 (Q:List Pl):Nat→Nat→Prop
 | refl (i:Nat):Xd3 Q i i
 | step {i j k:Nat}:Succ Q i j→Xd3 Q j k→Xd3 Q i k
def Cl (Q:List Pl) (a b:List Bool):Prop:=SubB a b∧∀ x,b.getD x false=true→a.getD x false=false→∀ y,Succ Q x y→b.getD y false=true
theorem Cl.refl (Q:List Pl) (a:List Bool):Cl Q a a:=⟨SubB.refl a,fun x h k=>by rw [h] at k; cases k⟩
theorem Cl.trans {Q:List Pl} {a b c:List Bool} (h:Cl Q a b) (k:Cl Q b c):Cl Q a c:=by
 refine ⟨h.1.trans k.1,fun x hx hn y hy=>?_⟩;cases hb:b.getD x false with
 | true=>exact k.1.2 y (h.2 x hb hn y hy)
 | false=>exact k.2 x hx hb y hy
theorem getD_set_true (s:List Bool) (i x:Nat):(s.set i true).getD x false=true→s.getD x false=true∨x=i:=by
 intro h
 by_cases e:x=i
 ·exact .inr e
 ·left
  rw [Yc,Y27] at h;rw [Yc]
  have:¬ i=x:=fun h=>e h.symm
  simpa [this] using h
theorem X7h {s:List Bool} {i:Nat} (h:i<s.length):(s.set i true).getD i false=true:=by
 rw [Yc,Y27]; simp [h]
theorem Xd1 {Q:List Pl} (hW:WF Q):∀ (f:Nat) (set:List Bool) (i:Nat),set.length=Q.length→i<Q.length→X86 set<f→Cl Q set (X6s Q f set i)∧(X6s Q f set i).getD i false=true
 | 0,_,_,_,_,h=>by omega
 | f+1,set,i,hl,hi,hf=>by
  have fold:∀ (l:List Int) (s:List Bool),s.length=Q.length→X86 s<f→(∀ t∈l,0≤t∧t<(Q.length:Int))→Cl Q s (l.foldl (fun s t=>X6s Q f s t.toNat) s)∧∀ t∈l,(l.foldl (fun s t=>X6s Q f s t.toNat) s).getD t.toNat false=true:=by
   intro l
   induction l with
   | nil=>intro s _ _ _; exact ⟨Cl.refl Q s,by simp⟩
   | cons t l ih =>
    intro s h1 h2 h3;have ht:=h3 t (by simp);have h4:=Xd1 hW f s t.toNat h1 (by omega) h2;have hsub:=X5k Q f s t.toNat;have h5:=ih (X6s Q f s t.toNat) (by rw [← hsub.1]; exact h1) (by have:=X6x hsub; omega) (fun u hu=>h3 u (by simp [hu]));refine ⟨h4.1.trans h5.1,fun u hu=>?_⟩;rcases Y18.1 hu with rfl | hu
    ·exact h5.1.1.2 _ h4.2
    ·exact h5.2 u hu
  have hw:=hW.at_ hi;rw [X6s];cases hs:set.getD i false with
  | true=>exact ⟨Cl.refl Q set,hs⟩
  | false =>
   have hu:=Xal (s:=set) (i:=i) (by omega) hs;have h1:=fold (Q.getD i (7,0,[])).2.2 (set.set i true) (by simp [hl]) (by omega) hw.1;generalize hS:(Q.getD i (7,0,[])).2.2.foldl (fun s t=>X6s Q f s t.toNat) (set.set i true)=S1 at h1;have hset:SubB set S1:=(SubB.set set i).trans h1.1.1;have hiS:S1.getD i false=true:=h1.1.1.2 i (X7h (by omega));simp only [cond_false]
   cases hk:X7u (Q.getD i (7,0,[])).1 with
   | false =>
    simp only [cond_false]
    refine ⟨⟨hset,fun x hx hn y hy=>?_⟩,hiS⟩
    by_cases e:x=i
    ·subst e;rcases hy with ⟨h,_⟩ | ⟨t,ht,rfl⟩
     ·rw [hk] at h; cases h
     ·exact h1.2 t ht
    ·refine h1.1.2 x hx ?_ y hy;cases h9:(set.set i true).getD x false with
     | false=>rfl
     | true=>rcases getD_set_true _ _ _ h9 with h | h; rw [h] at hn; cases hn; exact absurd h e
   | true =>
    simp only [cond_true]
    have hi1:=hw.2.1 hk;have h2:=Xd1 hW f S1 (i+1) (by rw [← hset.1]; exact hl) hi1 (by have:=X6x h1.1.1; omega);refine ⟨⟨hset.trans h2.1.1,fun x hx hn y hy=>?_⟩,h2.1.1.2 i hiS⟩
    by_cases e:x=i
    ·subst e;rcases hy with ⟨_,rfl⟩ | ⟨t,ht,rfl⟩
     ·exact h2.2
     ·exact h2.1.1.2 _ (h1.2 t ht)
    ·cases h8:S1.getD x false with
     | true =>
      refine h2.1.1.2 y (h1.1.2 x h8 ?_ y hy);cases h9:(set.set i true).getD x false with
      | false=>rfl
      | true=>rcases getD_set_true _ _ _ h9 with h | h; rw [h] at hn; cases hn; exact absurd h e
     | false=>exact h2.1.2 x hx h8 y hy
theorem X5m {Q:List Pl}:∀ (f:Nat) (set:List Bool) (i x:Nat),(X6s Q f set i).getD x false=true→set.getD x false=true∨Xd3 Q i x
 | 0,set,i,x,h=>.inl h
 | f+1,set,i,x,h=>by
  have fold:∀ (l:List Int) (s:List Bool),(l.foldl (fun s t=>X6s Q f s t.toNat) s).getD x false=true→s.getD x false=true∨∃ t∈l,Xd3 Q t.toNat x:=by
   intro l
   induction l with
   | nil=>intro s h; exact .inl h
   | cons t l ih =>
    intro s h;rcases ih _ h with h | ⟨u,hu,h⟩
    ·rcases X5m f s t.toNat x h with h | h
     ·exact .inl h
     ·exact .inr ⟨t,by simp,h⟩
    ·exact .inr ⟨u,by simp [hu],h⟩
  have done:∀ {S1:List Bool},(∀ h:S1.getD x false=true,(set.set i true).getD x false=true∨∃ t∈(Q.getD i (7,0,[])).2.2,Xd3 Q t.toNat x)→S1.getD x false=true→set.getD x false=true∨Xd3 Q i x:=by
   intro S1 h1 h2;rcases h1 h2 with h | ⟨t,ht,h⟩
   ·rcases getD_set_true _ _ _ h with h | rfl
    ·exact .inl h
    ·exact .inr (.refl _)
   ·exact .inr (.step (.inr ⟨t,ht,rfl⟩) h)
  rw [X6s] at h;cases hs:set.getD i false with
  | true=>rw [hs] at h; exact .inl h
  | false =>
   rw [hs] at h;simp only [cond_false] at h
   cases hk:X7u (Q.getD i (7,0,[])).1 with
   | false=>rw [hk] at h; exact done (fold _ _) h
   | true =>
    rw [hk] at h;simp only [cond_true] at h
    rcases X5m f _ _ x h with h | h
    ·exact done (fold _ _) h
    ·exact .inr (.step (.inl ⟨hk,rfl⟩) h)
inductive Acc (Q:List Pl):Nat→List UInt8→Prop
 | fin {i}:i<Q.length→(Q.getD i (7,0,[])).1=7→Acc Q i []
 | go {i j s}:i<Q.length→Succ Q i j→Acc Q j s→Acc Q i s
 | eat {i c s}:i<Q.length→X1j (Q.getD i (7,0,[])).1 (Q.getD i (7,0,[])).2.1 c=true→Acc Q (bif ((Q.getD i (7,0,[])).1 == 2) || ((Q.getD i (7,0,[])).1 == 3) then i else i+1) s→Acc Q i (c::s)
theorem Acc.reach {Q:List Pl} (hW:WF Q) {i j:Nat} {s:List UInt8} (hi:i<Q.length) (h:Xd3 Q i j) (k:Acc Q j s):Acc Q i s:=by
 induction h with
 | refl=>exact k
 | @step i j k' hs _ ih =>
  refine .go hi hs (ih ?_ k);have hw:=hW.at_ hi;rcases hs with ⟨h1,rfl⟩ | ⟨t,ht,rfl⟩
  ·exact hw.2.1 h1
  ·have:=hw.1 t ht; omega
def Closed (Q:List Pl) (s:List Bool):Prop:=∀ x,s.getD x false=true→∀ y,Succ Q x y→s.getD y false=true
theorem Closed.cl {Q:List Pl} {a b:List Bool} (h:Closed Q a) (k:Cl Q a b):Closed Q b:=by
 intro x hx y hy;cases ha:a.getD x false with
 | true=>exact k.1.2 y (h x ha y hy)
 | false=>exact k.2 x hx ha y hy
theorem X5a (n x:Nat):(List.replicate n false).getD x false=false:=by
 rw [Yc,Y50]; split <;> rfl
theorem Closed.rep (Q:List Pl) (n:Nat):Closed Q (List.replicate n false):=fun x hx=>by rw [X5a] at hx; cases hx
section
variable {Q:List Pl} (hW:WF Q) {F:Nat} (hF:Q.length<F) (now:List Bool) (c:UInt8)
abbrev tgt (Q:List Pl) (i:Nat):Nat:=bif ((Q.getD i (7,0,[])).1 == 2) || ((Q.getD i (7,0,[])).1 == 3) then i else i+1
theorem Xlk (hW:WF Q) {i:Nat} {c:UInt8} (hi:i<Q.length) (h:X1j (Q.getD i (7,0,[])).1 (Q.getD i (7,0,[])).2.1 c=true):tgt Q i<Q.length:=by
 have h7:=(hW.at_ hi).2.2.2.1 (fun e=>by rw [e,X1j] at h; simp at h);unfold tgt;cases ((Q.getD i (7,0,[])).1 == 2) || ((Q.getD i (7,0,[])).1 == 3)
 ·exact h7
 ·exact hi
theorem Xma (hW:WF Q) (hF:Q.length<F) (steps:Nat):∀ k,k≤Q.length→∃ nx any st,iter (X3b Q F c now) (List.replicate Q.length false,false,steps) k=(nx,any,st)∧nx.length=Q.length∧Closed Q nx ∧
  (∀ i,i<k→now.getD i false=true→X1j (Q.getD i (7,0,[])).1 (Q.getD i (7,0,[])).2.1 c=true→nx.getD (tgt Q i) false=true∧any=true) ∧
  (∀ x,nx.getD x false=true→∃ i,i<Q.length∧now.getD i false=true∧X1j (Q.getD i (7,0,[])).1 (Q.getD i (7,0,[])).2.1 c=true∧Xd3 Q (tgt Q i) x)
 | 0,_=>⟨_,_,_,rfl,by simp,Closed.rep _ _,fun _ h=>by omega,fun x hx=>by rw [X5a] at hx; cases hx⟩
 | k+1,hk=>by
  obtain ⟨nx,any,st,h1,h2,h3,h4,h5⟩:=Xma hW hF steps k (by omega);rw [iter,h1,X3b];cases hn:now.getD k false with
  | false =>
   refine ⟨_,_,_,rfl,h2,h3,fun i hi hni hf=>?_,h5⟩
   by_cases e:i=k
   ·subst e; rw [hn] at hni; cases hni
   ·exact h4 i (by omega) hni hf
  | true =>
   cases hf:X1j (Q.getD k (7,0,[])).1 (Q.getD k (7,0,[])).2.1 c with
   | false =>
    refine ⟨_,_,_,rfl,h2,h3,fun i hi hni hf2=>?_,h5⟩
    by_cases e:i=k
    ·subst e; rw [hf] at hf2; cases hf2
    ·exact h4 i (by omega) hni hf2
   | true =>
    have ht:=Xlk hW (i:=k) (by omega) hf;have hu:X86 nx≤nx.length:=Y45;have h6:=Xd1 hW F nx (tgt Q k) h2 ht (by omega);refine ⟨_,_,_,rfl,?_,?_,fun i hi hni hf2=>?_,fun x hx=>?_⟩
    ·exact h6.1.1.1.symm.trans h2
    ·exact h3.cl h6.1
    ·by_cases e:i=k
     ·subst e; exact ⟨h6.2,rfl⟩
     ·exact ⟨h6.1.1.2 _ (h4 i (by omega) hni hf2).1,rfl⟩
    ·rcases X5m F nx (tgt Q k) x hx with h | h
     ·exact h5 x h
     ·exact ⟨k,by omega,hn,hf,h⟩
end
theorem Acc.inv_nil {Q:List Pl} {now:List Bool} (hc:Closed Q now):∀ {i:Nat} {s:List UInt8},Acc Q i s→s=[]→now.getD i false=true→∃ j,j<Q.length∧(Q.getD j (7,0,[])).1=7∧now.getD j false=true:=by
 intro i s h
 induction h with
 | fin h1 h2=>intro _ h; exact ⟨_,h1,h2,h⟩
 | go h1 h2 _ ih=>intro h3 h; exact ih h3 (hc _ h _ h2)
 | eat=>intro h; cases h
theorem Acc.inv_cons {Q:List Pl} {now:List Bool} (hc:Closed Q now) {c:UInt8} {r:List UInt8}:∀ {i:Nat} {s:List UInt8},Acc Q i s→s=c::r→now.getD i false=true→∃ j,j<Q.length∧now.getD j false=true∧X1j (Q.getD j (7,0,[])).1 (Q.getD j (7,0,[])).2.1 c=true∧Acc Q (tgt Q j) r:=by
 intro i s h
 induction h with
 | fin=>intro h; cases h
 | go h1 h2 _ ih=>intro h3 h; exact ih h3 (hc _ h _ h2)
 | eat h1 h2 h3=>intro h4 h; injection h4 with h4 h5; subst h4; subst h5; exact ⟨_,h1,h,h2,h3⟩
def End7 (Q:List Pl):Prop:=0<Q.length∧∀ j,j<Q.length→((Q.getD j (7,0,[])).1=7 ↔ j=Q.length - 1)
theorem Xi6 {Q:List Pl} (hW:WF Q) (hE:End7 Q) {F:Nat} (hF:Q.length<F):∀ (s:List UInt8) (now:List Bool) (st:Nat),now.length=Q.length→Closed Q now →
  ((Xsv Q F s now st).1.getD (Q.length - 1) false=true ↔ ∃ i,i<Q.length∧now.getD i false=true∧Acc Q i s)
 | [],now,st,hl,hc=>by
  constructor
  ·intro h;have h0:=hE.1;exact ⟨Q.length - 1,by omega,h,.fin (by omega) ((hE.2 _ (by omega)).2 rfl)⟩
  ·rintro ⟨i,hi,h1,h2⟩;obtain ⟨j,hj,h7,hn⟩:=h2.inv_nil hc rfl h1;rw [(hE.2 j hj).1 h7] at hn;exact hn
 | c::r,now,st,hl,hc=>by
  obtain ⟨nx,any,st2,h1,h2,h3,h4,h5⟩:=Xma now c hW hF st Q.length (Yu _);have hB:Xr6 Q F c now st=(nx,any,st2):=h1;rw [Xsv,hB];have back:(∃ i,i<Q.length∧now.getD i false=true∧Acc Q i (c::r)) ↔ ∃ i,i<Q.length∧nx.getD i false=true∧Acc Q i r:=by
   constructor
   ·rintro ⟨i,hi,k1,k2⟩;obtain ⟨j,hj,m1,m2,m3⟩:=k2.inv_cons hc rfl k1;exact ⟨_,Xlk hW hj m2,(h4 j hj m1 m2).1,m3⟩
   ·rintro ⟨i,hi,k1,k2⟩;obtain ⟨j,hj,m1,m2,m3⟩:=h5 i k1;exact ⟨j,hj,m1,.eat hj m2 (k2.reach hW (Xlk hW hj m2) m3)⟩
  rw [back];cases any with
  | true=>exact Xi6 hW hE hF r nx st2 h2 h3
  | false =>
   have none:∀ x,¬ nx.getD x false=true:=fun x hx=>by
    obtain ⟨j,hj,m1,m2,m3⟩:=h5 x hx
    have:=(h4 j hj m1 m2).2
    cases this
   constructor
   ·intro h; exact absurd h (none _)
   ·rintro ⟨i,_,h,_⟩; exact absurd h (none i)
theorem Xrp {Q:List Pl} (hW:WF Q) (hE:End7 Q) (s:List UInt8):(run Q s).1.getD (Q.length - 1) false=true ↔ Acc Q 0 s:=by
 have h0:=hE.1;have hu:X86 (List.replicate Q.length false)≤(List.replicate Q.length false).length:=Y45;rw [Y1z] at hu;have h1:=Xd1 hW (Q.length+1) (List.replicate Q.length false) 0 (by simp) h0 (by omega);unfold run;rw [Xi6 hW hE (Nat.lt_succ_self _) s _ 1 (by rw [← h1.1.1.1]; simp) ((Closed.rep _ _).cl h1.1)];constructor
 ·rintro ⟨i,hi,k1,k2⟩;rcases X5m _ _ _ _ k1 with h | h
  ·rw [X5a] at h; cases h
  ·exact k2.reach hW h0 h
 ·intro h; exact ⟨0,h0,h1.2,h⟩
end Pat
namespace Pat
open Go Gk Pt
abbrev Xdg:=List UInt8→Prop
def Xir (k c:Int):Xdg:=fun u=>if k=2∨k=3 then ∀ x∈u,X1j k c x=true else ∃ x,u=[x]∧X1j k c x=true
def cat (A B:Xdg):Xdg:=fun s=>∃ u v,s=u ++ v∧A u∧B v
theorem X1u (A B C:Xdg) (s:List UInt8):cat (cat A B) C s ↔ cat A (cat B C) s:=by
 constructor
 ·rintro ⟨u,v,rfl,⟨a,b,rfl,h1,h2⟩,h3⟩;exact ⟨a,b ++ v,by simp,h1,b,v,rfl,h2,h3⟩
 ·rintro ⟨a,w,rfl,h1,b,v,rfl,h2,h3⟩;exact ⟨a ++ b,v,by simp,⟨a,b,rfl,h1,h2⟩,h3⟩
theorem X4s {A A' B B':Xdg} (h:∀ s,A s ↔ A' s) (k:∀ s,B s ↔ B' s) (s:List UInt8):cat A B s ↔ cat A' B' s:=by
 constructor
 ·rintro ⟨u,v,e,h1,h2⟩; exact ⟨u,v,e,(h u).1 h1,(k v).1 h2⟩
 ·rintro ⟨u,v,e,h1,h2⟩; exact ⟨u,v,e,(h u).2 h1,(k v).2 h2⟩
theorem Xrk (A B C:Xdg) (s:List UInt8):cat (fun s=>A s∨B s) C s ↔ cat A C s∨cat B C s:=by
 constructor
 ·rintro ⟨u,v,e,h | h,h2⟩
  ·exact .inl ⟨u,v,e,h,h2⟩
  ·exact .inr ⟨u,v,e,h,h2⟩
 ·rintro (⟨u,v,e,h,h2⟩ | ⟨u,v,e,h,h2⟩)
  ·exact ⟨u,v,e,.inl h,h2⟩
  ·exact ⟨u,v,e,.inr h,h2⟩
theorem Xde (B:Xdg) (s:List UInt8):cat (fun u=>u=[]) B s ↔ B s:=by
 constructor
 ·rintro ⟨u,v,rfl,rfl,h⟩; exact h
 ·intro h; exact ⟨[],s,rfl,rfl,h⟩
def sem:Pt→Xdg×Xdg
 | .nil=>(fun s=>s=[],fun _=>False)
 | .lit k c r=>(cat (Xir k c) (sem r).1,(sem r).2)
 | .bar r=>(fun s=>s=[],fun s=>(sem r).1 s∨(sem r).2 s)
 | .grp b r=>(cat (fun s=>(sem b).1 s∨(sem b).2 s) (sem r).1,(sem r).2)
theorem Xge:∀ (p q:Pt),p.flat→∀ s,(sem (p.app q)).1 s ↔ cat (sem p).1 (sem q).1 s
 | .nil,q,_,s=>(Xde _ s).symm
 | .lit k c r,q,h,s=>(X4s (fun _=>Iff.rfl) (Xge r q h) s).trans (X1u _ _ _ s).symm
 | .bar _,_,h,_=>h.elim
 | .grp b r,q,h,s=>(X4s (fun _=>Iff.rfl) (Xge r q h) s).trans (X1u _ _ _ s).symm
theorem X9o:∀ (p:Pt),p.flat→∀ s,¬ (sem p).2 s
 | .nil,_,_=>id
 | .lit _ _ r,h,s=>X9o r h s
 | .bar _,h,_=>h.elim
 | .grp _ r,h,s=>X9o r h s
namespace Pt
def ok:Pt→Prop
 | nil=>True
 | lit k _ r=>(0≤k∧k≤3)∧ok r
 | bar r=>ok r
 | grp b r=>ok b∧ok r
end Pt
theorem Rep.ok {l:List UInt8} {p:Pt} (h:Rep l p):p.ok:=by
 induction h with
 | nil=>trivial
 | one _ ih=>exact ⟨⟨by decide,by decide⟩,ih⟩
 | all _ ih=>exact ⟨⟨by decide,by decide⟩,ih⟩
 | few _ _ ih=>exact ⟨⟨by decide,by decide⟩,ih⟩
 | grp _ _ h1 h2=>exact ⟨h1,h2⟩
 | bar _ ih=>exact ih
 | esc c _ ih=>exact ⟨⟨by decide,by decide⟩,ih⟩
 | byte c _ _ _ _ _ _ _ ih=>exact ⟨⟨by decide,by decide⟩,ih⟩
theorem Rep.len {l:List UInt8} {p:Pt} (h:Rep l p):p.len≤l.length:=by
 induction h <;> simp [Pt.len] at*<;> omega
theorem Xd8:∀ (p:Pt) (n:Nat),(tos p n).length≤p.len
 | .nil,_=>by simp [tos]
 | .lit _ _ r,n=>by have:=Xd8 r (n+1); simp [tos,len]; omega
 | .bar r,n=>by have:=Xd8 r (n+1); simp [tos,len]; omega
 | .grp b r,n=>by have:=Xd8 r (n+2+len b); simp [tos,len]; omega
theorem Xi5:∀ (p:Pt) (n:Nat) (t:Int),t∈tos p n→(n:Int)<t∧t≤n+p.len
 | .nil,_,_,h=>by simp [tos] at h
 | .lit _ _ r,n,t,h=>by have:=Xi5 r (n+1) t h; simp [len]; omega
 | .bar r,n,t,h=>by
  simp only [tos,Y18] at h
  rcases h with rfl | h
  ·simp [len]; omega
  ·have:=Xi5 r (n+1) t h; simp [len]; omega
 | .grp b r,n,t,h=>by have:=Xi5 r (n+2+len b) t h; simp [len]; omega
theorem X7p:∀ (p:Pt) (es:List Int) (n N:Nat),p.ok→n+p.len<N→(∀ t∈es,0≤t∧t<(N:Int))→es.length≤N→∀ q∈pls es p n,(∀ t∈q.2.2,0≤t∧t<(N:Int))∧(0≤q.1∧q.1≤6)∧q.2.2.length≤N
 | .nil,_,_,_,_,_,_,_,q,h=>by simp [pls] at h
 | .lit k c r,es,n,N,ho,hl,he,hc,q,h=>by
  simp only [len] at hl
  simp only [pls,Y18] at h
  rcases h with rfl | h
  ·exact ⟨by simp,⟨ho.1.1,by have:=ho.1.2; simp only; omega⟩,by simp⟩
  ·exact X7p r es (n+1) N ho.2 (by omega) he hc q h
 | .bar r,es,n,N,ho,hl,he,hc,q,h=>by
  simp only [len] at hl
  simp only [pls,Y18] at h
  rcases h with rfl | h
  ·exact ⟨he,⟨by simp,by simp⟩,hc⟩
  ·exact X7p r es (n+1) N ho (by omega) he hc q h
 | .grp b r,es,n,N,ho,hl,he,hc,q,h=>by
  simp only [len] at hl
  simp only [pls,Y18,Y16] at h
  rcases h with rfl | h | rfl | h
  ·exact ⟨fun t ht=>by have:=Xi5 b (n+1) t ht; omega,⟨by simp,by simp⟩,by have:=Xd8 b (n+1); simp only; omega⟩
  ·exact X7p b _ (n+1) N ho.1 (by omega) (fun t ht=>by simp at ht; omega) (by simp; omega) q h
  ·exact ⟨by simp,⟨by simp,by simp⟩,by simp⟩
  ·exact X7p r es (n+2+len b) N ho.2 (by omega) he hc q h
def X17 (p:Pt):List Pl:=pls [] p 0 ++ [(7,0,[])]
theorem X8n (p:Pt):(X17 p).length=p.len+1:=by simp [X17,X28]
theorem Xas {p:Pt} (ho:p.ok):WF (X17 p)∧End7 (X17 p):=by
 have hl:=X8n p;have hall:∀ (i:Nat) (q:Pl),(X17 p)[i]?=some q→(i<p.len∧q∈pls [] p 0)∨(i=p.len∧q=(7,0,[])):=by
  intro i q h;unfold X17 at h;rcases Yr i p.len with hi | hi
  ·rw [Yk (by rw [X28]; exact hi)] at h;exact .inl ⟨hi,Yi h⟩
  ·rw [Yw (by rw [X28]; exact hi),X28] at h
   by_cases e:i=p.len
   ·subst e; simp at h; exact .inr ⟨rfl,h.symm⟩
   ·rw [Y1u (by simp; omega)] at h; cases h
 refine ⟨fun i q h=>?_,by omega,fun j hj=>?_⟩
 ·rw [hl];rcases hall i q h with ⟨hi,hm⟩ | ⟨hi,rfl⟩
  ·obtain ⟨h1,h2,h3⟩:=X7p p [] 0 (p.len+1) ho (by omega) (by simp) (by simp) q hm;exact ⟨h1,fun _=>by omega,⟨h2.1,by omega⟩,fun _=>by omega,h3⟩
  ·exact ⟨by simp,by simp [X7u],⟨by simp,by simp⟩,by simp,by simp⟩
 ·have e:(X17 p)[j]?=some ((X17 p).getD j (7,0,[])):=by simp [Yc,hj]
  rcases hall j _ e with ⟨hi,hm⟩ | ⟨hi,e2⟩
  ·obtain ⟨h1,h2,h3⟩:=X7p p [] 0 (p.len+1) ho (by omega) (by simp) (by simp) _ hm;constructor
   ·intro h; omega
   ·intro h; omega
  ·rw [e2]; simp; omega
def Seg (Q:List Pl) (n:Nat) (L:List Pl):Prop:=∀ (i:Nat) (q:Pl),L[i]?=some q→Q[n+i]?=some q
theorem Seg.head {Q:List Pl} {n:Nat} {q:Pl} {L:List Pl} (h:Seg Q n (q::L)):Q[n]?=some q:=h 0 q rfl
theorem Seg.tail {Q:List Pl} {n:Nat} {q:Pl} {L:List Pl} (h:Seg Q n (q::L)):Seg Q (n+1) L:=fun i x hx=>by
 rw [show n+1+i=n+(i+1) by omega]; exact h (i+1) x (by simpa using hx)
theorem Seg.left {Q:List Pl} {n:Nat} {L M:List Pl} (h:Seg Q n (L ++ M)):Seg Q n L:=fun i x hx=>h i x (by rw [Yk (Y5.1 hx).1]; exact hx)
theorem Seg.right {Q:List Pl} {n:Nat} {L M:List Pl} (h:Seg Q n (L ++ M)):Seg Q (n+L.length) M:=fun i x hx=>by
 rw [Y3j]; exact h (L.length+i) x (by rw [Yw (by omega)]; simpa using hx)
theorem Xae {Q:List Pl} {i:Nat} {k c:Int} {tz:List Int} (h:Q[i]?=some (k,c,tz)) (s:List UInt8) :
  Acc Q i s ↔ (k=7∧s=[])∨(X7u k=true∧Acc Q (i+1) s)∨(∃ t∈tz,Acc Q t.toNat s)∨(∃ x r,s=x::r∧X1j k c x=true∧Acc Q (bif (k == 2) || (k == 3) then i else i+1) r):=by
 have hi:i<Q.length:=(Y5.1 h).1;have e:Q.getD i (7,0,[])=(k,c,tz):=by rw [Yc,h]; rfl
 constructor
 ·intro ha;cases ha with
  | fin _ h7=>rw [e] at h7; exact .inl ⟨h7,rfl⟩
  | go _ hs ha =>
   rcases hs with ⟨h1,rfl⟩ | ⟨t,ht,rfl⟩
   ·rw [e] at h1; exact .inr (.inl ⟨h1,ha⟩)
   ·rw [e] at ht; exact .inr (.inr (.inl ⟨t,ht,ha⟩))
  | eat _ hf ha=>rw [e] at hf ha; exact .inr (.inr (.inr ⟨_,_,rfl,hf,ha⟩))
 ·rintro (⟨h7,rfl⟩ | ⟨h1,ha⟩ | ⟨t,ht,ha⟩ | ⟨x,r,rfl,hf,ha⟩)
  ·exact .fin hi (by rw [e]; exact h7)
  ·exact .go hi (.inl ⟨by rw [e]; exact h1,rfl⟩) ha
  ·exact .go hi (.inr ⟨t,by rw [e]; exact ht,rfl⟩) ha
  ·exact .eat hi (by rw [e]; exact hf) (by rw [e]; exact ha)
theorem Xt2 {Q:List Pl} {n:Nat} {k c:Int} (h:Q[n]?=some (k,c,[])) (hk:0≤k∧k≤3):∀ s,Acc Q n s ↔ cat (Xir k c) (Acc Q (n+1)) s:=by
 have h7:¬ k=7:=by omega
 by_cases h23:k=2∨k=3
 ·have hs:X7u k=true:=by rcases h23 with rfl | rfl <;> rfl
  have hb:((k == 2) || (k == 3))=true:=by rcases h23 with rfl | rfl <;> rfl
  intro s
  induction s with
  | nil =>
   rw [Xae h];constructor
   ·rintro (⟨h,_⟩ | ⟨_,ha⟩ | ⟨t,ht,_⟩ | ⟨x,r,e,_⟩)
    ·exact absurd h h7
    ·exact ⟨[],[],rfl,by simp [Xir,h23],ha⟩
    ·simp at ht
    ·cases e
   ·rintro ⟨u,v,e,_,ha⟩;obtain ⟨rfl,rfl⟩:=Y53.1 e.symm;exact .inr (.inl ⟨hs,ha⟩)
  | cons y s ih =>
   rw [Xae h,hb];simp only [cond_true]
   constructor
   ·rintro (⟨h,_⟩ | ⟨_,ha⟩ | ⟨t,ht,_⟩ | ⟨x,r,e,hf,ha⟩)
    ·exact absurd h h7
    ·exact ⟨[],y::s,rfl,by simp [Xir,h23],ha⟩
    ·simp at ht
    ·injection e with e1 e2
     subst e1; subst e2;obtain ⟨u,v,rfl,hu,hv⟩:=ih.1 ha;refine ⟨y::u,v,rfl,?_,hv⟩;unfold Xir at hu ⊢;rw [if_pos h23] at hu ⊢;intro z hz;rcases Y18.1 hz with rfl | hz
     ·exact hf
     ·exact hu z hz
   ·rintro ⟨u,v,e,hu,ha⟩;cases u with
    | nil=>exact .inr (.inl ⟨hs,by rw [e]; exact ha⟩)
    | cons z u =>
     injection e with e1 e2
     subst e1; subst e2;unfold Xir at hu;rw [if_pos h23] at hu;refine .inr (.inr (.inr ⟨y,u ++ v,rfl,hu y (by simp),ih.2 ⟨u,v,rfl,?_,ha⟩⟩));unfold Xir;rw [if_pos h23];exact fun z hz=>hu z (by simp [hz])
 ·have hs:X7u k=false:=by
   have h2:k=0∨k=1:=by omega
   rcases h2 with rfl | rfl <;> rfl
  have hb:((k == 2) || (k == 3))=false:=by
   have h2:k=0∨k=1:=by omega
   rcases h2 with rfl | rfl <;> rfl
  intro s;rw [Xae h,hb,hs];simp only [cond_false]
  constructor
  ·rintro (⟨h,_⟩ | ⟨h,_⟩ | ⟨t,ht,_⟩ | ⟨x,r,rfl,hf,ha⟩)
   ·exact absurd h h7
   ·cases h
   ·simp at ht
   ·exact ⟨[x],r,rfl,by unfold Xir; rw [if_neg h23]; exact ⟨x,rfl,hf⟩,ha⟩
  ·rintro ⟨u,v,rfl,hu,ha⟩;unfold Xir at hu;rw [if_neg h23] at hu;obtain ⟨x,rfl,hf⟩:=hu;exact .inr (.inr (.inr ⟨x,v,rfl,hf,ha⟩))
theorem X97 {Q:List Pl}:∀ (p:Pt) (es:List Int) (n:Nat),p.ok→Seg Q n (pls es p n)→(p.flat∨es=[((n+p.len:Nat):Int)]) →
  (∀ s,Acc Q n s ↔ cat (sem p).1 (Acc Q (n+p.len)) s)∧(∀ s,(∃ t∈tos p n,Acc Q t.toNat s) ↔ cat (sem p).2 (Acc Q (n+p.len)) s)
 | .nil,es,n,_,_,_=>by
  refine ⟨fun s=>(Xde _ s).symm,fun s=>⟨fun ⟨t,ht,_⟩=>by simp [tos] at ht,fun ⟨_,_,_,h,_⟩=>h.elim⟩⟩
 | .lit k c r,es,n,ho,hseg,hf=>by
  rw [pls] at hseg;have ih:=X97 r es (n+1) ho.2 hseg.tail (by rcases hf with h | h; exact .inl h; right; rw [h]; congr 1; simp only [len]; omega);rw [show n+1+r.len=n+(Pt.lit k c r).len by simp only [len]; omega] at ih;refine ⟨fun s=>?_,ih.2⟩;rw [Xt2 hseg.head ho.1];exact (X4s (fun _=>Iff.rfl) ih.1 s).trans (X1u _ _ _ s).symm
 | .bar r,es,n,ho,hseg,hf=>by
  have he:es=[((n+(Pt.bar r).len:Nat):Int)]:=by rcases hf with h | h; exact h.elim; exact h
  rw [pls] at hseg;have ih:=X97 r es (n+1) ho hseg.tail (by right; rw [he]; congr 1; simp only [len]; omega);rw [show n+1+r.len=n+(Pt.bar r).len by simp only [len]; omega] at ih;refine ⟨fun s=>?_,fun s=>?_⟩
  ·rw [Xae hseg.head];refine Iff.trans ?_ (Xde _ s).symm;constructor
   ·rintro (⟨h,_⟩ | ⟨h,_⟩ | ⟨t,ht,ha⟩ | ⟨x,r,rfl,hf,ha⟩)
    ·cases h
    ·cases h
    ·rw [he] at ht; simp only [List.mem_singleton] at ht; subst ht; exact ha
    ·cases hf
   ·intro h; exact .inr (.inr (.inl ⟨((n+(Pt.bar r).len:Nat):Int),by rw [he]; simp,h⟩))
  ·refine Iff.trans ?_ (Xrk _ _ _ s).symm;rw [← ih.1,← ih.2];constructor
   ·rintro ⟨t,ht,ha⟩;simp only [tos,Y18] at ht
    rcases ht with rfl | ht
    ·left; rw [show ((n:Int)+1).toNat=n+1 by omega] at ha; exact ha
    ·exact .inr ⟨t,ht,ha⟩
   ·rintro (ha | ⟨t,ht,ha⟩)
    ·exact ⟨(n:Int)+1,by simp [tos],by rw [show ((n:Int)+1).toNat=n+1 by omega]; exact ha⟩
    ·exact ⟨t,by simp [tos,ht],ha⟩
 | .grp b r,es,n,ho,hseg,hf=>by
  rw [pls] at hseg;have h1:=hseg.tail.right;rw [X28] at h1;have hb:=X97 b [((n+1+len b:Nat):Int)] (n+1) ho.1 hseg.tail.left (.inr rfl);have hr:=X97 r es (n+2+len b) ho.2 (by have:=h1.tail; rw [show n+1+b.len+1=n+2+b.len by omega] at this; exact this) (by rcases hf with h | h; exact .inl h; right; rw [h]; congr 1; simp only [len]; omega);rw [show n+2+b.len+r.len=n+(Pt.grp b r).len by simp only [len]; omega] at hr;have hc:∀ s,Acc Q (n+1+b.len) s ↔ cat (sem r).1 (Acc Q (n+(Pt.grp b r).len)) s:=by
   intro s;rw [Xae h1.head,← hr.1,show n+1+b.len+1=n+2+b.len by omega];constructor
   ·rintro (⟨h,_⟩ | ⟨_,h⟩ | ⟨t,ht,ha⟩ | ⟨x,r,rfl,hf,ha⟩)
    ·cases h
    ·exact h
    ·simp at ht
    ·cases hf
   ·intro h; exact .inr (.inl ⟨rfl,h⟩)
  refine ⟨fun s=>?_,hr.2⟩;rw [Xae hseg.head];refine Iff.trans ?_ (X1u _ _ _ s).symm;refine Iff.trans ?_ (Xrk _ _ _ s).symm;have e1:=(hb.1 s).trans (X4s (fun _=>Iff.rfl) hc s);have e2:=(hb.2 s).trans (X4s (fun _=>Iff.rfl) hc s);rw [← e1,← e2];constructor
  ·rintro (⟨h,_⟩ | ⟨_,h⟩ | h | ⟨x,r,rfl,hf,ha⟩)
   ·cases h
   ·exact .inl h
   ·exact .inr h
   ·cases hf
  ·rintro (h | h)
   ·exact .inr (.inl ⟨rfl,h⟩)
   ·exact .inr (.inr (.inl h))
theorem Xs1 {p:Pt} (ho:p.ok) (hf:p.flat) (s:List UInt8):(run (X17 p) s).1.getD ((X17 p).length - 1) false=true ↔ (sem p).1 s:=by
 obtain ⟨hW,hE⟩:=Xas ho;rw [Xrp hW hE];have h:=(X97 (Q:=X17 p) p [] 0 ho (fun i q h=>by rw [Yd,X17,Yk (Y5.1 h).1]; exact h) (.inl hf)).1 s;rw [h,Yd];have hl:(X17 p)[p.len]?=some (7,0,[]):=by rw [X17,Yw (by rw [X28]; omega),X28]; simp
 have he:∀ v,Acc (X17 p) p.len v ↔ v=[]:=by
  intro v;rw [Xae hl];constructor
  ·rintro (⟨_,h⟩ | ⟨h,_⟩ | ⟨t,ht,_⟩ | ⟨x,r,rfl,hf,_⟩)
   ·exact h
   ·cases h
   ·simp at ht
   ·cases hf
  ·intro h; exact .inl ⟨rfl,h⟩
 constructor
 ·rintro ⟨u,v,rfl,h1,h2⟩;rw [(he v).1 h2,Y9]; exact h1
 ·intro h; exact ⟨s,[],by simp,h,(he []).2 rfl⟩
end Pat
namespace Pat
open Go Gk Pt
def mat (Q:List Pl) (s:List UInt8):Bool:=(run Q s).1.getD (Q.length - 1) false
theorem Xtg {l:List UInt8} {Q:List Pl} (h:cmp l=.ok Q) {p:Pt} (hr:Rep l p) (hf:p.flat) (s:List UInt8):mat Q s=true ↔ (sem p).1 s:=by
 have hl:=(Xlh h).1;have hd:p.dep≤4:=by
  refine Nat.le_of_not_lt fun hd=>Xpt hr hf hd Q h
 rw [cmp_of hr hf hl hd] at h;injection h with h
 subst h;exact Xs1 hr.ok hf s
def X8q (l s:List UInt8):Bool×Bool:=match cmp l with
 | .ok Q=>(mat Q s,true)
 | .error _=>(false,false)
theorem mt_ok {l s:List UInt8} (h:(X8q l s).2=true):∃ p,Rep l p∧p.flat∧p.dep≤4∧l.length≤200∧∀ t,(X8q l t).2=true∧((X8q l t).1=true ↔ (sem p).1 t):=by
 unfold X8q at h;cases hq:cmp l with
 | error e=>rw [hq] at h; cases h
 | ok Q =>
  obtain ⟨hl,p,h1,h2,h3,_⟩:=Xlh hq;refine ⟨p,h1,h2,h3,hl,fun t=>?_⟩;unfold X8q;rw [hq];exact ⟨rfl,Xtg hq h1 h2 t⟩
theorem Xdc:∀ (p q:Pt),p.flat→(sem (p.app q)).2=(sem q).2
 | .nil,_,_=>rfl
 | .lit _ _ r,q,h=>Xdc r q h
 | .bar _,_,h=>h.elim
 | .grp _ r,q,h=>Xdc r q h
theorem Xlu (A:Xdg) (s:List UInt8):cat A (fun u=>u=[]) s ↔ A s:=by
 constructor
 ·rintro ⟨u,v,rfl,h,rfl⟩; rw [Y9]; exact h
 ·intro h; exact ⟨s,[],by simp,h,rfl⟩
def seg (s:List UInt8) (i j:Nat):List UInt8:=(s.drop i).take (j - i)
theorem X5e (s:List UInt8) (i:Nat):seg s i i=[]:=by simp [seg]
theorem X7k (s:List UInt8) {i j:Nat} (hi:i≤j) (hj:j<s.length):seg s i (j+1)=seg s i j ++ [at_ s (j:Int)]:=by
 unfold seg;rw [show j+1 - i=(j - i)+1 by omega,Y3x (by simp; omega)]
 congr 1
 simp [at_,Yc,show i+(j - i)=j by omega,hj]
theorem Xep (s:List UInt8) {i m j:Nat} (h1:i≤m) (h2:m≤j) (hj:j≤s.length):seg s i j=seg s i m ++ seg s m j:=by
 unfold seg;rw [show j - i=(m - i)+(j - m) by omega,List.take_add,Y1m,show i+(m - i)=m by omega]
theorem X9u (s:List UInt8) {i j:Nat} (hi:i≤j) (hj:j≤s.length):(seg s i j).length=j - i:=by simp [seg]; omega
theorem Xs8 (s:List UInt8) {i j:Nat} {u v:List UInt8} (hi:i≤j) (hj:j≤s.length) (h:seg s i j=u ++ v):u=seg s i (i+u.length)∧v=seg s (i+u.length) j∧i+u.length≤j:=by
 have hl:=congrArg List.length h;rw [X9u s hi hj,Y0] at hl;have hm:i+u.length≤j:=by omega
 rw [Xep s (Nat.le_add_right i u.length) hm hj] at h
 have:=List.append_inj h (by rw [X9u s (by omega) (by omega)]; omega)
 exact ⟨this.1.symm,this.2.symm,hm⟩
def EndsAt (s:List UInt8) (fr:List Bool) (L:Xdg) (R:List Bool):Prop:=R.length=s.length+1∧∀ j,j≤s.length→(R.getD j false=true ↔ ∃ i,i≤j∧fr.getD i false=true∧L (seg s i j))
theorem EndsAt.congr {s:List UInt8} {fr R:List Bool} {L M:Xdg} (h:EndsAt s fr L R) (e:∀ u,L u ↔ M u):EndsAt s fr M R :=
 ⟨h.1,fun j hj=>(h.2 j hj).trans ⟨fun ⟨i,a,b,c⟩=>⟨i,a,b,(e _).1 c⟩,fun ⟨i,a,b,c⟩=>⟨i,a,b,(e _).2 c⟩⟩⟩
theorem EndsAt.nil {s:List UInt8} {fr:List Bool} (h:fr.length=s.length+1):EndsAt s fr (fun u=>u=[]) fr:=by
 refine ⟨h,fun j hj=>⟨fun h=>⟨j,Yu _,h,X5e s j⟩,?_⟩⟩;rintro ⟨i,h1,h2,h3⟩
 have:=X9u s h1 hj
 rw [h3] at this;have e:i=j:=by simp at this; omega
 subst e; exact h2
theorem EndsAt.cat {s:List UInt8} {fr R1 R2:List Bool} {A B:Xdg} (h:EndsAt s fr A R1) (k:EndsAt s R1 B R2):EndsAt s fr (cat A B) R2:=by
 refine ⟨k.1,fun j hj=>?_⟩;rw [k.2 j hj];constructor
 ·rintro ⟨m,h1,h2,h3⟩;obtain ⟨i,h4,h5,h6⟩:=(h.2 m (by omega)).1 h2;exact ⟨i,by omega,h5,_,_,Xep s h4 h1 hj,h6,h3⟩
 ·rintro ⟨i,h1,h2,u,v,h3,h4,h5⟩;obtain ⟨e1,e2,e3⟩:=Xs8 s h1 hj h3;refine ⟨i+u.length,e3,(h.2 _ (by omega)).2 ⟨i,by omega,h2,?_⟩,?_⟩
  ·rw [← e1]; exact h4
  ·rw [← e2]; exact h5
def Xr4 (R1:List Bool) (out:List Bool) (k:Nat):List Bool:=out.set k (out.getD k false || R1.getD k false)
theorem X9h (R1 out:List Bool):∀ k,(iter (Xr4 R1) out k).length=out.length∧∀ j,j<out.length→(iter (Xr4 R1) out k).getD j false=(out.getD j false || (decide (j<k) && R1.getD j false))
 | 0=>⟨rfl,fun j _=>by simp [iter]⟩
 | k+1=>by
  obtain ⟨h1,h2⟩:=X9h R1 out k;rw [iter];unfold Xr4 at h1 h2 ⊢;refine ⟨by rw [Y2a]; exact h1,fun j hj=>?_⟩;rw [Yc,Y27]
  by_cases e:k=j
  ·subst e;simp only [if_true,h1,hj,Y2o]
   rw [h2 k hj]
   simp
  ·simp only [e,if_false]
   rw [← Yc,h2 j hj]
   have:decide (j<k+1)=decide (j<k):=by simp; omega
   rw [this]
theorem EndsAt.or {s:List UInt8} {fr R1 R2:List Bool} {A B:Xdg} (h:EndsAt s fr A R1) (k:EndsAt s fr B R2):EndsAt s fr (fun u=>A u∨B u) (iter (Xr4 R2) R1 (s.length+1)):=by
 obtain ⟨h1,h2⟩:=X9h R2 R1 (s.length+1);refine ⟨h1.trans h.1,fun j hj=>?_⟩;rw [h2 j (by rw [h.1]; omega),Y1j,Yq,decide_eq_true_eq,h.2 j hj,k.2 j hj];constructor
 ·rintro (⟨i,a,b,c⟩ | ⟨_,i,a,b,c⟩)
  ·exact ⟨i,a,b,.inl c⟩
  ·exact ⟨i,a,b,.inr c⟩
 ·rintro ⟨i,a,b,c | c⟩
  ·exact .inl ⟨i,a,b,c⟩
  ·exact .inr ⟨by omega,i,a,b,c⟩
theorem EndsAt.none (s:List UInt8) (fr:List Bool):EndsAt s fr (fun _=>False) (List.replicate (s.length+1) false) :=
 ⟨by simp,fun j hj=>⟨fun h=>(by rw [X5a] at h; cases h),fun ⟨_,_,_,h⟩=>h.elim⟩⟩
def pj (s:List UInt8) (fr:List Bool) (kind:Int) (own:UInt8) (many:Bool):Nat→Bool
 | 0=>many && fr.getD 0 false
 | j+1=>(many && fr.getD (j+1) false) || (takes kind own (at_ s (j:Int)) && (fr.getD j false || (many && pj s fr kind own many j)))
theorem X82 (l:List Bool) (i j:Nat) (b:Bool) (hj:j<l.length):(l.set i b).getD j false=bif i == j then b else l.getD j false:=by
 rw [Yc,Y27,Yc]
 by_cases e:i=j
 ·subst e; simp [hj]
 ·have e2:(i == j)=false:=by simpa using e
  rw [e2]; simp [e]
theorem Xe6 (s:List UInt8) (fr:List Bool) (kind:Int) (own:UInt8) (many:Bool):∀ k,k≤s.length+1→∀ j,j≤s.length→(iter (X54 s fr kind own many) (List.replicate (s.length+1) false) k).getD j false=(decide (j<k) && pj s fr kind own many j)
 | 0,_,j,_=>by rw [iter,X5a]; simp
 | k+1,hk,j,hj=>by
  have ih:=Xe6 s fr kind own many k (by omega);have hl:=X2i s fr kind own many (List.replicate (s.length+1) false) k;rw [Y1z] at hl;rw [iter,X54];generalize iter (X54 s fr kind own many) (List.replicate (s.length+1) false) k=o at ih hl;have h1:∀ j,j≤s.length→(Xnr fr many o k).getD j false=bif k == j then (many && fr.getD k false) else o.getD j false:=fun j hj=>by
   unfold Xnr;rw [Ym];cases hc:many && fr.getD k false with
   | true=>simp only [cond_true]; rw [X82 _ _ _ _ (by omega)]
   | false =>
    simp only [cond_false]
    by_cases e:k=j
    ·subst e; rw [ih k hj]; simp
    ·simp [e]
  have hl1:=X6e fr many o k;generalize Xnr fr many o k=o1 at h1 hl1;have hne:∀ j,k≠j→(k == j)=false:=fun j e=>by simpa using e
  have hrest:∀ j,j≤s.length→k≠j→(Xnp s fr kind own many o1 k).getD j false=o.getD j false:=fun j hj e=>by
   unfold Xnp;generalize (decide (0<(k:Int)) && _)=c;cases c
   ·simp only [cond_false]; rw [h1 j hj,hne j e]; rfl
   ·simp only [cond_true]; rw [X82 _ _ _ _ (by omega),h1 j hj,Ym,hne j e]; rfl
  by_cases e:k=j
  ·subst e;have hself:(Xnp s fr kind own many o1 k).getD k false=(o1.getD k false || (decide (0<(k:Int)) && (takes kind own (at_ s ((k:Int) - 1)) && (fr.getD ((k:Int) - 1).toNat false || (many && o1.getD ((k:Int) - 1).toNat false))))):=by
    unfold Xnp;rw [Ym];generalize (decide (0<(k:Int)) && _)=c;cases c
    ·simp
    ·simp only [cond_true]; rw [X82 _ _ _ _ (by omega)]; simp
   rw [hself,h1 k hj];cases k with
   | zero=>simp [pj]
   | succ m =>
    have e1:(((m+1:Nat):Int) - 1)=(m:Int):=by omega
    rw [e1,Ym,h1 m (by omega),ih m (by omega)];have hp:(0:Int)<((m+1:Nat):Int):=by omega
    rw [hne m (by omega)];simp [pj]
  ·rw [hrest j hj e,ih j hj]
   have:decide (j<k+1)=decide (j<k):=by simp; omega
   rw [this]
theorem Xkn {s:List UInt8} {fr:List Bool} {kind k c:Int} {own:UInt8} {many:Bool} (hu:∀ x,takes kind own x=X1j k c x) (hm:many=true ↔ (k=2∨k=3)):EndsAt s fr (Xir k c) (ends s fr kind own many):=by
 refine ⟨Xgz s fr kind own many,fun j hj=>?_⟩;unfold ends;rw [Xe6 s fr kind own many (s.length+1) (Yu _) j hj];have hd:decide (j<s.length+1)=true:=by simp; omega
 rw [hd,Y2u];cases many with
 | true =>
  have hk:=hm.1 rfl;unfold Xir;simp only [hk,if_true]
  induction j with
  | zero =>
   simp only [pj,Y2u]
   constructor
   ·intro h; exact ⟨0,Yu _,h,by rw [X5e]; simp⟩
   ·rintro ⟨i,h1,h2,_⟩;obtain rfl:i=0:=by omega
    exact h2
  | succ j ih =>
   have ih:pj s fr kind own true j=true ↔ ∃ i,i≤j∧fr.getD i false=true∧∀ x,x∈seg s i j→X1j k c x=true:=ih (by omega) (by simp; omega);rw [pj,Y1j,Yq,Yq,Y1j,Yq,ih,hu];constructor
   ·rintro (⟨_,h⟩ | ⟨h1,h2 | ⟨_,i,h3,h4,h5⟩⟩)
    ·exact ⟨j+1,Yu _,h,by rw [X5e]; simp⟩
    ·refine ⟨j,by omega,h2,?_⟩;rw [X7k s (Yu _) (by omega),X5e];simpa using h1
    ·refine ⟨i,by omega,h4,?_⟩;rw [X7k s h3 (by omega)];intro x hx;rcases Y16.1 hx with hx | hx
     ·exact h5 x hx
     ·simp at hx; subst hx; exact h1
   ·rintro ⟨i,h1,h2,h3⟩
    by_cases e:i=j+1
    ·subst e; exact .inl ⟨rfl,h2⟩
    ·rw [X7k s (by omega) (by omega)] at h3;exact .inr ⟨h3 _ (by simp),.inr ⟨rfl,i,by omega,h2,fun x hx=>h3 x (by simp [hx])⟩⟩
 | false =>
  have hk:¬ (k=2∨k=3):=fun h=>by have:=hm.2 h; cases this
  unfold Xir;simp only [hk,if_false]
  cases j with
  | zero =>
   simp only [pj,Y58]
   constructor
   ·intro h; cases h
   ·rintro ⟨i,h1,h2,x,h3,_⟩
    have:=X9u s h1 hj
    rw [h3] at this;simp at this
  | succ j =>
   rw [pj];simp only [Y58,Bool.or_false,Y38,Yq,hu]
   constructor
   ·rintro ⟨h1,h2⟩;exact ⟨j,by omega,h2,at_ s (j:Int),by rw [X7k s (Yu _) (by omega),X5e]; rfl,h1⟩
   ·rintro ⟨i,h1,h2,x,h3,h4⟩;have hl:=X9u s h1 hj;rw [h3] at hl;obtain rfl:i=j:=by simp at hl; omega
    rw [X7k s (Yu _) (by omega),X5e] at h3;simp at h3
    subst h3;exact ⟨h4,h2⟩
def barsGo:List UInt8→Int→Int→List Int→List Int
 | [],_,_,out=>out
 | c::r,i,d,out =>
  if c.toNat=92 then (match r with | []=>out | _::r'=>barsGo r' (i+2) d out)
  else if c.toNat=40 then barsGo r (i+1) (d+1) out
  else if c.toNat=124 then barsGo r (i+1) d (if d=1 then out ++ [i] else out)
  else if c.toNat=41 then (if d - 1=0 then out ++ [i] else barsGo r (i+1) (d - 1) out)
  else barsGo r (i+1) d out
theorem Xbz (i d:Int) (out:List Int):barsGo [] i d out=out:=by rw [barsGo.eq_def]
theorem Xj (c:UInt8) (r:List UInt8) (i d:Int) (out:List Int):barsGo (c::r) i d out =
  if c.toNat=92 then (match r with | []=>out | _::r'=>barsGo r' (i+2) d out)
  else if c.toNat=40 then barsGo r (i+1) (d+1) out
  else if c.toNat=124 then barsGo r (i+1) d (if d=1 then out ++ [i] else out)
  else if c.toNat=41 then (if d - 1=0 then out ++ [i] else barsGo r (i+1) (d - 1) out)
  else barsGo r (i+1) d out:=by rw [barsGo.eq_def]
theorem X11 {c:UInt8} (h1:c≠92) (h2:c≠40) (h3:c≠124) (h4:c≠41) (r:List UInt8) (i d:Int) (out:List Int):barsGo (c::r) i d out=barsGo r (i+1) d out:=by
 rw [Xj,if_neg (show ¬ c.toNat=92 from X2k h1),if_neg (show ¬ c.toNat=40 from X2k h2),if_neg (show ¬ c.toNat=124 from X2k h3),if_neg (show ¬ c.toNat=41 from X2k h4)]
theorem Xmw {t:List UInt8} {b:Pt} (h:Rep t b):∀ (rest:List UInt8) (i d:Int) (out:List Int),2≤d→barsGo (t ++ rest) i d out=barsGo rest (i+t.length) d out:=by
 induction h with
 | nil=>intro rest i d out _; simp
 | @one l p _ ih=>intro rest i d out hd; rw [Ys,X11 (by decide) (by decide) (by decide) (by decide),ih _ _ _ _ hd]; congr 1; simp; omega
 | @all l p _ ih=>intro rest i d out hd; rw [Ys,Ys,X11 (by decide) (by decide) (by decide) (by decide),X11 (by decide) (by decide) (by decide) (by decide),ih _ _ _ _ hd]; congr 1; simp; omega
 | @few l p _ _ ih=>intro rest i d out hd; rw [Ys,X11 (by decide) (by decide) (by decide) (by decide),ih _ _ _ _ hd]; congr 1; simp; omega
 | @bar l p _ ih =>
  intro rest i d out hd;rw [Ys,Xj,if_neg (by decide),if_neg (by decide),if_pos (by decide),if_neg (by omega),ih _ _ _ _ hd]; congr 1; simp; omega
 | @esc l p c _ ih =>
  intro rest i d out hd;rw [Ys,Ys,Xj,if_pos (by decide)];simp only
  rw [ih _ _ _ _ hd]; congr 1; simp; omega
 | @byte l p c h1 h2 h3 h4 h5 h6 _ ih=>intro rest i d out hd; rw [Ys,X11 h6 h3 h4 h5,ih _ _ _ _ hd]; congr 1; simp; omega
 | @grp t l b p _ _ ihb ih =>
  intro rest i d out hd;rw [Ys,Yf,Ys,Xj,if_neg (by decide),if_pos (by decide),ihb _ _ _ _ (by omega),Xj,if_neg (by decide),if_neg (by decide),if_neg (by decide),if_pos (by decide),if_neg (by omega),show d+1 - 1=d by omega,ih _ _ _ _ hd]
  congr 1; simp; omega
inductive Alts:List UInt8→Pt→Int→List Int→Prop
 | last {t b} (i:Int):Rep t b→b.flat→Alts t b i []
 | more {t1 b1 t2 b2 ps} (i:Int):Rep t1 b1→b1.flat→Alts t2 b2 (i+t1.length+1) ps→Alts (t1 ++ 124::t2) (b1.app (.bar b2)) i ((i+t1.length)::ps)
theorem Xqp {t:List UInt8} {b:Pt} {i:Int} {ps:List Int} (h:Alts t b i ps):ps.length≤t.length:=by
 induction h with
 | last=>simp
 | more _ _ _ _ ih=>simp; omega
theorem Alts.pre {x t:List UInt8} {b:Pt} {i:Int} {ps:List Int} {f:Pt→Pt} (hf:∀ p,p.flat→(f p).flat) (hfa:∀ p q,f (p.app q)=(f p).app q) (h:Alts t b (i+x.length) ps) (hp:∀ {t1 p},(t1.head?=some 42→t.head?=some 42)→Rep t1 p→Rep (x ++ t1) (f p)):Alts (x ++ t) (f b) i ps:=by
 cases h with
 | last _ h1 h2=>exact .last i (hp (fun h=>h) h1) (hf _ h2)
 | @more t1 b1 t2 b2 ps _ h1 h2 h3 =>
  rw [← Yf,hfa];have e:i+(x.length:Int)+(t1.length:Int)=i+((x ++ t1).length:Int):=by simp; omega
  rw [e] at h3 ⊢;refine .more i (hp ?_ h1) (hf _ h2) h3;intro e;cases t1 with
  | nil=>simp at e
  | cons y t1=>simpa using e
theorem alts {t:List UInt8} {b:Pt} (h:Rep t b):∀ (i:Int),∃ ps,Alts t b i ps∧∀ (rest:List UInt8) (out:List Int),barsGo (t ++ rest) i 1 out=barsGo rest (i+t.length) 1 (out ++ ps):=by
 induction h with
 | nil=>intro i; exact ⟨[],.last i .nil trivial,fun rest out=>by simp⟩
 | @one l p _ ih =>
  intro i;obtain ⟨ps,h1,h2⟩:=ih (i+1);refine ⟨ps,Alts.pre (x:=[63]) (f:=.lit 1 0) (fun _ h=>h) (fun _ _=>rfl) h1 (fun _ h=>.one h),fun rest out=>?_⟩;rw [Ys,X11 (by decide) (by decide) (by decide) (by decide),h2]; congr 1; simp; omega
 | @all l p _ ih =>
  intro i;obtain ⟨ps,h1,h2⟩:=ih (i+2);refine ⟨ps,Alts.pre (x:=[42,42]) (f:=.lit 2 0) (fun _ h=>h) (fun _ _=>rfl) h1 (fun _ h=>.all h),fun rest out=>?_⟩;rw [Ys,Ys,X11 (by decide) (by decide) (by decide) (by decide),X11 (by decide) (by decide) (by decide) (by decide),show i+1+1=i+2 by omega,h2]; congr 1; simp; omega
 | @few l p hl _ ih =>
  intro i;obtain ⟨ps,h1,h2⟩:=ih (i+1);refine ⟨ps,Alts.pre (x:=[42]) (f:=.lit 3 0) (fun _ h=>h) (fun _ _=>rfl) h1 (fun hd h=>.few (fun e=>hl (hd e)) h),fun rest out=>?_⟩;rw [Ys,X11 (by decide) (by decide) (by decide) (by decide),h2]; congr 1; simp; omega
 | @bar l p _ ih =>
  intro i;obtain ⟨ps,h1,h2⟩:=ih (i+1);refine ⟨i::ps,?_,fun rest out=>?_⟩
  ·have h3:=Alts.more (t1:=[]) i .nil trivial (by simpa using h1);simpa [Pt.app] using h3
  ·rw [Ys,Xj,if_neg (by decide),if_neg (by decide),if_pos (by decide),if_pos rfl,h2,Yf]; congr 1; simp; omega
 | @esc l p c _ ih =>
  intro i;obtain ⟨ps,h1,h2⟩:=ih (i+2);refine ⟨ps,Alts.pre (x:=[92,c]) (f:=.lit 0 (c.toNat:Int)) (fun _ h=>h) (fun _ _=>rfl) h1 (fun _ h=>.esc c h),fun rest out=>?_⟩;rw [Ys,Ys,Xj,if_pos (by decide)];simp only
  rw [h2]; congr 1; simp; omega
 | @byte l p c k1 k2 k3 k4 k5 k6 _ ih =>
  intro i;obtain ⟨ps,h1,h2⟩:=ih (i+1);refine ⟨ps,Alts.pre (x:=[c]) (f:=.lit 0 (c.toNat:Int)) (fun _ h=>h) (fun _ _=>rfl) h1 (fun _ h=>.byte c k1 k2 k3 k4 k5 k6 h),fun rest out=>?_⟩;rw [Ys,X11 k6 k3 k4 k5,h2]; congr 1; simp; omega
 | @grp t l b p hb _ _ ih =>
  intro i;have e:i+((40::(t ++ [41])).length:Int)=i+1+t.length+1:=by simp; omega
  obtain ⟨ps,h1,h2⟩:=ih (i+1+t.length+1);refine ⟨ps,?_,fun rest out=>?_⟩
  ·have h3:=Alts.pre (x:=40::(t ++ [41])) (f:=.grp b) (fun _ h=>h) (fun _ _=>rfl) (by rw [e]; exact h1) (fun {t1 p1} _ h=>by have:=Rep.grp hb h; simpa using this);simpa using h3
  ·rw [Ys,Yf,Ys,Xj,if_neg (by decide),if_pos (by decide),Xmw hb _ _ _ _ (by omega),Xj,if_neg (by decide),if_neg (by decide),if_neg (by decide),if_pos (by decide),if_neg (by omega),show (1:Int)+1 - 1=1 by omega,h2]
   congr 1; simp; omega
theorem Xpd {t:List UInt8} {b:Pt} (h:Rep t b) (rest:List UInt8) (i:Int):∃ ps,Alts t b (i+1) ps∧barsGo (40::(t ++ 41::rest)) i 0 []=ps ++ [i+1+t.length]:=by
 obtain ⟨ps,h1,h2⟩:=alts h (i+1);refine ⟨ps,h1,?_⟩;rw [Xj,if_neg (by decide),if_pos (by decide),Int.zero_add,h2,Xj,if_neg (by decide),if_neg (by decide),if_neg (by decide),if_pos (by decide),if_pos (by omega)];rfl
def spc (c:UInt8):Bool:=((((((c.toNat:Int) == 63) || ((c.toNat:Int) == 42)) || ((c.toNat:Int) == 40)) || ((c.toNat:Int) == 41)) || ((c.toNat:Int) == 124)) || ((c.toNat:Int) == 92)
def lit:List UInt8→List UInt8
 | []=>[]
 | c::l=>(bif spc c then [92,c] else [c]) ++ lit l
end Pat
namespace Pat
open Go Gk Pt
section
variable {l:List UInt8} {k:Nat} {r:Pt}
theorem Xbu (hk:k<l.length) {c:UInt8} {t:List UInt8} (h:l.drop k=c::t):c=at_ l (k:Int)∧t=l.drop (k+1):=by
 rw [X8 l hk] at h;injection h with h1 h2
 exact ⟨h1.symm,h2.symm⟩
theorem Xqn {n:UInt8} {m:Nat} (hn:n.toNat=m) (h:(at_ l (k:Int)).toNat=m):at_ l (k:Int)=n:=Y19.1 (by omega)
theorem Xtl (h:Rep (l.drop k) r) (hk:k<l.length) (hc:(at_ l (k:Int)).toNat=63):∃ r',r=.lit 1 0 r'∧Rep (l.drop (k+1)) r':=by
 have e:=Xqn (n:=63) rfl hc;rw [X8 l hk,e] at h;generalize l.drop (k+1)=t at h;generalize hx:(63::t:List UInt8)=x at h;cases h with
 | nil=>cases hx
 | one h=>injection hx with _ h2; subst h2; exact ⟨_,rfl,h⟩
 | all=>injection hx with h1; exact absurd h1 (by decide)
 | few=>injection hx with h1; exact absurd h1 (by decide)
 | grp=>injection hx with h1; exact absurd h1 (by decide)
 | bar=>injection hx with h1; exact absurd h1 (by decide)
 | esc=>injection hx with h1; exact absurd h1 (by decide)
 | byte c h1=>injection hx with h2; exact absurd h2.symm h1
theorem Xhv (h:Rep (l.drop k) r) (hk:k<l.length) (hc:(at_ l (k:Int)).toNat=42) :
  (k+1<l.length∧at_ l ((k:Int)+1)=42∧∃ r',r=.lit 2 0 r'∧Rep (l.drop (k+2)) r')∨((k+1<l.length→at_ l ((k:Int)+1)≠42)∧∃ r',r=.lit 3 0 r'∧Rep (l.drop (k+1)) r'):=by
 have e:=Xqn (n:=42) rfl hc;rw [X8 l hk,e] at h;generalize ht:l.drop (k+1)=t at h;generalize hx:(42::t:List UInt8)=x at h;cases h with
 | nil=>cases hx
 | one=>injection hx with h1; exact absurd h1 (by decide)
 | @all t' r' h =>
  injection hx with _ h2; subst h2
  have hk1:k+1<l.length:=by
   apply Classical.byContradiction
   intro hn;rw [Y17 (by omega)] at ht;cases ht
  obtain ⟨a,b⟩:=Xbu hk1 ht;subst b;exact .inl ⟨hk1,a.symm,r',rfl,h⟩
 | @few t' r' hh h =>
  injection hx with _ h2; subst h2
  refine .inr ⟨fun hk1=>?_,r',rfl,h⟩;rw [← ht,X8 l hk1] at hh;intro e2;exact hh (by rw [List.head?_cons]; exact congrArg _ e2)
 | grp=>injection hx with h1; exact absurd h1 (by decide)
 | bar=>injection hx with h1; exact absurd h1 (by decide)
 | esc=>injection hx with h1; exact absurd h1 (by decide)
 | byte c _ h1=>injection hx with h2; exact absurd h2.symm h1
theorem Xtz (h:Rep (l.drop k) r) (hk:k<l.length) (hc:(at_ l (k:Int)).toNat=42) (h2:k+1<l.length∧(at_ l ((k:Int)+1)).toNat=42):∃ r',r=.lit 2 0 r'∧Rep (l.drop (k+2)) r':=by
 rcases Xhv h hk hc with ⟨_,_,h⟩ | ⟨h3,_⟩
 ·exact h
 ·exact absurd (Y19.1 h2.2) (h3 h2.1)
theorem Xsd (h:Rep (l.drop k) r) (hk:k<l.length) (hc:(at_ l (k:Int)).toNat=42) (h2:¬ (k+1<l.length∧(at_ l ((k:Int)+1)).toNat=42)):∃ r',r=.lit 3 0 r'∧Rep (l.drop (k+1)) r':=by
 rcases Xhv h hk hc with ⟨h3,h4,_⟩ | ⟨_,h⟩
 ·exact absurd ⟨h3,by rw [h4]; rfl⟩ h2
 ·exact h
theorem Xrr (h:Rep [] r):r=.nil:=by cases h; rfl
theorem Xkz (h:Rep (l.drop k) r) (hk:k<l.length) (hc:(at_ l (k:Int)).toNat=92):k+1<l.length∧∃ r',r=.lit 0 ((at_ l ((k:Int)+1)).toNat:Int) r'∧Rep (l.drop (k+2)) r':=by
 have e:=Xqn (n:=92) rfl hc;rw [X8 l hk,e] at h;generalize ht:l.drop (k+1)=t at h;generalize hx:(92::t:List UInt8)=x at h;cases h with
 | nil=>cases hx
 | one=>injection hx with h1; exact absurd h1 (by decide)
 | all=>injection hx with h1; exact absurd h1 (by decide)
 | few=>injection hx with h1; exact absurd h1 (by decide)
 | grp=>injection hx with h1; exact absurd h1 (by decide)
 | bar=>injection hx with h1; exact absurd h1 (by decide)
 | @esc t' r' d h =>
  injection hx with _ h2; subst h2
  have hk1:k+1<l.length:=by
   apply Classical.byContradiction
   intro hn;rw [Y17 (by omega)] at ht;cases ht
  obtain ⟨a,b⟩:=Xbu hk1 ht;subst b;refine ⟨hk1,r',?_,h⟩;rw [a]; rfl
 | byte c _ _ _ _ _ h1=>injection hx with h2; exact absurd h2.symm h1
theorem Xtt (h:Rep (l.drop k) r) (hk:k<l.length) (hc:(at_ l (k:Int)).toNat=40):∃ t1 t2 b r',l.drop k=40::(t1 ++ 41::t2)∧r=.grp b r'∧Rep t1 b∧Rep t2 r'∧l.drop (k+1)=t1 ++ 41::t2∧l.drop (k+1+t1.length+1)=t2∧k+1+t1.length<l.length:=by
 have e:=Xqn (n:=40) rfl hc;have h0:=X8 l hk;rw [e] at h0;rw [h0] at h ⊢;generalize ht:l.drop (k+1)=t at h;generalize hx:(40::t:List UInt8)=x at h;cases h with
 | nil=>cases hx
 | one=>injection hx with h1; exact absurd h1 (by decide)
 | all=>injection hx with h1; exact absurd h1 (by decide)
 | few=>injection hx with h1; exact absurd h1 (by decide)
 | @grp t1 t2 b r' h1 h2 =>
  injection hx with _ h3; subst h3
  have hl:=congrArg List.length ht;simp at hl
  refine ⟨t1,t2,b,r',rfl,rfl,h1,h2,rfl,?_,by omega⟩;rw [show k+1+t1.length+1=(k+1)+(t1.length+1) by omega,← Y1m,ht,← Y1m,Y42]; rfl
 | bar=>injection hx with h1; exact absurd h1 (by decide)
 | esc=>injection hx with h1; exact absurd h1 (by decide)
 | byte c _ _ h1=>injection hx with h2; exact absurd h2.symm h1
theorem Xol (h:Rep (l.drop k) r) (hf:r.flat) (hk:k<l.length) (h1:¬ (at_ l (k:Int)).toNat=63) (h2:¬ (at_ l (k:Int)).toNat=42) (h3:¬ (at_ l (k:Int)).toNat=92) (h4:¬ (at_ l (k:Int)).toNat=40):∃ r',r=.lit 0 ((at_ l (k:Int)).toNat:Int) r'∧Rep (l.drop (k+1)) r':=by
 rw [X8 l hk] at h;generalize l.drop (k+1)=t at h;generalize at_ l (k:Int)=c at h h1 h2 h3 h4;generalize hx:(c::t:List UInt8)=x at h;cases h with
 | nil=>cases hx
 | one=>injection hx with e; subst e; exact absurd rfl h1
 | all=>injection hx with e; subst e; exact absurd rfl h2
 | few=>injection hx with e; subst e; exact absurd rfl h2
 | grp=>injection hx with e; subst e; exact absurd rfl h4
 | bar=>exact hf.elim
 | esc=>injection hx with e; subst e; exact absurd rfl h3
 | byte c' _ _ _ _ _ _ h=>injection hx with e e2; subst e; subst e2; exact ⟨_,rfl,h⟩
end
def Xls (l t2:List UInt8) (b:Pt) (all:List Int) (close:Int) (m at0:Nat) (D:Xdg):Prop :=
 (m<all.length→∃ tr br psr,all.drop m=psr ++ [close]∧Alts tr br (at0:Int) psr∧l.drop at0=tr ++ 41::t2∧(at0:Int)+tr.length=close∧∀ u,((sem b).1 u∨(sem b).2 u) ↔ (D u∨((sem br).1 u∨(sem br).2 u)))∧(m=all.length→∀ u,((sem b).1 u∨(sem b).2 u) ↔ D u)
theorem Xow {l t2:List UInt8} {b:Pt} {all:List Int} {close:Int} {m at0:Nat} {D:Xdg} (h:Xls l t2 b all close m at0 D) (hm:m<all.length):∃ (q:Nat) (b1:Pt),all[m]?=some (q:Int)∧at0≤q∧q<l.length∧(q:Int)≤close∧Rep ((l.drop at0).take (q - at0)) b1∧b1.flat∧Xls l t2 b all close (m+1) (q+1) (fun u=>D u∨(sem b1).1 u):=by
 obtain ⟨tr,br,psr,h1,h2,h3,h4,h5⟩:=h.1 hm;have hlen:=congrArg List.length h3;have hall:=congrArg List.length h1;simp at hlen hall
 have hget:all[m]?=(psr ++ [close])[0]?:=by rw [← h1]; simp
 cases h2 with
 | last _ k1 k2 =>
  refine ⟨at0+tr.length,br,by rw [hget]; simp; omega,by omega,by omega,by omega,?_,k2,?_,?_⟩
  ·rw [h3,show at0+tr.length - at0=tr.length by omega,Y30]; exact k1
  ·intro hm2; simp at hall; omega
  ·intro _ u;rw [h5 u]
   have:=X9o br k2 u
   simp [this]
 | @more t1 b1 t2' b2 ps _ k1 k2 k3 =>
  simp at hlen
  refine ⟨at0+t1.length,b1,by rw [hget]; simp,by omega,by omega,?_,?_,k2,?_,?_⟩
  ·simp at h4; omega
  ·rw [h3,show at0+t1.length - at0=t1.length by omega,Yf,Y30]; exact k1
  ·intro hm2;refine ⟨t2',b2,ps,?_,by simpa using k3,?_,by simp at h4; omega,fun u=>?_⟩
   ·rw [← Y1m,h1]; rfl
   ·rw [show at0+t1.length+1=at0+(t1.length+1) by omega,← Y1m,h3,Yf,← Y1m,Y42]; rfl
   ·rw [h5 u,Xge _ _ k2,Xdc _ _ k2];have hc:cat (sem b1).1 (sem (.bar b2)).1 u ↔ (sem b1).1 u:=Xlu _ u;rw [hc];simp only [sem]
    constructor
    ·rintro (a | a | a)
     ·exact .inl (.inl a)
     ·exact .inl (.inr a)
     ·exact .inr a
    ·rintro ((a | a) | a)
     ·exact .inl a
     ·exact .inr (.inl a)
     ·exact .inr (.inr a)
  ·intro hm2; simp at hall; omega
end Pat
