/- Part 6 of what the proof stands on: W21n, W18s, W18t, W18u, W18v, W18w, W21f, Tmo, W21g, W21o, W21p, W21q, W21s, W21t, W18x, W21u, W21w, Op21, W20a. -/
import Derived.Test.YtfibbpgikjggfaaGreatDoorM22E
import Derived.KernelRfl
import Derived.Laws.StructEq
import Derived.OpenShut
set_option linter.unusedVariables false
set_option linter.unusedSimpArgs false
namespace Go.Proofs.YtfibbpgikjggfaaGreatDoor
open Gk Ul Pc Tk Tr
theorem Xi0:Bld Tryz.prog 193 [(0,1)] [.map none]:=X30 Xr1 Tryz.zeroValue193 (fun w=>by simp [go_sem])
def UsrsAt (I:Im) (a:Option Addr) (l:List Us):Prop:=∀ (i:Nat) (u:Us),l[i]?=some u→∃ p ra rc,a=some p∧At I (p.add (i*3)) (X5q u ra rc)∧u.attrs.length≤rc∧RS I ra 2 u.attrs.length (X28 X1r u.attrs)
theorem UsrsAt.mono {I J:Im} {a:Option Addr} {l:List Us} (h:UsrsAt I a l) (hl:Le I J):UsrsAt J a l:=fun i u hu=>by
 obtain ⟨p,ra,rc,e,h1,h2,h3⟩:=h i u hu
 exact ⟨p,ra,rc,e,h1.mono hl,h2,h3.mono hl⟩
structure Us.fits (u:Us):Prop where
 name:u.name.length≤maxLen
 pw:u.pw.length≤maxLen
 attrs:u.attrs.length≤9223372036854775807∧∀ p∈u.attrs,X1j p
def X9v:List Us→Nat→List Us→Nat×Nat
 | [],_,_=>(0,0)
 | u::r,i,acc=>if 16≤i then (5,i) else if Xcz u=false then (1,i) else if acc.any (fun t=>t.name == u.name) then (7,i) else X9v r (i+1) (acc ++ [u])
def KvOf (J:Im) (kv:List (List UInt8×Value)) (l:List Us):Prop:=kv.length=l.length∧∀ (i:Nat) (u:Us),l[i]?=some u→∃ cs,kv[i]?=some (u.name,.agg (List.toArray cs))∧UsAt J u cs
theorem KvOf.mono {I J:Im} {kv:List (List UInt8×Value)} {l:List Us} (h:KvOf I kv l) (hl:Le I J):KvOf J kv l:=⟨h.1,fun i u hu=>by
 obtain ⟨cs,h1,h2⟩:=h.2 i u hu
 exact ⟨cs,h1,h2.mono hl⟩⟩
theorem KvOf.snoc {J:Im} {kv:List (List UInt8×Value)} {l:List Us} {u:Us} {cs:List Value} (h:KvOf J kv l) (hu:UsAt J u cs):KvOf J (kv ++ [(u.name,.agg cs.toArray)]) (l ++ [u]):=⟨by simp [h.1],fun i t ht=>by
 rcases Yw i l.length with h1 | h1
 ·rw [Yh h1] at ht
  rw [Yh (by rw [h.1]; exact h1)]
  exact h.2 i t ht
 ·have h2:=(Y5.1 ht).1
  simp only [Y0,Yc,Yl] at h2
  have e:i=l.length:=by omega
  subst e
  simp at ht; subst ht
  exact ⟨cs,by rw [← h.1]; simp,hu⟩⟩
theorem Xla {J:Im} (name:List UInt8):∀ {kv:List (List UInt8×Value)} {l:List Us},KvOf J kv l→(l.find? (fun t=>t.name == name)=none∧kv.lookup name=none)∨∃ u cs,l.find? (fun t=>t.name == name)=some u∧kv.lookup name=some (.agg (List.toArray cs))∧UsAt J u cs
 | [],[],_=>.inl ⟨rfl,rfl⟩
 | [],u::l,h=>by have:=h.1; simp at this
 | p::kv,[],h=>by have:=h.1; simp at this
 | p::kv,u::l,h=>by
  obtain ⟨cs,h1,h2⟩:=h.2 0 u rfl
  simp at h1; subst h1
  have h3:KvOf J kv l:=⟨by simpa using h.1,fun i t ht=>by simpa using h.2 (i+1) t (by simpa using ht)⟩
  rw [Y3u]
  by_cases e:u.name=name
  ·subst e
   exact .inr ⟨u,cs,by simp,by simp [List.lookup],h2⟩
  ·have e1:(u.name == name)=false:=beq_eq_false_iff_ne.2 e
   have e2:(name == u.name)=false:=beq_eq_false_iff_ne.2 (Ne.symm e)
   simp only [e1,List.lookup,e2]
   exact Xla name h3
theorem Xp2 (l:List Us) (name:List UInt8):l.any (fun t=>t.name == name)=(l.find? (fun t=>t.name == name)).isSome:=by
 rw [Y5c,Y33,List.find?_isSome]
def TabAt (J:Im) (tb:Nat) (l:List Us):Prop:=∃ mb kv,At J (ad tb 0) [.map (some mb)]∧MapI J S mb kv∧KvOf J kv l
theorem TabAt.mono {I J:Im} {tb:Nat} {l:List Us} (h:TabAt I tb l) (hl:Le I J):TabAt J tb l:=by
 obtain ⟨mb,kv,h1,h2,h3⟩:=h
 exact ⟨mb,kv,h1.mono hl,h2.mono hl,h3.mono hl⟩
theorem X31 {J:Im} {b:Nat} {cs:List Value} {E:TypeId} (h:J b=some (Xr cs E)):At J (ad b 0) cs:=⟨rfl,_,E,(0,0),h,fun j v hj=>by simpa [ad] using hj⟩
theorem X91 {u:Us} (h:Xcz u=true):u.attrs.length≤8:=by
 unfold Xcz at h
 simp only [Ym,decide_eq_true_eq] at h
 omega
set_option maxRecDepth 20000 in
theorem Xcl (a:Option Addr) (cap:Nat) (l:List Us) (hln:l.length≤9223372036854775807) (hfit:∀ u∈l,u.fits) (B w:World) (I:Im) (hU:UsrsAt I a l) (As:List Xe) (hS:Sat B w I As) :
  Calls Tryz.prog 103 [.slice a l.length cap].toArray w (Ret fun v w'=>∃ J,Le I J∧(((X9v l 0 []).1=0∧∃ tb,v=.tuple #[ptr tb 0,I64 0,I64 0]∧TabAt J tb l)∨((X9v l 0 []).1≠0∧v=.tuple #[.pointer none,I64 ((X9v l 0 []).1:Nat),I64 ((X9v l 0 []).2:Nat)]))∧Sat B w' J As):=by
 refine calls Tryz.func103 rfl Tryz.ntmps103 rfl (.seq (.q 3 rfl (.seq (.region (.mkMap S hS rfl ?_)))))
 clear hS; intro b10 w hS
 refine .val (.build (cs:=[_]) (X5 (.of rfl) X6) Xi0 rfl) rfl (.boxA (cs:=[_]) hS (.of rfl) rfl ?_)
 clear hS; intro b12 w hS
 refine .q 1 rfl (.nil (.seq (.seq (.region (.run 3 rfl ⟨⟨_,Xiz⟩,trivial⟩ (.nil (.block (.loop (σ:=Nat×Im×List (List UInt8×Value)) (fun ⟨i,J,kv⟩=>[(0,.slice a l.length cap),(5,ptr b12 0),(13,.slice a l.length cap),(14,I64 (l.length:Nat)),(15,I64 (i:Nat))]) (fun ⟨i,J,kv⟩ w=>i≤l.length∧Le I J∧KvOf J kv (l.take i)∧X9v (l.drop i) i (l.take i)=X9v l 0 []∧Sat B w J (blk b12 [.map (some b10)] 193::Xel S b10 kv::As)) (fun ⟨i,J,kv⟩=>l.length - i) (0,I,[]) ⟨rfl,rfl,rfl,rfl,rfl,trivial⟩ ⟨Ys _,Le.refl _,⟨rfl,fun i u h=>by simp at h⟩,rfl,hS⟩ ?_))))))))
 rintro ⟨i,J,kv⟩ w ⟨hi,hJ,hkv,hq,hS⟩
 change WC _ _ _ _ [(0,.slice a l.length cap),(5,ptr b12 0),(13,.slice a l.length cap),(14,I64 (l.length:Nat)),(15,I64 (i:Nat))] w
 refine .seq (.q 1 rfl (.seq ?_))
 refine WC.cond rfl (fun hb16=>?_) (fun hb16=>?_)
 ·
  have hc16:=hb16; try simp only [Y6] at hc16
  refine .skip (.seq (.block (.seq ?_)))
  obtain ⟨u,hu⟩:∃ u,l[i]?=some u:=⟨_,Y4 (by omega)⟩
  obtain ⟨p,ra,rc,hap,hA0,hrc,hRR⟩:=hU i u hu
  have hfu:=hfit u (Yn hu)
  subst hap
  have hA:=hA0.mono hJ
  have hR:=hRR.mono hJ
  have hstep:X9v (l.drop i) i (l.take i)=if 16≤i then (5,i) else if Xcz u=false then (1,i) else if (l.take i).any (fun t=>t.name == u.name) then (7,i) else X9v (l.drop (i+1)) (i+1) (l.take (i+1)):=by
   rw [Y1m (by omega),(Y5.1 hu).2,X9v]
   simp only [Y17,hu,Y1y]
  rw [hq] at hstep
  have hlook:=Xla u.name hkv
  have hany:=Xp2 (l.take i) u.name
  refine .t 1 rfl ?_
  refine WL.val (.indexAddrI (.of rfl) (.of rfl) (by omega) (by omega) Xiz X7s) rfl ?_
  refine .val (.ldR (vs:=X5q u ra rc) (.of rfl) (fun j v hj=>X2z hS hA hj) Tryz.isAgg178 X7s rfl) rfl ?_
  unfold X5q
  refine .allocA (cs:=[_,_,_]) hS Xqd rfl ?_
  clear hS; intro b7 w hS
  refine .q 1 rfl ?_
  refine WL.stA hS (k:=0) rfl (.of rfl) (.of rfl) rfl X7s rfl (by simp) ?_
  clear hS; intro w hS; try dsimp only [List.set] at hS
  try simp only [Yj,Ye,Y9,Y7,Yi,Yo,Yf] at hS
  refine .nil (.seq ?_)
  obtain ⟨n9,p9,a9,k9,c9,hz9⟩:∃ n9 p9 a9 k9 c9,(kv.lookup u.name).getD (.agg [S [],S [],.slice none 0 0].toArray)=.agg [S n9,S p9,.slice a9 k9 c9].toArray:=by
   rcases hlook with ⟨_,e⟩ | ⟨t,cs,_,e,ta,tc,ht,_⟩
   ·rw [e]; exact ⟨_,_,_,_,_,rfl⟩
   ·rw [e,ht]; exact ⟨_,_,_,_,_,rfl⟩
  refine .drawn (fun w=>∃ R,Sat B w J (blk b7 [S u.name,S u.pw,.slice ra u.attrs.length rc] 178::blk b12 [.map (some b10)] 193::Xel S b10 kv::R)) (fun j=>!([].contains j)) (by kernel_rfl) ?_
  replace hS:=hS.drew; generalize w.drew=w at hS ⊢
  have hH:∃ R,Sat B w J (blk b7 [S u.name,S u.pw,.slice ra u.attrs.length rc] 178::blk b12 [.map (some b10)] 193::Xel S b10 kv::R):=⟨_,(((hS.pick 2 rfl).pick 2 rfl).pick 2 rfl)⟩
  refine .tp (i:=0) rfl (by kernel_rfl) (fun w=>(.move (.of rfl))) rfl (.tp (i:=1) rfl (by kernel_rfl) (fun w=>(.nilCheck (.of rfl))) rfl ?_)
  refine WD.tp (i:=2) rfl (by kernel_rfl) (fun w=>(.fieldAddr 0 (.of rfl) Xr1 rfl rfl Tryz.sizeOf191 rfl)) rfl ?_
  refine WD.tk (i:=3) rfl (by kernel_rfl) hH (fun w ⟨R,hS⟩=>((.ld (.of rfl) hS (k:=1) rfl Tryz.isAgg191 rfl))) rfl ?_
  refine WD.tp (i:=4) rfl (by kernel_rfl) (fun w=>(.fieldAddr 0 (.of rfl) X5b rfl rfl Qs9 rfl)) rfl ?_
  refine WD.tk (i:=5) rfl (by kernel_rfl) hH (fun w ⟨R,hS⟩=>((.ld (.of rfl) hS (k:=0) rfl Qg9 rfl))) rfl ?_
  refine WD.tk (i:=6) rfl (by kernel_rfl) hH (v:=.tuple #[.agg [S n9,S p9,.slice a9 k9 c9].toArray,.bool (kv.lookup u.name).isSome]) (fun w ⟨R,hS⟩=>by rw [← hz9]; exact .look2 (key:=u.name) keyS (hS.mapNow (k:=2) rfl) (.of rfl) (.of rfl) Tryz.underlying191 Qu9 Xqd) rfl ?_
  refine .tp (i:=7) rfl (by kernel_rfl) (fun w=>(.move (.of rfl))) rfl (.tp (i:=8) rfl (by kernel_rfl) (fun w=>(.extract (.of rfl) rfl)) rfl (.tp (i:=9) rfl (by kernel_rfl) (fun w=>(.extract (.of rfl) rfl)) rfl ?_))
  refine WD.branch [10] (by kernel_rfl) rfl (WO.cons rfl ?_ (WO.nil))
  refine .allocA (cs:=[_,_,_]) hS Xqd rfl ?_
  clear hS; intro b8 w hS
  refine .nil ?_
  clear hH
  have hH:∃ R,Sat B w J (blk b7 [S u.name,S u.pw,.slice ra u.attrs.length rc] 178::blk b12 [.map (some b10)] 193::Xel S b10 kv::R):=⟨_,(((hS.pick 3 rfl).pick 3 rfl).pick 3 rfl)⟩
  refine And.intro (by intro _ _; exact hH) ?_
  refine WD.branch [11] (by kernel_rfl) rfl (WO.cons rfl ?_ (WO.nil))
  refine WL.stA hS (k:=0) rfl (.of rfl) (.of rfl) rfl X7s rfl (by simp) ?_
  clear hS; intro w hS; try dsimp only [List.set] at hS
  try simp only [Yj,Ye,Y9,Y7,Yi,Yo,Yf] at hS
  refine .nil ?_
  clear hH
  have hH:∃ R,Sat B w J (blk b7 [S u.name,S u.pw,.slice ra u.attrs.length rc] 178::blk b12 [.map (some b10)] 193::Xel S b10 kv::R):=⟨_,(((hS.pick 3 rfl).pick 3 rfl).pick 3 rfl)⟩
  refine And.intro (by intro _ _; exact hH) ?_
  refine .tp (i:=12) rfl (by kernel_rfl) (fun w=>(.assign (.of rfl))) rfl (.done (by kernel_rfl) (.seq (.block (.seq (.q 3 rfl ?_)))))
  refine WC.cond rfl (fun hb30=>?_) (fun hb30=>?_)
  ·
   have hc30:=hb30; try simp only [Y6] at hc30
   refine .seq (.q 4 rfl (.ret (X9t Xo3 rfl rfl rfl ?_)))
   have hE:X9v l 0 []=(5,i):=by rw [hstep]; exact if_pos (by omega)
   rw [hE]
   exact ⟨_,rfl,J,hJ,.inr ⟨show (5:Nat)≠0 by decide,rfl⟩,(((hS.drop (k:=0) rfl).drop (k:=0) rfl).drop (k:=0) rfl).drop (k:=0) rfl⟩
  have hc30:=hb30; try simp only [Y6] at hc30
  refine .seq (.region ?_)
  refine WL.val (.ldsW (cs:=[_,_,_]) (.of rfl) hS (k:=1) rfl Tryz.isAgg178 X7s rfl) rfl ?_
  refine .call Tryz.func149 rfl (X0 (.of rfl) X4) rfl (Xju u ra rc hfu.name hfu.attrs.1 hfu.attrs.2 B _ J hR _ hS) ?_
  clear hS
  rintro _ w ⟨rfl,hS⟩
  refine .q 2 rfl (.nil ?_)
  refine WC.cond rfl (fun hb34=>?_) (fun hb34=>?_)
  ·
   have hc34:=hb34; try simp only [Y6] at hc34
   refine .seq (.q 4 rfl (.ret (X9t Xo3 rfl rfl rfl ?_)))
   have hE:X9v l 0 []=(1,i):=by rw [hstep]; rw [if_neg (by omega)]; exact if_pos (by simpa using hb34)
   rw [hE]
   exact ⟨_,rfl,J,hJ,.inr ⟨show (1:Nat)≠0 by decide,rfl⟩,(((hS.drop (k:=0) rfl).drop (k:=0) rfl).drop (k:=0) rfl).drop (k:=0) rfl⟩
  have hc34:=hb34; try simp only [Y6] at hc34
  refine .seq (.q 2 rfl ?_)
  refine WC.cond rfl (fun hb39=>?_) (fun hb39=>?_)
  ·
   have hc39:=hb39; try simp only [Y6] at hc39
   refine .seq (.q 4 rfl (.ret (X9t Xo3 rfl rfl rfl ?_)))
   have hE:X9v l 0 []=(7,i):=by rw [hstep]; rw [if_neg (by omega)]; rw [if_neg (show ¬ Xcz u=false by simpa using hb34)]; exact if_pos (by rw [hany]; rcases hlook with ⟨_,e⟩ | ⟨t,cs,e,_⟩ <;> simp_all)
   rw [hE]
   exact ⟨_,rfl,J,hJ,.inr ⟨show (7:Nat)≠0 by decide,rfl⟩,(((hS.drop (k:=0) rfl).drop (k:=0) rfl).drop (k:=0) rfl).drop (k:=0) rfl⟩
  have hc39:=hb39; try simp only [Y6] at hc39
  refine .skip (.seq ?_)
  have hur:Xcz u=true:=by simpa using hb34
  have hal:=X91 hur
  refine .region ?_
  refine WL.val (.fieldAddr 2 (.of rfl) X5b rfl rfl Xmw rfl) rfl ?_
  refine WL.val (.ld (.of rfl) hS (k:=1) rfl Xra rfl) rfl ?_
  refine .call Tryz.func150 rfl (X0 (.of rfl) X4) rfl (Xgy ra rc u.attrs (by omega) B _ J hR _ hS) ?_
  clear hS
  rintro _ w ⟨J2,ra2,rc2,rfl,hJ2,hrc2,hR2,hS⟩
  refine WL.val (.fieldAddr 2 (.of rfl) X5b rfl rfl Xmw rfl) rfl ?_
  refine WL.st1 hS (k:=1) rfl (.of rfl) (.of rfl) rfl Xmw (by simp) ?_
  clear hS; intro w hS; try dsimp only [List.set] at hS
  refine .nil (.tail 7 (by kernel_rfl) (by kernel_rfl) ?_)
  replace hS:=hS.drew; generalize w.drew=w at hS ⊢
  refine .val (.move (.of rfl)) rfl (.val (.nilCheck (.of rfl)) rfl ?_)
  refine WT.val (by exact .fieldAddr 0 (.of rfl) Xr1 rfl rfl Tryz.sizeOf191 rfl) rfl ?_
  refine WT.val (by exact (.ld (.of rfl) hS (k:=2) rfl Tryz.isAgg191 rfl)) rfl ?_
  refine WT.val (by exact .fieldAddr 0 (.of rfl) X5b rfl rfl Qs9 rfl) rfl ?_
  refine WT.val (by exact (.ld (.of rfl) hS (k:=1) rfl Qg9 rfl)) rfl ?_
  refine WT.val (by exact (.ldsW (cs:=[_,_,_]) (.of rfl) hS (k:=1) rfl Tryz.isAgg178 X7s rfl)) rfl ?_
  refine .nil ?_
  show WL _ _ _ _ _ _ _
  have hno:kv.lookup u.name=none:=by
   cases h:kv.lookup u.name with
   | none=>rfl
   | some x=>rw [h] at hb39; cases hb39
  refine .mput keyS hS (k:=3) rfl (.of rfl) (.of rfl) (.of rfl) hno Tryz.underlying191 Qu9 ?_
  clear hS; intro w hS
  try dsimp only [List.set] at hS
  refine .nil (.region (.run 2 rfl ⟨⟨by omega,by omega⟩,trivial⟩ (.nil ?_)))
  refine ⟨(i+1,J2,kv ++ [(u.name,Value.agg #[S u.name,S u.pw,Value.slice ra2 u.attrs.length rc2])]),⟨rfl,rfl,rfl,rfl,rfl,trivial⟩,⟨by (try dsimp only); omega,hJ.trans hJ2,?_,?_,(hS.drop (k:=0) rfl).drop (k:=0) rfl⟩,by (try dsimp only); omega⟩
  ·show KvOf J2 _ (l.take (i+1))
   rw [Y17,hu]
   exact (hkv.mono hJ2).snoc ⟨ra2,rc2,rfl,hrc2,hR2⟩
  ·show X9v (l.drop (i+1)) (i+1) (l.take (i+1))=_
   rw [hstep,if_neg (by omega),if_neg (by rw [hur]; decide),if_neg]
   rw [hany]
   rcases hlook with ⟨e,_⟩ | ⟨t,cs,e,e2,_⟩
   ·rw [e]; decide
   ·rw [hno] at e2; cases e2
 have hc16:=hb16; try simp only [Y6] at hc16
 refine .exit (.seq (.q 4 rfl (.ret (X9t Xo3 rfl rfl rfl ?_))))
 have e:i=l.length:=by omega
 subst e
 have hE:X9v l 0 []=(0,0):=by rw [← hq,Y3n]; rfl
 rw [Y1c] at hkv
 rw [hE]
 obtain ⟨J2,hJ2,hA2,hS⟩:=hS.freeze (k:=0) rfl
 obtain ⟨J3,hJ3,hM3,hS⟩:=hS.freezeMap (k:=0) rfl
 exact ⟨_,rfl,J3,(hJ.trans hJ2).trans hJ3,.inl ⟨rfl,b12,rfl,b10,kv,(X31 hA2).mono hJ3,hM3,(hkv.mono hJ2).mono hJ3⟩,hS⟩
end Go.Proofs.YtfibbpgikjggfaaGreatDoor
namespace Go.Proofs.YtfibbpgikjggfaaGreatDoor
open Gk Pat
def CompT (I:Im) (l:List UInt8) (po:Option Addr) (e a:Int):Prop:=match cmp l with
 | .error (e',a')=>po=none∧e=e'∧a=a'
 | .ok Q=>∃ p,po=some p∧e=0∧a=0∧PatI I p Q l.length
theorem CompT.mono {I J:Im} {l:List UInt8} {po:Option Addr} {e a:Int} (h:CompT I l po e a) (hl:Le I J):CompT J l po e a:=by
 unfold CompT at h ⊢
 cases hq:cmp l with
 | error x=>rw [hq] at h; exact h
 | ok Q=>rw [hq] at h; obtain ⟨p,h1,h2,h3,h4⟩:=h; exact ⟨p,h1,h2,h3,h4.mono hl⟩
theorem Xcr (l:List UInt8) (B w:World) (I:Im) (As:List Xe) (hS:Sat B w I As) (hl:l.length≤9223372036854775807) :
  Calls Tryz.prog 189 [S l].toArray w (Ret fun v w'=>∃ po e a J,v=.tuple #[.pointer po,I64 e,I64 a]∧Le I J∧CompT J l po e a∧Sat B w' J As):=by
 refine (Xfc l B w I As hS hl).mono fun x w' ⟨v,hx,h⟩=>⟨v,hx,?_⟩
 rcases h with ⟨e,a,J,h1,h2,h3,h4⟩ | ⟨Q,p,J,h1,h2,h3,h4,h5⟩
 ·exact ⟨none,e,a,J,h2,h3,by rw [CompT,h1]; exact ⟨rfl,rfl,rfl⟩,h4⟩
 ·exact ⟨some p,0,0,J,h2,h3,by rw [CompT,h1]; exact ⟨p,rfl,rfl,rfl,h4⟩,h5⟩
theorem Xjw {l:List UInt8} {Q:List Pl} (h:cmp l=.ok Q):WF Q∧0<Q.length∧Q.length≤201∧l.length≤200:=by
 obtain ⟨hl,p,h1,h2,h3,rfl⟩:=Xk0 h
 obtain ⟨hW,hE⟩:=X9p h1.ok
 have h4:=X7n p
 have h5:=h1.len
 exact ⟨hW,hE.1,by unfold X1a at h4; omega,hl⟩
theorem Xcd {l:List UInt8} {Q:List Pl} (hq:cmp l=.ok Q) (p:Addr) (s:List UInt8) (hs:s.length≤1000000) (B w:World) (I:Im) (As:List Xe) (hS:Sat B w I As) (hp:PatI I p Q l.length) :
  Calls Tryz.prog 111 [.pointer (some p),S s].toArray w (Ret fun v w'=>v=.bool (mat Q s)∧Sat B w' I As):=by
 have hf:=Xjw hq
 refine calls Tryz.func111 rfl Tryz.ntmps111 rfl (.seq (.q 1 rfl (.seq (.t 2 rfl (.call Tryz.func156 rfl (X0 (.of rfl) (X0 (.of rfl) X4)) rfl (Xqv Q p l.length s hf.1 hf.2.1 (by omega) (by omega) hs B w I As hS hp) ?_)))))
 clear hS
 rintro _ w ⟨rfl,hS⟩
 refine .q 5 rfl (.nil (.seq (.q 2 rfl (.ret (Xk Tryz.results111 rfl ?_)))))
 exact ⟨_,rfl,rfl,hS⟩
theorem Xjd {s:Sv} {Q:List Pl} (hq:cmp s.urls=.ok Q) (a:Option Addr) (c:Nat) (p q:Addr) (n:List UInt8) (hn:n.length≤1000000) (b:Nat) (B w:World) (I:Im) (hp:PatI I p Q s.urls.length) (As:List Xe) (hS:Sat B w I (blk b [S n] 9::As)) :
  Calls Tryz.prog 110 [.agg [I64 s.id,F64 s.ord,S s.urls,.bool s.login,.bool s.proxy,.bool s.back,S s.calls,.slice a s.rel.length c,.pointer (some p),.pointer (some q)].toArray,ptr b 0].toArray w (Ret fun v w'=>v=.bool (mat Q n)∧Sat B w' I (blk b [S n] 9::As)):=by
 refine calls Tryz.func110 rfl Tryz.ntmps110 rfl (.seq (.region (.boxA (cs:=[_,_,_,_,_,_,_,_,_,_]) hS (.of rfl) rfl ?_)))
 clear hS; intro b2 w hS
 refine .q 1 rfl (.nil (.seq (.region (.val (.fieldAddr 8 (.of rfl) Xhs rfl rfl Tryz.sizeOf158 rfl) rfl (.val (.ld (.of rfl) hS (k:=0) rfl Tryz.isAgg158 rfl) rfl (.val (.ld (.of rfl) hS (k:=1) rfl Qg9 rfl) rfl (.call Tryz.func111 rfl (X0 (.of rfl) (X0 (.of rfl) X4)) rfl (Xcd hq p n hn B _ I _ hS hp) ?_)))))))
 clear hS
 rintro _ w ⟨rfl,hS⟩
 refine .q 1 rfl (.nil (.ret (Xk Tryz.results110 rfl ?_)))
 exact ⟨_,rfl,rfl,hS.drop (k:=0) rfl⟩
theorem Xix (s:Sv) (a:Option Addr) (c:Nat) (p q:Addr) (id:Int) (b:Nat) (B w:World) (I:Im) (As:List Xe) (hS:Sat B w I (blk b [I64 id] 3::As)) :
  Calls Tryz.prog 113 [.agg [I64 s.id,F64 s.ord,S s.urls,.bool s.login,.bool s.proxy,.bool s.back,S s.calls,.slice a s.rel.length c,.pointer (some p),.pointer (some q)].toArray,ptr b 0].toArray w (Ret fun v w'=>v=.bool (s.id == id)∧Sat B w' I (blk b [I64 id] 3::As)):=by
 refine calls Tryz.func113 rfl Tryz.ntmps113 rfl (.seq (.region (.boxA (cs:=[_,_,_,_,_,_,_,_,_,_]) hS (.of rfl) rfl ?_)))
 clear hS; intro b2 w hS
 refine .q 1 rfl (.nil (.seq (.region ?_)))
 refine WL.val (.fieldAddr 0 (.of rfl) Xhs rfl rfl X38 rfl) rfl ?_
 refine WL.val (.fieldAddr 0 (.of rfl) X84 rfl rfl Qs3 rfl) rfl ?_
 refine WL.val (.ld (.of rfl) hS (k:=0) rfl Qg3 rfl) rfl ?_
 refine WL.val (.ld (.of rfl) hS (k:=1) rfl Qg3 rfl) rfl ?_
 refine .q 2 rfl (.nil (.ret (Xk Tryz.results113 rfl ?_)))
 exact ⟨_,rfl,rfl,hS.drop (k:=0) rfl⟩
theorem Xjc (s t:Sv) (a ta:Option Addr) (c tc:Nat) (p q:Addr) (b:Nat) (B w:World) (I:Im) (As:List Xe) (hS:Sat B w I (blk b [I64 t.id,F64 t.ord,S t.urls,.bool t.login,.bool t.proxy,.bool t.back,S t.calls,.slice ta t.rel.length tc] 59::As)) :
  Calls Tryz.prog 188 [.agg [I64 s.id,F64 s.ord,S s.urls,.bool s.login,.bool s.proxy,.bool s.back,S s.calls,.slice a s.rel.length c,.pointer (some p),.pointer (some q)].toArray,ptr b 0].toArray w (Ret fun v w'=>v=.bool (s.id == t.id)∧Sat B w' I (blk b [I64 t.id,F64 t.ord,S t.urls,.bool t.login,.bool t.proxy,.bool t.back,S t.calls,.slice ta t.rel.length tc] 59::As)):=by
 refine calls Tryz.func188 rfl Tryz.ntmps188 rfl (.seq (.region (.boxA (cs:=[_,_,_,_,_,_,_,_,_,_]) hS (.of rfl) rfl ?_)))
 clear hS; intro b2 w hS
 refine .q 1 rfl (.nil (.seq (.region (.val (.fieldAddr 0 (.of rfl) Xhs rfl rfl X38 rfl) rfl (.val (.fieldAddr 0 (.of rfl) X84 rfl rfl Qs3 rfl) rfl (.val (.ld (.of rfl) hS (k:=0) rfl Qg3 rfl) rfl (.val (.fieldAddr 0 (.of rfl) X84 rfl rfl Qs3 rfl) rfl (.val (.ld (.of rfl) hS (k:=1) rfl Qg3 rfl) rfl (.q 2 rfl (.nil (.ret (Xk Tryz.results188 rfl ?_))))))))))))
 exact ⟨_,rfl,rfl,hS.drop (k:=0) rfl⟩
theorem X3o:Bld Tryz.prog 160 [(0,8),(8,1),(9,1)] [.int .i64 0,.float .f64 0,S [],.bool false,.bool false,.bool false,S [],.slice none 0 0,.pointer none,.pointer none]:=X30 Xhs Xh5 (fun w=>by simp [go_sem])
def Xnr (lo:List Sv) (s:Sv):Nat :=
 if 16≤lo.length then 5 else if (decide (s.id<0) || decide (8<(s.rel.length:Int)))=true then 1 else if lo.any (fun t=>t.id == s.id)=true then 7
 else if (((chk s.urls).1 != 0) || ((chk s.calls).1 != 0))=true then 8 else 0
theorem Xaj (pr:Sv→Bool):∀ (l:List Sv) (i:Nat),decide (0≤X2a pr l i)=l.any pr
 | [],_=>rfl
 | s::r,i=>by
  rw [X2a,Y5h]
  cases pr s with
  | true=>simp
  | false=>simpa using Xaj pr r (i+1)
theorem X59 {I:Im} {l:List UInt8} {po:Option Addr} {e a:Int} (h:CompT I l po e a):(e != 0)=((chk l).1 != 0)∧((chk l).1=0→∃ p Q,po=some p∧cmp l=.ok Q∧PatI I p Q l.length):=by
 have key:∀ e',cmp l=.error e'→(chk l).1=e'.1∧e'.1≠0:=fun e' hc=>by
  unfold cmp at hc
  unfold chk
  split at hc
  ·rename_i hl; rw [if_pos hl]; cases hc; exact ⟨rfl,by decide⟩
  ·rename_i hl
   rw [if_neg hl]
   have:=(X1g l.length l 0 [] [] [] (Yr _) rfl).1 e' hc
   rw [this.1]; exact ⟨rfl,this.2⟩
 have key2:∀ Q,cmp l=.ok Q→(chk l).1=0:=fun Q hc=>by
  unfold cmp at hc
  unfold chk
  split at hc
  ·cases hc
  ·rename_i hl
   rw [if_neg hl,(X1g l.length l 0 [] [] [] (Yr _) rfl).2 Q hc]
 unfold CompT at h
 cases hc:cmp l with
 | ok Q =>
  rw [hc] at h
  obtain ⟨p,rfl,rfl,rfl,hp⟩:=h
  rw [key2 Q hc]
  exact ⟨rfl,fun _=>⟨p,Q,rfl,rfl,hp⟩⟩
 | error x =>
  obtain ⟨e',a'⟩:=x
  rw [hc] at h
  obtain ⟨rfl,rfl,rfl⟩:=h
  obtain ⟨h1,h2⟩:=key _ hc
  rw [h1]
  exact ⟨rfl,fun h3=>absurd h3 h2⟩
theorem Xoy (s:Sv) (sa:Option Addr) (sc:Nat) (hsc:s.rel.length≤sc) (hrl:s.rel.length≤1000000) (hu:s.urls.length≤9223372036854775807) (hcl:s.calls.length≤9223372036854775807) (a:Option Addr) (cap:Nat) (lo:List Sv) (hlo:lo.length≤100000) (B w:World) (I:Im) (hr:RS I sa 1 s.rel.length (s.rel.map S)) (As:List Xe) (hE:∀ w,Sat B w I As→Xei w I a lo) (hS:Sat B w I As) :
  Calls Tryz.prog 147 [.agg [I64 s.id,F64 s.ord,S s.urls,.bool s.login,.bool s.proxy,.bool s.back,S s.calls,.slice sa s.rel.length sc].toArray,.slice a lo.length cap].toArray w (Ret fun v w'=>∃ J cs code,Le I J∧v=.tuple #[.agg (List.toArray cs),I64 ((code:Nat):Int)]∧code=Xnr lo s∧cs.length=10∧cs.all Value.oneCell'=true∧(code=0→EntAt J s cs)∧Sat B w' J As):=by
 refine calls Tryz.func147 rfl Tryz.ntmps147 rfl (.seq (.region (.boxA (cs:=[_,_,_,_,_,_,_,_]) hS (.of rfl) rfl ?_)))
 clear hS; intro b2 w hS
 refine .allocA (cs:=[_,_,_,_,_,_,_,_,_,_]) hS Xh5 rfl ?_
 clear hS; intro b4 w hS
 refine .q 1 rfl (.nil (.seq (.block (.seq (.region (.run 4 rfl ⟨⟨_,X6m⟩,trivial⟩ (.nil ?_)))))))
 refine WC.cond rfl (fun hb12=>?_) (fun hb12=>?_)
 ·
  have hc12:=hb12; try simp only [Y6] at hc12
  refine .seq (.region (.val (.build (cs:=[_,_,_,_,_,_,_,_,_,_]) X6 X3o rfl) rfl (.stA hS (k:=0) rfl (.of rfl) (.of rfl) rfl X3g rfl (by simp) ?_)))
  clear hS; intro w hS; try dsimp only [List.set] at hS
  try simp only [Yj,Ye,Y9,Y7,Yi,Yo,Yf] at hS
  refine .q 1 rfl (.nil (.ret (X2f (b:=_) (cs:=[_,_,_,_,_,_,_,_,_,_]) Xl5 hS (k:=0) rfl Xdn X3g rfl rfl rfl ?_)))
  refine ⟨_,rfl,I,_,5,Le.refl _,rfl,?_,rfl,rfl,fun h=>(by cases h),((hS.drop (k:=0) rfl).drop (k:=0) rfl)⟩
  unfold Xnr
  rw [if_pos (by simp only [decide_eq_true_eq] at hb12; omega)]
 have hc12:=hb12; try simp only [Y6] at hc12
 refine .seq (.region (.val (.fieldAddr 0 (.of rfl) X84 rfl rfl Qs3 rfl) rfl (.val (.ld (.of rfl) hS (k:=1) rfl Qg3 rfl) rfl (.q 2 rfl (.gval rfl rfl (fun hg1=>(.fieldAddr 7 (.of rfl) X84 rfl rfl Xii rfl)) rfl (.gval rfl rfl (fun hg1=>(.ld (.gd hg1 rfl) hS (k:=1) rfl Xik rfl)) rfl (.gval rfl rfl (fun hg1=>(.lenSlice (.gd hg1 rfl) X1s)) rfl (.gval rfl rfl (fun hg1=>(.gtr (.gd hg1 rfl) (.of rfl))) rfl (.val (.por (.of rfl) (.of rfl) (.of rfl)) rfl (.q 1 rfl (.nil ?_)))))))))))
 refine WC.cond rfl (fun hb17=>?_) (fun hb17=>?_)
 ·
  have hc17:=hb17; try simp only [Y6] at hc17
  refine .seq (.region (.val (.build (cs:=[_,_,_,_,_,_,_,_,_,_]) X6 X3o rfl) rfl (.stA hS (k:=0) rfl (.of rfl) (.of rfl) rfl X3g rfl (by simp) ?_)))
  clear hS; intro w hS; try dsimp only [List.set] at hS
  try simp only [Yj,Ye,Y9,Y7,Yi,Yo,Yf] at hS
  refine .q 1 rfl (.nil (.ret (X2f (b:=_) (cs:=[_,_,_,_,_,_,_,_,_,_]) Xl5 hS (k:=0) rfl Xdn X3g rfl rfl rfl ?_)))
  refine ⟨_,rfl,I,_,1,Le.refl _,rfl,?_,rfl,rfl,fun h=>(by cases h),((hS.drop (k:=0) rfl).drop (k:=0) rfl)⟩
  unfold Xnr
  rw [if_neg (by simp only [decide_eq_false_iff_not] at hb12; omega),if_pos hb17]
 have hc17:=hb17; try simp only [Y6] at hc17
 refine .seq ?_
 replace hS:=hS.pick 1 rfl
 try dsimp only [List.eraseIdx] at hS
 refine .t 1 rfl (.val (.makeFunc (X0 (.of rfl) X4)) rfl ?_)
 refine WL.call Tryz.func187 rfl (X0 (.of rfl) (X0 (.of rfl) X4)) rfl (X7y a cap lo hlo (fun t=>t.id == s.id) 188 _ Tryz.func188 rfl [ptr b2 0] B _ I (blk b2 [I64 s.id,F64 s.ord,S s.urls,.bool s.login,.bool s.proxy,.bool s.back,S s.calls,.slice sa s.rel.length sc] 59::blk b4 [I64 0,F64 0,S [],.bool false,.bool false,.bool false,S [],.slice none 0 0,.pointer none,.pointer none] 160::As) (fun w h=>hE w ((h.drop (k:=0) rfl).drop (k:=0) rfl)) (fun t c ht w h=>by
  obtain ⟨ta,tc,tp,tq,_,_,rfl,_⟩:=ht
  exact Xjc t s ta sa tc sc tp tq b2 B w I _ h) hS) ?_
 clear hS
 rintro _ w ⟨rfl,hS⟩
 rw [Xaj]
 refine .q 1 rfl (.nil ?_)
 refine WC.cond rfl (fun hb28=>?_) (fun hb28=>?_)
 ·
  have hc28:=hb28; try simp only [Y6] at hc28
  refine .seq (.region (.val (.build (cs:=[_,_,_,_,_,_,_,_,_,_]) X6 X3o rfl) rfl (.stA hS (k:=1) rfl (.of rfl) (.of rfl) rfl X3g rfl (by simp) ?_)))
  clear hS; intro w hS; try dsimp only [List.set] at hS
  try simp only [Yj,Ye,Y9,Y7,Yi,Yo,Yf] at hS
  refine .q 1 rfl (.nil (.ret (X2f (b:=_) (cs:=[_,_,_,_,_,_,_,_,_,_]) Xl5 hS (k:=1) rfl Xdn X3g rfl rfl rfl ?_)))
  refine ⟨_,rfl,I,_,7,Le.refl _,rfl,?_,rfl,rfl,fun h=>(by cases h),((hS.drop (k:=0) rfl).drop (k:=0) rfl)⟩
  unfold Xnr
  rw [if_neg (by simp only [decide_eq_false_iff_not] at hb12; omega),if_neg (by rw [hb17]; decide),if_pos hb28]
 have hc28:=hb28; try simp only [Y6] at hc28
 refine .skip (.seq (.region (.val (.fieldAddr 2 (.of rfl) X84 rfl rfl Qs9 rfl) rfl (.val (.ld (.of rfl) hS (k:=0) rfl Qg9 rfl) rfl (.call Tryz.func189 rfl (X0 (.of rfl) X4) rfl (Xcr s.urls B _ I _ hS hu) ?_)))))
 clear hS
 rintro _ w ⟨po,e1,a1,J1,rfl,hJ1,hc1,hS⟩
 refine .q 7 rfl (.nil (.seq (.region (.val (.fieldAddr 6 (.of rfl) X84 rfl rfl Qs9 rfl) rfl (.val (.ld (.of rfl) hS (k:=0) rfl Qg9 rfl) rfl (.call Tryz.func189 rfl (X0 (.of rfl) X4) rfl (Xcr s.calls B _ J1 _ hS hcl) ?_))))))
 clear hS
 rintro _ w ⟨qo,e2,a2,J2,rfl,hJ2,hc2,hS⟩
 refine .q 7 rfl (.nil (.seq (.seq (.t 3 rfl (.gval rfl rfl (fun hg1=>(.move (.of rfl))) rfl (.gval rfl rfl (fun hg1=>(.neq (.gd hg1 rfl) (.of rfl))) rfl (.val (.por (.of rfl) (.of rfl) (.of rfl)) rfl (.nil ?_))))))))
 refine WC.cond rfl (fun hb52=>?_) (fun hb52=>?_)
 ·
  have hc52:=hb52; try simp only [Y6] at hc52
  refine .seq (.region (.val (.build (cs:=[_,_,_,_,_,_,_,_,_,_]) X6 X3o rfl) rfl (.stA hS (k:=1) rfl (.of rfl) (.of rfl) rfl X3g rfl (by simp) ?_)))
  clear hS; intro w hS; try dsimp only [List.set] at hS
  try simp only [Yj,Ye,Y9,Y7,Yi,Yo,Yf] at hS
  refine .q 1 rfl (.nil (.ret (X2f (b:=_) (cs:=[_,_,_,_,_,_,_,_,_,_]) Xl5 hS (k:=1) rfl Xdn X3g rfl rfl rfl ?_)))
  refine ⟨_,rfl,J2,_,8,Le.trans hJ1 hJ2,rfl,?_,rfl,rfl,fun h=>(by cases h),((hS.drop (k:=0) rfl).drop (k:=0) rfl)⟩
  have hk:=hb52
  rw [(X59 hc1).1,(X59 hc2).1] at hk
  unfold Xnr
  rw [if_neg (by simp only [decide_eq_false_iff_not] at hb12; omega),if_neg (by rw [hb17]; decide),if_neg (by rw [hb28]; decide),if_pos hk]
 have hc52:=hb52; try simp only [Y6] at hc52
 refine .skip (.seq (.region (.val (.fieldAddr 7 (.of rfl) X84 rfl rfl Xii rfl) rfl (.val (.ld (.of rfl) hS (k:=0) rfl Xik rfl) rfl (.call Tryz.func157 rfl (X0 (.of rfl) X4) rfl (Xch sa sc s.rel hrl B _ J2 ((hr.mono hJ1).mono hJ2) _ hS) ?_)))))
 clear hS
 rintro _ w ⟨J3,ra,rc,rfl,hJ3,hrc,hrr,hS⟩
 refine .val (.fieldAddr 7 (.of rfl) X84 rfl rfl Xii rfl) rfl (.st1 hS (k:=0) rfl (.of rfl) (.of rfl) rfl Xii (by simp) ?_)
 clear hS; intro w hS; try dsimp only [List.set] at hS
 refine .nil (.seq (.region (.val (.ldsW (cs:=[_,_,_,_,_,_,_,_]) (.of rfl) hS (k:=0) rfl Xe1 X38 rfl) rfl (.q 2 rfl (.val (.build (cs:=[_,_,_,_,_,_,_,_,_,_]) (X5 (.of rfl) (X5 (.of rfl) (X5 (.of rfl) X6))) X3o rfl) rfl (.stA hS (k:=1) rfl (.of rfl) (.of rfl) rfl X3g rfl (by simp) ?_))))))
 clear hS; intro w hS; try dsimp only [List.set] at hS
 try simp only [Yj,Ye,Y9,Y7,Yi,Yo,Yf] at hS
 refine .q 1 rfl (.nil (.ret (X2f (b:=_) (cs:=[_,_,_,_,_,_,_,_,_,_]) Xl5 hS (k:=1) rfl Xdn X3g rfl rfl rfl ?_)))
 have hk:=hb52
 rw [(X59 hc1).1,(X59 hc2).1] at hk
 obtain ⟨k1,k2⟩:=Y1d.1 hk
 simp only [bne_eq_false_iff_eq] at k1 k2
 obtain ⟨p,Q,rfl,hq,hp⟩:=(X59 hc1).2 k1
 obtain ⟨q,T,rfl,hq2,hp2⟩:=(X59 hc2).2 k2
 refine ⟨_,rfl,J3,X1i s ra rc p q,0,Le.trans hJ1 (Le.trans hJ2 hJ3),rfl,?_,rfl,rfl,fun _=>⟨ra,rc,p,q,Q,T,rfl,hrc,hrr,hq,hp.mono (Le.trans hJ2 hJ3),hq2,hp2.mono hJ3⟩,((hS.drop (k:=0) rfl).drop (k:=0) rfl)⟩
 unfold Xnr
 rw [if_neg (by simp only [decide_eq_false_iff_not] at hb12; omega),if_neg (by rw [hb17]; decide),if_neg (by rw [hb28]; decide),if_neg (by rw [hk]; decide)]
def RegAt (I:Im) (pr:Addr) (lo:List Sv):Prop:=∃ a c E,At I pr [.slice a lo.length c]∧lo.length≤c∧EntsIn I a E lo
theorem EntsIn.mono {I J:Im} {a:Option Addr} {E:List (List Value)} {l:List Sv} (h:EntsIn I a E l) (hl:Le I J):EntsIn J a E l:=⟨h.1,fun i s hs=>by
 obtain ⟨p,c,e,h0,h1,ra,rc,pp,qq,Q,T,e2,h2,h3,h4,h5,h6,h7⟩:=h.2 i s hs
 exact ⟨p,c,e,h0,h1.mono hl,ra,rc,pp,qq,Q,T,e2,h2,h3.mono hl,h4,h5.mono hl,h6,h7.mono hl⟩⟩
def RowsOf (J:Im) (C:List (List Value)) (l:List Sv):Prop:=C.length=l.length∧∀ (i:Nat) (s:Sv),l[i]?=some s→∃ c,C[i]?=some c∧SvAt J s c
theorem RowsOf.mono {J K:Im} {C:List (List Value)} {l:List Sv} (h:RowsOf J C l) (hl:Le J K):RowsOf K C l:=⟨h.1,fun i s hs=>by
 obtain ⟨c,h1,h2⟩:=h.2 i s hs
 exact ⟨c,h1,h2.mono hl⟩⟩
theorem RowsOf.snoc {J:Im} {C:List (List Value)} {l:List Sv} {s:Sv} {c:List Value} (h:RowsOf J C l) (hs:SvAt J s c):RowsOf J (C ++ [c]) (l ++ [s]):=⟨by simp [h.1],fun i t ht=>by
 rcases Yw i l.length with hi | hi
 ·rw [Yh hi] at ht
  obtain ⟨d,h1,h2⟩:=h.2 i t ht
  exact ⟨d,by rw [Yh (by rw [h.1]; exact hi)]; exact h1,h2⟩
 ·rw [Yu hi] at ht
  have hi0:i - l.length=0:=by have:=(Y5.1 ht).1; simp at this; omega
  rw [hi0] at ht
  cases ht
  exact ⟨c,by rw [Yu (by rw [h.1]; exact hi),h.1,hi0]; rfl,hs⟩⟩
theorem X41:Tryz.prog.info? 160=some Tryz.t160:=by kernel_rfl
theorem Xic:Bld Tryz.prog 162 [(0,1)] [.slice none 0 0]:=X30 Xeq Tryz.zeroValue162 (fun w=>by simp [go_sem])
theorem bad_le {l:List Sv} {i:Nat} (h:∀ (j:Nat) t,j<i→l[j]?=some t→bad l j t=0) (hi:i≤l.length):i≤16:=by
 rcases Yw 16 i with h1 | h1
 ·have:=h 16 _ h1 (Y4 (by omega))
  unfold bad at this
  rw [if_pos rfl] at this
  cases this
 ·exact h1
theorem Xg7 {l:List Sv} {i:Nat} {s:Sv} (hi:i≤16) (hl:i≤l.length):Xnr (l.take i) s=bad l i s:=by
 unfold Xnr bad
 rw [Yt,Y3d hl]
 by_cases h:i=16
 ·rw [if_pos (by omega),if_pos h]
 ·rw [if_neg (by omega),if_neg h]
theorem made_n (s:Sv) (sa:Option Addr) (sc:Nat) (hsc:s.rel.length≤sc) (hrl:s.rel.length≤1000000) (hu:s.urls.length≤9223372036854775807) (hcl:s.calls.length≤9223372036854775807) (a:Option Addr) (cap:Nat) (lo:List Sv) (n:Nat) (hn:lo.length=n) (hlo:n≤100000) (B w:World) (I:Im) (hr:RS I sa 1 s.rel.length (s.rel.map S)) (As:List Xe) (hE:∀ w,Sat B w I As→Xei w I a lo) (hS:Sat B w I As) :
  Calls Tryz.prog 147 [.agg [I64 s.id,F64 s.ord,S s.urls,.bool s.login,.bool s.proxy,.bool s.back,S s.calls,.slice sa s.rel.length sc].toArray,.slice a n cap].toArray w (Ret fun v w'=>∃ J cs code,Le I J∧v=.tuple #[.agg (List.toArray cs),I64 ((code:Nat):Int)]∧code=Xnr lo s∧cs.length=10∧cs.all Value.oneCell'=true∧(code=0→EntAt J s cs)∧Sat B w' J As):=by
 subst hn
 exact Xoy s sa sc hsc hrl hu hcl a cap lo hlo B w I hr As hE hS
theorem ents_n {B w:World} {I:Im} {As:List Xe} {k T cap n:Nat} {a:Option Addr} {E:List (List Value)} {l:List Sv} (hS:Sat B w I As) (hn:l.length=n) (hk:As[k]?=some (Vec T 10 (.slice a n cap) n E.flatten)) (h10:∀ c∈E,c.length=10)
  (hE:∀ (i:Nat) (s:Sv),l[i]?=some s→∃ c,E[i]?=some c∧EntAt I s c):Xei w I a l:=by
 subst hn
 exact Xoa hS hk h10 hE
theorem EntAt.mono {I J:Im} {s:Sv} {l:List Value} (h:EntAt I s l) (hl:Le I J):EntAt J s l:=by
 obtain ⟨ra,rc,pp,qq,Q,T,e2,h2,h3,h4,h5,h6,h7⟩:=h
 exact ⟨ra,rc,pp,qq,Q,T,e2,h2,h3.mono hl,h4,h5.mono hl,h6,h7.mono hl⟩
theorem EntAt.len {I:Im} {s:Sv} {l:List Value} (h:EntAt I s l):l.length=10:=by
 obtain ⟨ra,rc,pp,qq,Q,T,rfl,_⟩:=h
 rfl
def X4a (l:List Sv) (D:List Int):List Sv:=D.map fun d=>l.getD d.toNat z0
theorem Xqs (a:Option Addr) (cap:Nat) (l:List Sv) (hln:l.length≤100000) (hom:∀ v∈ords l,v<18446744073709551616) (hfit:∀ s∈l,s.urls.length≤9223372036854775807∧s.calls.length≤9223372036854775807∧s.rel.length≤1000000) (B w:World) (I:Im) (hl:SvsAt I a l) (As:List Xe) (hS:Sat B w I As) :
  Calls Tryz.prog 102 [.slice a l.length cap].toArray w (Ret fun v w'=>∃ J,Le I J∧Sat B w' J As∧(((X4e l).1≠0∧v=.tuple #[.pointer none,I64 ((X4e l).1:Nat),I64 ((X4e l).2:Nat)])∨((X4e l).1=0∧∃ pr D,v=.tuple #[.pointer (some pr),I64 0,I64 0]∧Srt.Ord (kx (ords l)) l.length D∧RegAt J pr (X4a l D)))):=by
 refine calls Tryz.func102 rfl Tryz.ntmps102 rfl (.seq (.q 3 rfl (.seq (.q 1 rfl (.seq (.q 1 rfl (.seq (.seq (.region (.run 3 rfl ⟨⟨_,Xb4⟩,trivial⟩ (.nil (.block ?_))))))))))))
 replace hS:=hS.vecNil 27 1
 replace hS:=hS.vecNil 160 10
 refine .loop (σ:=Nat×Im×Value×Value×List (List Value)) (fun ⟨i,J,ev,ov,E⟩=>[(5,ev),(6,ov),(14,.slice a l.length cap),(15,I64 (l.length:Nat)),(16,I64 (i:Nat))]) (fun ⟨i,J,ev,ov,E⟩ w=>i≤l.length∧Le I J∧E.length=i∧(∀ c∈E,c.length=10)∧(∀ (j:Nat) (s:Sv),(l.take i)[j]?=some s→∃ c,E[j]?=some c∧EntAt J s c)∧(∀ (j:Nat) (t:Sv),j<i→l[j]?=some t→bad l j t=0)∧Sat B w J (Vec 160 10 ev i E.flatten::Vec 27 1 ov i (((ords l).take i).map F64)::As)) (fun ⟨i,J,ev,ov,E⟩=>l.length - i) (0,I,.slice none 0 0,.slice none 0 0,[]) ⟨rfl,rfl,rfl,rfl,rfl,trivial⟩ ⟨Ys _,Le.refl _,rfl,fun _ h=>(by simp at h),fun _ _ h=>(by simp at h),fun _ _ h=>absurd h (by omega),hS⟩ ?_
 rintro ⟨i,J,ev,ov,E⟩ w ⟨hi,hJ,hEl,h10,hEE,hok,hS⟩
 change WC _ _ _ _ [(5,ev),(6,ov),(14,.slice a l.length cap),(15,I64 (l.length:Nat)),(16,I64 (i:Nat))] w
 refine .seq (.q 1 rfl (.seq ?_))
 refine WC.cond rfl (fun hb17=>?_) (fun hb17=>?_)
 ·
  have hc17:=hb17; try simp only [Y6] at hc17
  refine .skip (.seq (.block (.seq ?_)))
  obtain ⟨s,hs⟩:∃ s,l[i]?=some s:=⟨_,Y4 (by omega)⟩
  obtain ⟨p,ra,rc,rfl,hx,hrc,hr⟩:=(hl.mono hJ) i s hs
  unfold X1d at hx
  have hi16:=bad_le hok hi
  have hsm:=hfit s (Yn hs)
  have hln:(l.take i).length=i:=by rw [Yt]; omega
  have hnx:((ords l).take (i+1)).map F64=((ords l).take i).map F64 ++ [F64 s.ord]:=by
   rw [Y17,ords,Yz,hs,Yv]; rfl
  have htn:l.take (i+1)=l.take i ++ [s]:=by rw [Y17,hs]; rfl
  obtain ⟨ea,ec,rfl,hec,_⟩:=hS.vecSlice (k:=0) rfl
  obtain ⟨oa,oc,rfl,hoc,_⟩:=hS.vecSlice (k:=1) rfl
  refine .t 1 rfl (.val (.indexAddrI (.of rfl) (.of rfl) (by omega) (by omega) Xb4 X38) rfl (.val (.ldsI (.of rfl) hS hx Xe1 X38 rfl (fun _ _ h=>h)) rfl (.allocA (cs:=[_,_,_,_,_,_,_,_]) hS Xih rfl ?_)))
  clear hS; intro b8 w hS
  refine .q 1 rfl (.stA hS (k:=0) rfl (.of rfl) (.of rfl) rfl X38 rfl (by simp) ?_)
  clear hS; intro w hS; try dsimp only [List.set] at hS
  try simp only [Yj,Ye,Y9,Y7,Yi,Yo,Yf] at hS
  refine .nil (.seq (.region (.val (.ldsW (cs:=[_,_,_,_,_,_,_,_]) (.of rfl) hS (k:=0) rfl Xe1 X38 rfl) rfl (.q 1 rfl (.call Tryz.func147 rfl (X0 (.of rfl) (X0 (.of rfl) X4)) rfl (made_n s ra rc hrc hsm.2.2 hsm.1 hsm.2.1 ea ec (l.take i) i hln (by omega) B _ J hr _ (fun w h=>ents_n h hln (k:=1) rfl h10 hEE) hS) ?_)))))
  clear hS
  rintro _ w ⟨J2,cs,code,hJ2,rfl,hcode,hcs10,hall,hent,hS⟩
  refine .q 3 rfl (.allocA (cs:=[_,_,_,_,_,_,_,_,_,_]) hS Xh5 rfl ?_)
  clear hS; intro b9 w hS
  refine .stA hS (k:=0) rfl (.of rfl) (.of rfl) hall X3g hcs10 (by simp) ?_
  clear hS; intro w hS; try dsimp only [List.set] at hS
  try simp only [Yj,Ye,Y9,Y7,Yi,Yo,Yf] at hS
  refine .q 1 rfl (.nil (.seq (.seq (.q 2 rfl ?_))))
  refine WC.cond rfl (fun hb28=>?_) (fun hb28=>?_)
  ·
   have hc28:=hb28; try simp only [Y6] at hc28
   refine .seq (.q 5 rfl (.ret (X9t Tryz.results102 rfl rfl rfl ?_)))
   have hb2:=Xg7 (l:=l) (i:=i) (s:=s) hi16 (by omega)
   have hbn:bad l i s≠0:=by rw [← hb2,← hcode]; omega
   have hw:=Xlh hok hs hbn
   refine ⟨_,rfl,J2,Le.trans hJ hJ2,(((hS.drop (k:=0) rfl).drop (k:=0) rfl).drop (k:=0) rfl).drop (k:=0) rfl,.inl ⟨by rw [hw]; exact hbn,?_⟩⟩
   rw [hw,hcode,hb2]
   rfl
  have hc28:=hb28; try simp only [Y6] at hc28
  refine .skip ?_
  have hcode0:code=0:=by omega
  obtain ⟨sa,sc,pp,qq,Q,T,rfl,hsc,hent⟩:=hent hcode0
  have hent2:EntAt J2 s (X1i s sa sc pp qq):=⟨sa,sc,pp,qq,Q,T,rfl,hsc,hent⟩
  have hbad0:bad l i s=0:=by rw [← Xg7 (l:=l) (i:=i) hi16 (by omega),← hcode,hcode0]
  unfold X1i at hS
  refine .drawn (fun w=>∃ R,Sat B w J2 (blk b9 [I64 s.id,F64 s.ord,S s.urls,.bool s.login,.bool s.proxy,.bool s.back,S s.calls,.slice sa s.rel.length sc,.pointer (some pp),.pointer (some qq)] 160::blk b8 [I64 s.id,F64 s.ord,S s.urls,.bool s.login,.bool s.proxy,.bool s.back,S s.calls,.slice ra s.rel.length rc] 59::R)) (fun j=>!([].contains j)) (by kernel_rfl) ?_
  replace hS:=hS.drew; generalize w.drew=w at hS ⊢
  have hH:∃ R,Sat B w J2 (blk b9 [I64 s.id,F64 s.ord,S s.urls,.bool s.login,.bool s.proxy,.bool s.back,S s.calls,.slice sa s.rel.length sc,.pointer (some pp),.pointer (some qq)] 160::blk b8 [I64 s.id,F64 s.ord,S s.urls,.bool s.login,.bool s.proxy,.bool s.back,S s.calls,.slice ra s.rel.length rc] 59::R):=⟨_,((hS.pick 1 rfl).pick 1 rfl)⟩
  refine .tp (i:=0) rfl (by kernel_rfl) (fun w=>(.move (.of rfl))) rfl (.tk (i:=1) rfl (by kernel_rfl) hH (fun w ⟨R,hS⟩=>(.ldsW (cs:=[_,_,_,_,_,_,_,_,_,_]) (.of rfl) hS (k:=0) rfl Xdn X3g rfl)) rfl (.tp (i:=4) rfl (by kernel_rfl) (fun w=>(.move (.of rfl))) rfl (.tp (i:=5) rfl (by kernel_rfl) (fun w=>(.fieldAddr 1 (.of rfl) X84 rfl rfl Xlv rfl)) rfl (.tk (i:=6) rfl (by kernel_rfl) hH (fun w ⟨R,hS⟩=>(.ld (.of rfl) hS (k:=1) rfl Qg27 rfl)) rfl ?_))))
  refine WD.branch [2,7] (by kernel_rfl) rfl (WO.cons rfl ?_ (WO.cons rfl ?_ (WO.nil)))
  ·
   refine .buildSlice (cs:=[_,_,_,_,_,_,_,_,_,_]) hS (X5 (.of rfl) X6) X6m X3g Xh5 rfl rfl rfl rfl ?_
   clear hS; intro b33 w hS
   refine .nil ?_
   clear hH
   have hH:∃ R,Sat B w J2 (blk b9 [I64 s.id,F64 s.ord,S s.urls,.bool s.login,.bool s.proxy,.bool s.back,S s.calls,.slice sa s.rel.length sc,.pointer (some pp),.pointer (some qq)] 160::blk b8 [I64 s.id,F64 s.ord,S s.urls,.bool s.login,.bool s.proxy,.bool s.back,S s.calls,.slice ra s.rel.length rc] 59::R):=⟨_,((hS.pick 2 rfl).pick 2 rfl)⟩
   refine And.intro (by intro _ _; exact hH) ?_
   refine WD.branch [3,7] (by kernel_rfl) rfl (WO.cons rfl ?_ (WO.cons rfl ?_ (WO.nil)))
   ·
    refine WL.append (size:=10) (bytes:=96) hS (.of rfl) (.of rfl) (k:=2) rfl X6m X41 rfl rfl rfl rfl rfl rfl rfl ⟨by omega,by unfold maxLen; omega⟩ rfl ?_
    clear hS; intro v34 w hS; try dsimp only [List.set] at hS
    obtain ⟨a34,c34,rfl,hcap34,_⟩:=hS.vecSlice (k:=2) (v:=v34) rfl
    refine .nil ?_
    clear hH
    have hH:∃ R,Sat B w J2 (blk b9 [I64 s.id,F64 s.ord,S s.urls,.bool s.login,.bool s.proxy,.bool s.back,S s.calls,.slice sa s.rel.length sc,.pointer (some pp),.pointer (some qq)] 160::blk b8 [I64 s.id,F64 s.ord,S s.urls,.bool s.login,.bool s.proxy,.bool s.back,S s.calls,.slice ra s.rel.length rc] 59::R):=⟨_,((hS.pick 1 rfl).pick 1 rfl)⟩
    refine And.intro (by intro _ _; exact hH) ?_
    refine WD.branch [7] (by kernel_rfl) rfl (WO.cons rfl ?_ (WO.nil))
    refine .buildSlice (cs:=[_]) hS (X5 (.of rfl) X6) X5c Xlv Qz27 rfl rfl rfl rfl ?_
    clear hS; intro b38 w hS
    refine .nil ?_
    clear hH
    have hH:∃ R,Sat B w J2 (blk b9 [I64 s.id,F64 s.ord,S s.urls,.bool s.login,.bool s.proxy,.bool s.back,S s.calls,.slice sa s.rel.length sc,.pointer (some pp),.pointer (some qq)] 160::blk b8 [I64 s.id,F64 s.ord,S s.urls,.bool s.login,.bool s.proxy,.bool s.back,S s.calls,.slice ra s.rel.length rc] 59::R):=⟨_,((hS.pick 2 rfl).pick 2 rfl)⟩
    refine And.intro (by intro _ _; exact hH) ?_
    refine WD.branch [8] (by kernel_rfl) rfl (WO.cons rfl ?_ (WO.nil))
    refine WL.append (size:=1) (bytes:=8) hS (.of rfl) (.of rfl) (k:=3) rfl X5c X6b rfl rfl rfl rfl rfl rfl rfl ⟨by omega,by unfold maxLen; omega⟩ rfl ?_
    clear hS; intro v39 w hS; try dsimp only [List.set] at hS
    obtain ⟨a39,c39,rfl,hcap39,_⟩:=hS.vecSlice (k:=3) (v:=v39) rfl
    refine .nil ?_
    clear hH
    have hH:∃ R,Sat B w J2 (blk b9 [I64 s.id,F64 s.ord,S s.urls,.bool s.login,.bool s.proxy,.bool s.back,S s.calls,.slice sa s.rel.length sc,.pointer (some pp),.pointer (some qq)] 160::blk b8 [I64 s.id,F64 s.ord,S s.urls,.bool s.login,.bool s.proxy,.bool s.back,S s.calls,.slice ra s.rel.length rc] 59::R):=⟨_,((hS.pick 1 rfl).pick 1 rfl)⟩
    refine And.intro (by intro _ _; exact hH) ?_
    refine .tp (i:=9) rfl (by kernel_rfl) (fun w=>(.assign (.of rfl))) rfl (.tp (i:=10) rfl (by kernel_rfl) (fun w=>(.assign (.of rfl))) rfl (.done (by kernel_rfl) (.region (.run 2 rfl ⟨⟨by omega,by omega⟩,trivial⟩ (.nil ?_)))))
    have hfin:=((hS.drop (k:=0) rfl).drop (k:=0) rfl)
    refine ⟨(i+1,J2,.slice a34 (i+1) c34,.slice a39 (i+1) c39,E ++ [X1i s sa sc pp qq]),⟨rfl,rfl,rfl,rfl,rfl,trivial⟩,⟨by (try dsimp only); omega,Le.trans hJ hJ2,by (try dsimp only); rw [Y0,hEl]; rfl,fun c hc=>?_,fun j u hu=>?_,fun j u hj hu=>?_,?_⟩,by (try dsimp only); omega⟩
    ·rcases Y10.1 hc with h | h
     ·exact h10 c h
     ·simp at h; subst h; rfl
    ·(try dsimp only at hu)
     rw [htn] at hu
     rcases Yw j i with h1 | h1
     ·rw [Yh (by omega)] at hu
      obtain ⟨c,e1,e2⟩:=hEE j u hu
      exact ⟨c,by rw [Yh (by omega)]; exact e1,e2.mono hJ2⟩
     ·rw [Yu (by omega),hln] at hu
      have hj0:j - i=0:=by have:=(Y5.1 hu).1; simp at this; omega
      rw [hj0] at hu
      cases hu
      exact ⟨_,by rw [Yu (by omega),hEl,hj0]; rfl,hent2⟩
    ·rcases Yw j i with h1 | h1
     ·exact hok j u h1 hu
     ·have e:j=i:=by (try dsimp only at hj); omega
      subst e
      rw [hs] at hu; cases hu
      exact hbad0
    ·(try dsimp only)
     rw [hnx,Y2o]
     simpa [X1i] using hfin
   ·
    refine .buildSlice (cs:=[_]) hS (X5 (.of rfl) X6) X5c Xlv Qz27 rfl rfl rfl rfl ?_
    clear hS; intro b38 w hS
    refine .nil ?_
    clear hH
    have hH:∃ R,Sat B w J2 (blk b9 [I64 s.id,F64 s.ord,S s.urls,.bool s.login,.bool s.proxy,.bool s.back,S s.calls,.slice sa s.rel.length sc,.pointer (some pp),.pointer (some qq)] 160::blk b8 [I64 s.id,F64 s.ord,S s.urls,.bool s.login,.bool s.proxy,.bool s.back,S s.calls,.slice ra s.rel.length rc] 59::R):=⟨_,((hS.pick 3 rfl).pick 3 rfl)⟩
    refine And.intro (by intro _ _; exact hH) ?_
    refine WD.branch [3] (by kernel_rfl) rfl (WO.cons rfl ?_ (WO.nil))
    replace hS:=hS.pick 1 rfl; try dsimp only [List.eraseIdx] at hS
    refine WL.append (size:=10) (bytes:=96) hS (.of rfl) (.of rfl) (k:=3) rfl X6m X41 rfl rfl rfl rfl rfl rfl rfl ⟨by omega,by unfold maxLen; omega⟩ rfl ?_
    clear hS; intro v34 w hS; try dsimp only [List.set] at hS
    obtain ⟨a34,c34,rfl,hcap34,_⟩:=hS.vecSlice (k:=3) (v:=v34) rfl
    refine .nil ?_
    clear hH
    have hH:∃ R,Sat B w J2 (blk b9 [I64 s.id,F64 s.ord,S s.urls,.bool s.login,.bool s.proxy,.bool s.back,S s.calls,.slice sa s.rel.length sc,.pointer (some pp),.pointer (some qq)] 160::blk b8 [I64 s.id,F64 s.ord,S s.urls,.bool s.login,.bool s.proxy,.bool s.back,S s.calls,.slice ra s.rel.length rc] 59::R):=⟨_,((hS.pick 2 rfl).pick 2 rfl)⟩
    refine And.intro (by intro _ _; exact hH) ?_
    refine WD.branch [8] (by kernel_rfl) rfl (WO.cons rfl ?_ (WO.nil))
    refine WL.append (size:=1) (bytes:=8) hS (.of rfl) (.of rfl) (k:=3) rfl X5c X6b rfl rfl rfl rfl rfl rfl rfl ⟨by omega,by unfold maxLen; omega⟩ rfl ?_
    clear hS; intro v39 w hS; try dsimp only [List.set] at hS
    obtain ⟨a39,c39,rfl,hcap39,_⟩:=hS.vecSlice (k:=3) (v:=v39) rfl
    refine .nil ?_
    clear hH
    have hH:∃ R,Sat B w J2 (blk b9 [I64 s.id,F64 s.ord,S s.urls,.bool s.login,.bool s.proxy,.bool s.back,S s.calls,.slice sa s.rel.length sc,.pointer (some pp),.pointer (some qq)] 160::blk b8 [I64 s.id,F64 s.ord,S s.urls,.bool s.login,.bool s.proxy,.bool s.back,S s.calls,.slice ra s.rel.length rc] 59::R):=⟨_,((hS.pick 1 rfl).pick 1 rfl)⟩
    refine And.intro (by intro _ _; exact hH) ?_
    refine .tp (i:=9) rfl (by kernel_rfl) (fun w=>(.assign (.of rfl))) rfl (.tp (i:=10) rfl (by kernel_rfl) (fun w=>(.assign (.of rfl))) rfl (.done (by kernel_rfl) (.region (.run 2 rfl ⟨⟨by omega,by omega⟩,trivial⟩ (.nil ?_)))))
    have hfin:=((hS.drop (k:=0) rfl).drop (k:=0) rfl)
    refine ⟨(i+1,J2,.slice a34 (i+1) c34,.slice a39 (i+1) c39,E ++ [X1i s sa sc pp qq]),⟨rfl,rfl,rfl,rfl,rfl,trivial⟩,⟨by (try dsimp only); omega,Le.trans hJ hJ2,by (try dsimp only); rw [Y0,hEl]; rfl,fun c hc=>?_,fun j u hu=>?_,fun j u hj hu=>?_,?_⟩,by (try dsimp only); omega⟩
    ·rcases Y10.1 hc with h | h
     ·exact h10 c h
     ·simp at h; subst h; rfl
    ·(try dsimp only at hu)
     rw [htn] at hu
     rcases Yw j i with h1 | h1
     ·rw [Yh (by omega)] at hu
      obtain ⟨c,e1,e2⟩:=hEE j u hu
      exact ⟨c,by rw [Yh (by omega)]; exact e1,e2.mono hJ2⟩
     ·rw [Yu (by omega),hln] at hu
      have hj0:j - i=0:=by have:=(Y5.1 hu).1; simp at this; omega
      rw [hj0] at hu
      cases hu
      exact ⟨_,by rw [Yu (by omega),hEl,hj0]; rfl,hent2⟩
    ·rcases Yw j i with h1 | h1
     ·exact hok j u h1 hu
     ·have e:j=i:=by (try dsimp only at hj); omega
      subst e
      rw [hs] at hu; cases hu
      exact hbad0
    ·(try dsimp only)
     rw [hnx,Y2o]
     simpa [X1i] using hfin
  ·
   refine .buildSlice (cs:=[_]) hS (X5 (.of rfl) X6) X5c Xlv Qz27 rfl rfl rfl rfl ?_
   clear hS; intro b38 w hS
   refine .nil ?_
   clear hH
   have hH:∃ R,Sat B w J2 (blk b9 [I64 s.id,F64 s.ord,S s.urls,.bool s.login,.bool s.proxy,.bool s.back,S s.calls,.slice sa s.rel.length sc,.pointer (some pp),.pointer (some qq)] 160::blk b8 [I64 s.id,F64 s.ord,S s.urls,.bool s.login,.bool s.proxy,.bool s.back,S s.calls,.slice ra s.rel.length rc] 59::R):=⟨_,((hS.pick 2 rfl).pick 2 rfl)⟩
   refine And.intro (by intro _ _; exact hH) ?_
   refine WD.branch [2] (by kernel_rfl) rfl (WO.cons rfl ?_ (WO.nil))
   refine .buildSlice (cs:=[_,_,_,_,_,_,_,_,_,_]) hS (X5 (.of rfl) X6) X6m X3g Xh5 rfl rfl rfl rfl ?_
   clear hS; intro b33 w hS
   refine .nil ?_
   clear hH
   have hH:∃ R,Sat B w J2 (blk b9 [I64 s.id,F64 s.ord,S s.urls,.bool s.login,.bool s.proxy,.bool s.back,S s.calls,.slice sa s.rel.length sc,.pointer (some pp),.pointer (some qq)] 160::blk b8 [I64 s.id,F64 s.ord,S s.urls,.bool s.login,.bool s.proxy,.bool s.back,S s.calls,.slice ra s.rel.length rc] 59::R):=⟨_,((hS.pick 3 rfl).pick 3 rfl)⟩
   refine And.intro (by intro _ _; exact hH) ?_
   refine WD.branch [3] (by kernel_rfl) rfl (WO.cons rfl ?_ (WO.nil))
   refine WL.append (size:=10) (bytes:=96) hS (.of rfl) (.of rfl) (k:=3) rfl X6m X41 rfl rfl rfl rfl rfl rfl rfl ⟨by omega,by unfold maxLen; omega⟩ rfl ?_
   clear hS; intro v34 w hS; try dsimp only [List.set] at hS
   obtain ⟨a34,c34,rfl,hcap34,_⟩:=hS.vecSlice (k:=3) (v:=v34) rfl
   refine .nil ?_
   clear hH
   have hH:∃ R,Sat B w J2 (blk b9 [I64 s.id,F64 s.ord,S s.urls,.bool s.login,.bool s.proxy,.bool s.back,S s.calls,.slice sa s.rel.length sc,.pointer (some pp),.pointer (some qq)] 160::blk b8 [I64 s.id,F64 s.ord,S s.urls,.bool s.login,.bool s.proxy,.bool s.back,S s.calls,.slice ra s.rel.length rc] 59::R):=⟨_,((hS.pick 2 rfl).pick 2 rfl)⟩
   refine And.intro (by intro _ _; exact hH) ?_
   refine WD.branch [8] (by kernel_rfl) rfl (WO.cons rfl ?_ (WO.nil))
   refine WL.append (size:=1) (bytes:=8) hS (.of rfl) (.of rfl) (k:=3) rfl X5c X6b rfl rfl rfl rfl rfl rfl rfl ⟨by omega,by unfold maxLen; omega⟩ rfl ?_
   clear hS; intro v39 w hS; try dsimp only [List.set] at hS
   obtain ⟨a39,c39,rfl,hcap39,_⟩:=hS.vecSlice (k:=3) (v:=v39) rfl
   refine .nil ?_
   clear hH
   have hH:∃ R,Sat B w J2 (blk b9 [I64 s.id,F64 s.ord,S s.urls,.bool s.login,.bool s.proxy,.bool s.back,S s.calls,.slice sa s.rel.length sc,.pointer (some pp),.pointer (some qq)] 160::blk b8 [I64 s.id,F64 s.ord,S s.urls,.bool s.login,.bool s.proxy,.bool s.back,S s.calls,.slice ra s.rel.length rc] 59::R):=⟨_,((hS.pick 1 rfl).pick 1 rfl)⟩
   refine And.intro (by intro _ _; exact hH) ?_
   refine .tp (i:=9) rfl (by kernel_rfl) (fun w=>(.assign (.of rfl))) rfl (.tp (i:=10) rfl (by kernel_rfl) (fun w=>(.assign (.of rfl))) rfl (.done (by kernel_rfl) (.region (.run 2 rfl ⟨⟨by omega,by omega⟩,trivial⟩ (.nil ?_)))))
   have hfin:=((hS.drop (k:=0) rfl).drop (k:=0) rfl)
   refine ⟨(i+1,J2,.slice a34 (i+1) c34,.slice a39 (i+1) c39,E ++ [X1i s sa sc pp qq]),⟨rfl,rfl,rfl,rfl,rfl,trivial⟩,⟨by (try dsimp only); omega,Le.trans hJ hJ2,by (try dsimp only); rw [Y0,hEl]; rfl,fun c hc=>?_,fun j u hu=>?_,fun j u hj hu=>?_,?_⟩,by (try dsimp only); omega⟩
   ·rcases Y10.1 hc with h | h
    ·exact h10 c h
    ·simp at h; subst h; rfl
   ·(try dsimp only at hu)
    rw [htn] at hu
    rcases Yw j i with h1 | h1
    ·rw [Yh (by omega)] at hu
     obtain ⟨c,e1,e2⟩:=hEE j u hu
     exact ⟨c,by rw [Yh (by omega)]; exact e1,e2.mono hJ2⟩
    ·rw [Yu (by omega),hln] at hu
     have hj0:j - i=0:=by have:=(Y5.1 hu).1; simp at this; omega
     rw [hj0] at hu
     cases hu
     exact ⟨_,by rw [Yu (by omega),hEl,hj0]; rfl,hent2⟩
   ·rcases Yw j i with h1 | h1
    ·exact hok j u h1 hu
    ·have e:j=i:=by (try dsimp only at hj); omega
     subst e
     rw [hs] at hu; cases hu
     exact hbad0
   ·(try dsimp only)
    rw [hnx,Y2o]
    simpa [X1i] using hfin
 have hc17:=hb17; try simp only [Y6] at hc17
 refine .exit (.seq ?_)
 have hin:i=l.length:=by omega
 subst hin
 have hol:(ords l).length=l.length:=Yy ..
 rw [Y11 (Yr _)] at hEE
 rw [Y11 (by omega)] at hS
 obtain ⟨oa,oc,rfl,hoc,_⟩:=hS.vecSlice (k:=1) rfl
 obtain ⟨ea,ec,rfl,hec,_⟩:=hS.vecSlice (k:=0) rfl
 obtain ⟨J1,hJ1,hOR,hS1⟩:=hS.freezeVec (k:=1) rfl
 try dsimp only [List.eraseIdx] at hS1
 obtain ⟨J2,hJ2,hER,hS2⟩:=hS1.freezeVec (k:=0) rfl
 clear hS hS1
 have hS:=hS2
 clear hS2
 try dsimp only [List.eraseIdx] at hS
 replace hJ:=Le.trans hJ (Le.trans hJ1 hJ2)
 replace hOR:=hOR.mono hJ2
 replace hEE:=fun j s h=>let ⟨c,h1,h2⟩:=hEE j s h; (⟨c,h1,EntAt.mono h2 (Le.trans hJ1 hJ2)⟩:∃ c,E[j]?=some c∧EntAt J2 s c)
 refine .region (.val (.build (cs:=[_]) X6 Xic rfl) rfl (.boxA (cs:=[_]) hS (.of rfl) rfl ?_))
 clear hS; intro b42 w hS
 refine .q 1 rfl (.nil (.seq (.seq ?_)))
 rw [← hol] at hOR ⊢
 refine .t 1 rfl (.call Tryz.func148 rfl (X0 (.of rfl) X4) rfl (Xlf (ords l) hom (by omega) oa oc B _ J2 hOR _ hS) ?_)
 clear hS
 rintro _ w ⟨D,va,vc,rfl,hD,hS⟩
 obtain ⟨J3,hJ3,hDR,hS2⟩:=hS.freezeVec (k:=0) rfl
 clear hS
 have hS:=hS2
 clear hS2
 try dsimp only [List.eraseIdx] at hS
 replace hJ:=Le.trans hJ hJ3
 rw [hol] at hD hDR ⊢
 have hDl:=hD.len
 refine .run 2 rfl ⟨⟨_,Xu⟩,trivial⟩ (.nil (.block ?_))
 replace hS:=(hS.vecNil 160 10).pick 1 rfl
 try dsimp only [List.eraseIdx] at hS
 refine .loop (σ:=Value×Nat) (fun ⟨kv,j⟩=>[(5,.slice ea l.length ec),(11,ptr b42 0),(44,.slice va l.length vc),(45,I64 (l.length:Nat)),(46,I64 (j:Nat))]) (fun ⟨kv,j⟩ w=>j≤l.length∧Sat B w J3 (blk b42 [kv] 162::Vec 160 10 kv j (X49 E (D.take j)).flatten::As)) (fun ⟨kv,j⟩=>l.length - j) (.slice none 0 0,0) ⟨rfl,rfl,rfl,rfl,rfl,trivial⟩ ⟨Ys _,hS⟩ ?_
 rintro ⟨kv,j⟩ w ⟨hj,hS⟩
 change WC _ _ _ _ [(5,.slice ea l.length ec),(11,ptr b42 0),(44,.slice va l.length vc),(45,I64 (l.length:Nat)),(46,I64 (j:Nat))] w
 refine .seq (.q 1 rfl (.seq ?_))
 refine WC.cond rfl (fun hb47=>?_) (fun hb47=>?_)
 ·
  have hc47:=hb47; try simp only [Y6] at hc47
  refine .skip (.seq (.block (.seq ?_)))
  obtain ⟨d,hd⟩:∃ d,D[j]?=some d:=⟨_,Y4 (by omega)⟩
  have hdm:d∈Srt.upto l.length:=hD.2.mem_iff.1 (Yn hd)
  have hdr:=Srt.upto_mem.1 hdm
  obtain ⟨s,hs⟩:∃ s,l[d.toNat]?=some s:=⟨_,Y4 (by omega)⟩
  obtain ⟨c,hc,ra,rc,pp,qq,Q,T,rfl,hent⟩:=hEE d.toNat s hs
  obtain ⟨pe,rfl,hpe⟩:=(hER.mono hJ3).2 (by omega)
  have hx:=X3e (hpe.add (d.toNat*10)) 10
  rw [X1q E h10 d.toNat _ hc] at hx
  have hnr:(X49 E (D.take (j+1))).flatten=(X49 E (D.take j)).flatten ++ X1i s ra rc pp qq:=by
   unfold X49
   rw [Y17,hd,Yv,Y2o]
   simp [Y8,hc]
  unfold X1i at hx hnr
  obtain ⟨dp,rfl,hdp⟩:=hDR.2 (by omega)
  obtain ⟨ka,kc,rfl,hkc,_⟩:=hS.vecSlice (k:=1) rfl
  have hdx:((D.map I64).drop ((j:Int).toNat*1))[0]?=some (I64 d):=by rw [Y1j,Yk,Y1k,Y2e,Yz,hd]; rfl
  refine .region (.val (.indexAddrI (.of rfl) (.of rfl) (by omega) (by omega) Xu Qs3) rfl (.val (.ldI (v:=I64 d) (.of rfl) hS (hdp.add _) Qg3 hdx) rfl (.q 1 rfl (.nil (.drawn (fun w=>∃ R,Sat B w J3 (blk b42 [.slice ka j kc] 162::R)) (fun j=>!([13].contains j)) (by kernel_rfl) ?_)))))
  replace hS:=hS.drew; generalize w.drew=w at hS ⊢
  have hH:∃ R,Sat B w J3 (blk b42 [.slice ka j kc] 162::R):=⟨_,(hS.pick 0 rfl)⟩
  refine .tp (i:=0) rfl (by kernel_rfl) (fun w=>(.move (.of rfl))) rfl (.tp (i:=1) rfl (by kernel_rfl) (fun w=>(.move (.of rfl))) rfl (.tp (i:=2) rfl (by kernel_rfl) (fun w=>(.nilCheck (.of rfl))) rfl (.tp (i:=3) rfl (by kernel_rfl) (fun w=>(.fieldAddr 0 (.of rfl) Xeq rfl rfl Xfm rfl)) rfl (.tk (i:=4) rfl (by kernel_rfl) hH (fun w ⟨R,hS⟩=>(.ld (.of rfl) hS (k:=0) rfl Xl4 rfl)) rfl (.tp (i:=5) rfl (by kernel_rfl) (fun w=>(.move (.of rfl))) rfl (.tp (i:=6) rfl (by kernel_rfl) (fun w=>(.move (.of rfl))) rfl (.tp (i:=7) rfl (by kernel_rfl) (fun w=>(.indexAddrI (.of rfl) (.of rfl) (by omega) (by omega) X6m X3g)) rfl (.tk (i:=8) rfl (by kernel_rfl) hH (fun w ⟨R,hS⟩=>(.ldsI (.of rfl) hS hx Xdn X3g rfl (fun _ _ h=>h))) rfl ?_))))))))
  refine WD.branch [9] (by kernel_rfl) rfl (WO.cons rfl ?_ (WO.nil))
  refine .buildSlice (cs:=[_,_,_,_,_,_,_,_,_,_]) hS (X5 (.of rfl) X6) X6m X3g Xh5 rfl rfl rfl rfl ?_
  clear hS; intro b59 w hS
  refine .nil ?_
  clear hH
  have hH:∃ R,Sat B w J3 (blk b42 [.slice ka j kc] 162::R):=⟨_,(hS.pick 1 rfl)⟩
  refine And.intro (by intro _ _; exact hH) ?_
  refine WD.branch [10] (by kernel_rfl) rfl (WO.cons rfl ?_ (WO.nil))
  refine WL.append (size:=10) (bytes:=96) hS (.of rfl) (.of rfl) (k:=1) rfl X6m X41 rfl rfl rfl rfl rfl rfl rfl ⟨by omega,by unfold maxLen; omega⟩ rfl ?_
  clear hS; intro v60 w hS; try dsimp only [List.set] at hS
  obtain ⟨a60,c60,rfl,hcap60,_⟩:=hS.vecSlice (k:=1) (v:=v60) rfl
  refine .nil ?_
  clear hH
  have hH:∃ R,Sat B w J3 (blk b42 [.slice ka j kc] 162::R):=⟨_,(hS.pick 0 rfl)⟩
  refine And.intro (by intro _ _; exact hH) ?_
  refine .tp (i:=11) rfl (by kernel_rfl) (fun w=>(.nilCheck (.of rfl))) rfl (.tp (i:=12) rfl (by kernel_rfl) (fun w=>(.fieldAddr 0 (.of rfl) Xeq rfl rfl Xfm rfl)) rfl ?_)
  refine WD.branch [13] (by kernel_rfl) rfl (WO.cons rfl ?_ (WO.nil))
  refine .st1 hS (k:=0) rfl (.of rfl) (.of rfl) rfl Xfm (by simp) ?_
  clear hS; intro w hS; try dsimp only [List.set] at hS
  refine .nil ?_
  refine And.intro (by intro h; cases h) ?_
  refine .done (by kernel_rfl) (.region (.run 2 rfl ⟨⟨by omega,by omega⟩,trivial⟩ (.nil ?_)))
  refine ⟨(.slice a60 (j+1) c60,j+1),⟨rfl,rfl,rfl,rfl,rfl,trivial⟩,⟨by (try dsimp only); omega,?_⟩,by (try dsimp only); omega⟩
  (try dsimp only)
  rw [hnr]; exact hS
 have hc47:=hb47; try simp only [Y6] at hc47
 refine .exit (.seq (.q 4 rfl (.ret (X9t Tryz.results102 rfl rfl rfl ?_))))
 have hjn:j=l.length:=by omega
 subst hjn
 rw [Y11 (by omega)] at hS
 obtain ⟨ka,kc,rfl,hkc,_⟩:=hS.vecSlice (k:=1) rfl
 obtain ⟨J4,hJ4,hKR,hS1⟩:=hS.freezeVec (k:=1) rfl
 try dsimp only [List.eraseIdx] at hS1
 obtain ⟨J5,hJ5,hb5,hS2⟩:=hS1.freeze (k:=0) rfl
 have hw:X4e l=(0,0):=Xhb (fun q t ht=>hok q t (by have:=(Y5.1 ht).1; omega) ht)
 have hpl:(X4a l D).length=l.length:=by unfold X4a; rw [Yy,hDl]
 refine ⟨_,rfl,J5,Le.trans hJ (Le.trans hJ4 hJ5),hS2,.inr ⟨by rw [hw],_,D,rfl,hD,ka,kc,X49 E D,?_,by rw [hpl]; exact hkc,by unfold X49 X4a; rw [Yy,Yy],fun q s hq=>?_⟩⟩
 ·rw [hpl]
  exact ⟨rfl,_,_,_,hb5,fun q v hq=>by simpa using hq⟩
 ·unfold X4a at hq
  rw [Yz] at hq
  cases hdq:D[q]? with
  | none=>rw [hdq] at hq; cases hq
  | some d =>
   rw [hdq] at hq
   have hdr:=Srt.upto_mem.1 (hD.2.mem_iff.1 (Yn hdq))
   obtain ⟨u,hu⟩:∃ u,l[d.toNat]?=some u:=⟨_,Y4 (by omega)⟩
   have hus:u=s:=by
    have h2:=hq
    rw [Y3c,Y8,hu] at h2
    exact Option.some.inj h2
   subst hus
   obtain ⟨c,hc,hent⟩:=hEE d.toNat u hu
   have hql:=(Y5.1 hdq).1
   obtain ⟨kp,rfl,hkp⟩:=(hKR.mono hJ5).2 (by omega)
   have hpk:(X49 E D)[q]?=some c:=by unfold X49; rw [Yz,hdq]; simp [Y8,hc]
   have h10':∀ c∈X49 E D,c.length=10:=fun c hc=>by
    unfold X49 at hc
    obtain ⟨d',hd',rfl⟩:=Y1z.1 hc
    have hdr':=Srt.upto_mem.1 (hD.2.mem_iff.1 hd')
    rw [Y8,Y4 (by omega)]
    exact h10 _ (Y2q _)
   have hx:=X3e (hkp.add (q*10)) 10
   rw [X1q _ h10' q _ hpk] at hx
   exact ⟨kp,c,rfl,hpk,hx,hent.mono (Le.trans hJ3 (Le.trans hJ4 hJ5))⟩
theorem X8v (pr:Sv→Bool):∀ (l:List Sv) (i:Nat),(X2a pr l i=-1∧l.find? pr=none)∨(∃ j s,X2a pr l i=((i+j:Nat):Int)∧l[j]?=some s∧pr s=true∧l.find? pr=some s)
 | [],_=>.inl ⟨rfl,rfl⟩
 | a::l,i=>by
  rw [X2a,Y3u]
  cases ha:pr a with
  | true=>exact .inr ⟨0,a,rfl,rfl,ha,rfl⟩
  | false =>
   rw [if_neg (by decide)]
   rcases X8v pr l (i+1) with ⟨h1,h2⟩ | ⟨j,s,h1,h2,h3,h4⟩
   ·exact .inl ⟨h1,h2⟩
   ·exact .inr ⟨j+1,s,by rw [h1]; congr 1; omega,h2,h3,h4⟩
theorem X5k (pr:Sv→Bool) (l:List Sv):(X2a pr l 0=-1∧l.find? pr=none)∨(∃ (j:Nat) (s:Sv),X2a pr l 0=(j:Int)∧l[j]?=some s∧pr s=true∧l.find? pr=some s):=by
 rcases X8v pr l 0 with h | ⟨j,s,h1,h2⟩
 ·exact .inl h
 ·exact .inr ⟨j,s,by rw [h1,Yf],h2⟩
theorem Xbs {l:List UInt8} {Q:List Pl} (h:cmp l=.ok Q) (s:List UInt8):(X8n l s).1=mat Q s:=by unfold X8n; rw [h]
def X1e (lo:List Sv) (s:List UInt8):Sv×List UInt8×Nat :=
 if (Ul.nU s).2≠0 then (z0,[],(Ul.nU s).2) else if 100<(Ul.nU s).1.length then (z0,[],2)
 else match lo.find? (fun t=>(X8n t.urls (Ul.nU s).1).1) with
  | none=>(z0,[],31)
  | some t=>(t,(Ul.nU s).1,0)
abbrev X63:List UInt8:=[104,116,116,112,115,58]
def X5n (lo:List Sv) (id:Int) (s:List UInt8):List UInt8×Bool :=
 match lo.find? (fun t=>t.id == id) with
 | none=>([],false)
 | some u=>if (((((Ul.nU s).2:Int) != 0 || decide (100<((Ul.nU s).1.length:Int))) || !(hasPre (Ul.nU s).1 X63)) || !((X8n u.calls (Ul.nU s).1).1))=true then ([],false) else ((Ul.nU s).1,true)
theorem Xf8 (pr:Addr) (lo:List Sv) (hlo:lo.length≤100000) (hrl:∀ s∈lo,s.rel.length≤1000000) (s:List UInt8) (hs:s.length≤1000000) (a:Option Addr) (cc:Nat) (E:List (List Value)) (B w:World) (I:Im) (hK:Known I) (hreg:At I pr [.slice a lo.length cc]) (hE:EntsIn I a E lo) (As:List Xe) (hS:Sat B w I As) :
  Calls Tryz.prog 50 [.pointer (some pr),S s].toArray w (Ret fun v w'=>∃ J u c n e,Le I J∧v=.tuple #[.agg (List.toArray c),S n,I64 ((e:Nat):Int)]∧SvAt J u c∧X1e lo s=(u,n,e)∧Sat B w' J As):=by
 refine calls Qf50 rfl Tryz.ntmps50 rfl (.seq (.region (.allocA (cs:=[_,_,_,_,_,_,_,_]) hS Xih rfl ?_)))
 clear hS; intro b4 w hS
 refine .q 2 rfl (.nil (.seq (.t 1 rfl (.call Tryz.func108 rfl (X0 (.of rfl) X4) rfl (X88 s hs B _ I hK _ hS) ?_))))
 clear hS
 rintro _ w ⟨rfl,hS⟩
 refine .q 3 rfl (.alloc1 hS Qz9 rfl rfl ?_)
 clear hS; intro b7 w hS
 refine .st1 hS (k:=0) rfl (.of rfl) (.of rfl) rfl Qs9 (by simp) ?_
 clear hS; intro w hS; try dsimp only [List.set] at hS
 refine .q 1 rfl (.nil (.seq (.seq (.t 3 rfl (.gval rfl rfl (fun hg1=>(.ld (.of rfl) hS (k:=0) rfl Qg9 rfl)) rfl (.gval rfl rfl (fun hg1=>(.len (.gd hg1 rfl) Qu9)) rfl (.gval rfl rfl (fun hg1=>(.gtr (.gd hg1 rfl) (.of rfl))) rfl (.val (.pand (.of rfl) (.of rfl) (.of rfl)) rfl (.nil ?_)))))))))
 refine WC.cond rfl (fun hb21=>?_) (fun hb21=>?_)
 ·
  have hc21:=hb21; try simp only [Y6] at hc21
  refine .q 1 rfl (.seq (.seq (.q 2 rfl ?_)))
  refine WC.cond rfl (fun hb23=>?_) (fun hb23=>by exfalso; simp only [Y6] at hb23; omega)
  have hc23:=hb23; try simp only [Y6] at hc23
  refine .seq (.region (.val (.build (cs:=[_,_,_,_,_,_,_,_]) X6 X3c rfl) rfl (.q 1 rfl (.stA hS (k:=1) rfl (.of rfl) (.of rfl) rfl X38 rfl (by simp) ?_))))
  clear hS; intro w hS; try dsimp only [List.set] at hS
  try simp only [Yj,Ye,Y9,Y7,Yi,Yo,Yf] at hS
  refine .q 2 rfl (.nil (.ret (Xc9 (b:=_) (cs:=[_,_,_,_,_,_,_,_]) Qr50 hS (k:=1) rfl Xe1 X38 rfl rfl rfl rfl ?_)))
  exact ⟨_,rfl,I,z0,_,[],2,Le.refl _,rfl,⟨none,0,rfl,Yr _,RS.nil _ _⟩,(by unfold X1e; rw [if_neg (by simp at hb21; omega),if_pos (by simp at hb21; omega)]),((hS.drop (k:=0) rfl).drop (k:=0) rfl)⟩
 have hc21:=hb21; try simp only [Y6] at hc21
 refine .skip (.seq (.seq (.q 2 rfl ?_)))
 refine WC.cond rfl (fun hb23=>?_) (fun hb23=>?_)
 ·
  have hc23:=hb23; try simp only [Y6] at hc23
  refine .seq (.region (.val (.build (cs:=[_,_,_,_,_,_,_,_]) X6 X3c rfl) rfl (.q 1 rfl (.stA hS (k:=1) rfl (.of rfl) (.of rfl) rfl X38 rfl (by simp) ?_))))
  clear hS; intro w hS; try dsimp only [List.set] at hS
  try simp only [Yj,Ye,Y9,Y7,Yi,Yo,Yf] at hS
  refine .q 2 rfl (.nil (.ret (Xc9 (b:=_) (cs:=[_,_,_,_,_,_,_,_]) Qr50 hS (k:=1) rfl Xe1 X38 rfl rfl rfl rfl ?_)))
  exact ⟨_,rfl,I,z0,_,[],_,Le.refl _,rfl,⟨none,0,rfl,Yr _,RS.nil _ _⟩,(by unfold X1e; rw [if_pos (by omega)]),((hS.drop (k:=0) rfl).drop (k:=0) rfl)⟩
 have hc23:=hb23; try simp only [Y6] at hc23
 refine .skip (.seq ?_)
 have hz:(Ul.nU s).2=0:=by omega
 have hn100:(Ul.nU s).1.length≤100:=by
  rw [hz] at hb21
  simp at hb21
  omega
 refine .t 2 rfl (.val (.fieldAddrI 0 (.of rfl) Xeq rfl rfl Xfm rfl) rfl (.val (.ldI (.of rfl) hS (At.add hreg _) Xl4 rfl) rfl (.val (.makeFunc (X0 (.of rfl) X4)) rfl ?_)))
 refine WL.call Xmz rfl (X0 (.of rfl) (X0 (.of rfl) X4)) rfl (X3r a cc lo hlo (fun t=>(X8n t.urls (Ul.nU s).1).1) 110 _ Tryz.func110 rfl [ptr b7 0] B _ I (blk b7 [S (Ul.nU s).1] 9::blk b4 [I64 0,F64 0,S [],.bool false,.bool false,.bool false,S [],.slice none 0 0] 59::As) (fun w h=>hE.now h) (fun t c ht w h=>by
  obtain ⟨ta,tc,tp,tq,Q,_,rfl,_,_,hQ,hpat,_⟩:=ht
  refine (Xjd hQ ta tc tp tq (Ul.nU s).1 (by omega) b7 B w I hpat _ h).mono fun e w' ⟨v,e1,e2,e3⟩=>⟨v,e1,?_,e3⟩
  rw [e2,Xbs hQ]) hS) ?_
 clear hS
 rintro _ w ⟨rfl,hS⟩
 refine .q 1 rfl (.nil (.seq (.seq (.q 2 rfl ?_))))
 refine WC.cond rfl (fun hb33=>?_) (fun hb33=>?_)
 ·
  have hc33:=hb33; try simp only [Y6] at hc33
  refine .seq (.region (.val (.build (cs:=[_,_,_,_,_,_,_,_]) X6 X3c rfl) rfl (.stA hS (k:=1) rfl (.of rfl) (.of rfl) rfl X38 rfl (by simp) ?_)))
  clear hS; intro w hS; try dsimp only [List.set] at hS
  try simp only [Yj,Ye,Y9,Y7,Yi,Yo,Yf] at hS
  refine .q 2 rfl (.nil (.ret (Xc9 (b:=_) (cs:=[_,_,_,_,_,_,_,_]) Qr50 hS (k:=1) rfl Xe1 X38 rfl rfl rfl rfl ?_)))
  exact ⟨_,rfl,I,z0,_,[],31,Le.refl _,rfl,⟨none,0,rfl,Yr _,RS.nil _ _⟩,(by
   have hno:lo.find? (fun t=>(X8n t.urls (Ul.nU s).1).1)=none:=by
    rcases X5k (fun t=>(X8n t.urls (Ul.nU s).1).1) lo with ⟨_,h⟩ | ⟨j,u,hj,_⟩
    ·exact h
    ·exfalso; rw [hj] at hc33; omega
   unfold X1e
   rw [if_neg (by omega),if_neg (by omega),hno]),((hS.drop (k:=0) rfl).drop (k:=0) rfl)⟩
 have hc33:=hb33; try simp only [Y6] at hc33
 refine .skip (.seq ?_)
 rcases X5k (fun t=>(X8n t.urls (Ul.nU s).1).1) lo with ⟨hneg,_⟩ | ⟨j,u,hj,hu,hpu,hfind⟩
 ·exfalso; rw [hneg] at hc33; omega
 rw [hj]
 obtain ⟨p,c,rfl,hc,hx0,ra,rc,pp,qq,Q,T,rfl,hrc,hrr,hQ,hpQ,hT,hpT⟩:=hE.2 j u hu
 have hjl:=(Y5.1 hu).1
 have hsm:=hrl u (Yn hu)
 have hx:=X3e hx0 8
 simp only [X1i,Y1r,Yj] at hx
 refine .drawn (fun w=>∃ J9 R,Le I J9∧Sat B w J9 (blk b7 [S (Ul.nU s).1] 9::R)) (fun j=>!([].contains j)) (by kernel_rfl) ?_
 replace hS:=hS.drew; generalize w.drew=w at hS ⊢
 have hH:∃ J9 R,Le I J9∧Sat B w J9 (blk b7 [S (Ul.nU s).1] 9::R):=⟨_,_,Le.refl _,(hS.pick 0 rfl)⟩
 refine .tp (i:=0) rfl (by kernel_rfl) (fun w=>(.move (.of rfl))) rfl (.tp (i:=1) rfl (by kernel_rfl) (fun w=>(.nilCheck (.of rfl))) rfl (.tp (i:=2) rfl (by kernel_rfl) (fun w=>(.fieldAddrI 0 (.of rfl) Xeq rfl rfl Xfm rfl)) rfl (.tk (i:=3) rfl (by kernel_rfl) hH (fun w ⟨J9,R,hL9,hS⟩=>(.ldI (.of rfl) hS (At.add (hreg.mono hL9) _) Xl4 rfl)) rfl (.tp (i:=4) rfl (by kernel_rfl) (fun w=>(.move (.of rfl))) rfl (.tp (i:=5) rfl (by kernel_rfl) (fun w=>(.indexAddrI (.of rfl) (.of rfl) (by omega) (by omega) X6m X3g)) rfl (.tp (i:=6) rfl (by kernel_rfl) (fun w=>(.fieldAddrI 0 (.of rfl) Xhs rfl rfl X38 rfl)) rfl (.tk (i:=7) rfl (by kernel_rfl) hH (fun w ⟨J9,R,hL9,hS⟩=>(.ldsI (.of rfl) hS (hx.mono hL9) Xe1 X38 rfl (fun _ _ h=>h))) rfl (.tk (i:=9) rfl (by kernel_rfl) hH (fun w ⟨J9,R,hL9,hS⟩=>(.ld (.of rfl) hS (k:=0) rfl Qg9 rfl)) rfl ?_))))))))
 refine WD.branch [8] (by kernel_rfl) rfl (WO.cons rfl ?_ (WO.nil))
 refine .call Tryz.func112 rfl (X0 (.of rfl) X4) rfl (Xrd u ra rc hsm B _ I hrr _ hS) ?_
 clear hS
 rintro _ w ⟨J2,cs,hJ2,rfl,hsv,hS⟩
 obtain ⟨sa,sc,rfl,hq1,hq2⟩:=hsv
 have hsv:SvAt J2 u (X1d u sa sc):=⟨sa,sc,rfl,hq1,hq2⟩
 refine .nil ?_
 clear hH
 have hH:∃ J9 R,Le I J9∧Sat B w J9 (blk b7 [S (Ul.nU s).1] 9::R):=⟨_,_,hJ2,(hS.pick 0 rfl)⟩
 refine And.intro (by intro _ _; exact hH) ?_
 refine WD.branch [10] (by kernel_rfl) rfl (WO.cons rfl ?_ (WO.nil))
 refine .stA hS (k:=1) rfl (.of rfl) (.of rfl) rfl X38 rfl (by simp) ?_
 clear hS; intro w hS; try dsimp only [List.set] at hS
 try simp only [Yj,Ye,Y9,Y7,Yi,Yo,Yf] at hS
 refine .nil ?_
 clear hH
 have hH:∃ J9 R,Le I J9∧Sat B w J9 (blk b7 [S (Ul.nU s).1] 9::R):=⟨_,_,hJ2,(hS.pick 0 rfl)⟩
 refine And.intro (by intro _ _; exact hH) ?_
 refine .tp (i:=11) rfl (by kernel_rfl) (fun w=>(.assign (.of rfl))) rfl (.tp (i:=12) rfl (by kernel_rfl) (fun w=>(.assign (.of rfl))) rfl (.done (by kernel_rfl) (.ret (Xc9 (b:=_) (cs:=[_,_,_,_,_,_,_,_]) Qr50 hS (k:=1) rfl Xe1 X38 rfl rfl rfl rfl ?_))))
 exact ⟨_,rfl,J2,u,_,(Ul.nU s).1,0,hJ2,rfl,hsv,(by unfold X1e; rw [if_neg (by omega),if_neg (by omega),hfind]),((hS.drop (k:=0) rfl).drop (k:=0) rfl)⟩
theorem Xdv (pr:Addr) (lo:List Sv) (hlo:lo.length≤100000) (hrl:∀ s∈lo,s.rel.length≤1000000) (id:Int) (s:List UInt8) (hs:s.length≤1000000) (a:Option Addr) (cc:Nat) (E:List (List Value)) (B w:World) (I:Im) (hK:Known I) (hreg:At I pr [.slice a lo.length cc]) (hE:EntsIn I a E lo) (As:List Xe) (hS:Sat B w I As) :
  Calls Tryz.prog 51 [.pointer (some pr),I64 id,S s].toArray w (Ret fun v w'=>v=.tuple #[S (X5n lo id s).1,.bool (X5n lo id s).2]∧Sat B w' I As):=by
 refine calls Tryz.func51 rfl Tryz.ntmps51 rfl (.seq (.region (.box1 hS (.of rfl) rfl rfl ?_)))
 clear hS; intro b4 w hS
 refine .q 2 rfl (.nil (.seq (.t 1 rfl (.call Tryz.func108 rfl (X0 (.of rfl) X4) rfl (X88 s hs B _ I hK _ hS) ?_))))
 clear hS
 rintro _ w ⟨rfl,hS⟩
 refine .q 5 rfl (.nil (.seq (.t 2 rfl ?_)))
 refine WL.val (.fieldAddrI 0 (.of rfl) Xeq rfl rfl Xfm rfl) rfl ?_
 refine WL.val (.ldI (.of rfl) hS (At.add hreg _) Xl4 rfl) rfl ?_
 refine .val (.makeFunc (X0 (.of rfl) X4)) rfl ?_
 refine WL.call Xmz rfl (X0 (.of rfl) (X0 (.of rfl) X4)) rfl (X3r a cc lo hlo (fun t=>t.id == id) 113 _ Tryz.func113 rfl [ptr b4 0] B _ I (blk b4 [I64 id] 3::As) (fun w h=>hE.now h) (fun t c ht w h=>by
  obtain ⟨ta,tc,tp,tq,Q,_,rfl,_,_,hQ,hpat,_⟩:=ht
  exact Xix t ta tc tp tq id b4 B w I _ h) hS) ?_
 clear hS
 rintro _ w ⟨rfl,hS⟩
 refine .q 1 rfl (.nil (.seq (.seq (.region ?_))))
 have hi0:=X5k (fun t=>t.id == id) lo
 rcases hi0 with ⟨hneg,hnone⟩ | ⟨j,u,hj,hu,hpu,hfind⟩
 ·
  have hd:decide (X2a (fun t=>t.id == id) lo 0<0)=true:=by rw [hneg]; rfl
  refine .val (.move (.of rfl)) rfl (.q 2 rfl (.gval rfl rfl (fun hg1=>(.move (.of rfl))) rfl (.gval rfl rfl (fun hg1=>(.neq (.gd hg1 rfl) (.of rfl))) rfl (.val (.por (.of rfl) (.of rfl) (.of rfl)) rfl (.q 1 rfl (.gval rfl rfl (fun hg1=>(.move (.of rfl))) rfl (.gval rfl rfl (fun hg1=>(.len (.gd hg1 rfl) Qu9)) rfl (.gval rfl rfl (fun hg1=>(.gtr (.gd hg1 rfl) (.of rfl))) rfl (.val (.por (.of rfl) (.of rfl) (.of rfl)) rfl (.q 1 rfl (.gval rfl rfl (fun hg1=>(.move (.of rfl))) rfl ?_)))))))))))
  refine WL.gcall (T:=fun w=>Sat B w I (blk b4 [I64 id] 3::As)) rfl rfl rfl Qf90 rfl (fun hg1=>(X0 (.gd hg1 rfl) (X0 (.of rfl) X4))) rfl (fun hg1=>X1o (X26 (Ul.nU s).1 _ w (by (try simp only [Y6] at hg1); omega) (by decide)) hS) hS ?_
  clear hS; rintro w hS
  refine .gval rfl rfl (fun hg1=>(.not (.gd hg1 rfl))) rfl (.val (.por (.of rfl) (.of rfl) (.of rfl)) rfl (.q 1 rfl (.gval (v:=.bool false) rfl rfl (fun hg1=>absurd hg1 (by simp [hd])) rfl (.gval (v:=.bool false) rfl rfl (fun hg1=>absurd hg1 (by simp [hd])) rfl (.gval (v:=.bool false) rfl rfl (fun hg1=>absurd hg1 (by simp [hd])) rfl (.gval (v:=.bool false) rfl rfl (fun hg1=>absurd hg1 (by simp [hd])) rfl (.gval (v:=.bool false) rfl rfl (fun hg1=>absurd hg1 (by simp [hd])) rfl (.gval (v:=.bool false) rfl rfl (fun hg1=>absurd hg1 (by simp [hd])) rfl (.gval (v:=.bool false) rfl rfl (fun hg1=>absurd hg1 (by simp [hd])) rfl (.gval (v:=.bool false) rfl rfl (fun hg1=>absurd hg1 (by simp [hd])) rfl (.gval (v:=.bool false) rfl rfl (fun hg1=>absurd hg1 (by simp [hd])) rfl (.gval (v:=.bool false) rfl rfl (fun hg1=>absurd hg1 (by simp [hd])) rfl (.gval (v:=.bool false) rfl rfl (fun hg1=>absurd hg1 (by simp [hd])) rfl (.val (.por (.of rfl) (.of rfl) (.of rfl)) rfl (.nil ?_)))))))))))))))
  refine WC.cond rfl (fun hb50=>?_) (fun hb50=>?_)
  ·
   have hc50:=hb50; try simp only [Y6] at hc50
   refine .seq (.q 2 rfl (.ret (X2u Qr51 rfl rfl ?_)))
   refine ⟨_,rfl,?_,hS.drop (k:=0) rfl⟩
   unfold X5n
   rw [hnone]
  have hc50:=hb50; try simp only [Y6] at hc50
  refine .skip (.seq (.q 3 rfl (.ret (X2u Qr51 rfl rfl ?_))))
  exfalso
  rw [hd] at hb50
  simp at hb50
 ·
  rw [hj]
  obtain ⟨p,c,rfl,hc,hx0,ra,rc,pp,qq,Q,T,rfl,hrc,hrr,hQ,hpQ,hT,hpT⟩:=hE.2 j u hu
  have hjl:=(Y5.1 hu).1
  have hsm:=hrl u (Yn hu)
  have hx:=hx0
  refine .val (.move (.of rfl)) rfl (.q 2 rfl (.gval rfl rfl (fun hg1=>(.move (.of rfl))) rfl (.gval rfl rfl (fun hg1=>(.neq (.gd hg1 rfl) (.of rfl))) rfl (.val (.por (.of rfl) (.of rfl) (.of rfl)) rfl (.q 1 rfl (.gval rfl rfl (fun hg1=>(.move (.of rfl))) rfl (.gval rfl rfl (fun hg1=>(.len (.gd hg1 rfl) Qu9)) rfl (.gval rfl rfl (fun hg1=>(.gtr (.gd hg1 rfl) (.of rfl))) rfl (.val (.por (.of rfl) (.of rfl) (.of rfl)) rfl (.q 1 rfl (.gval rfl rfl (fun hg1=>(.move (.of rfl))) rfl ?_)))))))))))
  refine WL.gcall (T:=fun w=>Sat B w I (blk b4 [I64 id] 3::As)) rfl rfl rfl Qf90 rfl (fun hg1=>(X0 (.gd hg1 rfl) (X0 (.of rfl) X4))) rfl (fun hg1=>X1o (X26 (Ul.nU s).1 _ w (by (try simp only [Y6] at hg1); omega) (by decide)) hS) hS ?_
  clear hS; rintro w hS
  refine .gval rfl rfl (fun hg1=>(.not (.gd hg1 rfl))) rfl (.val (.por (.of rfl) (.of rfl) (.of rfl)) rfl (.q 1 rfl (.gval rfl rfl (fun hg1=>(.move (.of rfl))) rfl (.gval rfl rfl (fun hg1=>(.nilCheck (.gd hg1 rfl))) rfl ?_))))
  refine WL.gval rfl rfl (fun hg1=>(by exact .fieldAddrI 0 (.gd hg1 rfl) Xeq rfl rfl Xfm rfl)) rfl ?_
  refine WL.gval rfl rfl (fun hg1=>(by exact (.ldI (.gd hg1 rfl) hS (At.add hreg _) Xl4 rfl))) rfl ?_
  refine .gval rfl rfl (fun hg1=>(.move (.of rfl))) rfl ?_
  refine WL.gval rfl rfl (fun hg1=>(by exact .indexAddrI (.gd hg1 rfl) (.gd hg1 rfl) (by (try simp only [Y6] at hg1); omega) (by (try simp only [Y6] at hg1); omega) X6m X3g)) rfl ?_
  refine WL.gval rfl rfl (fun hg1=>(by exact .fieldAddrI 9 (.gd hg1 rfl) Xhs rfl rfl Tryz.sizeOf158 rfl)) rfl ?_
  refine WL.gval rfl rfl (fun hg1=>(by exact (.ldI (.gd hg1 rfl) hS (At.add hx _) Tryz.isAgg158 rfl))) rfl ?_
  refine .gval rfl rfl (fun hg1=>(.move (.of rfl))) rfl ?_
  refine WL.gcall (T:=fun w=>Sat B w I (blk b4 [I64 id] 3::As)) rfl rfl rfl Tryz.func111 rfl (fun hg1=>(X0 (.gd hg1 rfl) (X0 (.gd hg1 rfl) X4))) rfl (fun hg1=>Xcd hT qq (Ul.nU s).1 (by (try simp only [Y6] at hg1); omega) B _ I _ hS hpT) hS ?_
  clear hS; rintro w hS
  refine .gval rfl rfl (fun hg1=>(.not (.gd hg1 rfl))) rfl (.val (.por (.of rfl) (.of rfl) (.of rfl)) rfl (.nil ?_))
  refine WC.cond rfl (fun hb50=>?_) (fun hb50=>?_)
  ·
   have hc50:=hb50; try simp only [Y6] at hc50
   refine .seq (.q 2 rfl (.ret (X2u Qr51 rfl rfl ?_)))
   refine ⟨_,rfl,?_,hS.drop (k:=0) rfl⟩
   unfold X5n
   rw [hfind]
   simp only
   rw [show decide ((j:Int)<0)=false from decide_eq_false (by omega),Y3h] at hb50
   rw [if_pos (by rw [Xbs hT]; exact hb50)]
  have hc50:=hb50; try simp only [Y6] at hc50
  refine .skip (.seq (.q 3 rfl (.ret (X2u Qr51 rfl rfl ?_))))
  refine ⟨_,rfl,?_,hS.drop (k:=0) rfl⟩
  unfold X5n
  rw [hfind]
  simp only
  rw [show decide ((j:Int)<0)=false from decide_eq_false (by omega),Y3h] at hb50
  rw [if_neg (by rw [Xbs hT,Y2j]; exact hb50)]
  rfl
end Go.Proofs.YtfibbpgikjggfaaGreatDoor
namespace Go.Proofs.YtfibbpgikjggfaaGreatDoor
open Gk Ul Pc Tk Tr
theorem Ex.indexU {P:Program} {n:Nat} {L:Env} {w:World} {d:Option Nat} {ty t:TypeId} {pos:String} {af:Array Edge} {g:Option (Nat×Bool)} {x y:Operand} {l:List UInt8} {i:Nat} {c:UInt8} (hx:Ev n L x (S l)) (hy:Ev n L y (U64 i)) (hc:l[i]?=some c) (hT:P.underlying t=some .string):Ex P n L w ⟨d,.index t x y,ty,pos,af,g⟩ (U8 c.toNat) w :=
 fun a ha=>by
  have h1:i<l.length:=(Y5.1 hc).1
  have h2:=(Y5.1 hc).2
  have h3:0≤(i:Int)∧(i:Int)<((ByteArray.size ⟨l.toArray⟩:Nat):Int):=⟨by omega,by show (i:Int)<(l.length:Int); omega⟩
  have h:=run_index_string (P:=P) w t ⟨l.toArray⟩ .u64 i hT
  rw [dif_pos h3] at h
  have h4:(⟨l.toArray⟩:ByteArray)[((i:Nat):Int).toNat]'(by show ((i:Nat):Int).toNat<l.length; omega)=c:=h2
  rw [h4] at h
  simp [execOp,hx a ha,hy a ha,h]
theorem Ex.bytesStr {P:Program} {n:Nat} {L:Env} {B w:World} {I:Im} {As:List Xe} {k:Nat} {ty:TypeId} {pos:String} {af:Array Edge} {g:Option (Nat×Bool)} {x:Operand} {d:Option Nat} {src dst E:TypeId} {b o cap m:Nat} {l:List UInt8} {cs:List Value} (hx:Ev n L x (.slice (some (ad b o)) m cap)) (hm:l.length=m) (hS:Sat B w I As) (hk:As[k]?=some (blk b cs E)) (hs:P.underlying src=some (.slice E)) (he:P.underlying E=some (.int .u8)) (hd:P.underlying dst=some .string)
  (hc:∀ j (hj:j<l.length),cs[o+j]?=some (U8 (l[j].toNat:Int))):Ex P n L w ⟨d,.convert src dst x,ty,pos,af,g⟩ (S l) w:=fun a ha=>by
 subst hm
 have hb:=hS.block hk
 have h:=run_convert_bytes_back (P:=P) w src dst E (ad b o) cap l hs he hd (fun j hj=>by rw [X13]; exact Xy hb (hc j hj))
 simp [execOp,hx a ha,h]
theorem Xq7 (d i:Nat):((d:Nat):Int) / 2 ^ (4*(i:Int)).toNat=((d / 16 ^ i:Nat):Int):=by
 rw [show (4*(i:Int)).toNat=4*i by omega,show (16:Nat) ^ i=2 ^ (4*i) by rw [Nat.pow_mul],Int.natCast_ediv,Int.natCast_pow]
 rfl
theorem Xfb (k:Int):(X7c k).length≤6:=by
 unfold X7c
 split
 ·simp
 ·rename_i h
  have:k=1∨k=2∨k=3∨k=4∨k=5∨k=6:=by omega
  rcases this with e | e | e | e | e | e <;> (subst e; decide)
def dg (n:Nat):UInt8:=if n<10 then UInt8.ofNat (48+n) else UInt8.ofNat (87+n)
theorem hex_dg {n:Nat} (h:n<16):HEXD[n]?=some (dg n):=(by decide:∀ n:Fin 16,HEXD[n.val]?=some (dg n.val)) ⟨n,h⟩
theorem X9d:∀ (k n:Nat),X7r (k+1) n=dg (n / 16 ^ k % 16)::X7r k n
 | 0,n=>by simp [X7r,dg]
 | k+1,n=>by
  rw [X7r,X9d k (n / 16),Y37,← Nat.pow_succ',Yq,X7r]
theorem Xkh {α:Type} (z v:α) (X:List α):∀ n:Nat,(List.replicate (n+1) z ++ X).set n v=List.replicate n z ++ v::X
 | 0=>rfl
 | n+1=>by
  rw [List.replicate_succ,Yq,Y39,Xkh z v X n]
  rfl
def lay (i d:Nat):List Value:=List.replicate (16 - i) (U8 0) ++ bcs (X7r i d)
theorem Xqx {i d:Nat} (h:i≤16):(lay i d).length=16:=by
 unfold lay
 rw [Y0,Y1s,Yy,X57]; omega
theorem Xq3 {i d:Nat} (h:i<16):(lay i d).set (15 - i) (U8 (dg (d / 16 ^ i % 16)).toNat)=lay (i+1) d:=by
 unfold lay
 rw [show 16 - i=(15 - i)+1 by omega,Xkh,show 16 - (i+1)=15 - i by omega,X9d]
 rfl
theorem Xrg {d j:Nat} {D:List UInt8} (h:X7r 16 d=D) (hj:j<D.length):(lay 16 d)[0+j]?=some (U8 (D[j].toNat:Int)):=by
 have e:lay 16 d=bcs D:=by unfold lay; rw [h]; rfl
 rw [e,Yf,Yz,Y4 hj]
 rfl
theorem Xn7 (kind:Int) (d:Nat) (hd:d<18446744073709551616) (B w:World) (I:Im) (hP:PreAt I) (As:List Xe) (hS:Sat B w I As) :
  Calls Tryz.prog 159 [I64 kind,U64 (d:Nat)].toArray w (Ret fun v w'=>v=(if X7c kind=[] then .tuple #[S [],I64 8] else .tuple #[S (X7c kind ++ 45::X7r 16 d),I64 0])∧Sat B w' I As):=by
 refine calls Tryz.func159 rfl Tryz.ntmps159 rfl (.seq (.q 2 rfl (.seq (.t 1 rfl (.call Tryz.func158 rfl (X0 (.of rfl) X4) rfl (Xan kind B _ I hP _ hS) ?_)))))
 clear hS
 rintro _ w ⟨rfl,hS⟩
 refine .q 1 rfl (.nil (.seq (.seq (.q 2 rfl ?_))))
 refine WC.cond rfl (fun hb12=>?_) (fun hb12=>?_)
 ·
  have hc12:=hb12; try simp only [Y6] at hc12
  refine .seq (.q 2 rfl (.ret (X2u Tryz.results159 rfl rfl ?_)))
  exact ⟨_,rfl,by rw [if_pos (by simpa using hb12)],hS⟩
 have hc12:=hb12; try simp only [Y6] at hc12
 refine .skip (.seq (.region ?_))
 refine WL.make (l:=16) hS (.of rfl) (.of rfl) X2e Xcy rfl (by simp [Tryz.t5] <;> omega) (by omega) rfl rfl rfl ?_
 clear hS; intro b13 w hS
 refine .q 1 rfl (.nil (.seq (.seq ?_)))
 replace hS:Sat B w I (blk b13 (lay 0 d) 5::As):=hS
 refine .region (.run 3 rfl ⟨⟨_,X2e⟩,trivial⟩ (.nil (.block (.loop (σ:=Nat) (fun i=>[(1,U64 (d:Nat)),(6,S (X7c kind)),(7,.slice (some (ad b13 0)) 16 16),(15,I64 16),(16,I64 (i:Nat))]) (fun i w=>i≤16∧Sat B w I (blk b13 (lay i d) 5::As)) (fun i=>16 - i) 0 ⟨rfl,rfl,rfl,rfl,rfl,trivial⟩ ⟨Ys _,hS⟩ ?_))))
 rintro i w ⟨hi,hS⟩
 change WC _ _ _ _ [(1,U64 (d:Nat)),(6,S (X7c kind)),(7,.slice (some (ad b13 0)) 16 16),(15,I64 16),(16,I64 (i:Nat))] w
 refine .seq (.q 1 rfl (.seq ?_))
 refine WC.cond rfl (fun hb17=>?_) (fun hb17=>?_)
 ·
  have hc17:=hb17; try simp only [Y6] at hc17
  refine .skip (.seq (.block (.seq (.q 2 rfl (.region (.run 6 rfl ⟨⟨by omega,by omega⟩,⟨by omega,by omega⟩,trivial⟩ ?_))))))
  refine WL.val (.shr (.of rfl) (.of rfl) (by omega) (by show (4*(i:Int))≤64; omega)) rfl ?_
  rw [Xq7 d i]
  refine .val (.and64 (a:=d / 16 ^ i) (b:=15) (Y3t (Y5a _ _) hd) (by omega) (.of rfl) (.of rfl)) rfl ?_
  rw [show (d / 16 ^ i) &&& 15=d / 16 ^ i % 16 from Nat.and_two_pow_sub_one_eq_mod _ 4]
  refine .val (Ex.indexU (l:=HEXD) (.of rfl) (.of rfl) (hex_dg (Y36 _ (by decide))) Qu9) rfl ?_
  refine WL.val (.indexAddr (.of rfl) (.of rfl) (by omega) (by omega) X2e Qs5) rfl ?_
  refine WL.st1 hS (k:=0) rfl (.of rfl) (.of rfl) rfl Qs5 (by rw [Xqx hi]; omega) ?_
  clear hS; intro w hS; try dsimp only [List.set] at hS
  rw [show 0+(15 - (i:Int)).toNat*1=15 - i by omega,Xq3 (show i<16 by omega)] at hS
  refine .nil (.region (.run 2 rfl ⟨⟨by omega,by omega⟩,trivial⟩ (.nil ?_)))
  refine ⟨i+1,⟨rfl,rfl,rfl,rfl,rfl,trivial⟩,⟨by (try dsimp only); omega,hS⟩,by (try dsimp only); omega⟩
 have hc17:=hb17; try simp only [Y6] at hc17
 refine .exit (.seq ?_)
 have h16:i=16:=by omega
 subst h16
 have hpl:=Xfb kind
 have hdl:=X57 16 d
 generalize hdg:X7r 16 d=D at *
 refine .region ?_
 refine WL.run 3 rfl ⟨by (try simp only [Y0,Yc,Yl]); omega,trivial⟩ ?_
 refine .val (Ex.bytesStr (l:=D) (o:=0) (.of rfl) hdl hS (k:=0) rfl X2e Qu5 Qu9 (fun j hj=>Xrg hdg hj)) rfl ?_
 refine WL.run 3 rfl ⟨by (try simp only [Y0,Yc,Yl]); omega,trivial⟩ ?_
 refine .nil (.ret (X2u Tryz.results159 rfl rfl ?_))
 exact ⟨_,rfl,by rw [if_neg (by simpa using hb12),Yd]; rfl,hS.drop (k:=0) rfl⟩
end Go.Proofs.YtfibbpgikjggfaaGreatDoor
namespace Gk
open Go
def X2l (E:TypeId) (v:Value) (xs:List Value):Xe:=fun h =>
 (v=.slice none 0 0∧xs=[]∧h=[]) ∨
  (∃ g cs p,v=.slice (some p) 0 0∧xs=[]∧h=[(g,Xr cs E)])∨∃ g cap ys rest,v=.slice (some ⟨g,List.length ys,none⟩) xs.length cap∧h=[(g,Xr (ys ++ xs ++ rest) E)]∧xs.length≤cap∧cap≤maxLen∧xs.length+rest.length=cap
section
variable {P:Program} {B w w':World} {I:Im} {As:List Xe} {k:Nat} {E:TypeId} {v:Value} {xs:List Value}
theorem Sat.vecoNil (hS:Sat B w I As) (E:Nat):Sat B w I (X2l E (.slice none 0 0) []::As):=by
 obtain ⟨h,hs,hg⟩:=hS
 exact ⟨h,⟨[],h,rfl,.inl ⟨rfl,rfl,rfl⟩,hs⟩,hg⟩
theorem Sat.vecoSlice (hS:Sat B w I As) (hk:As[k]?=some (X2l E v xs)):∃ a c,v=.slice a xs.length c∧xs.length≤c∧(xs≠[]→∃ p,a=some p) :=
 hS.pure_ hk fun _ hh=>by
  rcases hh with ⟨rfl,rfl,_⟩ | ⟨_,_,p,rfl,rfl,_⟩ | ⟨g,cap,ys,rest,rfl,_,h3,_⟩
  ·exact ⟨none,0,rfl,Yr _,fun h=>absurd rfl h⟩
  ·exact ⟨some p,0,rfl,Yr _,fun h=>absurd rfl h⟩
  ·exact ⟨_,_,rfl,h3,fun _=>⟨_,rfl⟩⟩
theorem Sat.vecoCons {x:Value} (hS:Sat B w I As) (hk:As[k]?=some (X2l E v (x::xs))):∃ g off c,v=.slice (some ⟨g,off,none⟩) (xs.length+1) c∧xs.length+1≤c :=
 hS.pure_ hk fun _ hh=>by
  rcases hh with ⟨_,h,_⟩ | ⟨_,_,_,_,h,_⟩ | ⟨g,cap,ys,rest,rfl,_,h3,_⟩
  ·cases h
  ·cases h
  ·exact ⟨_,_,_,rfl,h3⟩
theorem Sat.vecoAt {p:Addr} {m c:Nat} (hS:Sat B w I As) (hk:As[k]?=some (X2l E (.slice (some p) m c) xs)) {j:Nat} {u:Value} (hu:xs[j]?=some u):w.cell? (p.add j)=some u:=by
 obtain ⟨g,hs,hg⟩:=hS
 obtain ⟨h1,h2,hp,ha,hset,_⟩:=hs.at_ hk
 rcases ha with ⟨hv,_⟩ | ⟨_,_,_,_,h,_⟩ | ⟨b,cap,ys,rest,hv,rfl,h3,h4,h5⟩
 ·cases hv
 ·subst h; simp at hu
 ·injection hv with hv1 hv2 hv3
  injection hv1 with hv1
  subst hv1
  have hb:w.heap[b]?=some (Xr (ys ++ xs ++ rest) E):=(hg.perm hp).own b _ (by simp)
  rw [show (⟨b,ys.length,none⟩:Addr).add j=ad b (ys.length+j) from X13 b ys.length j]
  refine Xy hb ?_
  have hj:=(Y5.1 hu).1
  rw [Yd,Yu (by omega),Y2a,Yh hj]
  exact hu
theorem Sat.vecoCut {g off n c:Nat} {x:Value} (hS:Sat B w I As) (hk:As[k]?=some (X2l E (.slice (some ⟨g,off,none⟩) n c) (x::xs))):Sat B w I (As.set k (X2l E (sliced (some ⟨g,off,none⟩) 1 n c 1) xs)) :=
 hS.say hk fun _ hh=>by
  rcases hh with ⟨hv,_⟩ | ⟨_,_,_,_,h,_⟩ | ⟨b,cap,ys,rest,hv,rfl,h3,h4,h5⟩
  ·cases hv
  ·cases h
  ·injection hv with hv1 hv2 hv3
   injection hv1 with hv1
   injection hv1 with hv1 hv4
   subst hv1; subst hv3; subst hv4
   simp only [Yc] at h3 h5 hv2
   by_cases h0:c=1
   ·have e:xs=[]:=Yg (by omega)
    subst e
    refine .inr <| .inl ⟨g,_,⟨g,ys.length,none⟩,?_,rfl,rfl⟩
    unfold sliced
    rw [if_pos h0,hv2,h0]
    rfl
   ·refine .inr <| .inr ⟨g,c - 1,ys ++ [x],rest,?_,by simp,by omega,by omega,by omega⟩
    unfold sliced
    rw [if_neg h0,hv2,Y0]
    rfl
theorem X7q (w:World) (t ty e:TypeId) (i:TypeInfo) (ht:P.underlying t=some (.slice e)) (hi:P.info? e=some i)
  (g off sLen sCap:Nat) (cur:Array Value) (hg:w.heap[g]?=some (.cells cur e (0,0)))
  (a:Addr) (m c:Nat) (news:List Value) (hl:news.length=m*i.size) (hnews:∀ j u,news[j]?=some u→w.cell? (a.add j)=some u) (h1:∀ u∈news,u.oneCell'=true)
  (hroom:sLen+m≤sCap) (hfit:off+sLen*i.size+news.length≤cur.size) :
  (Builtin.append_ #[t,t] ty #[.slice (some ⟨g,off,none⟩) sLen sCap,.slice (some a) m c]).run P w =
   .ok (.slice (some ⟨g,off,none⟩) (sLen+m) sCap) (w.setRow g (cur.toList.take (off+sLen*i.size) ++ news ++ cur.toList.drop (off+sLen*i.size+news.length)).toArray):=by
 have hf:=run_firstCells_some (P:=P) w i.size m a m c news hl hnews
 have hst:=run_storeCells_at P g (off+sLen*i.size) e news 0 cur w hg (by simpa using hfit) h1
 simp only [Y2e] at hst
 simp [Builtin.append_,run_underlying ht,Go.sizeOf,typeInfo,hi,Builtin.lenOf,hroom,hf,Addr.add_lit,hst]
theorem zc_len (z:Array Value) (hz:z.size=1) (n:Nat):(Builtin.zeroCells z n).toList.length=n:=by rw [Y31,size_zeroCells,hz,Y1k]
theorem X8z (hS:Sat B w I As) {t ty:TypeId} {i:TypeInfo} {z:Value} {bytes:Nat} (ht:P.underlying t=some (.slice E)) (hi:P.info? E=some i) (hz:i.zero=some z)
  (hsize:i.size=1) (hby:i.bytes=bytes) (hzs:z.cells.size=1) (hk:As[k]?=some (X2l E v xs)) {p:Addr} {m c:Nat} {news:List Value} (hl:news.length=m) (hm:0<m)
  (hnews:∀ j u,news[j]?=some u→w.cell? (p.add j)=some u) (h1:∀ u∈news,u.oneCell'=true) (h63:xs.length+m≤maxLen) (hbytes:(xs.length+m)*bytes≤140737488355328) :
  ∃ v' w',(Builtin.append_ #[t,t] ty #[v,.slice (some p) m c]).run P w=.ok v' w'∧Sat B w' I (As.set k (X2l E v' (xs ++ news))):=by
 subst hby
 have hlk:k<As.length:=(Y5.1 hk).1
 have hsmall:xs.length+m≤9223372036854775807:=by simp only [maxLen] at h63; omega
 have fresh:∀ (xs:List Value) (old:Nat),xs.length+m≤maxLen→∀ (As':List Xe),Sat B w I As'→k<As'.length→Sat B (w.drew.alloc (.cells (xs.toArray ++ news.toArray ++ Builtin.zeroCells z.cells (grownCap w (xs.length+m) old E - (xs.length+m))) E)) I
   (As'.set k (X2l E (.slice (some ⟨w.heap.size,0,none⟩) (xs.length+m) (grownCap w (xs.length+m) old E)) (xs ++ news))):=by
  intro xs old h63 As' hS hlk
  obtain ⟨A0,hk⟩:∃ A0,As'[k]?=some A0:=⟨_,Y4 hlk⟩
  have hge:=grownCap_ge w (xs.length+m) old E
  have hcm:grownCap w (xs.length+m) old E≤maxLen:=grownCap_le_maxLen w (xs.length+m) old E h63
  have hS2:=hS.drew.alloc (.cells (xs.toArray ++ news.toArray ++ Builtin.zeroCells z.cells (grownCap w (xs.length+m) old E - (xs.length+m))) E)
  have e1:(own w.drew.heap.size (.cells (xs.toArray ++ news.toArray ++ Builtin.zeroCells z.cells (grownCap w (xs.length+m) old E - (xs.length+m))) E))=blk w.heap.size ((xs ++ news) ++ (Builtin.zeroCells z.cells (grownCap w (xs.length+m) old E - (xs.length+m))).toList) E:=by
   unfold blk Xr
   congr 2
   apply Array.ext'
   simp
  rw [e1] at hS2
  have hS3:=hS2.say (k:=0) (A':=X2l E (.slice (some ⟨w.heap.size,0,none⟩) (xs.length+m) (grownCap w (xs.length+m) old E)) (xs ++ news)) rfl (fun _ hh=>.inr <| .inr ⟨w.heap.size,_,[],_,by rw [Y0,hl]; rfl,by rw [Ye]; exact hh,by rw [Y0,hl]; exact hge,hcm,by
   rw [Y0,hl,zc_len _ hzs]; omega⟩)
  obtain ⟨h,hs,hg⟩:=hS3
  obtain ⟨q1,q2,rfl,hq1,hq2⟩:=hs
  obtain ⟨h1',h2',hp,_,hset,_⟩:=SepAll.at_ hk hq2
  obtain ⟨h',hs',hp'⟩:=hset _ q1 hq1
  have g:=hg.perm (hp.append_left q1)
  have:(q1 ++ (h1' ++ h2')).Perm ((q1 ++ h2') ++ h1'):=by
   rw [Yd]
   exact (Y1g).append_left q1
  exact ⟨h',hs',(g.perm this).left.perm hp'.symm⟩
 obtain ⟨g,hs,hg⟩:=hS
 obtain ⟨h1',h2',hp,ha,hset,_⟩:=hs.at_ hk
 rcases ha with ⟨rfl,rfl,_⟩ | ⟨_,_,q,rfl,rfl,_⟩ | ⟨b,cap,ys,rest,rfl,rfl,h3,h4,h5⟩
 ·have hr:=run_append_nil (P:=P) w t ty E i z ht hi hz p m c news (by rw [hsize,hl,Y1k]) hnews hm (by simp only [Yl,Yf] at hsmall; omega) (by have hb:=hbytes; simp only [Yl,Yf] at hb; omega)
  have hgr:=fresh [] 0 (by simpa using h63) As ⟨g,hs,hg⟩ hlk
  simp only [Yl,Yf,Ye,Y4m] at hgr ⊢
  exact ⟨_,_,hr,hgr⟩
 ·have hr:=run_append_grow (P:=P) w t ty E i z ht hi hz q 0 0 [] (by simp) (fun j u hu=>by simp at hu) p m c news (by rw [hsize,hl,Y1k]) hnews (by omega) (by simp only [Yl,Yf] at hsmall; omega) (growslice_fits (by omega) (by simpa using hbytes))
  have hgr:=fresh [] 0 (by simpa using h63) As ⟨g,hs,hg⟩ hlk
  simp only [Yl,Yf,Ye,Y4m] at hgr hr ⊢
  exact ⟨_,_,hr,hgr⟩
 ·obtain ⟨h',hs',hp'⟩:=hset (blk b (ys ++ xs ++ rest) E) _ rfl
  have hSo:Sat B w I (As.set k (blk b (ys ++ xs ++ rest) E)):=⟨h',hs',hg.perm (hp.trans hp'.symm)⟩
  have hko:(As.set k (blk b (ys ++ xs ++ rest) E))[k]?=some (blk b (ys ++ xs ++ rest) E):=by simp [hlk]
  have hblk:=hSo.block hko
  by_cases hroom:xs.length+m≤cap
  ·have hr:=X7q (P:=P) w t ty E i ht hi b ys.length xs.length cap (ys ++ xs ++ rest).toArray hblk p m c news (by rw [hsize,hl,Y1k]) hnews h1 hroom (by
    simp only [Y3x,Y0,hsize]; omega)
   have e2:((ys ++ xs ++ rest).take (ys.length+xs.length*i.size) ++ news ++ (ys ++ xs ++ rest).drop (ys.length+xs.length*i.size+news.length)).toArray=(ys ++ (xs ++ news) ++ rest.drop news.length).toArray:=by
    rw [hsize,Y1k,← Y0,Y35,Y54,Y1a (by omega:(ys ++ xs).length≤(ys ++ xs).length+news.length)]
    simp
   rw [e2] at hr
   refine ⟨_,_,hr,?_⟩
   have hw:=hSo.write (w':=w.setRow b (ys ++ (xs ++ news) ++ rest.drop news.length).toArray) (o':=Xr (ys ++ (xs ++ news) ++ rest.drop news.length) E) hko rfl rfl rfl (setRow_heap w b _ _ E _ hblk) (fun x hx=>setRow_other w b x _ hx)
   have hsh:=hw.say (k:=k) (A:=own b (Xr (ys ++ (xs ++ news) ++ rest.drop news.length) E)) (A':=X2l E (.slice (some ⟨b,ys.length,none⟩) (xs.length+m) cap) (xs ++ news)) (by simp [hlk]) (fun _ hh=>.inr <| .inr ⟨b,cap,ys,rest.drop news.length,by rw [Y0,hl],hh,by rw [Y0,hl]; exact hroom,h4,by
    rw [Y0,Yp]; omega⟩)
   simpa using hsh
  ·have holds:∀ j u,xs[j]?=some u→w.cell? ((⟨b,ys.length,none⟩:Addr).add j)=some u:=fun j u hu=>by
    rw [show (⟨b,ys.length,none⟩:Addr).add j=ad b (ys.length+j) from X13 b ys.length j]
    refine Xy hblk ?_
    have hj:=(Y5.1 hu).1
    rw [Yd,Yu (by omega),Y2a,Yh hj]
    exact hu
   have hr:=run_append_grow (P:=P) w t ty E i z ht hi hz ⟨b,ys.length,none⟩ xs.length cap xs (by rw [hsize,Y1k]) holds p m c news (by rw [hsize,hl,Y1k]) hnews (by omega) (by omega) (growslice_fits (by omega) hbytes)
   exact ⟨_,_,hr,fresh xs cap h63 As ⟨g,hs,hg⟩ hlk⟩
theorem WL.appendO {n d:Nat} {K:X3m} {L:Env} {ops:Array Oper} {rest:List Oper} {ty:TypeId} {pos:String} {af:Array Edge} {t:TypeId} {x y:Operand} {m c:Nat} {a:Option Addr} {news:List Value} {i:TypeInfo} {z:Value} {bytes:Nat} (hS:Sat B w I As) (hx:Ev n L x v) (hy:Ev n L y (.slice a m c)) (hr:RS I a 1 m news)
  (hk:As[k]?=some (X2l E v xs)) (ht:P.underlying t=some (.slice E)) (hi:P.info? E=some i) (hz:i.zero=some z) (hsize:i.size=1) (hby:i.bytes=bytes) (hzs:z.cells.size=1)
  (h1:news.all Value.oneCell'=true) (h63:(xs.length+m)*bytes≤140737488355328∧xs.length+m≤maxLen) (hd:Nat.blt d n=true)
  (h:∀ v' w',Sat B w' I (As.set k (X2l E v' (xs ++ news)))→WL P n ops K rest ((d,v')::L) w') :
  WL P n ops K (⟨some d,.call ⟨.builtin .append,#[x,y],#[t,t]⟩,ty,pos,af,none⟩::rest) L w:=by
 rcases Y1o m with h0 | h0
 ·subst h0
  have hy0:news=[]:=Yg (by simpa using hr.1)
  subst hy0
  obtain ⟨a0,c0,rfl,hc0,_⟩:=hS.vecoSlice hk
  have hr:(Builtin.append_ #[t,t] ty #[.slice a0 xs.length c0,.slice a 0 c]).run P w=.ok (.slice a0 xs.length c0) w:=by
   cases a0 <;> cases a <;> simp [Builtin.append_,run_underlying ht,Go.sizeOf,typeInfo,hi,Builtin.lenOf,Builtin.firstCells,loadCells,loadCellsFrom,storeCells,hc0]
  have hlk:k<As.length:=(Y5.1 hk).1
  have h2:=h (.slice a0 xs.length c0) w (by
   have:As.set k (X2l E (.slice a0 xs.length c0) (xs ++ []))=As:=by
    rw [Y9]
    have:=(Y5.1 hk).2
    rw [← this,Y40]
   rw [this]; exact hS)
  refine WL.val (v:=.slice a0 xs.length c0) (w':=w) (fun a ha=>?_) hd h2
  simp [execOp,resolve,invoke,builtin,hx a ha,hy a ha,hr]
 ·obtain ⟨p,rfl,hA⟩:=hr.2 h0
  obtain ⟨v',w',hr',hS'⟩:=X8z (P:=P) (ty:=ty) hS ht hi hz hsize hby hzs hk (p:=p) (m:=m) (c:=c) (by have:=hr.1; omega) h0 (fun j u hu=>X2z hS hA hu) (Y15.1 h1) h63.2 h63.1
  refine WL.val (v:=v') (w':=w') (fun a ha=>?_) hd (h _ _ hS')
  simp [execOp,resolve,invoke,builtin,hx a ha,hy a ha,hr']
end
end Gk
namespace Go.Proofs.YtfibbpgikjggfaaGreatDoor
open Gk Ul Pc Tk Tr
theorem Xkk:Bld Tryz.prog 111 [(0,1)] [.slice none 0 0]:=X30 Xeu Tryz.zeroValue111 (fun w=>by simp [go_sem])
theorem Xqu (l:List Nat):(l.map fun d=>U64 (d:Nat)).all Value.oneCell'=true:=by
 rw [List.all_map]
 exact Y15.2 fun _ _=>rfl
theorem X7z (mb:Nat) (ma:Option Addr) (mc:Nat) (D:List Nat) (hD:D.length≤1000000) (a:Option Addr) (c:Nat) (l:List Nat) (hl:l.length≤1000000) (B w:World) (I:Im) (hr:RS I a 1 l.length (l.map fun d=>U64 (d:Nat))) (As:List Xe) (hS:Sat B w I (blk mb [.slice ma D.length mc] 111::X2l 104 (.slice ma D.length mc) (D.map fun d=>U64 (d:Nat))::As)) :
  Calls Tryz.prog 11 [ptr mb 0,.slice a l.length c].toArray w (Ret fun v w'=>v=.tuple #[]∧∃ a c,Sat B w' I (blk mb [.slice a (D ++ l).length c] 111::X2l 104 (.slice a (D ++ l).length c) ((D ++ l).map fun d=>U64 (d:Nat))::As)):=by
 refine calls Qf11 rfl Tryz.ntmps11 rfl (.t 3 rfl ?_)
 refine WL.val (.fieldAddr 0 (.of rfl) Xeu rfl rfl Xly rfl) rfl ?_
 refine WL.val (.ld (.of rfl) hS (k:=0) rfl Qg31 rfl) rfl ?_
 refine .q 1 rfl ?_
 refine WL.appendO (bytes:=8) hS (.of rfl) (.of rfl) hr (k:=1) rfl Xpq (i:=Tryz.t104) (by kernel_rfl) rfl rfl rfl rfl (Xqu l) ⟨by rw [Yy]; omega,by rw [Yy]; unfold maxLen; omega⟩ rfl ?_
 clear hS; intro v10 w hS; try dsimp only [List.set] at hS
 obtain ⟨a10,c10,rfl,hc10,_⟩:=hS.vecoSlice (k:=1) rfl
 refine .q 1 rfl ?_
 refine WL.val (.fieldAddr 0 (.of rfl) Xeu rfl rfl Xly rfl) rfl ?_
 refine WL.st1 hS (k:=0) rfl (.of rfl) (.of rfl) rfl Xly (by simp) ?_
 clear hS; intro w hS; try dsimp only [List.set] at hS
 refine .nil (X7x Tryz.results11 ?_)
 refine ⟨_,rfl,rfl,a10,c10,?_⟩
 rw [← Yv,Yy] at hS
 exact hS
theorem Xht (B w:World) (I:Im) (As:List Xe) (hS:Sat B w I As) :
  Calls Tryz.prog 153 [.slice none 0 0].toArray w (Ret fun v w'=>v=.slice none 0 0∧Sat B w' I As):=by
 refine calls Tryz.func153 rfl Tryz.ntmps153 rfl (.seq (.q 1 rfl (.seq (.seq (.t 1 rfl (.val (Ex.slNil (.of rfl) (.of rfl) Xpq) rfl (.nil (.condT (rfl) (.seq (.q 1 rfl (.ret (Xk Tryz.results153 rfl ?_))))))))))))
 exact ⟨_,rfl,rfl,hS⟩
theorem Xfa (B w:World) (I:Im) (As:List Xe) (hS:Sat B w I As) :
  Calls Tryz.prog 106 [.slice none 0 0].toArray w (Ret fun v w'=>∃ mb,v=ptr mb 0∧Sat B w' I (blk mb [.slice none (([]:List Nat)).length 0] 111::X2l 104 (.slice none (([]:List Nat)).length 0) ((([]:List Nat)).map fun d=>U64 (d:Nat))::As)):=by
 refine calls Tryz.func106 rfl Tryz.ntmps106 rfl (.seq (.q 1 rfl (.seq (.t 1 rfl (.call Tryz.func153 rfl (X0 (.of rfl) X4) rfl (Xht B _ I _ hS) ?_)))))
 clear hS
 rintro _ w ⟨rfl,hS⟩
 refine .val (.build (cs:=[_]) (X5 (.of rfl) X6) Xkk rfl) rfl (.boxA (cs:=[_]) hS (.of rfl) rfl ?_)
 clear hS; intro b6 w hS
 refine .q 1 rfl (.nil (.ret (Xk Tryz.results106 rfl ?_)))
 exact ⟨_,rfl,_,rfl,(hS.vecoNil 104).pick 1 rfl⟩
def X3n (pr:List UInt8→Bool) (kind:Int) (D:List Nat):(List UInt8×Nat)×List Nat :=
 if X7c kind=[] then (([],8),D) else match D with
 | []=>(([],6),[])
 | d::D=>if pr (X7c kind ++ 45::X7r 16 d) then (([],7),D) else ((X7c kind ++ 45::X7r 16 d,0),D)
theorem Xmi (mb:Nat) (ma:Option Addr) (mc:Nat) (D:List Nat) (hD:∀ d∈D,d<18446744073709551616) (kind:Int) (pr:List UInt8→Bool) (fid:FuncId) (fn:Func) (hfn:Tryz.prog.funcs[fid]?=some fn) (hcal:Xo fn=true) (capv:List Value) (B w:World) (I:Im) (hP:PreAt I) (As:List Xe) (hf:∀ (M:List Xe) (s:List UInt8) w,Sat B w I (M ++ As)→Calls Tryz.prog fid ([S s] ++ capv).toArray w (Ret fun v w'=>v=.bool (pr s)∧Sat B w' I (M ++ As))) (hS:Sat B w I (blk mb [.slice ma D.length mc] 111::X2l 104 (.slice ma D.length mc) (D.map fun d=>U64 (d:Nat))::As)) :
  Calls Tryz.prog 114 [ptr mb 0,I64 kind,.func (.func fid) #[] capv.toArray].toArray w (Ret fun v w'=>v=.tuple #[S (X3n pr kind D).1.1,I64 ((X3n pr kind D).1.2:Nat)]∧∃ a c,Sat B w' I (blk mb [.slice a ((X3n pr kind D).2).length c] 111::X2l 104 (.slice a ((X3n pr kind D).2).length c) (((X3n pr kind D).2).map fun d=>U64 (d:Nat))::As)):=by
 refine calls Tryz.func114 rfl Tryz.ntmps114 rfl (.seq (.q 2 rfl (.seq (.block (.seq (.t 1 rfl (.call Tryz.func158 rfl (X0 (.of rfl) X4) rfl (Xan kind B _ I hP _ hS) ?_)))))))
 clear hS
 rintro _ w ⟨rfl,hS⟩
 refine .q 2 rfl (.nil ?_)
 refine WC.cond rfl (fun hb10=>?_) (fun hb10=>?_)
 ·
  have hc10:=hb10; try simp only [Y6] at hc10
  refine .seq (.q 2 rfl (.ret (X2u Xn9 rfl rfl ?_)))
  have e:X3n pr kind D=(([],8),D):=by unfold X3n; rw [if_pos (by simpa using hb10)]
  rw [e]
  exact ⟨_,rfl,rfl,ma,mc,hS⟩
 have hc10:=hb10; try simp only [Y6] at hc10
 refine .seq (.t 2 rfl ?_)
 refine WL.val (.fieldAddr 0 (.of rfl) Xeu rfl rfl Xly rfl) rfl ?_
 refine WL.val (.ld (.of rfl) hS (k:=0) rfl Qg31 rfl) rfl ?_
 refine .run 3 rfl ⟨⟨_,Xpq⟩,trivial⟩ (.nil ?_)
 refine WC.cond rfl (fun hb14=>?_) (fun hb14=>?_)
 ·
  have hc14:=hb14; try simp only [Y6] at hc14
  refine .seq (.q 2 rfl (.ret (X2u Xn9 rfl rfl ?_)))
  obtain rfl:D=[]:=by
   cases D with
   | nil=>rfl
   | cons d D=>exfalso; simp at hb14; omega
  have e:X3n pr kind []=(([],6),[]):=by unfold X3n; rw [if_neg (by simpa using hb10)]
  rw [e]
  exact ⟨_,rfl,rfl,ma,mc,hS⟩
 have hc14:=hb14; try simp only [Y6] at hc14
 refine .skip (.seq ?_)
 have hk0:¬ X7c kind=[]:=by simpa using hb10
 obtain ⟨d,D,rfl⟩:∃ d D',D=d::D':=by
  cases D with
  | nil=>simp at hb14
  | cons d D'=>exact ⟨d,D',rfl⟩
 obtain ⟨mg,mo,mc2,hv,hmc⟩:=hS.vecoCons (k:=1) rfl
 injection hv with hv1 hv2 hv3
 subst hv1; subst hv3
 have hx:=hS.vecoAt (k:=1) rfl (j:=0) (u:=U64 (d:Nat)) rfl
 simp only [Yy] at hmc
 refine .t 3 rfl ?_
 refine WL.val (.fieldAddr 0 (.of rfl) Xeu rfl rfl Xly rfl) rfl ?_
 refine WL.val (.ld (.of rfl) hS (k:=0) rfl Qg31 rfl) rfl ?_
 refine WL.val (.indexAddr (.of rfl) (.of rfl) (by omega) (by omega) Xpq Xoz) rfl ?_
 refine .val (ldC (.of rfl) hx Tryz.isAgg104) rfl (.call Tryz.func159 rfl (X0 (.of rfl) (X0 (.of rfl) X4)) rfl (Xn7 kind d (hD d (by simp)) B _ I hP _ hS) ?_)
 clear hS
 rintro _ w ⟨rfl,hS⟩
 rw [if_neg hk0]
 refine .q 5 rfl (.nil (.seq (.t 3 rfl ?_)))
 refine WL.val (.fieldAddr 0 (.of rfl) Xeu rfl rfl Xly rfl) rfl ?_
 refine WL.val (.ld (.of rfl) hS (k:=0) rfl Qg31 rfl) rfl ?_
 refine WL.val (.slcFrom (s:=1) (.of rfl) (.of rfl) (by omega) (by simp only [Yc]; omega) Xpq Xoz) rfl ?_
 replace hS:=hS.vecoCut (k:=1) rfl
 try dsimp only [List.set] at hS
 refine .q 1 rfl ?_
 refine WL.val (.fieldAddr 0 (.of rfl) Xeu rfl rfl Xly rfl) rfl ?_
 refine WL.st1 hS (k:=0) rfl (.of rfl) (.of rfl) rfl Xly (by simp) ?_
 clear hS; intro w hS; try dsimp only [List.set] at hS
 refine .nil (.seq (.seq (.t 2 rfl (.vcall (cap:=capv) hfn hcal (.of rfl) (X0 (.of rfl) X4) rfl (hf [_,_] _ w hS) ?_))))
 clear hS
 rintro _ w ⟨rfl,hS⟩
 refine .nil ?_
 refine WC.cond rfl (fun hb42=>?_) (fun hb42=>?_)
 ·
  have hc42:=hb42; try simp only [Y6] at hc42
  refine .seq (.q 2 rfl (.ret (X2u Xn9 rfl rfl ?_)))
  have e:X3n pr kind (d::D)=(([],7),D):=by unfold X3n; rw [if_neg hk0]; exact if_pos hb42
  rw [e]
  exact ⟨_,rfl,rfl,_,_,hS⟩
 have hc42:=hb42; try simp only [Y6] at hc42
 refine .skip (.seq (.q 3 rfl (.ret (X2u Xn9 rfl rfl ?_))))
 have e:X3n pr kind (d::D)=((X7c kind ++ 45::X7r 16 d,0),D):=by unfold X3n; rw [if_neg hk0]; exact if_neg (by rw [hb42]; decide)
 rw [e]
 exact ⟨_,rfl,rfl,_,_,hS⟩
def psL (p:Nat→Int):List Int:=[p 0,p 1,p 2,p 3,p 4,p 5,p 6,p 7,p 8,p 9,p 10,p 11,p 12,p 13,p 14,p 15,p 16,p 17,p 18,p 19,p 20]
structure Wp where
 wb:Nat
 tb:Nat
 mb:Nat
 ub:Nat
 pr:Addr
 lo:List Sv
 us:List Us
 ps:Nat→Int
structure Wd where
 room:Int
 l:List Rec
 D:List Nat
 now:Int
def wdC (p:Wp) (ω:Wd):List Value:=ptr p.tb 0::ptr p.mb 0::.pointer (some p.pr)::ptr p.ub 0::((psL p.ps).map I64 ++ [I64 ω.now])
def wdT (p:Wp) (ω:Wd):Option Addr×Nat×Option Addr×Nat→List Xe:=fun ⟨a,c,ma,mc⟩=>[blk p.wb (wdC p ω) 44,blk p.tb [I64 ω.room,.slice a ω.l.length c] 114,Vec 54 10 (.slice a ω.l.length c) ω.l.length (Xh ω.l),blk p.mb [.slice ma ω.D.length mc] 111,X2l 104 (.slice ma ω.D.length mc) (ω.D.map fun d=>U64 (d:Nat))]
def wdA (p:Wp) (ω:Wd):Xe:=Box (wdT p ω)
structure WpOk (I:Im) (p:Wp):Prop where
 reg:RegAt I p.pr p.lo
 tab:TabAt I p.ub p.us
 lo:p.lo.length≤100000
 rel:∀ s∈p.lo,s.rel.length≤1000000
 fit:∀ u∈p.us,u.fits
 att:∀ u∈p.us,u.attrs.length≤8
 known:Known I
 pre:PreAt I
theorem RegAt.mono {I J:Im} {pr:Addr} {lo:List Sv} (h:RegAt I pr lo) (hl:Le I J):RegAt J pr lo:=by
 obtain ⟨a,c,E,h1,h2,h3⟩:=h
 exact ⟨a,c,E,h1.mono hl,h2,h3.mono hl⟩
theorem WpOk.mono {I J:Im} {p:Wp} (h:WpOk I p) (hl:Le I J):WpOk J p:=⟨h.reg.mono hl,h.tab.mono hl,h.lo,h.rel,h.fit,h.att,h.known.mono hl,h.pre.mono hl⟩
structure X39 (ω:Wd):Prop where
 len:ω.l.length≤64
 wf:Wf ω.l
 D:∀ d∈ω.D,d<18446744073709551616
 now:0≤ω.now∧ω.now≤1099511627776
 room:ω.room≤64
theorem Sat.swap {B w:World} {I:Im} {M As:List Xe} (hS:Sat B w I (M ++ As)):Sat B w I (As ++ M):=by
 obtain ⟨h,hs,hg⟩:=hS
 obtain ⟨h1,h2,rfl,h3,h4⟩:=SepAll.app.1 hs
 exact ⟨h2 ++ h1,SepAll.app.2 ⟨h2,h1,rfl,h4,h3⟩,hg.perm Y1g⟩
def Xrt (n:Int):Bool:=decide (n<0) || decide (1099511627776<n)
def iC (n:Int):List Value:=[I64 n]
def Xpn (p:Nat→Int):Bool:=(!((psL p).take 7).any Xrt && !(((psL p).drop 7).take 7).any Xrt) && !((psL p).drop 14).any Xrt
theorem Xb9 {B w:World} {I:Im} {As:List Xe} {k b E:Nat} {cs:List Value} {o:Nat} {l:List Int} (hS:Sat B w I As) (hk:As[k]?=some (blk b cs E)) (h:∀ (i:Nat) n,l[i]?=some n→cs[o+i]?=some (I64 n)):Xbd w iC 1 (some (ad b o)) l:=fun i n hn=>by
 refine ⟨_,rfl,fun j v hj=>?_⟩
 have hb:=hS.block (b:=b) (o:=Xr cs E) hk
 match j,hj with
 | 0,hj =>
  cases hj
  rw [X13,X13]
  refine Xy hb ?_
  rw [Y1k]
  exact h i n hn
 | j+1,hj=>simp [iC] at hj
theorem Xa4 (a:Option Addr) (cap:Nat) (l:List (Int)) (hln:l.length≤9223372036854775807) (pr:Int→Bool) (fid:FuncId) (fn:Func) (hfn:Tryz.prog.funcs[fid]?=some fn) (hcal:Xo fn=true) (capv:List Value) (B w:World) (I:Im) (As:List Xe) (hE:∀ w,Sat B w I As→Xbd w iC 1 a l) (hf:∀ (r:Int) (hr:r∈l) w,Sat B w I As→Calls Tryz.prog fid ([I64 r] ++ capv).toArray w (Ret fun v w'=>v=.bool (pr r)∧Sat B w' I As)) (hS:Sat B w I As) :
  Calls Tryz.prog 198 [.slice a l.length cap,.func (.func fid) #[] capv.toArray].toArray w (Ret fun v w'=>v=I64 (X21 pr l 0)∧Sat B w' I As):=by
 refine calls Tryz.func198 rfl Tryz.ntmps198 rfl (.seq (.q 1 rfl (.seq (.seq (.region (.run 3 rfl ⟨⟨_,Xu⟩,trivial⟩ (.nil (.block (.loop (σ:=Nat) (fun i=>[(0,.slice a l.length cap),(1,.func (.func fid) #[] capv.toArray),(7,I64 (l.length:Nat)),(8,I64 (i:Nat))]) (fun i w=>i≤l.length∧(∀ (j:Nat) t,j<i→l[j]?=some t→pr t=false)∧Sat B w I As) (fun i=>l.length - i) 0 ⟨rfl,rfl,rfl,rfl,trivial⟩ ⟨Ys _,fun _ _ h=>absurd h (by omega),hS⟩ ?_)))))))))
 rintro i w ⟨hi,hno,hS⟩
 change WC _ _ _ _ [(0,.slice a l.length cap),(1,.func (.func fid) #[] capv.toArray),(7,I64 (l.length:Nat)),(8,I64 (i:Nat))] w
 refine .seq (.q 1 rfl (.seq ?_))
 refine WC.cond rfl (fun hb9=>?_) (fun hb9=>?_)
 ·
  have hc9:=hb9; try simp only [Y6] at hc9
  refine .skip (.seq (.block (.seq ?_)))
  obtain ⟨r,hr⟩:∃ r,l[i]?=some r:=⟨_,Y4 (by omega)⟩
  obtain ⟨p,rfl,hx⟩:=hE w hS i r hr
  refine .q 2 rfl (.seq (.t 3 rfl ?_))
  refine WL.val (.indexAddrI (.of rfl) (.of rfl) (by omega) (by omega) Xu Qs3) rfl ?_
  refine WL.val (.ld1 (.of rfl) (by have h9:=hx 0 _ rfl; simpa [Addr.add_add] using h9) Qg3) rfl ?_
  refine .vcall (cap:=capv) hfn hcal (.of rfl) (X0 (.of rfl) X4) rfl (hf r (Yn hr) w hS) ?_
  clear hS
  rintro _ w ⟨rfl,hS⟩
  refine .nil ?_
  refine WC.cond rfl (fun hb16=>?_) (fun hb16=>?_)
  ·
   have hc16:=hb16; try simp only [Y6] at hc16
   refine .seq (.q 2 rfl (.ret (Xk Tryz.results198 rfl ?_)))
   exact ⟨_,rfl,by rw [X71 hno hr hb16],hS⟩
  have hc16:=hb16; try simp only [Y6] at hc16
  refine .skip (.region (.run 2 rfl ⟨⟨by omega,by omega⟩,trivial⟩ (.nil ?_)))
  refine ⟨i+1,⟨rfl,rfl,rfl,rfl,trivial⟩,⟨by (try dsimp only); omega,fun j t hj ht=>?_,hS⟩,by (try dsimp only); omega⟩
  rcases Yw j i with h1 | h1
  ·exact hno j t h1 ht
  ·have e:j=i:=by omega
   subst e
   rw [hr] at ht; cases ht
   exact hb16
 have hc9:=hb9; try simp only [Y6] at hc9
 refine .exit (.seq (.q 1 rfl (.ret (Xk Tryz.results198 rfl ?_))))
 exact ⟨_,rfl,by rw [X5z (fun j t ht=>hno j t (by have:=(Y5.1 ht).1; omega) ht)],hS⟩
theorem X2d (a:Option Addr) (cap:Nat) (l:List (Int)) (hln:l.length≤9223372036854775807) (pr:Int→Bool) (fid:FuncId) (fn:Func) (hfn:Tryz.prog.funcs[fid]?=some fn) (hcal:Xo fn=true) (capv:List Value) (B w:World) (I:Im) (As:List Xe) (hE:∀ w,Sat B w I As→Xbd w iC 1 a l) (hf:∀ (r:Int) (hr:r∈l) w,Sat B w I As→Calls Tryz.prog fid ([I64 r] ++ capv).toArray w (Ret fun v w'=>v=.bool (pr r)∧Sat B w' I As)) (hS:Sat B w I As) :
  Calls Tryz.prog 152 [.slice a l.length cap,.func (.func fid) #[] capv.toArray].toArray w (Ret fun v w'=>v=.bool (l.any pr)∧Sat B w' I As):=by
 refine calls Xnk rfl Tryz.ntmps152 rfl (.seq (.q 1 rfl (.seq (.t 2 rfl (.call Tryz.func198 rfl (X0 (.of rfl) (X0 (.of rfl) X4)) rfl (Xa4 a cap l hln pr fid fn hfn hcal capv B _ I As hE hf hS) ?_)))))
 clear hS
 rintro _ w ⟨rfl,hS⟩
 refine .q 2 rfl (.nil (.ret (Xk Tryz.results152 rfl ?_)))
 exact ⟨_,rfl,by rw [← X6k pr l 0],hS⟩
theorem Xbl (n:Int) (B w:World) (I:Im) (As:List Xe) (hS:Sat B w I As) :
  Calls Tryz.prog 151 [I64 n].toArray w (Ret fun v w'=>v=.bool (Xrt n)∧Sat B w' I As):=by
 refine calls Xp6 rfl Tryz.ntmps151 rfl (.seq (.q 1 rfl (.seq (.t 3 rfl (.gval rfl rfl (fun hg1=>(.move (.of rfl))) rfl (.gval rfl rfl (fun hg1=>(.gtr (.gd hg1 rfl) (.of rfl))) rfl (.val (.por (.of rfl) (.of rfl) (.of rfl)) rfl (.q 1 rfl (.nil (.ret (Xk Tryz.results151 rfl ?_)))))))))))
 exact ⟨_,rfl,rfl,hS⟩
theorem Xia (p:Nat→Int) (B w:World) (I:Im) (As:List Xe) (hS:Sat B w I As) :
  Calls Tryz.prog 104 [.agg ((psL p).map I64).toArray].toArray w (Ret fun v w'=>v=.bool (Xpn p)∧Sat B w' I As):=by
 refine calls Tryz.func104 rfl Tryz.ntmps104 rfl (.seq (.region (.boxA (cs:=(psL p).map I64) hS (.of rfl) rfl ?_)))
 clear hS; intro b1 w hS
 refine .q 1 rfl (.nil (.seq (.q 1 rfl (.seq (.region ?_)))))
 refine WL.val (.fieldAddr 0 (.of rfl) Xr8 rfl rfl Qs24 rfl) rfl ?_
 refine .val (Ex.slcArr (.of rfl) Xrp Qs3) rfl (.q 1 rfl (.call Xnk rfl (X0 (.of rfl) (X0 (.of rfl) X4)) rfl (X2d (some (ad b1 0)) 7 ((psL p).take 7) (show (7:Nat)≤9223372036854775807 by decide) Xrt 151 _ Xp6 rfl [] B _ I _ (fun w h=>Xb9 h (k:=0) rfl (fun i n hn=>by match i,hn with | 0,hn=>exact congrArg (Option.map I64) hn | 1,hn=>exact congrArg (Option.map I64) hn | 2,hn=>exact congrArg (Option.map I64) hn | 3,hn=>exact congrArg (Option.map I64) hn | 4,hn=>exact congrArg (Option.map I64) hn | 5,hn=>exact congrArg (Option.map I64) hn | 6,hn=>exact congrArg (Option.map I64) hn | i+7,hn=>cases hn)) (fun n hn w h=>Xbl n B w I _ h) hS) ?_))
 clear hS
 rintro _ w ⟨rfl,hS⟩
 refine .q 2 rfl ?_
 refine WL.gval rfl rfl (fun hg1=>(by exact .fieldAddr 7 (.of rfl) Xr8 rfl rfl Qs24 rfl)) rfl ?_
 refine .gval rfl rfl (fun hg1=>(Ex.slcArr (.gd hg1 rfl) Xrp Qs3)) rfl (.gval rfl rfl (fun hg1=>(.move (.of rfl))) rfl (.gcall (T:=fun w=>Sat B w I (blk b1 ((psL p).map I64) 26::As)) rfl rfl rfl Xnk rfl (fun hg1=>(X0 (.gd hg1 rfl) (X0 (.gd hg1 rfl) X4))) rfl (fun hg1=>X2d (some (ad b1 7)) 7 (((psL p).drop 7).take 7) (show (7:Nat)≤9223372036854775807 by decide) Xrt 151 _ Xp6 rfl [] B _ I _ (fun w h=>Xb9 h (k:=0) rfl (fun i n hn=>by match i,hn with | 0,hn=>exact congrArg (Option.map I64) hn | 1,hn=>exact congrArg (Option.map I64) hn | 2,hn=>exact congrArg (Option.map I64) hn | 3,hn=>exact congrArg (Option.map I64) hn | 4,hn=>exact congrArg (Option.map I64) hn | 5,hn=>exact congrArg (Option.map I64) hn | 6,hn=>exact congrArg (Option.map I64) hn | i+7,hn=>cases hn)) (fun n hn w h=>Xbl n B w I _ h) hS) hS ?_))
 clear hS; rintro w hS
 refine .gval rfl rfl (fun hg1=>(.not (.gd hg1 rfl))) rfl (.val (.pand (.of rfl) (.of rfl) (.of rfl)) rfl (.q 1 rfl ?_))
 refine WL.gval rfl rfl (fun hg1=>(by exact .fieldAddr 14 (.of rfl) Xr8 rfl rfl Qs24 rfl)) rfl ?_
 refine .gval rfl rfl (fun hg1=>(Ex.slcArr (.gd hg1 rfl) Xrp Qs3)) rfl (.gval rfl rfl (fun hg1=>(.move (.of rfl))) rfl (.gcall (T:=fun w=>Sat B w I (blk b1 ((psL p).map I64) 26::As)) rfl rfl rfl Xnk rfl (fun hg1=>(X0 (.gd hg1 rfl) (X0 (.gd hg1 rfl) X4))) rfl (fun hg1=>X2d (some (ad b1 14)) 7 ((psL p).drop 14) (show (7:Nat)≤9223372036854775807 by decide) Xrt 151 _ Xp6 rfl [] B _ I _ (fun w h=>Xb9 h (k:=0) rfl (fun i n hn=>by match i,hn with | 0,hn=>exact congrArg (Option.map I64) hn | 1,hn=>exact congrArg (Option.map I64) hn | 2,hn=>exact congrArg (Option.map I64) hn | 3,hn=>exact congrArg (Option.map I64) hn | 4,hn=>exact congrArg (Option.map I64) hn | 5,hn=>exact congrArg (Option.map I64) hn | 6,hn=>exact congrArg (Option.map I64) hn | i+7,hn=>cases hn)) (fun n hn w h=>Xbl n B w I _ h) hS) hS ?_))
 clear hS; rintro w hS
 refine .gval rfl rfl (fun hg1=>(.not (.gd hg1 rfl))) rfl (.val (.pand (.of rfl) (.of rfl) (.of rfl)) rfl (.q 1 rfl (.nil (.ret (Xk Tryz.results104 rfl ?_)))))
 exact ⟨_,rfl,rfl,hS.drop (k:=0) rfl⟩
def X2o (ω:Wd) (n:Int):Wd:={ ω with now:=min (ω.now+max 0 (min n 1099511627776)) 1099511627776 }
theorem Xs0 {ω:Wd} (h:X39 ω) (n:Int):X39 (X2o ω n):=⟨h.len,h.wf,h.D,by have:=h.now; unfold X2o; (try dsimp only); omega,h.room⟩
theorem Xna (p:Wp) (ω:Wd) (n:Int) (hω:X39 ω) (B w:World) (I:Im) (As:List Xe) (hS:Sat B w I (wdA p ω::As)) :
  Calls Tryz.prog 18 [ptr p.wb 0,I64 n].toArray w (Ret fun v w'=>v=.tuple #[]∧Sat B w' I (wdA p (X2o ω n)::As)):=by
 refine calls Tryz.func18 rfl Tryz.ntmps18 rfl ?_
 obtain ⟨⟨a,c,ma,mc⟩,hS⟩:=Sat.unbox hS
 replace hS:Sat B _ _ (blk p.wb (wdC p ω) 44::blk p.tb [I64 ω.room,.slice a ω.l.length c] 114::Vec 54 10 (.slice a ω.l.length c) ω.l.length (Xh ω.l)::blk p.mb [.slice ma ω.D.length mc] 111::X2l 104 (.slice ma ω.D.length mc) (ω.D.map fun d=>U64 (d:Nat))::As):=hS
 have hnow:=hω.now
 refine .t 3 rfl ?_
 refine WL.val (.fieldAddr 25 (.of rfl) X3b rfl rfl Qs3 rfl) rfl ?_
 refine WL.val (.ld (.of rfl) hS (k:=0) rfl Qg3 rfl) rfl ?_
 refine .q 1 rfl (.val (.min2 (.of rfl) (.of rfl)) rfl (.val (.max2 (.of rfl) (.of rfl)) rfl (.run 1 rfl ⟨⟨by omega,by omega⟩,trivial⟩ (.val (.min2 (.of rfl) (.of rfl)) rfl (.q 1 rfl ?_)))))
 refine WL.val (.fieldAddr 25 (.of rfl) X3b rfl rfl Qs3 rfl) rfl ?_
 refine .st1 hS (k:=0) rfl (.of rfl) (.of rfl) rfl Qs3 (show 25<26 by decide) ?_
 clear hS; intro w hS; try dsimp only [List.set] at hS
 refine .nil (X7x Tryz.results18 ?_)
 exact ⟨_,rfl,rfl,Sat.box (T:=wdT p _) (a,c,ma,mc) hS⟩
theorem Xf7 (tb:Nat) (room:Int) (a:Option Addr) (c:Nat) (l:List Rec) (hl:l.length≤100000) (hwf:Wf l) (ps:List Int) (hps:ps.length=21) (name:List UInt8) (now:Int) (hn:0≤now∧now≤1099511627776) (B w:World) (I:Im) (As:List Xe) (hS:Sat B w I (blk tb [I64 room,.slice a l.length c] 114::Vec 54 10 (.slice a l.length c) l.length (Xh l)::As)) :
  Calls Tryz.prog 62 [ptr tb 0,.agg (ps.map I64).toArray,S name,I64 now].toArray w (Ret fun v w'=>v=.bool (Xdm ps l name now)∧Sat B w' I (blk tb [I64 room,.slice a l.length c] 114::Vec 54 10 (.slice a l.length c) l.length (Xh l)::As)) :=
 (Xhz tb room a c l hl hwf ps hps name now hn B w I As hS).mono fun e w' ⟨v,he,J,hJ,hv,hS⟩=>⟨v,he,hv,hS.weaken hJ⟩
theorem wd_pol {p:Wp} {ω:Wd} {j:Nat} {v:Value} (h:((psL p.ps).map I64)[j]?=some v):(wdC p ω)[0+4+j]?=some v:=by
 have h1:=(Y5.1 h).1
 have e:wdC p ω=[ptr p.tb 0,ptr p.mb 0,.pointer (some p.pr),ptr p.ub 0] ++ ((psL p.ps).map I64 ++ [I64 ω.now]):=rfl
 rw [e,Yu (by simp),Yc,Yc,Yc,Yc,Yl,show 0+4+j - (0+1+1+1+1)=j by omega,Yh h1]
 exact h
def X17 (ps:Nat→Int) (ω:Wd) (name:List UInt8) (kind:Int):Rec×Bool:=if ((((getD ω.l name).kind) != kind) || !Xdm (psL ps) ω.l name ω.now)=true then (r0,false) else (getD ω.l name,true)
theorem Xdf (name:List UInt8) (kind:Int) (p:Wp) (ω:Wd) (hω:X39 ω) (B w:World) (I:Im) (As:List Xe) (hS:Sat B w I (wdA p ω::As)) :
  Calls Tryz.prog 19 [ptr p.wb 0,S name,I64 kind].toArray w (Ret fun v w'=>v=.tuple #[.agg (X8 (X17 p.ps ω name kind).1).toArray,.bool (X17 p.ps ω name kind).2]∧Sat B w' I (wdA p ω::As)):=by
 refine calls Tryz.func19 rfl Tryz.ntmps19 rfl (.seq ?_)
 obtain ⟨⟨a,c,ma,mc⟩,hS⟩:=Sat.unbox hS
 replace hS:Sat B _ _ (blk p.wb (wdC p ω) 44::blk p.tb [I64 ω.room,.slice a ω.l.length c] 114::Vec 54 10 (.slice a ω.l.length c) ω.l.length (Xh ω.l)::blk p.mb [.slice ma ω.D.length mc] 111::X2l 104 (.slice ma ω.D.length mc) (ω.D.map fun d=>U64 (d:Nat))::As):=hS
 have hlen:=hω.len
 refine .region (.allocA (cs:=[_,_,_,_,_,_,_,_,_,_]) hS X6j rfl ?_)
 clear hS; intro b6 w hS
 refine .q 1 rfl (.nil (.seq (.t 2 rfl ?_)))
 refine WL.val (.fieldAddr 0 (.of rfl) X3b rfl rfl X6w rfl) rfl ?_
 refine WL.val (.ld (.of rfl) hS (k:=1) rfl X64 rfl) rfl ?_
 refine .q 1 rfl (.call Xe0 rfl (X0 (.of rfl) (X0 (.of rfl) X4)) rfl (X1y p.tb ω.room a c ω.l (by omega) name B _ I _ ((hS.pick 3 rfl).pick 3 rfl)) ?_)
 clear hS
 rintro _ w ⟨rfl,hS⟩
 try dsimp only [List.eraseIdx] at hS
 refine .q 3 rfl (.allocA (cs:=[_,_,_,_,_,_,_,_,_,_]) hS X6j rfl ?_)
 clear hS; intro b8 w hS
 refine WL.stA hS (k:=0) rfl (.of rfl) (.of rfl) rfl X1k rfl (by simp) ?_
 clear hS; intro w hS; try dsimp only [List.set] at hS
 try simp only [Yj,Ye,Y9,Y7,Yi,Yo,Yf] at hS
 refine .q 1 rfl (.nil (.seq (.seq ?_)))
 replace hS:=(hS.pick 2 rfl).pick 2 rfl
 try dsimp only [List.eraseIdx] at hS
 refine .quiet (by kernel_rfl) (by kernel_rfl) hS ?_
 refine WQ.val (fun w hS=>(by exact .fieldAddr 0 (.of rfl) X18 rfl rfl Qs3 rfl)) rfl ?_
 refine WQ.val (fun w hS=>(by exact (.ld (.of rfl) hS (k:=2) rfl Qg3 rfl))) rfl ?_
 refine .val (fun w hS=>(.move (.of rfl))) rfl (.val (fun w hS=>(.neq (.of rfl) (.of rfl))) rfl (.val (fun w hS=>(.move (.of rfl))) rfl (.gval rfl rfl rfl (fun hg1 w hS=>(.move (.of rfl))) rfl (.gval rfl rfl rfl (fun hg1 w hS=>(.nilCheck (.gd hg1 rfl))) rfl ?_))))
 refine WQ.gval rfl rfl rfl (fun hg1 w hS=>(by exact .fieldAddr 0 (.gd hg1 rfl) X3b rfl rfl X6w rfl)) rfl ?_
 refine WQ.gval rfl rfl rfl (fun hg1 w hS=>(by exact (.ld (.gd hg1 rfl) hS (k:=4) rfl X64 rfl))) rfl ?_
 refine .gval rfl rfl rfl (fun hg1 w hS=>(.move (.of rfl))) rfl (.gval rfl rfl rfl (fun hg1 w hS=>(.nilCheck (.gd hg1 rfl))) rfl ?_)
 refine WQ.gval rfl rfl rfl (fun hg1 w hS=>(by exact .fieldAddr 4 (.gd hg1 rfl) X3b rfl rfl Xrk rfl)) rfl ?_
 refine .gval rfl rfl rfl (fun hg1 w hS=>(.lds (vs:=(psL p.ps).map I64) (.gd hg1 rfl) hS (k:=4) rfl Qg26 Xrk rfl (fun j v hj=>wd_pol hj))) rfl (.gval rfl rfl rfl (fun hg1 w hS=>(.move (.of rfl))) rfl (.gval rfl rfl rfl (fun hg1 w hS=>(.move (.of rfl))) rfl (.gval rfl rfl rfl (fun hg1 w hS=>(.nilCheck (.gd hg1 rfl))) rfl ?_)))
 refine WQ.gval rfl rfl rfl (fun hg1 w hS=>(by exact .fieldAddr 25 (.gd hg1 rfl) X3b rfl rfl Qs3 rfl)) rfl ?_
 refine WQ.gval rfl rfl rfl (fun hg1 w hS=>(by exact (.ld (.gd hg1 rfl) hS (k:=4) rfl Qg3 rfl))) rfl ?_
 refine .gcall rfl rfl rfl Tryz.func62 rfl (fun hg1=>(X0 (.gd hg1 rfl) (X0 (.gd hg1 rfl) (X0 (.gd hg1 rfl) (X0 (.gd hg1 rfl) X4))))) rfl (fun hg1 w hS=>Xf7 p.tb ω.room a c ω.l (by omega) hω.wf (psL p.ps) rfl name ω.now hω.now B _ I _ hS) (.gval rfl rfl rfl (fun hg1 w hS=>(.not (.gd hg1 rfl))) rfl (.val (fun w hS=>(.por (.of rfl) (.of rfl) (.of rfl))) rfl (.nil ?_)))
 clear hS; intro w hS
 refine WC.cond rfl (fun hb39=>?_) (fun hb39=>?_)
 ·
  have hc39:=hb39; try simp only [Y6] at hc39
  refine .seq (.region (.val (.build (cs:=[_,_,_,_,_,_,_,_,_,_]) X6 X3u rfl) rfl ?_))
  refine WL.stA hS (k:=3) rfl (.of rfl) (.of rfl) rfl X1k rfl (by simp) ?_
  clear hS; intro w hS; try dsimp only [List.set] at hS
  try simp only [Yj,Ye,Y9,Y7,Yi,Yo,Yf] at hS
  refine .q 1 rfl (.nil (.ret ?_))
  refine X2f (b:=_) (cs:=[_,_,_,_,_,_,_,_,_,_]) Tryz.results19 hS (k:=3) rfl X7u X1k rfl rfl rfl ?_
  refine ⟨_,rfl,?_,Sat.box (T:=wdT p _) (a,c,ma,mc) ?_⟩
  ·rw [X17,if_pos hb39]; rfl
  replace hS:=((hS.drop (k:=2) rfl).drop (k:=2) rfl).pick 2 rfl
  try dsimp only [List.eraseIdx] at hS
  exact hS
 have hc39:=hb39; try simp only [Y6] at hc39
 refine .skip (.seq (.region ?_))
 refine WL.val (.ldsW (cs:=[_,_,_,_,_,_,_,_,_,_]) (.of rfl) hS (k:=2) rfl X7u X1k rfl) rfl ?_
 refine WL.stA hS (k:=3) rfl (.of rfl) (.of rfl) rfl X1k rfl (by simp) ?_
 clear hS; intro w hS; try dsimp only [List.set] at hS
 try simp only [Yj,Ye,Y9,Y7,Yi,Yo,Yf] at hS
 refine .q 1 rfl (.nil (.ret ?_))
 refine X2f (b:=_) (cs:=[_,_,_,_,_,_,_,_,_,_]) Tryz.results19 hS (k:=3) rfl X7u X1k rfl rfl rfl ?_
 refine ⟨_,rfl,?_,Sat.box (T:=wdT p _) (a,c,ma,mc) ?_⟩
 ·rw [X17,if_neg (by rw [hb39]; decide)]; rfl
 replace hS:=((hS.drop (k:=2) rfl).drop (k:=2) rfl).pick 2 rfl
 try dsimp only [List.eraseIdx] at hS
 exact hS
theorem Xr3 (p:Wp) (ω:Wd) (a:Option Addr) (c:Nat) (hlen:ω.l.length≤64) (xb:Nat) (name:List UInt8) (B w:World) (I:Im) (As:List Xe) (hS:Sat B w I (blk xb [ptr p.wb 0] 37::blk p.wb (wdC p ω) 44::blk p.tb [I64 ω.room,.slice a ω.l.length c] 114::Vec 54 10 (.slice a ω.l.length c) ω.l.length (Xh ω.l)::As)) :
  Calls Tryz.prog 115 [S name,ptr xb 0].toArray w (Ret fun v w'=>v=.bool (get ω.l name).isSome∧Sat B w' I (blk xb [ptr p.wb 0] 37::blk p.wb (wdC p ω) 44::blk p.tb [I64 ω.room,.slice a ω.l.length c] 114::Vec 54 10 (.slice a ω.l.length c) ω.l.length (Xh ω.l)::As)):=by
 refine calls Tryz.func115 rfl Tryz.ntmps115 rfl (.seq (.q 1 rfl (.seq (.region ?_))))
 refine WL.val (.ld (.of rfl) hS (k:=0) rfl Xjg rfl) rfl ?_
 refine .q 1 rfl ?_
 refine WL.val (.fieldAddr 0 (.of rfl) X3b rfl rfl X6w rfl) rfl ?_
 refine WL.val (.ld (.of rfl) hS (k:=1) rfl X64 rfl) rfl ?_
 refine .q 1 rfl (.call Xe0 rfl (X0 (.of rfl) (X0 (.of rfl) X4)) rfl (X1y p.tb ω.room a c ω.l (by omega) name B _ I _ ((hS.pick 3 rfl).pick 3 rfl)) ?_)
 clear hS
 rintro _ w ⟨rfl,hS⟩
 replace hS:=((hS.pick 3 rfl).pick 3 rfl)
 try dsimp only [List.eraseIdx] at hS
 refine .q 3 rfl (.allocA (cs:=[_,_,_,_,_,_,_,_,_,_]) hS X6j rfl ?_)
 clear hS; intro b4 w hS
 refine WL.stA hS (k:=0) rfl (.of rfl) (.of rfl) rfl X1k rfl (by simp) ?_
 clear hS; intro w hS; try dsimp only [List.set] at hS
 try simp only [Yj,Ye,Y9,Y7,Yi,Yo,Yf] at hS
 refine .q 1 rfl (.nil (.seq (.q 2 rfl (.ret (Xk Tryz.results115 rfl ?_)))))
 exact ⟨_,rfl,rfl,hS.drop (k:=0) rfl⟩
def mkN (ω:Wd) (r:Rec):(List UInt8×Nat)×List Nat:=X3n (fun s=>(get ω.l s).isSome) r.kind ω.D
def mkR (ω:Wd) (r:Rec):Rec:={ r with name:=(mkN ω r).1.1,made:=ω.now,used:=ω.now }
def mkW (ω:Wd) (r:Rec):(List UInt8×Nat)×Wd :=
 if (mkN ω r).1.2≠0 then (([],39),{ ω with D:=(mkN ω r).2 })
 else (if Xc4 ω.room ω.l (mkR ω r)≠0 then ([],39) else ((mkN ω r).1.1,0),{ ω with D:=(mkN ω r).2,l:=add ω.room ω.l (mkR ω r) })
theorem Xqe {pr:List UInt8→Bool} {kind:Int} {D:List Nat}:∀ d∈(X3n pr kind D).2,d∈D:=by
 intro d hd
 unfold X3n at hd
 split at hd
 ·exact hd
 ·split at hd
  ·simp at hd
  ·rename_i x D
   split at hd <;> exact Y2c _ hd
theorem Xd6 {pr:List UInt8→Bool} {kind:Int} {D:List Nat}:(X3n pr kind D).1.1.length≤23:=by
 unfold X3n
 split
 ·simp
 ·split
  ·simp
  ·split
   ·simp
   ·have:=Xfb kind
    simp only [Y0,Yc,X57]; omega
theorem X2q {ω:Wd} (h:X39 ω) (r:Rec):X39 (mkW ω r).2:=by
 unfold mkW
 have hD:∀ d∈(mkN ω r).2,d<18446744073709551616:=fun d hd=>h.D d (Xqe d hd)
 split
 ·exact ⟨h.len,h.wf,hD,h.now,h.room⟩
 ·refine ⟨?_,h.wf.add,hD,h.now,h.room⟩
  show (add ω.room ω.l (mkR ω r)).length≤64
  unfold add
  split
  ·rename_i e
   have:=(Xc6 e).2.2.2
   have:=h.room
   rw [Y0,Yc,Yl]; omega
  ·exact h.len
theorem Xbm (r:Rec) (hrp:r.parent.length≤1000000) (p:Wp) (ω:Wd) (hω:X39 ω) (B w:World) (I:Im) (hI:WpOk I p) (As:List Xe) (hS:Sat B w I (wdA p ω::As)) :
  Calls Tryz.prog 52 [ptr p.wb 0,.agg (X8 r).toArray].toArray w (Ret fun v w'=>v=.tuple #[S (mkW ω r).1.1,I64 ((mkW ω r).1.2:Nat)]∧Sat B w' I (wdA p (mkW ω r).2::As)):=by
 refine calls Qf52 rfl Tryz.ntmps52 rfl (.seq ?_)
 obtain ⟨⟨a,c,ma,mc⟩,hS⟩:=Sat.unbox hS
 replace hS:Sat B _ _ (blk p.wb (wdC p ω) 44::blk p.tb [I64 ω.room,.slice a ω.l.length c] 114::Vec 54 10 (.slice a ω.l.length c) ω.l.length (Xh ω.l)::blk p.mb [.slice ma ω.D.length mc] 111::X2l 104 (.slice ma ω.D.length mc) (ω.D.map fun d=>U64 (d:Nat))::As):=hS
 have hlen:=hω.len
 refine .region (.box1 hS (.of rfl) rfl rfl ?_)
 clear hS; intro b2 w hS
 refine .boxA (cs:=[_,_,_,_,_,_,_,_,_,_]) hS (.of rfl) rfl ?_
 clear hS; intro b3 w hS
 refine .q 2 rfl (.nil (.seq (.drawn (fun w=>∃ R,Sat B w I (blk b2 [ptr p.wb 0] 37::blk b3 [I64 r.kind,S r.name,S r.parent,S r.user,S r.service,S r.url,I64 r.made,I64 r.used,I64 r.uses,.bool r.fresh] 54::blk p.wb (wdC p ω) 44::R)) (fun j=>!([].contains j)) (by kernel_rfl) ?_)))
 replace hS:=hS.drew; generalize w.drew=w at hS ⊢
 have hH:∃ R,Sat B w I (blk b2 [ptr p.wb 0] 37::blk b3 [I64 r.kind,S r.name,S r.parent,S r.user,S r.service,S r.url,I64 r.made,I64 r.used,I64 r.uses,.bool r.fresh] 54::blk p.wb (wdC p ω) 44::R):=⟨_,(((hS.pick 2 rfl).pick 1 rfl).pick 2 rfl)⟩
 refine WD.tk (i:=0) rfl (by kernel_rfl) hH (fun w ⟨R,hS⟩=>((.ld (.of rfl) hS (k:=0) rfl Xjg rfl))) rfl ?_
 refine .tp (i:=1) rfl (by kernel_rfl) (fun w=>(.nilCheck (.of rfl))) rfl ?_
 refine WD.tp (i:=2) rfl (by kernel_rfl) (fun w=>(.fieldAddr 1 (.of rfl) X3b rfl rfl Qs40 rfl)) rfl ?_
 refine WD.tk (i:=3) rfl (by kernel_rfl) hH (fun w ⟨R,hS⟩=>((.ld (.of rfl) hS (k:=2) rfl Qg40 rfl))) rfl ?_
 refine WD.tp (i:=4) rfl (by kernel_rfl) (fun w=>(.fieldAddr 0 (.of rfl) X18 rfl rfl Qs3 rfl)) rfl ?_
 refine WD.tk (i:=5) rfl (by kernel_rfl) hH (fun w ⟨R,hS⟩=>((.ld (.of rfl) hS (k:=1) rfl Qg3 rfl))) rfl ?_
 refine .tp (i:=6) rfl (by kernel_rfl) (fun w=>(.makeFunc (X0 (.of rfl) X4))) rfl ?_
 refine WD.branch [7] (by kernel_rfl) rfl (WO.cons rfl ?_ (WO.nil))
 refine .call Tryz.func114 rfl (X0 (.of rfl) (X0 (.of rfl) (X0 (.of rfl) X4))) rfl (Xmi p.mb ma mc ω.D hω.D r.kind (fun s=>(get ω.l s).isSome) 115 _ Tryz.func115 rfl [ptr b2 0] B _ I hI.pre (blk b2 [ptr p.wb 0] 37::blk p.wb (wdC p ω) 44::blk p.tb [I64 ω.room,.slice a ω.l.length c] 114::Vec 54 10 (.slice a ω.l.length c) ω.l.length (Xh ω.l)::blk b3 [I64 r.kind,S r.name,S r.parent,S r.user,S r.service,S r.url,I64 r.made,I64 r.used,I64 r.uses,.bool r.fresh] 54::As) (fun M s w h=>(Xr3 p ω a c hlen b2 s B w I (blk b3 [I64 r.kind,S r.name,S r.parent,S r.user,S r.service,S r.url,I64 r.made,I64 r.used,I64 r.uses,.bool r.fresh] 54::As ++ M) (Sat.swap (M:=M) (As:=blk b2 [ptr p.wb 0] 37::blk p.wb (wdC p ω) 44::blk p.tb [I64 ω.room,.slice a ω.l.length c] 114::Vec 54 10 (.slice a ω.l.length c) ω.l.length (Xh ω.l)::blk b3 [I64 r.kind,S r.name,S r.parent,S r.user,S r.service,S r.url,I64 r.made,I64 r.used,I64 r.uses,.bool r.fresh] 54::As) h)).mono fun e w9 ⟨v9,he,hv,hS9⟩=>⟨v9,he,hv,Sat.swap (M:=blk b2 [ptr p.wb 0] 37::blk p.wb (wdC p ω) 44::blk p.tb [I64 ω.room,.slice a ω.l.length c] 114::Vec 54 10 (.slice a ω.l.length c) ω.l.length (Xh ω.l)::blk b3 [I64 r.kind,S r.name,S r.parent,S r.user,S r.service,S r.url,I64 r.made,I64 r.used,I64 r.uses,.bool r.fresh] 54::As) (As:=M) hS9⟩) ((((((hS.pick 4 rfl).pick 4 rfl).pick 4 rfl).pick 4 rfl).pick 6 rfl).pick 6 rfl)) ?_
 clear hS
 rintro _ w ⟨rfl,ma2,mc2,hS⟩
 try dsimp only [List.eraseIdx] at hS
 replace hS:Sat B w I (blk p.mb [.slice ma2 (mkN ω r).2.length mc2] 111::X2l 104 (.slice ma2 (mkN ω r).2.length mc2) ((mkN ω r).2.map fun d=>U64 (d:Nat))::blk b2 [ptr p.wb 0] 37::blk p.wb (wdC p ω) 44::blk p.tb [I64 ω.room,.slice a ω.l.length c] 114::Vec 54 10 (.slice a ω.l.length c) ω.l.length (Xh ω.l)::blk b3 [I64 r.kind,S r.name,S r.parent,S r.user,S r.service,S r.url,I64 r.made,I64 r.used,I64 r.uses,.bool r.fresh] 54::As):=hS
 refine .nil ?_
 clear hH
 have hH:∃ R,Sat B w I (blk b2 [ptr p.wb 0] 37::blk b3 [I64 r.kind,S r.name,S r.parent,S r.user,S r.service,S r.url,I64 r.made,I64 r.used,I64 r.uses,.bool r.fresh] 54::blk p.wb (wdC p ω) 44::R):=⟨_,(((hS.pick 3 rfl).pick 6 rfl).pick 4 rfl)⟩
 refine And.intro (by intro _ _; exact hH) ?_
 refine .tp (i:=8) rfl (by kernel_rfl) (fun w=>(.move (.of rfl))) rfl (.tp (i:=9) rfl (by kernel_rfl) (fun w=>(.extract (.of rfl) rfl)) rfl (.tp (i:=10) rfl (by kernel_rfl) (fun w=>(.extract (.of rfl) rfl)) rfl (.tp (i:=11) rfl (by kernel_rfl) (fun w=>(.assign (.of rfl))) rfl (.tp (i:=12) rfl (by kernel_rfl) (fun w=>(.assign (.of rfl))) rfl (.done (by kernel_rfl) (.seq (.seq (.q 2 rfl ?_))))))))
 refine WC.cond rfl (fun hb20=>?_) (fun hb20=>?_)
 ·
  have hc20:=hb20; try simp only [Y6] at hc20
  refine .seq (.q 2 rfl (.ret (X2u Tryz.results52 rfl rfl ?_)))
  have hE:mkW ω r=(([],39),{ ω with D:=(mkN ω r).2 }):=if_pos (by simpa [mkN] using hb20)
  rw [hE]
  replace hS:=(hS.drop (k:=2) rfl).drop (k:=5) rfl
  try dsimp only [List.eraseIdx] at hS
  exact ⟨_,rfl,rfl,Sat.box (T:=wdT p _) (a,c,ma2,mc2) (((hS.pick 4 rfl).pick 4 rfl).pick 4 rfl)⟩
 have hc20:=hb20; try simp only [Y6] at hc20
 refine .skip ?_
 refine WC.cutS (σ:=Unit) (fun _=>[(2,ptr b2 0),(3,ptr b3 0),(6,S (mkN ω r).1.1)]) (fun _ w=>Sat B w I (blk p.mb [.slice ma2 (mkN ω r).2.length mc2] 111::X2l 104 (.slice ma2 (mkN ω r).2.length mc2) ((mkN ω r).2.map fun d=>U64 (d:Nat))::blk b2 [ptr p.wb 0] 37::blk p.wb (wdC p ω) 44::blk p.tb [I64 ω.room,.slice a ω.l.length c] 114::Vec 54 10 (.slice a ω.l.length c) ω.l.length (Xh ω.l)::blk b3 [I64 r.kind,S (mkN ω r).1.1,S r.parent,S r.user,S r.service,S r.url,I64 ω.now,I64 ω.now,I64 r.uses,.bool r.fresh] 54::As)) ?_ ?_
 ·
  refine .drawn (fun w=>∃ R,Sat B w I (blk b2 [ptr p.wb 0] 37::blk p.wb (wdC p ω) 44::R)) (fun j=>!([].contains j)) (by kernel_rfl) ?_
  replace hS:=hS.drew; generalize w.drew=w at hS ⊢
  have hH:∃ R,Sat B w I (blk b2 [ptr p.wb 0] 37::blk p.wb (wdC p ω) 44::R):=⟨_,((hS.pick 3 rfl).pick 3 rfl)⟩
  refine .tp (i:=0) rfl (by kernel_rfl) (fun w=>(.move (.of rfl))) rfl ?_
  refine WD.tk (i:=1) rfl (by kernel_rfl) hH (fun w ⟨R,hS⟩=>((.ld (.of rfl) hS (k:=0) rfl Xjg rfl))) rfl ?_
  refine .tp (i:=2) rfl (by kernel_rfl) (fun w=>(.nilCheck (.of rfl))) rfl ?_
  refine WD.tp (i:=3) rfl (by kernel_rfl) (fun w=>(.fieldAddr 25 (.of rfl) X3b rfl rfl Qs3 rfl)) rfl ?_
  refine WD.tk (i:=4) rfl (by kernel_rfl) hH (fun w ⟨R,hS⟩=>((.ld (.of rfl) hS (k:=1) rfl Qg3 rfl))) rfl ?_
  refine WD.tk (i:=5) rfl (by kernel_rfl) hH (fun w ⟨R,hS⟩=>((.ld (.of rfl) hS (k:=0) rfl Xjg rfl))) rfl ?_
  refine .tp (i:=6) rfl (by kernel_rfl) (fun w=>(.nilCheck (.of rfl))) rfl ?_
  refine WD.tp (i:=7) rfl (by kernel_rfl) (fun w=>(.fieldAddr 25 (.of rfl) X3b rfl rfl Qs3 rfl)) rfl ?_
  refine WD.tk (i:=8) rfl (by kernel_rfl) hH (fun w ⟨R,hS⟩=>((.ld (.of rfl) hS (k:=1) rfl Qg3 rfl))) rfl ?_
  refine WD.tp (i:=9) rfl (by kernel_rfl) (fun w=>(.fieldAddr 1 (.of rfl) X18 rfl rfl Qs9 rfl)) rfl ?_
  refine WD.branch [10] (by kernel_rfl) rfl (WO.cons rfl ?_ (WO.nil))
  refine WL.st1 hS (k:=6) rfl (.of rfl) (.of rfl) rfl Qs9 (by simp) ?_
  clear hS; intro w hS; try dsimp only [List.set] at hS
  refine .nil ?_
  clear hH
  have hH:∃ R,Sat B w I (blk b2 [ptr p.wb 0] 37::blk p.wb (wdC p ω) 44::R):=⟨_,((hS.pick 3 rfl).pick 3 rfl)⟩
  refine And.intro (by intro _ _; exact hH) ?_
  refine WD.tp (i:=11) rfl (by kernel_rfl) (fun w=>(.fieldAddr 6 (.of rfl) X18 rfl rfl Qs3 rfl)) rfl ?_
  refine WD.branch [12] (by kernel_rfl) rfl (WO.cons rfl ?_ (WO.nil))
  refine WL.st1 hS (k:=6) rfl (.of rfl) (.of rfl) rfl Qs3 (by simp) ?_
  clear hS; intro w hS; try dsimp only [List.set] at hS
  refine .nil ?_
  clear hH
  have hH:∃ R,Sat B w I (blk b2 [ptr p.wb 0] 37::blk p.wb (wdC p ω) 44::R):=⟨_,((hS.pick 3 rfl).pick 3 rfl)⟩
  refine And.intro (by intro _ _; exact hH) ?_
  refine WD.tp (i:=13) rfl (by kernel_rfl) (fun w=>(.fieldAddr 7 (.of rfl) X18 rfl rfl Qs3 rfl)) rfl ?_
  refine WD.branch [14] (by kernel_rfl) rfl (WO.cons rfl ?_ (WO.nil))
  refine WL.st1 hS (k:=6) rfl (.of rfl) (.of rfl) rfl Qs3 (by simp) ?_
  clear hS; intro w hS; try dsimp only [List.set] at hS
  refine .nil ?_
  clear hH
  have hH:∃ R,Sat B w I (blk b2 [ptr p.wb 0] 37::blk p.wb (wdC p ω) 44::R):=⟨_,((hS.pick 3 rfl).pick 3 rfl)⟩
  refine And.intro (by intro _ _; exact hH) ?_
  refine .done (by kernel_rfl) ?_
  exact ⟨(),⟨rfl,rfl,rfl,trivial⟩,hS⟩
 rintro _ w hS
 change WC _ _ _ _ [(2,ptr b2 0),(3,ptr b3 0),(6,S (mkN ω r).1.1)] w
 refine .seq (.seq (.drawn (fun w=>∃ R,Sat B w I (blk b2 [ptr p.wb 0] 37::blk b3 [I64 r.kind,S (mkN ω r).1.1,S r.parent,S r.user,S r.service,S r.url,I64 ω.now,I64 ω.now,I64 r.uses,.bool r.fresh] 54::blk p.wb (wdC p ω) 44::R)) (fun j=>!([].contains j)) (by kernel_rfl) ?_))
 replace hS:=hS.drew; generalize w.drew=w at hS ⊢
 have hH:∃ R,Sat B w I (blk b2 [ptr p.wb 0] 37::blk b3 [I64 r.kind,S (mkN ω r).1.1,S r.parent,S r.user,S r.service,S r.url,I64 ω.now,I64 ω.now,I64 r.uses,.bool r.fresh] 54::blk p.wb (wdC p ω) 44::R):=⟨_,(((hS.pick 3 rfl).pick 6 rfl).pick 4 rfl)⟩
 refine WD.tk (i:=0) rfl (by kernel_rfl) hH (fun w ⟨R,hS⟩=>((.ld (.of rfl) hS (k:=0) rfl Xjg rfl))) rfl ?_
 refine .tp (i:=1) rfl (by kernel_rfl) (fun w=>(.nilCheck (.of rfl))) rfl ?_
 refine WD.tp (i:=2) rfl (by kernel_rfl) (fun w=>(.fieldAddr 0 (.of rfl) X3b rfl rfl X6w rfl)) rfl ?_
 refine WD.tk (i:=3) rfl (by kernel_rfl) hH (fun w ⟨R,hS⟩=>((.ld (.of rfl) hS (k:=2) rfl X64 rfl))) rfl ?_
 refine WD.tk (i:=4) rfl (by kernel_rfl) hH (fun w ⟨R,hS⟩=>((.ldsW (cs:=[_,_,_,_,_,_,_,_,_,_]) (.of rfl) hS (k:=1) rfl X7u X1k rfl))) rfl ?_
 refine WD.branch [5] (by kernel_rfl) rfl (WO.cons rfl ?_ (WO.nil))
 refine WL.call Tryz.func48 rfl (X0 (.of rfl) (X0 (.of rfl) X4)) rfl (Xlu p.tb ω.room a c ω.l (by omega) (mkR ω r) (by have:=Xd6 (pr:=fun s=>(get ω.l s).isSome) (kind:=r.kind) (D:=ω.D); exact Y2m this (by decide)) hrp B _ I hI.known hI.pre _ ((hS.pick 5 rfl).pick 5 rfl)) ?_
 clear hS
 rintro _ w ⟨rfl,a2,c2,hS⟩
 try dsimp only [List.eraseIdx] at hS
 refine .nil ?_
 clear hH
 have hH:∃ R,Sat B w I (blk b2 [ptr p.wb 0] 37::blk b3 [I64 r.kind,S (mkN ω r).1.1,S r.parent,S r.user,S r.service,S r.url,I64 ω.now,I64 ω.now,I64 r.uses,.bool r.fresh] 54::blk p.wb (wdC p ω) 44::R):=⟨_,(((hS.pick 5 rfl).pick 6 rfl).pick 6 rfl)⟩
 refine And.intro (by intro _ _; exact hH) ?_
 refine .tp (i:=6) rfl (by kernel_rfl) (fun w=>(.neq (.of rfl) (.of rfl))) rfl (.done (by kernel_rfl) ?_)
 refine WC.cond rfl (fun hb39=>?_) (fun hb39=>?_)
 ·
  have hc39:=hb39; try simp only [Y6] at hc39
  refine .seq (.q 2 rfl (.ret (X2u Tryz.results52 rfl rfl ?_)))
  have hE:mkW ω r=(([],39),{ ω with D:=(mkN ω r).2,l:=add ω.room ω.l (mkR ω r) }):=by
   rw [mkW,if_neg (by simpa [mkN] using hb20),if_pos (by simpa using hb39)]
  rw [hE]
  replace hS:=((hS.pick 5 rfl).drop (k:=5) rfl).drop (k:=5) rfl
  try dsimp only [List.eraseIdx] at hS
  exact ⟨_,rfl,rfl,Sat.box (T:=wdT p _) (a2,c2,ma2,mc2) hS⟩
 have hc39:=hb39; try simp only [Y6] at hc39
 refine .skip (.seq (.q 3 rfl (.ret (X2u Tryz.results52 rfl rfl ?_))))
 have hE:mkW ω r=(((mkN ω r).1.1,0),{ ω with D:=(mkN ω r).2,l:=add ω.room ω.l (mkR ω r) }):=by
  rw [mkW,if_neg (by simpa [mkN] using hb20),if_neg (by simpa using hb39)]
 rw [hE]
 replace hS:=((hS.pick 5 rfl).drop (k:=5) rfl).drop (k:=5) rfl
 try dsimp only [List.eraseIdx] at hS
 exact ⟨_,rfl,rfl,Sat.box (T:=wdT p _) (a2,c2,ma2,mc2) hS⟩
theorem Xj6 {r:Rec} (h:X14 r=true):r.name.length≤23∧r.parent.length≤23:=by
 unfold X14 at h
 simp only [Ym] at h
 obtain ⟨⟨_,h1⟩,h2⟩:=h
 constructor
 ·unfold isT at h1
  cases hp:X34 r.name with
  | none=>rw [hp] at h1; cases h1
  | some x=>exact (X6y (k:=x.1) (d:=x.2) hp).2.2.2.1
 ·unfold X44 at h2
  split at h2
  ·rename_i e; rw [e]; simp
  ·cases hp:X34 r.parent with
   | none=>rw [hp] at h2; cases h2
   | some x=>exact (X6y (k:=x.1) (d:=x.2) hp).2.2.2.1
theorem X35 {l:List Rec} (hw:Wf l) (name:List UInt8):(get l name=none∧getD l name=r0)∨(get l name=some (getD l name)∧X14 (getD l name)=true∧(getD l name).name=name):=by
 rcases Tr.get_at l name with ⟨_,h⟩ | ⟨j,r,_,h2,h3,h4⟩
 ·exact .inl ⟨h,by rw [getD,h]; rfl⟩
 ·have e:getD l name=r:=by rw [getD,h4]; rfl
  exact .inr ⟨by rw [e]; exact h4,by rw [e]; exact hw.right r (Yn h2),by rw [e]; exact h3⟩
theorem Xh9 {l:List Rec} (hw:Wf l) (name:List UInt8):(getD l name).name.length≤23∧(getD l name).parent.length≤23∧0≤(getD l name).uses∧(getD l name).uses≤255:=by
 rcases X35 hw name with ⟨_,e⟩ | ⟨_,h,_⟩
 ·rw [e]; decide
 ·have h1:=Xj6 h
  have h2:=X8g h
  exact ⟨h1.1,h1.2,h2.2.2⟩
def X7t (ω:Wd) (name:List UInt8):Wd:={ ω with l:=drop ω.l name }
theorem Xfu {ω:Wd} (h:X39 ω) (name:List UInt8):X39 (X7t ω name):=⟨Y2m (Xp7 ω.l name).length_le h.len,h.wf.drop name,h.D,h.now,h.room⟩
structure Ak where
 service:List UInt8
 cookie:List UInt8
 has:Bool
 renew:Bool
 gateway:Bool
 warn:Bool
theorem Xjv (s:List UInt8) (hs:s.length≤1000000) (p:Wp) (B w:World) (I:Im) (hI:WpOk I p) (As:List Xe) (hS:Sat B w I As) :
  Calls Tryz.prog 50 [.pointer (some p.pr),S s].toArray w (Ret fun v w'=>∃ J ra rc,Le I J∧v=.tuple #[.agg (X1d (X1e p.lo s).1 ra rc).toArray,S (X1e p.lo s).2.1,I64 (((X1e p.lo s).2.2:Nat):Int)]∧(X1e p.lo s).1.rel.length≤rc∧RS J ra 1 (X1e p.lo s).1.rel.length ((X1e p.lo s).1.rel.map S)∧Sat B w' J As):=by
 obtain ⟨a,c,E,h1,h2,h3⟩:=hI.reg
 refine (Xf8 p.pr p.lo hI.lo hI.rel s hs a c E B w I hI.known h1 h3 As hS).mono fun e w' ⟨v,he,J,u,cs,n,e2,hJ,hv,⟨ra,rc,hcs,h4,h5⟩,hf,hS⟩=>⟨v,he,J,ra,rc,hJ,?_⟩
 rw [hf]; subst hcs
 exact ⟨hv,h4,h5,hS⟩
theorem Xbf (s:List UInt8) (hs:s.length≤1000000) (p:Wp) (B w:World) (I:Im) (hI:WpOk I p) (As:List Xe) (hS:Sat B w I As) :
  Calls Tryz.prog 50 [.pointer (some p.pr),S s].toArray w (Ret fun v w'=>∃ ra rc,v=.tuple #[.agg (X1d (X1e p.lo s).1 ra rc).toArray,S (X1e p.lo s).2.1,I64 (((X1e p.lo s).2.2:Nat):Int)]∧Sat B w' I As) :=
 (Xjv s hs p B w I hI As hS).mono fun e w' ⟨v,he,J,ra,rc,hJ,hv,_,_,hS⟩=>⟨v,he,ra,rc,hv,hS.weaken hJ⟩
def putW (ω:Wd) (r:Rec):Wd:={ ω with l:=put ω.l r }
theorem Xlt {ω:Wd} (h:X39 ω) (r:Rec):X39 (putW ω r):=⟨by show (put ω.l r).length≤64; rw [X6p]; exact h.len,h.wf.put,h.D,h.now,h.room⟩
theorem Xd4 {ps:Nat→Int} {ω:Wd} (h:X39 ω) (name:List UInt8) (kind:Int):(X17 ps ω name kind).1.name.length≤23∧(X17 ps ω name kind).1.parent.length≤23∧0≤(X17 ps ω name kind).1.uses∧(X17 ps ω name kind).1.uses≤255:=by
 unfold X17
 split
 ·decide
 ·exact Xh9 h.wf name
theorem Xmk:Bld Tryz.prog 44 [(0,1),(1,1),(2,1),(3,1),(4,21),(25,1)] [.pointer none,.pointer none,.pointer none,.pointer none,.int .i64 0,.int .i64 0,.int .i64 0,.int .i64 0,.int .i64 0,.int .i64 0,.int .i64 0,.int .i64 0,.int .i64 0,.int .i64 0,.int .i64 0,.int .i64 0,.int .i64 0,.int .i64 0,.int .i64 0,.int .i64 0,.int .i64 0,.int .i64 0,.int .i64 0,.int .i64 0,.int .i64 0,.int .i64 0]:=X30 X3b Tryz.zeroValue44 (fun w=>by simp [go_sem])
structure Cf where
 svs:List Sv
 us:List Us
 ps:Nat→Int
 room:Int
 base:Nat
 factor:Nat
 most:Nat
 tries:Int
def Xl (c:Cf) (a:Option Addr) (cap:Nat) (ua:Option Addr) (ucap:Nat):List Value:=.slice a c.svs.length cap::.slice ua c.us.length ucap::((psL c.ps).map I64 ++ [I64 c.room,F64 c.base,F64 c.factor,F64 c.most,I64 c.tries])
structure Cf.fits (c:Cf):Prop where
 svs:c.svs.length≤100000
 ords:∀ v∈ords c.svs,v<18446744073709551616
 sfit:∀ s∈c.svs,s.urls.length≤9223372036854775807∧s.calls.length≤9223372036854775807∧s.rel.length≤1000000
 us:c.us.length≤9223372036854775807
 ufit:∀ u∈c.us,u.fits
def Xb1 (c:Cf):Nat:=if (X4e c.svs).1≠0 then (X4e c.svs).1 else if (X9v c.us 0 []).1≠0 then (X9v c.us 0 []).1 else if Xpn c.ps=false then 1 else 0
theorem Xl6:∀ (l:List Us) (i:Nat) (acc:List Us),(X9v l i acc).1=0→∀ u∈l,Xcz u=true
 | [],_,_,_,u,h=>by simp at h
 | t::l,i,acc,h,u,hu=>by
  rw [X9v] at h
  split at h
  ·cases h
  ·split at h
   ·cases h
   ·rename_i h1
    split at h
    ·cases h
    ·rcases Y14.1 hu with e | hu
     ·subst e; simpa using h1
     ·exact Xl6 l (i+1) _ h u hu
theorem Xj9 {l:List Sv} {D:List Int} (hO:Srt.Ord (kx (ords l)) l.length D):∀ s∈X4a l D,s∈l:=by
 intro s hs
 unfold X4a at hs
 obtain ⟨d,hd,rfl⟩:=Y1z.1 hs
 obtain ⟨h1,h2⟩:=Srt.upto_mem.1 (hO.2.mem_iff.1 hd)
 rw [Y8,Y4 (by omega)]
 exact Y2q _
theorem Xk4 {A vs C:List Value} {j:Nat} {v:Value} (h:vs[j]?=some v):(A ++ (vs ++ C))[A.length+j]?=some v:=by
 rw [Yu (by omega),Y2a,Yh (Y5.1 h).1]
 exact h
def w0 (c:Cf):Wd:=⟨Xs2 c.room,[],[],0⟩
theorem w0_ok (c:Cf):X39 (w0 c):=⟨by simp [w0],Wf.nil,fun d h=>by simp [w0] at h,by simp [w0],by unfold w0 Xs2; (try dsimp only); omega⟩
set_option maxRecDepth 20000 in
theorem Xda (c:Cf) (hc:c.fits) (a:Option Addr) (cap:Nat) (ua:Option Addr) (ucap:Nat) (B w:World) (I:Im) (hK:Known I) (hP:PreAt I) (hl:SvsAt I a c.svs) (hU:UsrsAt I ua c.us) (As:List Xe) (hS:Sat B w I As) :
  Calls Tryz.prog 47 [.agg (Xl c a cap ua ucap).toArray].toArray w (Ret fun v w'=>∃ J,Le I J∧((Xb1 c≠0∧v=.tuple #[.pointer none,I64 (Xb1 c:Nat)]∧Sat B w' J As)∨(Xb1 c=0∧∃ p D,Srt.Ord (kx (ords c.svs)) c.svs.length D∧p.lo=X4a c.svs D∧p.us=c.us∧p.ps=c.ps∧v=.tuple #[ptr p.wb 0,I64 0]∧WpOk J p∧Sat B w' J (wdA p (w0 c)::As)))):=by
 refine calls Tryz.func47 rfl Tryz.ntmps47 rfl (.seq (.region (.boxA (cs:=[_,_,_,_,_,_,_,_,_,_,_,_,_,_,_,_,_,_,_,_,_,_,_,_,_,_,_,_]) hS (.of rfl) rfl ?_)))
 clear hS; intro b1 w hS
 refine .q 2 rfl (.nil (.seq (.region ?_)))
 refine WL.val (.fieldAddr 0 (.of rfl) Xiq rfl rfl Qs22 rfl) rfl ?_
 refine .val (.ld (.of rfl) hS (k:=0) rfl Qg22 rfl) rfl (.call Tryz.func102 rfl (X0 (.of rfl) X4) rfl (Xqs a cap c.svs hc.svs hc.ords hc.sfit B _ I hl _ hS) ?_)
 clear hS
 rintro v w ⟨J,hJ,hS,hor⟩
 obtain ⟨pv,e9,i9,rfl,he9,hz9⟩:∃ (pv:Value) (e9 i9:Nat),v=.tuple #[pv,I64 (e9:Nat),I64 (i9:Nat)]∧e9=(X4e c.svs).1∧(e9=0→∃ pr D,pv=.pointer (some pr)∧Srt.Ord (kx (ords c.svs)) c.svs.length D∧RegAt J pr (X4a c.svs D)):=by
  rcases hor with ⟨h1,h2⟩ | ⟨h1,pr,D,h2,h3,h4⟩
  ·exact ⟨_,_,_,h2,rfl,fun h=>absurd h h1⟩
  ·exact ⟨_,0,0,h2,h1.symm,fun _=>⟨pr,D,rfl,h3,h4⟩⟩
 refine .q 7 rfl (.nil (.seq (.seq (.q 2 rfl ?_))))
 refine WC.cond rfl (fun hb17=>?_) (fun hb17=>?_)
 ·
  have hc17:=hb17; try simp only [Y6] at hc17
  refine .seq (.q 3 rfl (.ret (X2u Qr47 rfl rfl ?_)))
  have hne:(X4e c.svs).1≠0:=by rw [← he9]; simpa using hb17
  have hE:Xb1 c=e9:=by rw [Xb1,if_pos hne,he9]
  exact ⟨_,rfl,J,hJ,.inl ⟨by rw [hE,he9]; exact hne,by rw [hE]; rfl,hS.drop (k:=0) rfl⟩⟩
 have hc17:=hb17; try simp only [Y6] at hc17
 refine .skip (.seq (.region ?_))
 refine WL.val (.fieldAddr 1 (.of rfl) Xiq rfl rfl Tryz.sizeOf23 rfl) rfl ?_
 refine .val (.ld (.of rfl) hS (k:=0) rfl Tryz.isAgg23 rfl) rfl (.call Tryz.func103 rfl (X0 (.of rfl) X4) rfl (Xcl ua ucap c.us hc.us hc.ufit B _ J (hU.mono hJ) _ hS) ?_)
 clear hS
 rintro v w ⟨J2,hJ2,hor2,hS⟩
 have hw0:(X4e c.svs).1=0:=by rw [← he9]; simpa using hb17
 obtain ⟨pr,D,rfl,hOrd,hreg⟩:=hz9 (by omega)
 obtain ⟨uv,f9,j9,rfl,hf9,hy9⟩:∃ (uv:Value) (f9 j9:Nat),v=.tuple #[uv,I64 (f9:Nat),I64 (j9:Nat)]∧f9=(X9v c.us 0 []).1∧(f9=0→∃ ub,uv=ptr ub 0∧TabAt J2 ub c.us):=by
  rcases hor2 with ⟨h1,ub,h2,h3⟩ | ⟨h1,h2⟩
  ·exact ⟨_,0,0,h2,h1.symm,fun _=>⟨ub,rfl,h3⟩⟩
  ·exact ⟨_,_,_,h2,rfl,fun h=>absurd h h1⟩
 refine .q 7 rfl (.nil (.seq (.seq (.q 2 rfl ?_))))
 refine WC.cond rfl (fun hb27=>?_) (fun hb27=>?_)
 ·
  have hc27:=hb27; try simp only [Y6] at hc27
  refine .seq (.q 3 rfl (.ret (X2u Qr47 rfl rfl ?_)))
  have hne:(X9v c.us 0 []).1≠0:=by rw [← hf9]; simpa using hb27
  have hE:Xb1 c=f9:=by rw [Xb1,if_neg (by rw [hw0]; decide),if_pos hne,hf9]
  exact ⟨_,rfl,J2,hJ.trans hJ2,.inl ⟨by rw [hE,hf9]; exact hne,by rw [hE]; rfl,hS.drop (k:=0) rfl⟩⟩
 have hc27:=hb27; try simp only [Y6] at hc27
 refine .skip (.seq (.seq (.region ?_)))
 refine WL.val (.fieldAddr 2 (.of rfl) Xiq rfl rfl Xrk rfl) rfl ?_
 refine .val (.lds (vs:=[I64 (c.ps 0),I64 (c.ps 1),I64 (c.ps 2),I64 (c.ps 3),I64 (c.ps 4),I64 (c.ps 5),I64 (c.ps 6),I64 (c.ps 7),I64 (c.ps 8),I64 (c.ps 9),I64 (c.ps 10),I64 (c.ps 11),I64 (c.ps 12),I64 (c.ps 13),I64 (c.ps 14),I64 (c.ps 15),I64 (c.ps 16),I64 (c.ps 17),I64 (c.ps 18),I64 (c.ps 19),I64 (c.ps 20)]) (.of rfl) hS (k:=0) rfl Qg26 Xrk rfl (fun j v hj=>Xk4 (A:=[.slice a c.svs.length cap,.slice ua c.us.length ucap]) (C:=[I64 c.room,F64 c.base,F64 c.factor,F64 c.most,I64 c.tries]) hj)) rfl (.call Tryz.func104 rfl (X0 (.of rfl) X4) rfl (Xia c.ps B _ J2 _ hS) ?_)
 clear hS
 rintro _ w ⟨rfl,hS⟩
 have hu0:(X9v c.us 0 []).1=0:=by rw [← hf9]; simpa using hb27
 obtain ⟨ub,rfl,hTab⟩:=hy9 (by omega)
 refine .q 1 rfl (.nil ?_)
 refine WC.cond rfl (fun hb32=>?_) (fun hb32=>?_)
 ·
  have hc32:=hb32; try simp only [Y6] at hc32
  refine .seq (.q 2 rfl (.ret (X2u Qr47 rfl rfl ?_)))
  have hE:Xb1 c=1:=by rw [Xb1,if_neg (by rw [hw0]; decide),if_neg (by rw [hu0]; decide),if_pos (by simpa using hb32)]
  exact ⟨_,rfl,J2,hJ.trans hJ2,.inl ⟨by rw [hE]; decide,by rw [hE]; rfl,hS.drop (k:=0) rfl⟩⟩
 have hc32:=hb32; try simp only [Y6] at hc32
 refine .skip (.seq (.drawn (fun w=>∃ R,Sat B w J2 (blk b1 [.slice a c.svs.length cap,.slice ua c.us.length ucap,I64 (c.ps 0),I64 (c.ps 1),I64 (c.ps 2),I64 (c.ps 3),I64 (c.ps 4),I64 (c.ps 5),I64 (c.ps 6),I64 (c.ps 7),I64 (c.ps 8),I64 (c.ps 9),I64 (c.ps 10),I64 (c.ps 11),I64 (c.ps 12),I64 (c.ps 13),I64 (c.ps 14),I64 (c.ps 15),I64 (c.ps 16),I64 (c.ps 17),I64 (c.ps 18),I64 (c.ps 19),I64 (c.ps 20),I64 c.room,F64 c.base,F64 c.factor,F64 c.most,I64 c.tries] 29::R)) (fun j=>!([].contains j)) (by kernel_rfl) ?_))
 replace hS:=hS.drew; generalize w.drew=w at hS ⊢
 have hH:∃ R,Sat B w J2 (blk b1 [.slice a c.svs.length cap,.slice ua c.us.length ucap,I64 (c.ps 0),I64 (c.ps 1),I64 (c.ps 2),I64 (c.ps 3),I64 (c.ps 4),I64 (c.ps 5),I64 (c.ps 6),I64 (c.ps 7),I64 (c.ps 8),I64 (c.ps 9),I64 (c.ps 10),I64 (c.ps 11),I64 (c.ps 12),I64 (c.ps 13),I64 (c.ps 14),I64 (c.ps 15),I64 (c.ps 16),I64 (c.ps 17),I64 (c.ps 18),I64 (c.ps 19),I64 (c.ps 20),I64 c.room,F64 c.base,F64 c.factor,F64 c.most,I64 c.tries] 29::R):=⟨_,(hS.pick 0 rfl)⟩
 refine WD.tp (i:=0) rfl (by kernel_rfl) (fun w=>(.fieldAddr 23 (.of rfl) Xiq rfl rfl Qs3 rfl)) rfl ?_
 refine .tk (i:=1) rfl (by kernel_rfl) hH (fun w ⟨R,hS⟩=>(.ld (.of rfl) hS (k:=0) rfl Qg3 rfl)) rfl (.tp (i:=4) rfl (by kernel_rfl) (fun w=>(.move (.of rfl))) rfl (.tp (i:=5) rfl (by kernel_rfl) (fun w=>(.move (.of rfl))) rfl ?_))
 refine WD.tp (i:=6) rfl (by kernel_rfl) (fun w=>(.fieldAddr 2 (.of rfl) Xiq rfl rfl Xrk rfl)) rfl ?_
 refine .tk (i:=7) rfl (by kernel_rfl) hH (fun w ⟨R,hS⟩=>.lds (vs:=[I64 (c.ps 0),I64 (c.ps 1),I64 (c.ps 2),I64 (c.ps 3),I64 (c.ps 4),I64 (c.ps 5),I64 (c.ps 6),I64 (c.ps 7),I64 (c.ps 8),I64 (c.ps 9),I64 (c.ps 10),I64 (c.ps 11),I64 (c.ps 12),I64 (c.ps 13),I64 (c.ps 14),I64 (c.ps 15),I64 (c.ps 16),I64 (c.ps 17),I64 (c.ps 18),I64 (c.ps 19),I64 (c.ps 20)]) (.of rfl) hS (k:=0) rfl Qg26 Xrk rfl (fun j v hj=>Xk4 (A:=[.slice a c.svs.length cap,.slice ua c.us.length ucap]) (C:=[I64 c.room,F64 c.base,F64 c.factor,F64 c.most,I64 c.tries]) hj)) rfl ?_
 refine WD.branch [2] (by kernel_rfl) rfl (WO.cons rfl ?_ (WO.nil))
 refine .call Tryz.func105 rfl (X0 (.of rfl) X4) rfl (Xet c.room B _ J2 _ hS) ?_
 clear hS
 rintro _ w ⟨tb,rfl,hS⟩
 refine .nil ?_
 clear hH
 have hH:∃ R,Sat B w J2 (blk b1 [.slice a c.svs.length cap,.slice ua c.us.length ucap,I64 (c.ps 0),I64 (c.ps 1),I64 (c.ps 2),I64 (c.ps 3),I64 (c.ps 4),I64 (c.ps 5),I64 (c.ps 6),I64 (c.ps 7),I64 (c.ps 8),I64 (c.ps 9),I64 (c.ps 10),I64 (c.ps 11),I64 (c.ps 12),I64 (c.ps 13),I64 (c.ps 14),I64 (c.ps 15),I64 (c.ps 16),I64 (c.ps 17),I64 (c.ps 18),I64 (c.ps 19),I64 (c.ps 20),I64 c.room,F64 c.base,F64 c.factor,F64 c.most,I64 c.tries] 29::R):=⟨_,(hS.pick 2 rfl)⟩
 refine And.intro (by intro _ _; exact hH) ?_
 refine WD.branch [3] (by kernel_rfl) rfl (WO.cons rfl ?_ (WO.nil))
 refine .call Tryz.func106 rfl (X0 (.of rfl) X4) rfl (Xfa B _ J2 _ hS) ?_
 clear hS
 rintro _ w ⟨mb,rfl,hS⟩
 refine .nil ?_
 clear hH
 have hH:∃ R,Sat B w J2 (blk b1 [.slice a c.svs.length cap,.slice ua c.us.length ucap,I64 (c.ps 0),I64 (c.ps 1),I64 (c.ps 2),I64 (c.ps 3),I64 (c.ps 4),I64 (c.ps 5),I64 (c.ps 6),I64 (c.ps 7),I64 (c.ps 8),I64 (c.ps 9),I64 (c.ps 10),I64 (c.ps 11),I64 (c.ps 12),I64 (c.ps 13),I64 (c.ps 14),I64 (c.ps 15),I64 (c.ps 16),I64 (c.ps 17),I64 (c.ps 18),I64 (c.ps 19),I64 (c.ps 20),I64 c.room,F64 c.base,F64 c.factor,F64 c.most,I64 c.tries] 29::R):=⟨_,(hS.pick 4 rfl)⟩
 refine And.intro (by intro _ _; exact hH) ?_
 refine .tp (i:=8) rfl (by kernel_rfl) (fun w=>(.build (cs:=[_,_,_,_,_,_,_,_,_,_,_,_,_,_,_,_,_,_,_,_,_,_,_,_,_,_]) (X5 (.of rfl) (X5 (.of rfl) (X5 (.of rfl) (X5 (.of rfl) (X5 (.of rfl) X6))))) Xmk rfl)) rfl ?_
 refine WD.branch [9] (by kernel_rfl) rfl (WO.cons rfl ?_ (WO.nil))
 refine .boxA (cs:=[_,_,_,_,_,_,_,_,_,_,_,_,_,_,_,_,_,_,_,_,_,_,_,_,_,_]) hS (.of rfl) rfl ?_
 clear hS; intro b42 w hS
 refine .nil ?_
 clear hH
 have hH:∃ R,Sat B w J2 (blk b1 [.slice a c.svs.length cap,.slice ua c.us.length ucap,I64 (c.ps 0),I64 (c.ps 1),I64 (c.ps 2),I64 (c.ps 3),I64 (c.ps 4),I64 (c.ps 5),I64 (c.ps 6),I64 (c.ps 7),I64 (c.ps 8),I64 (c.ps 9),I64 (c.ps 10),I64 (c.ps 11),I64 (c.ps 12),I64 (c.ps 13),I64 (c.ps 14),I64 (c.ps 15),I64 (c.ps 16),I64 (c.ps 17),I64 (c.ps 18),I64 (c.ps 19),I64 (c.ps 20),I64 c.room,F64 c.base,F64 c.factor,F64 c.most,I64 c.tries] 29::R):=⟨_,(hS.pick 5 rfl)⟩
 refine And.intro (by intro _ _; exact hH) ?_
 refine .tp (i:=10) rfl (by kernel_rfl) (fun w=>(.assign (.of rfl))) rfl (.tp (i:=11) rfl (by kernel_rfl) (fun w=>(.assign (.of rfl))) rfl (.done (by kernel_rfl) (.ret (X2u Qr47 rfl rfl ?_))))
 have hE:Xb1 c=0:=by rw [Xb1,if_neg (by rw [hw0]; decide),if_neg (by rw [hu0]; decide),if_neg (by simpa using hb32)]
 have hp:=Xj9 hOrd
 refine ⟨_,rfl,J2,hJ.trans hJ2,.inr ⟨hE,⟨b42,tb,mb,ub,pr,X4a c.svs D,c.us,c.ps⟩,D,hOrd,rfl,rfl,rfl,rfl,⟨hreg.mono hJ2,hTab,?_,fun s hs=>(hc.sfit s (hp s hs)).2.2,hc.ufit,fun u hu=>X91 (Xl6 c.us 0 [] hu0 u hu),(hK.mono hJ).mono hJ2,(hP.mono hJ).mono hJ2⟩,?_⟩⟩
 ·show (X4a c.svs D).length≤100000
  rw [X4a,Yy,hOrd.len]; exact hc.svs
 ·exact Sat.box (T:=wdT ⟨b42,tb,mb,ub,pr,X4a c.svs D,c.us,c.ps⟩ (w0 c)) (none,0,none,0) ((((((hS.pick 2 rfl).pick 2 rfl).pick 4 rfl).pick 4 rfl).pick 4 rfl).drop (k:=5) rfl)
structure Sx where
 user:List UInt8
 attrs:List Pr
 proxies:List (List UInt8)
 iou:List UInt8
def SxAt (J:Im) (x:Sx) (cs:List Value):Prop:=∃ ka kc pa pc,cs=[S x.user,.slice ka x.attrs.length kc,.slice pa x.proxies.length pc,S x.iou]∧x.attrs.length≤kc∧RS J ka 2 x.attrs.length (X28 X1r x.attrs)∧x.proxies.length≤pc∧RS J pa 1 x.proxies.length (x.proxies.map S)
theorem SxAt.mono {I J:Im} {x:Sx} {cs:List Value} (h:SxAt I x cs) (hl:Le I J):SxAt J x cs:=by
 obtain ⟨ka,kc,pa,pc,e,h1,h2,h3,h4⟩:=h
 exact ⟨ka,kc,pa,pc,e,h1,h2.mono hl,h3,h4.mono hl⟩
theorem Ex.sub3U {P:Program} {n:Nat} {L:Env} {w:World} {d:Option Nat} {ty t:TypeId} {pos:String} {af:Array Edge} {g:Option (Nat×Bool)} {x y z:Operand} {l:List UInt8} {i j:Int} (hx:Ev n L x (S l)) (hy:Ev n L y (U64 i)) (hz:Ev n L z (U64 j)) (h0:0≤i) (h1:i≤j) (h2:j≤(l.length:Int)) (hT:P.underlying t=some .string) :
  Ex P n L w ⟨d,.slice t x (some y) (some z) none,ty,pos,af,g⟩ (S ((l.drop i.toNat).take (j.toNat - i.toNat))) w:=fun a ha=>by
 have h:=run_slice_string (P:=P) w t ⟨l.toArray⟩ .u64 .u64 i j hT h0 h1 h2
 rw [X86] at h
 simp [execOp,hx a ha,hy a ha,hz a ha,run_sliceAt_string w t _ _ _ _ hT,h]
def Xat (r:Rec):Bool:=(((decide ((r.name.length:Int)≤60) && decide ((r.parent.length:Int)≤60)) && decide ((r.user.length:Int)≤120)) && decide ((r.service.length:Int)≤120)) && decide ((r.url.length:Int)≤120)
def bigP (y:Pr):Bool:=decide ((80:Int)<(y.1.length:Int)) || decide ((80:Int)<(y.2.length:Int))
def bigU (u:Us):Bool:=(decide ((20:Int)<(u.attrs.length:Int)) || decide ((80:Int)<(u.name.length:Int))) || decide ((80:Int)<(u.pw.length:Int))
def Xdq (u:Us):Bool:=!bigU u && u.attrs.all fun y=>!bigP y
def fewU (l:List Us):Bool:=l.all Xdq && decide ((l.length:Int)≤20)
def fewC (c:Cf):Bool:=few c.svs && fewU c.us
theorem Xez {α:Type} {cells:α→List Value} {s:Nat} (hc:∀ x,(cells x).length=s) {I:Im} {a:Option Addr} {l:List α} (hR:RS I a s l.length (X28 cells l)) {i:Nat} {x:α} (hx:l[i]?=some x):∃ q,a=some q∧At I (q.add (i*s)) (cells x):=by
 obtain ⟨q,rfl,hq⟩:=hR.2 (by have:=(Y5.1 hx).1; omega)
 refine ⟨q,rfl,?_⟩
 have h3:=X3e (hq.add (i*s)) s
 rw [X28,X1q (l.map cells) (fun c h=>by obtain ⟨y,_,rfl⟩:=Y1z.1 h; exact hc y) i (cells x) (by rw [Yz,hx]; rfl)] at h3
 exact h3
theorem Xh3 (r:Rec) (B w:World) (I:Im) (As:List Xe) (hS:Sat B w I As) :
  Calls Tryz.prog 45 [.agg (X8 r).toArray].toArray w (Ret fun v w'=>v=.bool (Xat r)∧Sat B w' I As):=by
 refine calls Tryz.func45 rfl Tryz.ntmps45 rfl (.seq (.region (.boxA (cs:=[_,_,_,_,_,_,_,_,_,_]) hS (.of rfl) rfl ?_)))
 clear hS; intro b1 w hS
 refine .q 1 rfl (.nil (.seq (.region ?_)))
 refine WL.val (.fieldAddr 1 (.of rfl) X18 rfl rfl Qs9 rfl) rfl ?_
 refine WL.val (.ld (.of rfl) hS (k:=0) rfl Qg9 rfl) rfl ?_
 refine .run 3 rfl ⟨Qu9,trivial⟩ ?_
 refine WL.gval rfl rfl (fun hg1=>(by exact .fieldAddr 2 (.of rfl) X18 rfl rfl Qs9 rfl)) rfl ?_
 refine WL.gval rfl rfl (fun hg1=>(by exact (.ld (.gd hg1 rfl) hS (k:=0) rfl Qg9 rfl))) rfl ?_
 refine .gval rfl rfl (fun hg1=>(.len (.gd hg1 rfl) Qu9)) rfl (.gval rfl rfl (fun hg1=>(.leq (.gd hg1 rfl) (.of rfl))) rfl (.val (.pand (.of rfl) (.of rfl) (.of rfl)) rfl (.q 1 rfl ?_)))
 refine WL.gval rfl rfl (fun hg1=>(by exact .fieldAddr 3 (.of rfl) X18 rfl rfl Qs9 rfl)) rfl ?_
 refine WL.gval rfl rfl (fun hg1=>(by exact (.ld (.gd hg1 rfl) hS (k:=0) rfl Qg9 rfl))) rfl ?_
 refine .gval rfl rfl (fun hg1=>(.len (.gd hg1 rfl) Qu9)) rfl (.gval rfl rfl (fun hg1=>(.leq (.gd hg1 rfl) (.of rfl))) rfl (.val (.pand (.of rfl) (.of rfl) (.of rfl)) rfl (.q 1 rfl ?_)))
 refine WL.gval rfl rfl (fun hg1=>(by exact .fieldAddr 4 (.of rfl) X18 rfl rfl Qs9 rfl)) rfl ?_
 refine WL.gval rfl rfl (fun hg1=>(by exact (.ld (.gd hg1 rfl) hS (k:=0) rfl Qg9 rfl))) rfl ?_
 refine .gval rfl rfl (fun hg1=>(.len (.gd hg1 rfl) Qu9)) rfl (.gval rfl rfl (fun hg1=>(.leq (.gd hg1 rfl) (.of rfl))) rfl (.val (.pand (.of rfl) (.of rfl) (.of rfl)) rfl (.q 1 rfl ?_)))
 refine WL.gval rfl rfl (fun hg1=>(by exact .fieldAddr 5 (.of rfl) X18 rfl rfl Qs9 rfl)) rfl ?_
 refine WL.gval rfl rfl (fun hg1=>(by exact (.ld (.gd hg1 rfl) hS (k:=0) rfl Qg9 rfl))) rfl ?_
 refine .gval rfl rfl (fun hg1=>(.len (.gd hg1 rfl) Qu9)) rfl (.gval rfl rfl (fun hg1=>(.leq (.gd hg1 rfl) (.of rfl))) rfl (.val (.pand (.of rfl) (.of rfl) (.of rfl)) rfl (.q 1 rfl (.nil (.ret (Xk Tryz.results45 rfl ?_))))))
 exact ⟨_,rfl,rfl,hS.drop (k:=0) rfl⟩
theorem Xmm (a:Option Addr) (cap:Nat) (l:List Us) (hln:l.length≤9223372036854775807) (hfit:∀ u∈l,u.fits) (B w:World) (I:Im) (hU:UsrsAt I a l) (As:List Xe) (hS:Sat B w I As) :
  Calls Tryz.prog 101 [.slice a l.length cap].toArray w (Ret fun v w'=>v=.bool (fewU l)∧Sat B w' I As):=by
 refine calls Tryz.func101 rfl Tryz.ntmps101 rfl (.seq (.q 1 rfl (.seq (.seq (.q 1 rfl (.block (.loop (σ:=Nat) (fun i=>[(0,.slice a l.length cap),(3,I64 (i:Nat))]) (fun i w=>i≤l.length∧(∀ (j:Nat) u,j<i→l[j]?=some u→Xdq u=true)∧Sat B w I As) (fun i=>l.length - i) 0 ⟨rfl,rfl,trivial⟩ ⟨Ys _,fun _ _ h=>absurd h (by omega),hS⟩ ?_)))))))
 rintro i w ⟨hi,hno,hS⟩
 change WC _ _ _ _ [(0,.slice a l.length cap),(3,I64 (i:Nat))] w
 refine .seq (.seq (.region (.run 4 rfl ⟨⟨_,Xiz⟩,trivial⟩ (.nil ?_))))
 refine WC.cond rfl (fun hb8=>?_) (fun hb8=>?_)
 ·
  have hc8:=hb8; try simp only [Y6] at hc8
  refine .skip (.seq (.block (.seq (.seq ?_))))
  obtain ⟨u,hu⟩:∃ u,l[i]?=some u:=⟨_,Y4 (by omega)⟩
  obtain ⟨p,ra,rc,hap,hx,hrc,hRR⟩:=hU i u hu
  have hfu:=(hfit u (Yn hu)).attrs.1
  subst hap
  unfold X5q at hx
  refine .t 2 rfl ?_
  refine WL.val (.indexAddrI (.of rfl) (.of rfl) (by omega) (by omega) Xiz X7s) rfl ?_
  refine WL.val (.fieldAddrI 2 (.of rfl) X5b rfl rfl Xmw rfl) rfl ?_
  refine WL.val (.ldI (.of rfl) hS (At.add hx _) Xra rfl) rfl ?_
  refine .run 3 rfl ⟨⟨_,Xl1⟩,trivial⟩ (.gval rfl rfl (fun hg1=>(.move (.of rfl))) rfl (.gval rfl rfl (fun hg1=>(.move (.of rfl))) rfl ?_))
  refine WL.gval rfl rfl (fun hg1=>(by exact .indexAddrI (.gd hg1 rfl) (.gd hg1 rfl) (by (try simp only [Y6] at hg1); omega) (by (try simp only [Y6] at hg1); omega) Xiz X7s)) rfl ?_
  refine WL.gval rfl rfl (fun hg1=>(by exact .fieldAddrI 0 (.gd hg1 rfl) X5b rfl rfl Qs9 rfl)) rfl ?_
  refine WL.gval rfl rfl (fun hg1=>(by exact (.ldI (.gd hg1 rfl) hS (At.add hx _) Qg9 rfl))) rfl ?_
  refine .gval rfl rfl (fun hg1=>(.len (.gd hg1 rfl) Qu9)) rfl (.gval rfl rfl (fun hg1=>(.gtr (.gd hg1 rfl) (.of rfl))) rfl (.val (.por (.of rfl) (.of rfl) (.of rfl)) rfl (.q 1 rfl (.gval rfl rfl (fun hg1=>(.move (.of rfl))) rfl (.gval rfl rfl (fun hg1=>(.move (.of rfl))) rfl ?_)))))
  refine WL.gval rfl rfl (fun hg1=>(by exact .indexAddrI (.gd hg1 rfl) (.gd hg1 rfl) (by (try simp only [Y6] at hg1); omega) (by (try simp only [Y6] at hg1); omega) Xiz X7s)) rfl ?_
  refine WL.gval rfl rfl (fun hg1=>(by exact .fieldAddrI 1 (.gd hg1 rfl) X5b rfl rfl Qs9 rfl)) rfl ?_
  refine WL.gval rfl rfl (fun hg1=>(by exact (.ldI (.gd hg1 rfl) hS (At.add hx _) Qg9 rfl))) rfl ?_
  refine .gval rfl rfl (fun hg1=>(.len (.gd hg1 rfl) Qu9)) rfl (.gval rfl rfl (fun hg1=>(.gtr (.gd hg1 rfl) (.of rfl))) rfl (.val (.por (.of rfl) (.of rfl) (.of rfl)) rfl (.nil ?_)))
  refine WC.cond rfl (fun hb35=>?_) (fun hb35=>?_)
  ·
   have hc35:=hb35; try simp only [Y6] at hc35
   refine .seq (.q 1 rfl (.ret (Xk Xrs rfl ?_)))
   refine ⟨_,rfl,congrArg Value.bool ?_,hS⟩
   have:l.all Xdq=false:=Y2f.2 ⟨u,Yn hu,by
    rw [Xdq,show bigU u=true from hb35,Bool.not_true,Y5g]; decide⟩
   rw [fewU,this]; rfl
  have hc35:=hb35; try simp only [Y6] at hc35
  refine .skip (.seq (.q 1 rfl (.block (.loop (σ:=Nat) (fun k=>[(0,.slice (some p) l.length cap),(3,I64 (i:Nat)),(4,I64 (k:Nat))]) (fun k w=>k≤u.attrs.length∧(∀ (j:Nat) y,j<k→u.attrs[j]?=some y→bigP y=false)∧Sat B w I As) (fun k=>u.attrs.length - k) 0 ⟨rfl,rfl,rfl,trivial⟩ ⟨Ys _,fun _ _ h=>absurd h (by omega),hS⟩ ?_))))
  rintro k w ⟨hk,hny,hS⟩
  change WC _ _ _ _ [(0,.slice (some p) l.length cap),(3,I64 (i:Nat)),(4,I64 (k:Nat))] w
  refine .seq (.seq (.t 3 rfl ?_))
  refine WL.val (.indexAddrI (.of rfl) (.of rfl) (by omega) (by omega) Xiz X7s) rfl ?_
  refine WL.val (.fieldAddrI 2 (.of rfl) X5b rfl rfl Xmw rfl) rfl ?_
  refine WL.val (.ldI (.of rfl) hS (At.add hx _) Xra rfl) rfl ?_
  refine .run 2 rfl ⟨⟨_,Xl1⟩,trivial⟩ (.nil ?_)
  refine WC.cond rfl (fun hb43=>?_) (fun hb43=>?_)
  ·
   have hc43:=hb43; try simp only [Y6] at hc43
   refine .skip (.seq (.block (.seq ?_)))
   obtain ⟨y,hy0⟩:∃ y,u.attrs[k]?=some y:=⟨_,Y4 (by omega)⟩
   obtain ⟨q,hq9,hy⟩:=Xez (cells:=X1r) (s:=2) (fun _=>rfl) hRR hy0
   subst hq9
   unfold X1r at hy
   refine .t 2 rfl ?_
   refine WL.val (.indexAddrI (.of rfl) (.of rfl) (by omega) (by omega) Xiz X7s) rfl ?_
   refine WL.val (.fieldAddrI 2 (.of rfl) X5b rfl rfl Xmw rfl) rfl ?_
   refine WL.val (.ldI (.of rfl) hS (At.add hx _) Xra rfl) rfl ?_
   refine .q 1 rfl ?_
   refine WL.val (.indexAddrI (.of rfl) (.of rfl) (by omega) (by omega) Xl1 Xkp) rfl ?_
   refine WL.val (.fieldAddrI 0 (.of rfl) Xj5 rfl rfl Qs9 rfl) rfl ?_
   refine WL.val (.ldI (.of rfl) hS (At.add hy _) Qg9 rfl) rfl ?_
   refine .run 3 rfl ⟨Qu9,trivial⟩ (.gval rfl rfl (fun hg1=>(.move (.of rfl))) rfl (.gval rfl rfl (fun hg1=>(.move (.of rfl))) rfl ?_))
   refine WL.gval rfl rfl (fun hg1=>(by exact .indexAddrI (.gd hg1 rfl) (.gd hg1 rfl) (by (try simp only [Y6] at hg1); omega) (by (try simp only [Y6] at hg1); omega) Xiz X7s)) rfl ?_
   refine WL.gval rfl rfl (fun hg1=>(by exact .fieldAddrI 2 (.gd hg1 rfl) X5b rfl rfl Xmw rfl)) rfl ?_
   refine WL.gval rfl rfl (fun hg1=>(by exact (.ldI (.gd hg1 rfl) hS (At.add hx _) Xra rfl))) rfl ?_
   refine .gval rfl rfl (fun hg1=>(.move (.of rfl))) rfl ?_
   refine WL.gval rfl rfl (fun hg1=>(by exact .indexAddrI (.gd hg1 rfl) (.gd hg1 rfl) (by (try simp only [Y6] at hg1); omega) (by (try simp only [Y6] at hg1); omega) Xl1 Xkp)) rfl ?_
   refine WL.gval rfl rfl (fun hg1=>(by exact .fieldAddrI 1 (.gd hg1 rfl) Xj5 rfl rfl Qs9 rfl)) rfl ?_
   refine WL.gval rfl rfl (fun hg1=>(by exact (.ldI (.gd hg1 rfl) hS (At.add hy _) Qg9 rfl))) rfl ?_
   refine .gval rfl rfl (fun hg1=>(.len (.gd hg1 rfl) Qu9)) rfl (.gval rfl rfl (fun hg1=>(.gtr (.gd hg1 rfl) (.of rfl))) rfl (.val (.por (.of rfl) (.of rfl) (.of rfl)) rfl (.nil ?_)))
   refine WC.cond rfl (fun hb69=>?_) (fun hb69=>?_)
   ·
    have hc69:=hb69; try simp only [Y6] at hc69
    refine .seq (.q 1 rfl (.ret (Xk Xrs rfl ?_)))
    refine ⟨_,rfl,congrArg Value.bool ?_,hS⟩
    have:l.all Xdq=false:=Y2f.2 ⟨u,Yn hu,by
     have:u.attrs.all (fun y=>!bigP y)=false:=Y2f.2 ⟨y,Yn hy0,by
      rw [show bigP y=true from hb69]; decide⟩
     rw [Xdq,this,Y3z]; decide⟩
    rw [fewU,this]; rfl
   have hc69:=hb69; try simp only [Y6] at hc69
   refine .skip (.region (.run 3 rfl ⟨⟨by omega,by omega⟩,trivial⟩ (.nil ?_)))
   refine ⟨k+1,⟨rfl,rfl,rfl,trivial⟩,⟨by (try dsimp only); omega,fun j t hj ht=>?_,hS⟩,by (try dsimp only); omega⟩
   rcases Yw j k with h1 | h1
   ·exact hny j t h1 ht
   ·have e:j=k:=by omega
    subst e
    rw [hy0] at ht; cases ht
    exact hb69
  have hc43:=hb43; try simp only [Y6] at hc43
  refine .exit (.region (.run 3 rfl ⟨⟨by omega,by omega⟩,trivial⟩ (.nil ?_)))
  refine ⟨i+1,⟨rfl,rfl,trivial⟩,⟨by (try dsimp only); omega,fun j t hj ht=>?_,hS⟩,by (try dsimp only); omega⟩
  rcases Yw j i with h1 | h1
  ·exact hno j t h1 ht
  ·have e:j=i:=by omega
   subst e
   rw [hu] at ht; cases ht
   have e1:bigU u=false:=hb35
   rw [Xdq,e1,Y3k,Y2k,Y15]
   intro y hy
   obtain ⟨q,hq⟩:=Yx.1 hy
   have:=(Y5.1 hq).1
   rw [hny q y (by omega) hq]; rfl
 have hc8:=hb8; try simp only [Y6] at hc8
 refine .exit (.seq (.region (.run 4 rfl ⟨⟨_,Xiz⟩,trivial⟩ (.nil (.ret (Xk Xrs rfl ?_))))))
 refine ⟨_,rfl,congrArg Value.bool ?_,hS⟩
 have:l.all Xdq=true:=by
  rw [Y15]
  intro u hu
  obtain ⟨q,hq⟩:=Yx.1 hu
  have:=(Y5.1 hq).1
  exact hno q u (by omega) hq
 rw [fewU,this,Y2k]
set_option maxRecDepth 20000 in
theorem Xmj (c:Cf) (a:Option Addr) (cap:Nat) (ua:Option Addr) (ucap:Nat) (hcap:c.svs.length≤cap) (hcm:cap≤maxLen) (hun:c.us.length≤9223372036854775807) (hfit:∀ u∈c.us,u.fits) (B w:World) (I:Im) (hl:SvsAt I a c.svs) (hU:UsrsAt I ua c.us) (As:List Xe) (hS:Sat B w I As) :
  Calls Tryz.prog 46 [.agg (Xl c a cap ua ucap).toArray].toArray w (Ret fun v w'=>v=.bool (fewC c)∧Sat B w' I As):=by
 refine calls Tryz.func46 rfl Tryz.ntmps46 rfl (.seq (.region (.boxA (cs:=[_,_,_,_,_,_,_,_,_,_,_,_,_,_,_,_,_,_,_,_,_,_,_,_,_,_,_,_]) hS (.of rfl) rfl ?_)))
 clear hS; intro b1 w hS
 refine .q 1 rfl (.nil (.seq (.region ?_)))
 refine WL.val (.fieldAddr 0 (.of rfl) Xiq rfl rfl Qs22 rfl) rfl ?_
 refine WL.val (.ld (.of rfl) hS (k:=0) rfl Qg22 rfl) rfl ?_
 refine .call Tryz.func100 rfl (X0 (.of rfl) X4) rfl (Xqi a cap c.svs hcap hcm B _ I hl _ hS) ?_
 clear hS
 rintro _ w ⟨rfl,hS⟩
 refine .q 1 rfl (.nil (.seq (.region ?_)))
 refine WL.val (.fieldAddr 1 (.of rfl) Xiq rfl rfl Tryz.sizeOf23 rfl) rfl ?_
 refine WL.val (.ld (.of rfl) hS (k:=0) rfl Tryz.isAgg23 rfl) rfl ?_
 refine .call Tryz.func101 rfl (X0 (.of rfl) X4) rfl (Xmm ua ucap c.us hun hfit B _ I hU _ hS) ?_
 clear hS
 rintro _ w ⟨rfl,hS⟩
 refine .q 1 rfl (.nil (.seq (.t 2 rfl (.gval rfl rfl (fun hg1=>(.move (.of rfl))) rfl (.val (.pand (.of rfl) (.of rfl) (.of rfl)) rfl (.q 1 rfl (.nil (.ret (Xk Tryz.results46 rfl ?_)))))))))
 exact ⟨_,rfl,rfl,hS.drop (k:=0) rfl⟩
theorem Xbu (k:Int) (B w:World) (I:Im) (As:List Xe) (hS:Sat B w I As) :
  Calls Tryz.prog 129 [I64 k].toArray w (Ret fun v w'=>v=S (X7c k)∧Sat B w' I As):=by
 refine calls Tryz.func129 rfl Tryz.ntmps129 rfl (.seq (.q 1 rfl (.seq (.seq (.q 1 rfl (.block (.seq (.q 2 rfl ?_))))))))
 refine WC.cond rfl (fun hb4=>?_) (fun hb4=>?_)
 ·
  have hc4:=hb4; try simp only [Y6] at hc4
  refine .seq (.q 1 rfl (.ret (Xk Xek rfl ?_)))
  refine ⟨_,rfl,congrArg S ?_,hS⟩
  simp only [beq_iff_eq,beq_eq_false_iff_ne] at *
  subst_vars; rfl
 have hc4:=hb4; try simp only [Y6] at hc4
 refine .seq (.q 2 rfl ?_)
 refine WC.cond rfl (fun hb6=>?_) (fun hb6=>?_)
 ·
  have hc6:=hb6; try simp only [Y6] at hc6
  refine .seq (.q 1 rfl (.ret (Xk Xek rfl ?_)))
  refine ⟨_,rfl,congrArg S ?_,hS⟩
  simp only [beq_iff_eq,beq_eq_false_iff_ne] at *
  subst_vars; rfl
 have hc6:=hb6; try simp only [Y6] at hc6
 refine .seq (.q 2 rfl ?_)
 refine WC.cond rfl (fun hb8=>?_) (fun hb8=>?_)
 ·
  have hc8:=hb8; try simp only [Y6] at hc8
  refine .seq (.q 1 rfl (.ret (Xk Xek rfl ?_)))
  refine ⟨_,rfl,congrArg S ?_,hS⟩
  simp only [beq_iff_eq,beq_eq_false_iff_ne] at *
  subst_vars; rfl
 have hc8:=hb8; try simp only [Y6] at hc8
 refine .seq (.q 2 rfl ?_)
 refine WC.cond rfl (fun hb10=>?_) (fun hb10=>?_)
 ·
  have hc10:=hb10; try simp only [Y6] at hc10
  refine .seq (.q 1 rfl (.ret (Xk Xek rfl ?_)))
  refine ⟨_,rfl,congrArg S ?_,hS⟩
  simp only [beq_iff_eq,beq_eq_false_iff_ne] at *
  subst_vars; rfl
 have hc10:=hb10; try simp only [Y6] at hc10
 refine .seq (.q 2 rfl ?_)
 refine WC.cond rfl (fun hb12=>?_) (fun hb12=>?_)
 ·
  have hc12:=hb12; try simp only [Y6] at hc12
  refine .seq (.q 1 rfl (.ret (Xk Xek rfl ?_)))
  refine ⟨_,rfl,congrArg S ?_,hS⟩
  simp only [beq_iff_eq,beq_eq_false_iff_ne] at *
  subst_vars; rfl
 have hc12:=hb12; try simp only [Y6] at hc12
 refine .seq (.q 2 rfl ?_)
 refine WC.cond rfl (fun hb14=>?_) (fun hb14=>?_)
 ·
  have hc14:=hb14; try simp only [Y6] at hc14
  refine .seq (.q 1 rfl (.ret (Xk Xek rfl ?_)))
  refine ⟨_,rfl,congrArg S ?_,hS⟩
  simp only [beq_iff_eq,beq_eq_false_iff_ne] at *
  subst_vars; rfl
 have hc14:=hb14; try simp only [Y6] at hc14
 refine .skip (.seq (.q 1 rfl (.ret (Xk Xek rfl ?_))))
 refine ⟨_,rfl,congrArg S ?_,hS⟩
 simp only [beq_iff_eq,beq_eq_false_iff_ne] at *
 (rw [X7c,if_pos (by omega)])
theorem Xng {n:Nat} (h:n<16):(HEXD.drop n).take 1=[dg n]:=(by decide:∀ n:Fin 16,(HEXD.drop n.val).take 1=[dg n.val]) ⟨n,h⟩
theorem Xed (kind:Int) (d:Nat) (hd:d<18446744073709551616) (B w:World) (I:Im) (As:List Xe) (hS:Sat B w I As) :
  Calls Tryz.prog 99 [I64 kind,U64 (d:Nat)].toArray w (Ret fun v w'=>v=(if X7c kind=[] then .tuple #[S [],I64 8] else .tuple #[S (X7c kind ++ 45::X7r 16 d),I64 0])∧Sat B w' I As):=by
 refine calls Tryz.func99 rfl Tryz.ntmps99 rfl (.seq (.q 2 rfl (.seq (.t 1 rfl (.call Tryz.func129 rfl (X0 (.of rfl) X4) rfl (Xbu kind B _ I _ hS) ?_)))))
 clear hS
 rintro _ w ⟨rfl,hS⟩
 refine .q 1 rfl (.nil (.seq (.seq (.q 2 rfl ?_))))
 refine WC.cond rfl (fun hb13=>?_) (fun hb13=>?_)
 ·
  have hc13:=hb13; try simp only [Y6] at hc13
  refine .seq (.q 2 rfl (.ret (X2u Tryz.results99 rfl rfl ?_)))
  exact ⟨_,rfl,by rw [if_pos (by simpa using hb13)],hS⟩
 have hc13:=hb13; try simp only [Y6] at hc13
 refine .skip (.seq (.q 1 rfl (.seq (.q 1 rfl (.seq (.seq (.q 1 rfl (.block (.loop (σ:=Nat×Nat) (fun ⟨i,e⟩=>[(1,U64 (e:Nat)),(6,S (X7c kind)),(7,S HEXD),(8,S (X7r i d)),(9,I64 (i:Nat))]) (fun ⟨i,e⟩ w=>i≤16∧e=d / 16 ^ i∧Sat B w I As) (fun ⟨i,e⟩=>16 - i) (0,d) ⟨rfl,rfl,rfl,rfl,rfl,trivial⟩ ⟨Ys _,by simp,hS⟩ ?_)))))))))
 rintro ⟨i,e⟩ w ⟨hi,he,hS⟩
 change WC _ _ _ _ [(1,U64 (e:Nat)),(6,S (X7c kind)),(7,S HEXD),(8,S (X7r i d)),(9,I64 (i:Nat))] w
 refine .seq (.seq (.q 2 rfl ?_))
 refine WC.cond rfl (fun hb15=>?_) (fun hb15=>?_)
 ·
  have hc15:=hb15; try simp only [Y6] at hc15
  refine .skip (.seq (.block (.seq ?_)))
  have hed:e<18446744073709551616:=by rw [he]; exact Y3t (Y5a _ _) hd
  have hdl:=X57 i d
  have hm16:=Y36 e (show 0<16 by decide)
  have hcast:((e:Nat):Int) % 16=((e % 16:Nat):Int):=by omega
  have htk:=Xng hm16
  have hsl:(HEXD.drop ((e:Int) % 16).toNat).take (((e:Int) % 16+1).toNat - ((e:Int) % 16).toNat)=[dg (e % 16)]:=by
   rw [hcast,Yk,show (((e % 16:Nat):Int)+1).toNat - e % 16=1 by omega]; exact htk
  have hcons:[dg (e % 16)] ++ X7r i d=X7r (i+1) d:=by rw [X9d,he]; rfl
  have hquo:((e:Nat):Int) / 16=((e / 16:Nat):Int):=by omega
  have hee:e / 16=d / 16 ^ (i+1):=by rw [he,Y37,Y2l]
  refine .t 2 rfl (.val (.rem (.of rfl) (.of rfl) (by omega) (by omega)) rfl (.q 1 rfl (.val (.rem (.of rfl) (.of rfl) (by omega) (by omega)) rfl ?_)))
  refine WL.val (.addx (.of rfl) (.of rfl) (by rw [IntKind.wrap_u64]; omega)) rfl ?_
  refine WL.val (Ex.sub3U (.of rfl) (.of rfl) (.of rfl) (by omega) (by omega) (by show _≤(16:Int); omega) Qu9) rfl ?_
  rw [hsl]
  refine .q 1 rfl ?_
  refine WL.val (.cat (.of rfl) (.of rfl) (by (try simp only [Y0,Yc,Yl]); omega)) rfl ?_
  rw [hcons]
  refine .q 1 rfl (.nil (.t 1 rfl ?_))
  refine WL.val (.quo (.of rfl) (.of rfl) (by omega) (by omega) (by rw [IntKind.wrap_u64]; omega)) rfl ?_
  rw [hquo]
  refine .q 1 rfl (.nil (.region (.run 3 rfl ⟨⟨by omega,by omega⟩,trivial⟩ (.nil ?_))))
  refine ⟨(i+1,e / 16),⟨rfl,rfl,rfl,rfl,rfl,trivial⟩,⟨by (try dsimp only); omega,hee,hS⟩,by (try dsimp only); omega⟩
 have hc15:=hb15; try simp only [Y6] at hc15
 refine .exit (.seq ?_)
 have hpl:=Xfb kind
 have hdl:=X57 i d
 refine .region ?_
 refine WL.run 6 rfl ⟨by (try simp only [Y0,Yc,Yl]); omega,by (try simp only [Y0,Yc,Yl]); omega,trivial⟩ ?_
 refine .nil (.ret (X2u Tryz.results99 rfl rfl ?_))
 have e16:i=16:=by omega
 subst e16
 refine ⟨_,rfl,by rw [if_neg (by simpa using hb13),Yd]; rfl,hS⟩
end Go.Proofs.YtfibbpgikjggfaaGreatDoor
namespace Go.Proofs.YtfibbpgikjggfaaGreatDoor
open Gk Pat
theorem Xln {l:List Sv} (h:few l=true):l.length≤20∧∀ s∈l,s.rel.length≤20:=by
 unfold few at h
 simp only [Ym,decide_eq_true_eq] at h
 refine ⟨by omega,fun s hs=>?_⟩
 have:=Y15.1 h.1 s hs
 unfold Xqr at this
 simp only [Y3f,Y1d,decide_eq_false_iff_not] at this
 omega
theorem Xm4 {l:List Sv} (h:∀ s∈l,s.fits):∀ v∈ords l,v<18446744073709551616:=fun v hv=>by
 obtain ⟨s,hs,rfl⟩:=Y1z.1 hv
 exact (h s hs).ord
theorem Xoq {l:List Sv} (h:∀ s∈l,s.fits) (hr:∀ s∈l,s.rel.length≤20):∀ s∈l,s.urls.length≤9223372036854775807∧s.calls.length≤9223372036854775807∧s.rel.length≤1000000:=fun s hs=>by
 have h1:=(h s hs).urls
 have h2:=(h s hs).calls
 have h3:=hr s hs
 unfold maxLen at h1 h2
 exact ⟨by omega,by omega,by omega⟩
theorem X7k (l:List Sv):∀ (r:List Sv) (i:Nat),(X3x l i r).1=0→∀ (j:Nat) t,r[j]?=some t→bad l (i+j) t=0
 | [],_,_,j,t,h=>by simp at h
 | s::r,i,h,j,t,ht=>by
  rw [X3x] at h
  split at h
  ·rename_i hb; exact absurd h hb
  ·rename_i hb
   cases j with
   | zero=>simp at ht; subst ht; simpa using hb
   | succ j =>
    have:=X7k l r (i+1) h j t (by simpa using ht)
    rw [show i+(j+1)=i+1+j by omega]; exact this
theorem Xh7 {l:List Sv} (h:(X4e l).1=0) (j:Nat) (t:Sv) (ht:l[j]?=some t):bad l j t=0:=by
 have:=X7k l l 0 h j t ht
 rw [Yf] at this; exact this
theorem Xor {l:List Sv} {i:Nat} {s:Sv} (h:bad l i s=0):i≠16∧(l.take i).any (fun t=>t.id == s.id)=false∧(chk s.urls).1=0∧(chk s.calls).1=0:=by
 unfold bad at h
 split at h
 ·cases h
 ·rename_i h16
  split at h
  ·cases h
  ·split at h
   ·cases h
   ·rename_i h7
    split at h
    ·cases h
    ·rename_i h8
     simp only [Y1p,not_or,bne_iff_ne,ne_eq,Decidable.not_not] at h8
     exact ⟨h16,by simpa using h7,h8.1,h8.2⟩
theorem Xp0 {l:List Sv} (h:(X4e l).1=0):right l:=fun s hs=>by
 obtain ⟨j,hj⟩:=Yx.1 hs
 obtain ⟨_,_,h1,h2⟩:=Xor (Xh7 h j s hj)
 exact ⟨Xam h1,Xam h2⟩
theorem Xqb {l:List Sv} {D:List Int} (s:List UInt8):Xeo l D s=X1e (X4a l D) s:=by
 unfold Xeo X1e X4a
 rw [List.find?_map]
 split
 ·rfl
 ·split
  ·rfl
  ·show (match D.find? (fun d=>(X8n (l.getD d.toNat z0).urls (Ul.nU s).1).1) with
    | none=>(z0,[],31)
    | some d=>(l.getD d.toNat z0,(Ul.nU s).1,0))=(match (D.find? ((fun t=>(X8n t.urls (Ul.nU s).1).1) ∘ fun d=>l.getD d.toNat z0)).map (fun d=>l.getD d.toNat z0) with
    | none=>(z0,[],31)
    | some t=>(t,(Ul.nU s).1,0))
   rw [show ((fun t=>(X8n t.urls (Ul.nU s).1).1) ∘ fun d=>l.getD d.toNat z0)=(fun d:Int=>(X8n (l.getD d.toNat z0).urls (Ul.nU s).1).1) from rfl]
   cases D.find? (fun d=>(X8n (l.getD d.toNat z0).urls (Ul.nU s).1).1) <;> rfl
theorem nU_sch {s:List UInt8} (h:(Ul.nU s).2=0):∃ r,(Ul.nU s).1=(Ul.pU s).1.sch ++ 58::r∧((Ul.pU s).1.sch=Ul.http∨(Ul.pU s).1.sch=Ul.https):=by
 obtain ⟨h1,h2⟩:=nU_ok h
 refine ⟨[47,47] ++ (Ul.pU s).1.host ++ (if (Ul.pU s).1.port=0 then [] else 58::Go.Lib.decDigits (Ul.pU s).1.port) ++ (Ul.pU s).1.path ++ (if (Ul.pU s).1.ask then 63::(Ul.pU s).1.query else []),?_,pU_sch s h1⟩
 rw [h2,Ul.strU,Ul.origin]
 simp
theorem Xpv {s:List UInt8} (h:(Ul.nU s).2=0):hasPre (Ul.nU s).1 X63=((Ul.nU s).1.take 5 == Ul.https)∧(hasPre (Ul.nU s).1 X63=true→(Ul.pU s).1.sch=Ul.https):=by
 obtain ⟨r,h1,h2⟩:=nU_sch h
 rcases h2 with h2 | h2
 ·rw [h1,h2]
  refine ⟨?_,fun h=>?_⟩
  ·have e1:hasPre (Ul.http ++ 58::r) X63=false:=by simp [hasPre,Ul.http,X63]
   have e2:((Ul.http ++ 58::r).take 5 == Ul.https)=false:=by simp [Ul.http,Ul.https]
   rw [e1,e2]
  ·simp [hasPre,Ul.http,X63] at h
 ·rw [h1,h2]
  refine ⟨?_,fun _=>rfl⟩
  have e1:hasPre (Ul.https ++ 58::r) X63=true:=by
   simp [hasPre,Ul.https,X63]
   omega
  have e2:((Ul.https ++ 58::r).take 5 == Ul.https)=true:=by simp [Ul.https]
  rw [e1,e2]
end Go.Proofs.YtfibbpgikjggfaaGreatDoor
namespace Go.Proofs.YtfibbpgikjggfaaGreatDoor
open Gk Ul Pc Tk Tr
def X9n (ω:Wd) (r:Rec):Wd:={ ω with l:=add ω.room ω.l r }
theorem Xrw {ω:Wd} (h:X39 ω) (r:Rec):X39 (X9n ω r):=by
 refine ⟨?_,h.wf.add,h.D,h.now,h.room⟩
 show (add ω.room ω.l r).length≤64
 unfold add
 split
 ·rename_i e
  have:=(Xc6 e).2.2.2
  have:=h.room
  rw [Y0,Yc,Yl]; omega
 ·exact h.len
theorem Xbb:∀ (l:List Rec) {ω:Wd},X39 ω→X39 (l.foldl X9n ω)
 | [],_,h=>h
 | r::l,_,h=>Xbb l (Xrw h r)
def MadeT (c:Cf) (ω:Wd) (J:Im) (pv:Option Addr) (B w:World) (As:List Xe):Prop:=(Xb1 c≠0∧pv=none∧Sat B w J As)∨(Xb1 c=0∧∃ p D,Srt.Ord (kx (ords c.svs)) c.svs.length D∧p.lo=X4a c.svs D∧p.us=c.us∧p.ps=c.ps∧pv=some (ad p.wb 0)∧WpOk J p∧Sat B w J (wdA p ω::As))
structure CfAt (I:Im) (c:Cf) (a:Option Addr) (cap:Nat) (ua:Option Addr) (ucap:Nat):Prop where
 svs:SvsAt I a c.svs
 us:UsrsAt I ua c.us
 cap:c.svs.length≤cap∧cap≤maxLen
 un:c.us.length≤9223372036854775807
 sfit:∀ s∈c.svs,s.fits
 ufit:∀ u∈c.us,u.fits
theorem CfAt.mono {I J:Im} {c:Cf} {a ua:Option Addr} {cap ucap:Nat} (h:CfAt I c a cap ua ucap) (hl:Le I J):CfAt J c a cap ua ucap:=⟨h.svs.mono hl,h.us.mono hl,h.cap,h.un,h.sfit,h.ufit⟩
theorem X4c {I:Im} {c:Cf} {a ua:Option Addr} {cap ucap:Nat} (h:CfAt I c a cap ua ucap) (hf:fewC c=true):c.fits:=by
 unfold fewC at hf
 simp only [Ym] at hf
 have h1:=Xln hf.1
 refine ⟨by omega,Xm4 h.sfit,Xoq h.sfit h1.2,h.un,h.ufit⟩
theorem Xkg (r s:Rec) (w:World):(Op.equalIn 10000 54 (.agg (X8 r).toArray) (.agg (X8 s).toArray)).run Tryz.prog w=.ok (decide (r=s)) w:=by
 have hS:Tryz.prog.underlying 54=some (.struct (Tryz.prog.fieldsOf 54)):=by kernel_rfl
 have hp:Tryz.prog.stoodInHeld 54=false:=by kernel_rfl
 have ui:=Qu3
 have ai:=Qg3
 have us:=Qu9
 have as9:=Qg9
 have ub:=Qu4
 have ab:=Qg4
 rw [show (10000:Nat)=9999+1 from rfl,run_equalIn_agg w 9999 54 _ _ hS hp]
 simp only [Program.fieldsOf,X18]
 obtain ⟨k,n,pa,u,sv,ur,m,us',uc,f⟩:=r
 obtain ⟨k',n',pa',u',sv',ur',m',us'',uc',f'⟩:=s
 unfold X8
 go_simp
 repeat' split
 all_goals simp_all
theorem Ex.neRec {n:Nat} {L:Env} {w:World} {d:Option Nat} {ty t':TypeId} {pos:String} {af:Array Edge} {g:Option (Nat×Bool)} {x y:Operand} {r s:Rec} (hx:Ev n L x (.agg (X8 r).toArray)) (hy:Ev n L y (.agg (X8 s).toArray)):Ex Tryz.prog n L w ⟨d,.binOp .neq 54 x y t',ty,pos,af,g⟩ (.bool (!decide (r=s))) w :=
 X16 hx hy (fun p q=>run_eqGuard_agg w _ _ _ _ _ _ (by kernel_rfl)) (by rw [run_neq_struct,Xkg]; rfl)
theorem rec_in {α:Type} [BEq α] [LawfulBEq α] {l:List α} {s:α}:l.contains s=true ↔ s∈l:=by simp
def Xde (s:List UInt8):List Value:=[S s]
theorem rowsT (l:List (List UInt8)):X28 Xde l=l.map S:=by
 unfold X28
 induction l with
 | nil=>rfl
 | cons x l ih=>rw [Y1e,Y1n,ih]; rfl
theorem In_any (a:Option Addr) (c:Nat) (l:List (List UInt8)) (hl:l.length≤9223372036854775807) (s:List UInt8) (B w:World) (I:Im) (As:List Xe) (hE:∀ w,Sat B w I As→Xbd w Xde 1 a l) (hS:Sat B w I As) :
  Calls Tryz.prog 24 [.slice a l.length c,S s].toArray w (Ret fun v w'=>v=.bool (l.contains s)∧Sat B w' I As):=by
 refine calls Tryz.func24 rfl Tryz.ntmps24 rfl (.seq (.q 1 rfl (.seq (.seq (.q 1 rfl (.block (.loop (σ:=Nat) (fun i=>[(0,.slice a l.length c),(1,S s),(5,I64 (i:Nat))]) (fun i w=>i≤l.length∧(∀ (j:Nat) x,j<i→l[j]?=some x→x≠s)∧Sat B w I As) (fun i=>l.length - i) 0 ⟨rfl,rfl,rfl,trivial⟩ ⟨Ys _,fun _ _ h=>absurd h (by omega),hS⟩ ?_)))))))
 rintro i w ⟨hi,hno,hS⟩
 change WC _ _ _ _ [(0,.slice a l.length c),(1,S s),(5,I64 (i:Nat))] w
 refine .seq (.seq (.region (.run 4 rfl ⟨⟨_,X1s⟩,trivial⟩ (.nil ?_))))
 refine WC.cond rfl (fun hb9=>?_) (fun hb9=>?_)
 ·
  have hc9:=hb9; try simp only [Y6] at hc9
  refine .skip (.seq (.block (.seq ?_)))
  obtain ⟨x,hx⟩:∃ x,l[i]?=some x:=⟨_,Y4 (by omega)⟩
  obtain ⟨p,rfl,hA⟩:=hE w hS i x hx
  have hc0:=hA 0 _ rfl
  refine .t 2 rfl ?_
  refine WL.val (.indexAddrI (.of rfl) (.of rfl) (by omega) (by omega) X1s Qs9) rfl ?_
  refine .val (v:=S x) (.ld1 (.of rfl) (by simpa [Addr.add_add] using hc0) Qg9) rfl (.q 2 rfl (.nil ?_))
  refine WC.cond rfl (fun hb17=>?_) (fun hb17=>?_)
  ·
   have hc17:=hb17; try simp only [Y6] at hc17
   refine .seq (.q 1 rfl (.ret (Xk Tryz.results24 rfl ?_)))
   refine ⟨_,rfl,congrArg Value.bool (rec_in.2 ?_).symm,hS⟩
   have e:x=s:=by simpa using hb17
   subst e
   exact Yn hx
  have hc17:=hb17; try simp only [Y6] at hc17
  refine .skip (.region (.run 3 rfl ⟨⟨by omega,by omega⟩,trivial⟩ (.nil ?_)))
  refine ⟨i+1,⟨rfl,rfl,rfl,trivial⟩,⟨by (try dsimp only); omega,fun j y hj hy=>?_,hS⟩,by (try dsimp only); omega⟩
  rcases Yw j i with h1 | h1
  ·exact hno j y h1 hy
  ·have e:j=i:=by omega
   subst e
   rw [hx] at hy; cases hy
   simpa using hb17
 have hc9:=hb9; try simp only [Y6] at hc9
 refine .exit (.seq (.q 1 rfl (.ret (Xk Tryz.results24 rfl ?_))))
 refine ⟨_,rfl,congrArg Value.bool (Y4y.2 fun h=>?_).symm,hS⟩
 obtain ⟨j,hj⟩:=Yx.1 (rec_in.1 h)
 have:=(Y5.1 hj).1
 exact hno j s (by omega) hj rfl
end Go.Proofs.YtfibbpgikjggfaaGreatDoor
namespace Go.Proofs.YtfibbpgikjggfaaGreatDoor
open Gk Ul Pc Tk Tr Go.RowKit Go.WideShapes Go.ChangeShapes
set_option maxRecDepth 100000
theorem Xjb {H:Type} {enc:TypeId×Value→H} {W:World} {spare:Nat→Bool} {held:Bool} {fuel:Nat} {cs:List Value} {x:DataW H×List MemPlace} (h:DataW.trod enc Tryz.prog W 0 spare held fuel 101 cs=some x):∃ z:Pr,cs=X1r z∧X1j z:=by
 obtain ⟨xs,n,_,_,hcl,hxl,hf⟩:=DataW.trod_struct Xj5 h
 rw [show Tryz.prog.cellsOf 101=2 from by kernel_rfl] at hcl
 obtain ⟨y0,hy0⟩:∃ y,DataW.trod enc Tryz.prog W 0 spare held n 9 ((cs.drop 0).take (Tryz.prog.cellsOf 9))=some y:=⟨_,(hf 0 _ rfl).trans (Y4 (by rw [hxl]; decide))⟩
 rw [show Tryz.prog.cellsOf 9=1 from by kernel_rfl] at hy0
 obtain ⟨y1,hy1⟩:∃ y,DataW.trod enc Tryz.prog W 0 spare held n 9 ((cs.drop 1).take (Tryz.prog.cellsOf 9))=some y:=⟨_,(hf 1 _ rfl).trans (Y4 (by rw [hxl]; decide))⟩
 rw [show Tryz.prog.cellsOf 9=1 from by kernel_rfl] at hy1
 obtain ⟨v0,v1,rfl⟩:∃ v0 v1,cs=[v0,v1]:=by
  match cs,hcl with
  | [v0,v1],_=>exact ⟨v0,v1,rfl⟩
 simp only [Y7,Yi,Y1r,Yj] at hy0 hy1
 obtain ⟨z0,e0,_,w0⟩:=DataW.trod_string Qu9 hy0
 obtain ⟨z1,e1,_,w1⟩:=DataW.trod_string Qu9 hy1
 simp only [List.cons.injEq,and_true] at e0 e1
 subst e0 e1
 exact ⟨(z0.data.toList,z1.data.toList),rfl,⟨w0,w1⟩⟩
def Xgd (r:Rec):Prop:=r.name.length≤maxLen∧r.parent.length≤maxLen∧r.user.length≤maxLen∧r.service.length≤maxLen∧r.url.length≤maxLen
theorem Xb0 {H:Type} {enc:TypeId×Value→H} {W:World} {spare:Nat→Bool} {held:Bool} {fuel:Nat} {cs:List Value} {x:DataW H×List MemPlace} (h:DataW.trod enc Tryz.prog W 0 spare held fuel 54 cs=some x):∃ z:Rec,cs=X8 z∧Xgd z:=by
 obtain ⟨xs,n,_,_,hcl,hxl,hf⟩:=DataW.trod_struct X18 h
 rw [show Tryz.prog.cellsOf 54=10 from by kernel_rfl] at hcl
 obtain ⟨y0,hy0⟩:∃ y,DataW.trod enc Tryz.prog W 0 spare held n 3 ((cs.drop 0).take (Tryz.prog.cellsOf 3))=some y:=⟨_,(hf 0 _ rfl).trans (Y4 (by rw [hxl]; decide))⟩
 rw [show Tryz.prog.cellsOf 3=1 from by kernel_rfl] at hy0
 obtain ⟨y1,hy1⟩:∃ y,DataW.trod enc Tryz.prog W 0 spare held n 9 ((cs.drop 1).take (Tryz.prog.cellsOf 9))=some y:=⟨_,(hf 1 _ rfl).trans (Y4 (by rw [hxl]; decide))⟩
 rw [show Tryz.prog.cellsOf 9=1 from by kernel_rfl] at hy1
 obtain ⟨y2,hy2⟩:∃ y,DataW.trod enc Tryz.prog W 0 spare held n 9 ((cs.drop 2).take (Tryz.prog.cellsOf 9))=some y:=⟨_,(hf 2 _ rfl).trans (Y4 (by rw [hxl]; decide))⟩
 rw [show Tryz.prog.cellsOf 9=1 from by kernel_rfl] at hy2
 obtain ⟨y3,hy3⟩:∃ y,DataW.trod enc Tryz.prog W 0 spare held n 9 ((cs.drop 3).take (Tryz.prog.cellsOf 9))=some y:=⟨_,(hf 3 _ rfl).trans (Y4 (by rw [hxl]; decide))⟩
 rw [show Tryz.prog.cellsOf 9=1 from by kernel_rfl] at hy3
 obtain ⟨y4,hy4⟩:∃ y,DataW.trod enc Tryz.prog W 0 spare held n 9 ((cs.drop 4).take (Tryz.prog.cellsOf 9))=some y:=⟨_,(hf 4 _ rfl).trans (Y4 (by rw [hxl]; decide))⟩
 rw [show Tryz.prog.cellsOf 9=1 from by kernel_rfl] at hy4
 obtain ⟨y5,hy5⟩:∃ y,DataW.trod enc Tryz.prog W 0 spare held n 9 ((cs.drop 5).take (Tryz.prog.cellsOf 9))=some y:=⟨_,(hf 5 _ rfl).trans (Y4 (by rw [hxl]; decide))⟩
 rw [show Tryz.prog.cellsOf 9=1 from by kernel_rfl] at hy5
 obtain ⟨y6,hy6⟩:∃ y,DataW.trod enc Tryz.prog W 0 spare held n 3 ((cs.drop 6).take (Tryz.prog.cellsOf 3))=some y:=⟨_,(hf 6 _ rfl).trans (Y4 (by rw [hxl]; decide))⟩
 rw [show Tryz.prog.cellsOf 3=1 from by kernel_rfl] at hy6
 obtain ⟨y7,hy7⟩:∃ y,DataW.trod enc Tryz.prog W 0 spare held n 3 ((cs.drop 7).take (Tryz.prog.cellsOf 3))=some y:=⟨_,(hf 7 _ rfl).trans (Y4 (by rw [hxl]; decide))⟩
 rw [show Tryz.prog.cellsOf 3=1 from by kernel_rfl] at hy7
 obtain ⟨y8,hy8⟩:∃ y,DataW.trod enc Tryz.prog W 0 spare held n 3 ((cs.drop 8).take (Tryz.prog.cellsOf 3))=some y:=⟨_,(hf 8 _ rfl).trans (Y4 (by rw [hxl]; decide))⟩
 rw [show Tryz.prog.cellsOf 3=1 from by kernel_rfl] at hy8
 obtain ⟨y9,hy9⟩:∃ y,DataW.trod enc Tryz.prog W 0 spare held n 4 ((cs.drop 9).take (Tryz.prog.cellsOf 4))=some y:=⟨_,(hf 9 _ rfl).trans (Y4 (by rw [hxl]; decide))⟩
 rw [show Tryz.prog.cellsOf 4=1 from by kernel_rfl] at hy9
 obtain ⟨v0,v1,v2,v3,v4,v5,v6,v7,v8,v9,rfl⟩:∃ v0 v1 v2 v3 v4 v5 v6 v7 v8 v9,cs=[v0,v1,v2,v3,v4,v5,v6,v7,v8,v9]:=by
  match cs,hcl with
  | [v0,v1,v2,v3,v4,v5,v6,v7,v8,v9],_=>exact ⟨v0,v1,v2,v3,v4,v5,v6,v7,v8,v9,rfl⟩
 simp only [Y7,Yi,Y1r,Yj] at hy0 hy1 hy2 hy3 hy4 hy5 hy6 hy7 hy8 hy9
 obtain ⟨z0,e0,_,w0⟩:=DataW.trod_int Qu3 hy0
 obtain ⟨z1,e1,_,w1⟩:=DataW.trod_string Qu9 hy1
 obtain ⟨z2,e2,_,w2⟩:=DataW.trod_string Qu9 hy2
 obtain ⟨z3,e3,_,w3⟩:=DataW.trod_string Qu9 hy3
 obtain ⟨z4,e4,_,w4⟩:=DataW.trod_string Qu9 hy4
 obtain ⟨z5,e5,_,w5⟩:=DataW.trod_string Qu9 hy5
 obtain ⟨z6,e6,_,w6⟩:=DataW.trod_int Qu3 hy6
 obtain ⟨z7,e7,_,w7⟩:=DataW.trod_int Qu3 hy7
 obtain ⟨z8,e8,_,w8⟩:=DataW.trod_int Qu3 hy8
 obtain ⟨z9,e9,_⟩:=DataW.trod_bool Qu4 hy9
 simp only [List.cons.injEq,and_true] at e0 e1 e2 e3 e4 e5 e6 e7 e8 e9
 subst e0 e1 e2 e3 e4 e5 e6 e7 e8 e9
 exact ⟨⟨z0,z1.data.toList,z2.data.toList,z3.data.toList,z4.data.toList,z5.data.toList,z6,z7,z8,z9⟩,rfl,⟨w1,w2,w3,w4,w5⟩⟩
theorem X36 {α:Type} {cells:α→List Value} {c:Nat} {fit:α→Prop} {t e:TypeId} {H:Type} {enc:TypeId×Value→H} {W:World} {spare:Nat→Bool} {held:Bool} {fuel:Nat} {cs:List Value} {x:DataW H×List MemPlace} (ht:Tryz.prog.underlying t=some (.slice e)) (hc:Tryz.prog.cellsOf e=c) (hc0:0<c)
  (one:∀ n cs y,DataW.trod enc Tryz.prog W 0 spare held n e cs=some y→∃ z:α,cs=cells z∧fit z) (h:DataW.trod enc Tryz.prog W 0 spare held fuel t cs=some x) :
  ∃ (a:Option Addr) (cap:Nat) (l:List α),cs=[.slice a l.length cap]∧l.length≤cap∧cap≤maxLen∧RS (im0 W) a c l.length (X28 cells l)∧∀ z∈l,fit z:=by
 obtain ⟨a,cap,L,n,rfl,h1,h2,h3,h4,h5⟩:=X4o ht hc hc0 h
 have key:∀ L:List (List Value),(∀ l∈L,∃ y,DataW.trod enc Tryz.prog W 0 spare held n e l=some y)→∃ l:List α,L=l.map cells∧∀ z∈l,fit z:=by
  intro L
  induction L with
  | nil=>intro _; exact ⟨[],rfl,fun z h=>by simp at h⟩
  | cons c L ih =>
   intro h
   obtain ⟨y,hy⟩:=h c (by simp)
   obtain ⟨z,rfl,hf⟩:=one n c y hy
   obtain ⟨l,rfl,e2⟩:=ih (fun c hc=>h c (by simp [hc]))
   exact ⟨z::l,rfl,fun u hu=>by
    rcases Y14.1 hu with e | hu
    ·subst e; exact hf
    ·exact e2 u hu⟩
 obtain ⟨l,rfl,hfit⟩:=key L h5
 rw [Yy] at h1 h4
 exact ⟨a,cap,l,by rw [Yy],h1,h2,h4,hfit⟩
theorem Xog {H:Type} {enc:TypeId×Value→H} {W:World} {spare:Nat→Bool} {held:Bool} {fuel:Nat} {cs:List Value} {x:DataW H×List MemPlace} (h:DataW.trod enc Tryz.prog W 0 spare held fuel 178 cs=some x):∃ u:Us,UsAt (im0 W) u cs∧u.fits:=by
 obtain ⟨xs,n,_,_,hcl,hxl,hf⟩:=DataW.trod_struct X5b h
 rw [show Tryz.prog.cellsOf 178=3 from by kernel_rfl] at hcl
 obtain ⟨y0,hy0⟩:∃ y,DataW.trod enc Tryz.prog W 0 spare held n 9 ((cs.drop 0).take (Tryz.prog.cellsOf 9))=some y:=⟨_,(hf 0 _ rfl).trans (Y4 (by rw [hxl]; decide))⟩
 rw [show Tryz.prog.cellsOf 9=1 from by kernel_rfl] at hy0
 obtain ⟨y1,hy1⟩:∃ y,DataW.trod enc Tryz.prog W 0 spare held n 9 ((cs.drop 1).take (Tryz.prog.cellsOf 9))=some y:=⟨_,(hf 1 _ rfl).trans (Y4 (by rw [hxl]; decide))⟩
 rw [show Tryz.prog.cellsOf 9=1 from by kernel_rfl] at hy1
 obtain ⟨y2,hy2⟩:∃ y,DataW.trod enc Tryz.prog W 0 spare held n 95 ((cs.drop 2).take (Tryz.prog.cellsOf 95))=some y:=⟨_,(hf 2 _ rfl).trans (Y4 (by rw [hxl]; decide))⟩
 rw [show Tryz.prog.cellsOf 95=1 from by kernel_rfl] at hy2
 obtain ⟨v0,v1,v2,rfl⟩:∃ v0 v1 v2,cs=[v0,v1,v2]:=by
  match cs,hcl with
  | [v0,v1,v2],_=>exact ⟨v0,v1,v2,rfl⟩
 simp only [Y7,Yi,Y1r,Yj] at hy0 hy1 hy2
 obtain ⟨z0,e0,_,w0⟩:=DataW.trod_string Qu9 hy0
 obtain ⟨z1,e1,_,w1⟩:=DataW.trod_string Qu9 hy1
 obtain ⟨a,c,l,e2,h1,h2,h3,h4⟩:=X36 (cells:=X1r) (c:=2) (fit:=X1j) Xl1 (by kernel_rfl) (by decide) (fun n cs y h=>Xjb h) hy2
 simp only [List.cons.injEq,and_true] at e0 e1 e2
 subst e0 e1 e2
 exact ⟨⟨z0.data.toList,z1.data.toList,l⟩,⟨a,c,rfl,h1,h3⟩,⟨w0,w1,Y2m h1 h2,h4⟩⟩
theorem Xjj {H:Type} {enc:TypeId×Value→H} {W:World} {spare:Nat→Bool} {held:Bool} {fuel:Nat} {cs:List Value} {x:DataW H×List MemPlace} (h:DataW.trod enc Tryz.prog W 0 spare held fuel 23 cs=some x):∃ (a:Option Addr) (cap:Nat) (l:List Us),cs=[.slice a l.length cap]∧l.length≤cap∧cap≤maxLen∧UsrsAt (im0 W) a l∧∀ u∈l,u.fits:=by
 obtain ⟨a,cap,L,n,rfl,h1,h2,h3,h4,h5⟩:=X4o (c:=3) Xiz (by kernel_rfl) (by decide) h
 have key:∀ L:List (List Value),(∀ l∈L,∃ y,DataW.trod enc Tryz.prog W 0 spare held n 178 l=some y)→∃ l:List Us,L.length=l.length∧∀ (i:Nat) (u:Us),l[i]?=some u→u.fits∧∃ c,L[i]?=some c∧UsAt (im0 W) u c:=by
  intro L
  induction L with
  | nil=>intro _; exact ⟨[],rfl,fun i s h=>by simp at h⟩
  | cons c L ih =>
   intro h
   obtain ⟨y,hy⟩:=h c (by simp)
   obtain ⟨s,hs,hf⟩:=Xog hy
   obtain ⟨l,e1,e2⟩:=ih (fun c hc=>h c (by simp [hc]))
   refine ⟨s::l,by simp [e1],fun i u hu=>?_⟩
   cases i with
   | zero=>simp at hu; subst hu; exact ⟨hf,c,rfl,hs⟩
   | succ i=>simpa using e2 i u (by simpa using hu)
 obtain ⟨l,e1,e2⟩:=key L h5
 refine ⟨a,cap,l,by rw [e1],by rw [← e1]; exact h1,h2,fun i u hu=>?_,fun u hu=>?_⟩
 ·obtain ⟨_,c,hc,ra,rc,rfl,h6,h7⟩:=e2 i u hu
  obtain ⟨p,rfl,hp⟩:=h4.2 (by have:=(Y5.1 hc).1; omega)
  have h8:=X3e (hp.add (i*3)) 3
  rw [X1q L h3 i _ hc] at h8
  exact ⟨p,ra,rc,rfl,h8,h6,h7⟩
 ·obtain ⟨i,hi⟩:=Yx.1 hu
  exact (e2 i u hi).1
theorem Xbp {H:Type} {enc:TypeId×Value→H} {W:World} {spare:Nat→Bool} {held:Bool} {fuel:Nat} {cs:List Value} {x:DataW H×List MemPlace} (h:DataW.trod enc Tryz.prog W 0 spare held fuel 24 cs=some x):∃ l:List Int,l.length=7∧cs=l.map I64:=by
 obtain ⟨xs,n,_,_,hcl,hxl,hf⟩:=DataW.trod_array Xrp h
 rw [show Tryz.prog.cellsOf 24=7 from by kernel_rfl] at hcl
 rw [show Tryz.prog.cellsOf 3=1 from by kernel_rfl] at hf
 have each:∀ v∈cs,∃ z:Int,v=I64 z:=by
  intro v hv
  obtain ⟨i,hi⟩:=Yx.1 hv
  have hil:=(Y5.1 hi).1
  obtain ⟨y,hy⟩:∃ y,xs[i]?=some y:=⟨_,Y4 (by omega)⟩
  have h2:=(hf i (by omega)).trans hy
  obtain ⟨z,e,_⟩:=DataW.trod_int Qu3 h2
  rw [Y1k,Y1m hil,Y1r,Yj,(Y5.1 hi).2] at e
  exact ⟨z,(List.cons.inj e).1⟩
 have key:∀ cs:List Value,(∀ v∈cs,∃ z:Int,v=I64 z)→∃ l:List Int,cs=l.map I64:=by
  intro cs
  induction cs with
  | nil=>intro _; exact ⟨[],rfl⟩
  | cons v r ih =>
   intro h
   obtain ⟨z,rfl⟩:=h v (by simp)
   obtain ⟨l,rfl⟩:=ih (fun v hv=>h v (by simp [hv]))
   exact ⟨z::l,rfl⟩
 obtain ⟨l,rfl⟩:=key cs each
 exact ⟨l,by simpa using hcl,rfl⟩
theorem psL_of {L:List Int} (h:L.length=21):psL (fun i=>L.getD i 0)=L:=by
 match L,h with
 | [a0,a1,a2,a3,a4,a5,a6,a7,a8,a9,a10,a11,a12,a13,a14,a15,a16,a17,a18,a19,a20],_=>rfl
theorem Xp4 {H:Type} {enc:TypeId×Value→H} {W:World} {spare:Nat→Bool} {held:Bool} {fuel:Nat} {cs:List Value} {x:DataW H×List MemPlace} (h:DataW.trod enc Tryz.prog W 0 spare held fuel 26 cs=some x):∃ p:Nat→Int,cs=(psL p).map I64:=by
 obtain ⟨xs,n,_,_,hcl,hxl,hf⟩:=DataW.trod_struct Xr8 h
 rw [show Tryz.prog.cellsOf 26=21 from by kernel_rfl] at hcl
 obtain ⟨y0,hy0⟩:∃ y,DataW.trod enc Tryz.prog W 0 spare held n 24 ((cs.drop 0).take (Tryz.prog.cellsOf 24))=some y:=⟨_,(hf 0 _ rfl).trans (Y4 (by rw [hxl]; decide))⟩
 rw [show Tryz.prog.cellsOf 24=7 from by kernel_rfl] at hy0
 obtain ⟨y1,hy1⟩:∃ y,DataW.trod enc Tryz.prog W 0 spare held n 24 ((cs.drop 7).take (Tryz.prog.cellsOf 24))=some y:=⟨_,(hf 1 _ rfl).trans (Y4 (by rw [hxl]; decide))⟩
 rw [show Tryz.prog.cellsOf 24=7 from by kernel_rfl] at hy1
 obtain ⟨y2,hy2⟩:∃ y,DataW.trod enc Tryz.prog W 0 spare held n 24 ((cs.drop 14).take (Tryz.prog.cellsOf 24))=some y:=⟨_,(hf 2 _ rfl).trans (Y4 (by rw [hxl]; decide))⟩
 rw [show Tryz.prog.cellsOf 24=7 from by kernel_rfl] at hy2
 obtain ⟨v0,v1,v2,v3,v4,v5,v6,v7,v8,v9,v10,v11,v12,v13,v14,v15,v16,v17,v18,v19,v20,rfl⟩:∃ v0 v1 v2 v3 v4 v5 v6 v7 v8 v9 v10 v11 v12 v13 v14 v15 v16 v17 v18 v19 v20,cs=[v0,v1,v2,v3,v4,v5,v6,v7,v8,v9,v10,v11,v12,v13,v14,v15,v16,v17,v18,v19,v20]:=by
  match cs,hcl with
  | [v0,v1,v2,v3,v4,v5,v6,v7,v8,v9,v10,v11,v12,v13,v14,v15,v16,v17,v18,v19,v20],_=>exact ⟨v0,v1,v2,v3,v4,v5,v6,v7,v8,v9,v10,v11,v12,v13,v14,v15,v16,v17,v18,v19,v20,rfl⟩
 simp only [Y7,Yi,Y1r,Yj] at hy0 hy1 hy2
 obtain ⟨l0,h0,e0⟩:=Xbp hy0
 obtain ⟨l1,h1,e1⟩:=Xbp hy1
 obtain ⟨l2,h2,e2⟩:=Xbp hy2
 refine ⟨fun i=>(l0 ++ (l1 ++ l2)).getD i 0,?_⟩
 rw [psL_of (by simp only [Y0]; omega),Yv,Yv,← e0,← e1,← e2]
 rfl
theorem Xb7 {H:Type} {enc:TypeId×Value→H} {W:World} {spare:Nat→Bool} {held:Bool} {fuel:Nat} {cs:List Value} {x:DataW H×List MemPlace} (h:DataW.trod enc Tryz.prog W 0 spare held fuel 29 cs=some x):∃ (c:Cf) (a:Option Addr) (cap:Nat) (ua:Option Addr) (ucap:Nat),cs=Xl c a cap ua ucap∧CfAt (im0 W) c a cap ua ucap:=by
 obtain ⟨xs,n,_,_,hcl,hxl,hf⟩:=DataW.trod_struct Xiq h
 rw [show Tryz.prog.cellsOf 29=28 from by kernel_rfl] at hcl
 obtain ⟨y0,hy0⟩:∃ y,DataW.trod enc Tryz.prog W 0 spare held n 22 ((cs.drop 0).take (Tryz.prog.cellsOf 22))=some y:=⟨_,(hf 0 _ rfl).trans (Y4 (by rw [hxl]; decide))⟩
 rw [show Tryz.prog.cellsOf 22=1 from by kernel_rfl] at hy0
 obtain ⟨y1,hy1⟩:∃ y,DataW.trod enc Tryz.prog W 0 spare held n 23 ((cs.drop 1).take (Tryz.prog.cellsOf 23))=some y:=⟨_,(hf 1 _ rfl).trans (Y4 (by rw [hxl]; decide))⟩
 rw [show Tryz.prog.cellsOf 23=1 from by kernel_rfl] at hy1
 obtain ⟨y2,hy2⟩:∃ y,DataW.trod enc Tryz.prog W 0 spare held n 26 ((cs.drop 2).take (Tryz.prog.cellsOf 26))=some y:=⟨_,(hf 2 _ rfl).trans (Y4 (by rw [hxl]; decide))⟩
 rw [show Tryz.prog.cellsOf 26=21 from by kernel_rfl] at hy2
 obtain ⟨y3,hy3⟩:∃ y,DataW.trod enc Tryz.prog W 0 spare held n 3 ((cs.drop 23).take (Tryz.prog.cellsOf 3))=some y:=⟨_,(hf 3 _ rfl).trans (Y4 (by rw [hxl]; decide))⟩
 rw [show Tryz.prog.cellsOf 3=1 from by kernel_rfl] at hy3
 obtain ⟨y4,hy4⟩:∃ y,DataW.trod enc Tryz.prog W 0 spare held n 27 ((cs.drop 24).take (Tryz.prog.cellsOf 27))=some y:=⟨_,(hf 4 _ rfl).trans (Y4 (by rw [hxl]; decide))⟩
 rw [show Tryz.prog.cellsOf 27=1 from by kernel_rfl] at hy4
 obtain ⟨y5,hy5⟩:∃ y,DataW.trod enc Tryz.prog W 0 spare held n 27 ((cs.drop 25).take (Tryz.prog.cellsOf 27))=some y:=⟨_,(hf 5 _ rfl).trans (Y4 (by rw [hxl]; decide))⟩
 rw [show Tryz.prog.cellsOf 27=1 from by kernel_rfl] at hy5
 obtain ⟨y6,hy6⟩:∃ y,DataW.trod enc Tryz.prog W 0 spare held n 27 ((cs.drop 26).take (Tryz.prog.cellsOf 27))=some y:=⟨_,(hf 6 _ rfl).trans (Y4 (by rw [hxl]; decide))⟩
 rw [show Tryz.prog.cellsOf 27=1 from by kernel_rfl] at hy6
 obtain ⟨y7,hy7⟩:∃ y,DataW.trod enc Tryz.prog W 0 spare held n 3 ((cs.drop 27).take (Tryz.prog.cellsOf 3))=some y:=⟨_,(hf 7 _ rfl).trans (Y4 (by rw [hxl]; decide))⟩
 rw [show Tryz.prog.cellsOf 3=1 from by kernel_rfl] at hy7
 obtain ⟨v0,v1,v2,v3,v4,v5,v6,v7,v8,v9,v10,v11,v12,v13,v14,v15,v16,v17,v18,v19,v20,v21,v22,v23,v24,v25,v26,v27,rfl⟩:∃ v0 v1 v2 v3 v4 v5 v6 v7 v8 v9 v10 v11 v12 v13 v14 v15 v16 v17 v18 v19 v20 v21 v22 v23 v24 v25 v26 v27,cs=[v0,v1,v2,v3,v4,v5,v6,v7,v8,v9,v10,v11,v12,v13,v14,v15,v16,v17,v18,v19,v20,v21,v22,v23,v24,v25,v26,v27]:=by
  match cs,hcl with
  | [v0,v1,v2,v3,v4,v5,v6,v7,v8,v9,v10,v11,v12,v13,v14,v15,v16,v17,v18,v19,v20,v21,v22,v23,v24,v25,v26,v27],_=>exact ⟨v0,v1,v2,v3,v4,v5,v6,v7,v8,v9,v10,v11,v12,v13,v14,v15,v16,v17,v18,v19,v20,v21,v22,v23,v24,v25,v26,v27,rfl⟩
 simp only [Y7,Yi,Y1r,Yj] at hy0 hy1 hy2 hy3 hy4 hy5 hy6 hy7
 obtain ⟨a,cap,L,l,e0,h1,h2,h3,h4,h5,h6⟩:=Xjk hy0
 obtain ⟨ua,ucap,us,e1,h7,h8,h9,h10⟩:=Xjj hy1
 obtain ⟨ps,e2⟩:=Xp4 hy2
 obtain ⟨z3,e3,_⟩:=DataW.trod_int Qu3 hy3
 obtain ⟨z4,e4,_⟩:=X40 Qu27 hy4
 obtain ⟨z5,e5,_⟩:=X40 Qu27 hy5
 obtain ⟨z6,e6,_⟩:=X40 Qu27 hy6
 obtain ⟨z7,e7,_⟩:=DataW.trod_int Qu3 hy7
 simp only [List.cons.injEq,and_true] at e0 e1 e3 e4 e5 e6 e7
 subst e0 e1 e3 e4 e5 e6 e7
 refine ⟨⟨l,us,ps,z3,z4,z5,z6,z7⟩,a,cap,ua,ucap,?_,svs_of h4 h5 (fun i s hs=>(h6 i s hs).2),h9,⟨by rw [← h3]; exact h1,h2⟩,Y2m h7 h8,fun s hs=>?_,h10⟩
 ·show _=Value.slice a l.length cap::Value.slice ua us.length ucap::((psL ps).map I64 ++ _)
  rw [← e2,← h3]; rfl
 ·obtain ⟨i,hi⟩:=Yx.1 hs
  exact (h6 i s hi).1
end Go.Proofs.YtfibbpgikjggfaaGreatDoor
namespace Go.Proofs.YtfibbpgikjggfaaGreatDoor
open Gk Ul Pc Tk Tr
structure Op where
 act:Int
 n:Int
 d:List Nat
 a:Int
 b:List UInt8
 c:List UInt8
 f:Bool
 r:Rec
 q:Ak
def Xrz (o:Op) (da:Option Addr) (dc:Nat):List Value:=[I64 o.act,I64 o.n,.slice da o.d.length dc,I64 o.a,S o.b,S o.c,.bool o.f,I64 o.r.kind,S o.r.name,S o.r.parent,S o.r.user,S o.r.service,S o.r.url,I64 o.r.made,I64 o.r.used,I64 o.r.uses,.bool o.r.fresh,S o.q.service,S o.q.cookie,.bool o.q.has,.bool o.q.renew,.bool o.q.gateway,.bool o.q.warn]
def OpAt (I:Im) (o:Op) (cs:List Value):Prop:=∃ da dc,cs=Xrz o da dc∧o.d.length≤dc∧dc≤maxLen∧RS I da 1 o.d.length (o.d.map fun d=>U64 (d:Nat))
def OpsAt (I:Im) (a:Option Addr) (l:List Op):Prop:=∃ L:List (List Value),L.length=l.length∧(∀ c∈L,c.length=23)∧RS I a 23 l.length L.flatten∧∀ (i:Nat) (o:Op),l[i]?=some o→∃ cs,L[i]?=some cs∧OpAt I o cs
theorem OpAt.mono {I J:Im} {o:Op} {cs:List Value} (h:OpAt I o cs) (hl:Le I J):OpAt J o cs:=by
 obtain ⟨da,dc,e,h1,h2,h3⟩:=h
 exact ⟨da,dc,e,h1,h2,h3.mono hl⟩
theorem OpsAt.mono {I J:Im} {a:Option Addr} {l:List Op} (h:OpsAt I a l) (hl:Le I J):OpsAt J a l:=by
 obtain ⟨L,h1,h2,h3,h4⟩:=h
 exact ⟨L,h1,h2,h3.mono hl,fun i o ho=>by
  obtain ⟨cs,h5,h6⟩:=h4 i o ho
  exact ⟨cs,h5,h6.mono hl⟩⟩
theorem OpsAt.at {I:Im} {a:Option Addr} {l:List Op} (h:OpsAt I a l) (i:Nat) (u:Op) (hu:l[i]?=some u):∃ p cs,a=some p∧At I (p.add (i*23)) cs∧OpAt I u cs:=by
 obtain ⟨L,h1,h2,h3,h4⟩:=h
 obtain ⟨cs,h5,h6⟩:=h4 i u hu
 obtain ⟨p,rfl,hp⟩:=h3.2 (by have:=(Y5.1 hu).1; omega)
 refine ⟨p,cs,rfl,?_,h6⟩
 have h8:=X3e (hp.add (i*23)) 23
 rw [X1q L h2 i _ h5] at h8
 exact h8
structure Op.fits (o:Op):Prop where
 d:∀ x∈o.d,x<18446744073709551616
 b:o.b.length≤maxLen
 c:o.c.length≤maxLen
def X9 (ω:Wd) (d:List Nat):Wd:={ ω with D:=ω.D ++ d }
theorem X67 {ω:Wd} (h:X39 ω) {d:List Nat} (hd:∀ x∈d,x<18446744073709551616):X39 (X9 ω d):=⟨h.len,h.wf,fun x hx=>by
 rcases Y10.1 hx with h1 | h1
 ·exact h.D x h1
 ·exact hd x h1,h.now,h.room⟩
theorem Xm7 {ω:Wd} {r:Rec}:(mkW ω r).2.D.length≤ω.D.length:=by
 have h:(mkN ω r).2.length≤ω.D.length:=by
  unfold mkN X3n
  split
  ·exact Yr _
  ·cases ω.D with
   | nil=>exact Yr _
   | cons d D=>dsimp only; split <;> simp
 unfold mkW
 split
 ·exact h
 ·exact h
end Go.Proofs.YtfibbpgikjggfaaGreatDoor
