/- Part 5 of what the proof stands on: W17g, W18o, W18q, W18r, W21c, W21d, W21e, W21h, W21i, W21j, Tbw, W21l, GkM, GkN, W21m, W21n, W18s, W18t, W18u, W18v. -/
import Derived.Test.YtadhiihnnkcagaaGreatDoorM2VD
import Derived.DataElems
import Derived.Lib.LazyBuf
import Derived.WideMake
set_option linter.unusedVariables false
set_option linter.unusedSimpArgs false
namespace Go.Proofs.YtadhiihnnkcagaaGreatDoor
open Gk Pat
theorem Xnk {l:List UInt8} {k:Nat} {d:Int} {out X:List Int} (h:(match l.drop (k+1) with | []=>out | _::r'=>barsGo r' ((k:Int)+2) d out)=X):barsGo (l.drop (k+2)) ((k:Int)+2) d out=X:=by
 cases hd:l.drop (k+1) with
 | nil =>
  rw [hd] at h
  have e:l.drop (k+2)=[]:=by rw [List.drop_eq_nil_iff] at hd ⊢; omega
  rw [e,Xa4]; exact h
 | cons x r =>
  rw [hd] at h
  have e:l.drop (k+2)=r:=by rw [show k+2=(k+1)+1 from rfl,← Y1l,hd]; rfl
  rw [e]; exact h
set_option maxHeartbeats 800000 in
theorem Xm8 (l:List UInt8) (i:Nat) (hi:i<l.length) (hl:l.length≤1000000) (B w:World) (I:Im) (As:List Xe) (hS:Sat B w I As) :
  Calls Tryz.prog 195 [S l,I64 (i:Nat)].toArray w (Ret fun v w'=>∃ J a c,Le I J∧v=.slice a (barsGo (l.drop i) i 0 []).length c∧RS J a 1 (barsGo (l.drop i) i 0 []).length ((barsGo (l.drop i) i 0 []).map I64)∧Sat B w' J As):=by
 refine calls Tryz.func195 rfl Tryz.ntmps195 rfl (.seq (.q 1 rfl (.seq (.region (.val (.assign (.of rfl)) rfl ?_)))))
 replace hS:=hS.vecNil 3 1
 refine .nil (.seq (.q 1 rfl (.seq (.seq (.q 2 rfl (.block (.loop (σ:=Nat×Int×Value×List Int) (fun ⟨k,deep,v,out⟩=>[(0,S l),(5,v),(6,I64 deep),(7,I64 (k:Nat))]) (fun ⟨k,deep,v,out⟩ w=>k≤l.length+1∧-(k:Int)≤deep∧deep≤k∧out.length≤k∧barsGo (l.drop k) k deep out=barsGo (l.drop i) i 0 []∧Sat B w I (Vec 3 1 v out.length (out.map I64)::As)) (fun ⟨k,deep,v,out⟩=>l.length+1 - k) (i,0,.slice none 0 0,[]) ⟨rfl,rfl,rfl,rfl,trivial⟩ ⟨by omega,by omega,by omega,by simp,rfl,hS⟩ ?_)))))))
 rintro ⟨k,deep,v,out⟩ w ⟨hk,hd1,hd2,hol,hq,hS⟩
 refine .seq (.seq (.region (.run 4 rfl ⟨Qu9,trivial⟩ (.nil ?_))))
 refine WC.cond rfl (fun hb12=>?_) (fun hb12=>?_)
 ·
  have hc12:=hb12; try simp only [Y6] at hc12
  refine .skip (.seq (.block (.seq (.region (.run 3 rfl ⟨⟨⟨by omega,by omega⟩,Qu9⟩,trivial⟩ (.nil (.block (.seq (.q 2 rfl ?_)))))))))
  refine WC.cond rfl (fun hb18=>?_) (fun hb18=>?_)
  ·
   have hc18:=hb18; try simp only [Y6] at hc18
   refine .region (.run 3 rfl ⟨⟨by omega,by omega⟩,trivial⟩ (.nil (.region (.run 3 rfl ⟨⟨by omega,by omega⟩,trivial⟩ (.nil ?_)))))
   have e9:=hq
   rw [Xg l (by omega),Xn,if_pos (by omega)] at e9
   have e9:=Xnk e9
   refine ⟨(k+2,deep,v,out),⟨rfl,rfl,rfl,rfl,trivial⟩,⟨by omega,by omega,by omega,by (try simp only [Y0,Y1g]); omega,?_,?_⟩,by dsimp only; omega⟩
   ·exact e9
   ·exact hS
  have hc18:=hb18; try simp only [Y6] at hc18
  refine .seq (.q 2 rfl ?_)
  refine WC.cond rfl (fun hb22=>?_) (fun hb22=>?_)
  ·
   have hc22:=hb22; try simp only [Y6] at hc22
   refine .region (.run 3 rfl ⟨⟨by omega,by omega⟩,trivial⟩ (.nil (.region (.run 3 rfl ⟨⟨by omega,by omega⟩,trivial⟩ (.nil ?_)))))
   have e9:=hq
   rw [Xg l (by omega),Xn,if_neg (by omega),if_pos (by omega)] at e9
   refine ⟨(k+1,deep+1,v,out),⟨rfl,rfl,rfl,rfl,trivial⟩,⟨by omega,by omega,by omega,by (try simp only [Y0,Y1g]); omega,?_,?_⟩,by dsimp only; omega⟩
   ·exact e9
   ·exact hS
  have hc22:=hb22; try simp only [Y6] at hc22
  refine .seq (.q 2 rfl ?_)
  refine WC.cond rfl (fun hb26=>?_) (fun hb26=>?_)
  ·
   have hc26:=hb26; try simp only [Y6] at hc26
   refine .seq (.q 2 rfl ?_)
   refine WC.cond rfl (fun hb29=>?_) (fun hb29=>?_)
   ·
    have hc29:=hb29; try simp only [Y6] at hc29
    refine .t 2 rfl (.buildSlice (cs:=[_]) hS (X5 (.of rfl) X6) Xi Qs3 Qz3 rfl rfl rfl rfl ?_)
    clear hS; intro b32 w hS
    refine WL.append (size:=1) (bytes:=8) hS (.of rfl) (.of rfl) (k:=0) rfl Xi X1e rfl rfl rfl rfl rfl rfl rfl ⟨by omega,by unfold maxLen; omega⟩ rfl ?_
    clear hS; intro v33 w hS
    obtain ⟨a33,c33,rfl,hcap33,_⟩:=hS.vecSlice (k:=0) (v:=v33) rfl
    refine .q 1 rfl (.nil (.region (.run 3 rfl ⟨⟨by omega,by omega⟩,trivial⟩ (.nil ?_))))
    have e9:=hq
    rw [Xg l (by omega),Xn,if_neg (by omega),if_neg (by omega),if_pos (by omega),if_pos (by omega)] at e9
    refine ⟨(k+1,deep,.slice a33 (out.length+1) c33,out ++ [(k:Int)]),⟨rfl,rfl,rfl,rfl,trivial⟩,⟨by omega,by omega,by omega,by (try simp only [Y0,Y1g]); omega,?_,?_⟩,by dsimp only; omega⟩
    ·exact e9
    ·rw [Y0,Yx]; exact hS
   have hc29:=hb29; try simp only [Y6] at hc29
   refine .skip (.region (.run 3 rfl ⟨⟨by omega,by omega⟩,trivial⟩ (.nil ?_)))
   have e9:=hq
   rw [Xg l (by omega),Xn,if_neg (by omega),if_neg (by omega),if_pos (by omega),if_neg (by omega)] at e9
   refine ⟨(k+1,deep,v,out),⟨rfl,rfl,rfl,rfl,trivial⟩,⟨by omega,by omega,by omega,by (try simp only [Y0,Y1g]); omega,?_,?_⟩,by dsimp only; omega⟩
   ·exact e9
   ·exact hS
  have hc26:=hb26; try simp only [Y6] at hc26
  refine .seq (.q 2 rfl ?_)
  refine WC.cond rfl (fun hb34=>?_) (fun hb34=>?_)
  ·
   have hc34:=hb34; try simp only [Y6] at hc34
   refine .seq (.region (.run 3 rfl ⟨⟨by omega,by omega⟩,trivial⟩ (.nil (.seq (.q 2 rfl ?_)))))
   refine WC.cond rfl (fun hb39=>?_) (fun hb39=>?_)
   ·
    have hc39:=hb39; try simp only [Y6] at hc39
    refine .seq (.t 2 rfl (.buildSlice (cs:=[_]) hS (X5 (.of rfl) X6) Xi Qs3 Qz3 rfl rfl rfl rfl ?_))
    clear hS; intro b42 w hS
    refine WL.append (size:=1) (bytes:=8) hS (.of rfl) (.of rfl) (k:=0) rfl Xi X1e rfl rfl rfl rfl rfl rfl rfl ⟨by omega,by unfold maxLen; omega⟩ rfl ?_
    clear hS; intro v43 w hS
    obtain ⟨a43,c43,rfl,hcap43,_⟩:=hS.vecSlice (k:=0) (v:=v43) rfl
    refine .q 1 rfl (.nil (.ret (Xh Tryz.results195 rfl ?_)))
    have e9:=hq
    rw [Xg l (by omega),Xn,if_neg (by omega),if_neg (by omega),if_neg (by omega),if_pos (by omega),if_pos (by omega)] at e9
    rw [← e9]
    obtain ⟨J,hJ,hrs,hS⟩:=hS.freezeVec (k:=0) rfl
    exact ⟨_,rfl,J,_,_,hJ,by rw [Y0]; rfl,by rw [Y0,Yx]; exact hrs,hS⟩
   have hc39:=hb39; try simp only [Y6] at hc39
   refine .skip (.region (.run 3 rfl ⟨⟨by omega,by omega⟩,trivial⟩ (.nil ?_)))
   have e9:=hq
   rw [Xg l (by omega),Xn,if_neg (by omega),if_neg (by omega),if_neg (by omega),if_pos (by omega),if_neg (by omega)] at e9
   refine ⟨(k+1,deep - 1,v,out),⟨rfl,rfl,rfl,rfl,trivial⟩,⟨by omega,by omega,by omega,by (try simp only [Y0,Y1g]); omega,?_,?_⟩,by dsimp only; omega⟩
   ·exact e9
   ·exact hS
  have hc34:=hb34; try simp only [Y6] at hc34
  refine .skip (.region (.run 3 rfl ⟨⟨by omega,by omega⟩,trivial⟩ (.nil ?_)))
  have e9:=hq
  rw [Xg l (by omega),Xn,if_neg (by omega),if_neg (by omega),if_neg (by omega),if_neg (by omega)] at e9
  refine ⟨(k+1,deep,v,out),⟨rfl,rfl,rfl,rfl,trivial⟩,⟨by omega,by omega,by omega,by (try simp only [Y0,Y1g]); omega,?_,?_⟩,by dsimp only; omega⟩
  ·exact e9
  ·exact hS
 have hc12:=hb12; try simp only [Y6] at hc12
 refine .exit (.seq (.q 2 rfl (.ret (Xh Tryz.results195 rfl ?_))))
 obtain ⟨va,vc,rfl,_,_⟩:=hS.vecSlice (k:=0) rfl
 have e9:=hq
 rw [Y16 (by omega),Xa4] at e9
 rw [← e9]
 obtain ⟨J,hJ,hrs,hS⟩:=hS.freezeVec (k:=0) rfl
 exact ⟨_,rfl,J,_,_,hJ,rfl,hrs,hS⟩
theorem Xcw {s:List UInt8} {fr0 fr:List Bool} {D:Xbn} (hE:EndsAt s fr0 D fr) (p:Addr) (c:Nat) (kind:Int) (own:UInt8) (many:Bool) (k c0:Int) (hu:∀ x,takes kind own x=X1k k c0 x) (hm:many=true ↔ (k=2∨k=3)) (B w:World) (I:Im) (As:List Xe) (hS:Sat B w I As) (hp:At I p (fr.map Value.bool)) (hb:s.length≤1000000) :
  Calls Tryz.prog 194 [S s,.slice (some p) (s.length+1) c,I64 kind,U8 own.toNat,.bool many].toArray w (Ret fun v w'=>∃ J q R,Le I J∧v=.slice (some q) (s.length+1) (s.length+1)∧At J q (R.map Value.bool)∧EndsAt s fr0 (cat D (Xhp k c0)) R∧Sat B w' J As):=by
 have h:=Xmt s fr p c kind own many B w I As hS hp hE.1 hb
 rw [hE.1] at h
 refine h.mono fun x w' ⟨v,hx,J,q,h1,h2,h3,h4⟩=>⟨v,hx,J,q,_,h1,h2,h3,hE.cat (Xjo hu hm),h4⟩
theorem Xlk {ps:List Int} {x:Int}:(ps ++ [x]).getD (((ps ++ [x]).length:Int) - 1).toNat 0=x:=by
 have e:(((ps ++ [x]).length:Int) - 1).toNat=ps.length:=by simp
 rw [e,Y8]; simp
set_option maxHeartbeats 1600000 in
theorem Xnd (s:List UInt8) (hs:s.length≤100000):∀ (n:Nat) (l:List UInt8) (p:Pt),l.length<n→Rep l p→p.flat→l.length≤100000→∀ (fr0:List Bool) (pa0:Addr) (c0:Nat) (B w:World) (I:Im) (As:List Xe),Sat B w I As→At I pa0 (fr0.map Value.bool)→fr0.length=s.length+1 →
  Calls Tryz.prog 164 [S l,S s,.slice (some pa0) (s.length+1) c0].toArray w (Ret fun v w'=>∃ J q c R,Le I J∧v=.slice (some q) (s.length+1) c∧At J q (R.map Value.bool)∧EndsAt s fr0 (sem p).1 R∧Sat B w' J As):=by
 intro n
 induction n with
 | zero =>
  intro l p hn
  omega
 | succ n ih =>
  intro l p hn hR0 hf0 hl fr0 pa0 c0 B w I As hS hA0 hfr0
  refine calls Tryz.func164 rfl Tryz.ntmps164 rfl (.seq (.q 1 rfl (.seq (.seq (.q 1 rfl (.block (.loop (σ:=Nat×Pt×Xbn×List Bool×Addr×Nat×Im) (fun ⟨k,r,D,fr,pa,c1,J⟩=>[(0,S l),(1,S s),(2,.slice (some pa) (s.length+1) c1),(7,I64 (k:Nat))]) (fun ⟨k,r,D,fr,pa,c1,J⟩ w=>k≤l.length∧Rep (l.drop k) r∧r.flat∧(∀ u,(sem p).1 u ↔ cat D (sem r).1 u)∧EndsAt s fr0 D fr∧At J pa (fr.map Value.bool)∧Le I J∧Sat B w J As) (fun ⟨k,r,D,fr,pa,c1,J⟩=>l.length - k) (0,p,(fun u=>u=[]),fr0,pa0,c0,I) ⟨rfl,rfl,rfl,rfl,trivial⟩ ⟨Yq _,hR0,hf0,fun u=>(Xby _ u).symm,EndsAt.nil hfr0,hA0,Le.refl I,hS⟩ ?_)))))))
  rintro ⟨k,r,D,fr,pa,c1,J⟩ w ⟨hk,hR,hfl,hsem,hE,hA,hJ,hS⟩
  refine .seq (.seq (.region (.run 4 rfl ⟨Qu9,trivial⟩ (.nil ?_))))
  refine WC.cond rfl (fun hb17=>?_) (fun hb17=>?_)
  ·
   have hc17:=hb17; try simp only [Y6] at hc17
   refine .skip (.seq (.block (.seq (.region (.run 3 rfl ⟨⟨⟨by omega,by omega⟩,Qu9⟩,trivial⟩ (.nil (.block (.seq (.q 2 rfl ?_)))))))))
   refine WC.cond rfl (fun hb29=>?_) (fun hb29=>?_)
   ·
    have hc29:=hb29; try simp only [Y6] at hc29
    refine .t 2 rfl ?_
    obtain ⟨r',hr,hr2⟩:=Xr6 hR (by omega) (by omega)
    subst hr
    refine WL.call Xgc rfl (X0 (.of rfl) (X0 (.of rfl) (X0 (.of rfl) (X0 (.of rfl) (X0 (.of rfl) X4))))) rfl (Xcw hE pa c1 1 0 false 1 0 (fun x=>by simp [takes,X1k] <;> exact BEq.comm) (by decide) B w J As hS hA (by omega)) ?_
    clear hS
    rintro _ w ⟨J2,q,R2,hJ2,rfl,hA2,hE2,hS⟩
    refine .q 1 rfl (.nil (.region (.run 3 rfl ⟨⟨by omega,by omega⟩,trivial⟩ (.nil ?_))))
    refine ⟨(k+1,r',_,R2,q,s.length+1,J2),⟨rfl,rfl,rfl,rfl,trivial⟩,⟨by omega,hr2,hfl,fun u=>(hsem u).trans (X1r _ _ _ u).symm,hE2,hA2,hJ.trans hJ2,hS⟩,by dsimp only; omega⟩
   have hc29:=hb29; try simp only [Y6] at hc29
   refine .seq (.q 2 rfl ?_)
   refine WC.cond rfl (fun hb34=>?_) (fun hb34=>?_)
   ·
    have hc34:=hb34; try simp only [Y6] at hc34
    refine .seq (.region (.run 6 rfl ⟨⟨by omega,by omega⟩,Qu9,trivial⟩ (.gval rfl rfl (fun hg1=>(.move (.of rfl))) rfl (.gval rfl rfl (fun hg1=>(.move (.of rfl))) rfl (.gval rfl rfl (fun hg1=>(.add (.gd hg1 rfl) (.of rfl) ⟨by omega,by omega⟩)) rfl ?_)))))
    refine WL.gval rfl rfl (fun hg1=>(.index (.gd hg1 rfl) (.gd hg1 rfl) (by (try simp only [Y6] at hg1); omega) (by (try simp only [Y6] at hg1); omega) Qu9)) rfl ?_
    refine .gval rfl rfl (fun hg1=>(.eql (.gd hg1 rfl) (.of rfl))) rfl (.val (.pand (.of rfl) (.of rfl) (.of rfl)) rfl (.nil ?_))
    refine WC.cond rfl (fun hb47=>?_) (fun hb47=>?_)
    ·
     have hc47:=hb47; try simp only [Y6] at hc47
     refine .seq (.region (.run 3 rfl ⟨⟨by omega,by omega⟩,trivial⟩ (.nil (.t 2 rfl ?_))))
     obtain ⟨r',hr,hr2⟩:=Xpu hR (by omega) (by omega) (by omega)
     subst hr
     refine WL.call Xgc rfl (X0 (.of rfl) (X0 (.of rfl) (X0 (.of rfl) (X0 (.of rfl) (X0 (.of rfl) X4))))) rfl (Xcw hE pa c1 2 0 true 2 0 (fun x=>by simp [takes,X1k] <;> exact BEq.comm) (by decide) B w J As hS hA (by omega)) ?_
     clear hS
     rintro _ w ⟨J2,q,R2,hJ2,rfl,hA2,hE2,hS⟩
     refine .q 1 rfl (.nil (.region (.run 3 rfl ⟨⟨by omega,by omega⟩,trivial⟩ (.nil ?_))))
     refine ⟨(k+2,r',_,R2,q,s.length+1,J2),⟨rfl,rfl,rfl,rfl,trivial⟩,⟨by omega,hr2,hfl,fun u=>(hsem u).trans (X1r _ _ _ u).symm,hE2,hA2,hJ.trans hJ2,hS⟩,by dsimp only; omega⟩
    have hc47:=hb47; try simp only [Y6] at hc47
    refine .t 2 rfl ?_
    obtain ⟨r',hr,hr2⟩:=Xqx hR (by omega) (by omega) (by omega)
    subst hr
    refine WL.call Xgc rfl (X0 (.of rfl) (X0 (.of rfl) (X0 (.of rfl) (X0 (.of rfl) (X0 (.of rfl) X4))))) rfl (Xcw hE pa c1 1 0 true 3 0 (fun x=>by simp [takes,X1k] <;> exact BEq.comm) (by decide) B w J As hS hA (by omega)) ?_
    clear hS
    rintro _ w ⟨J2,q,R2,hJ2,rfl,hA2,hE2,hS⟩
    refine .q 1 rfl (.nil (.region (.run 3 rfl ⟨⟨by omega,by omega⟩,trivial⟩ (.nil ?_))))
    refine ⟨(k+1,r',_,R2,q,s.length+1,J2),⟨rfl,rfl,rfl,rfl,trivial⟩,⟨by omega,hr2,hfl,fun u=>(hsem u).trans (X1r _ _ _ u).symm,hE2,hA2,hJ.trans hJ2,hS⟩,by dsimp only; omega⟩
   have hc34:=hb34; try simp only [Y6] at hc34
   refine .seq (.q 2 rfl ?_)
   refine WC.cond rfl (fun hb56=>?_) (fun hb56=>?_)
   ·
    have hc56:=hb56; try simp only [Y6] at hc56
    refine .seq ?_
    have hesc:=(Xir hR (by omega) (by omega)).1
    refine .region (.run 3 rfl ⟨⟨by omega,by omega⟩,trivial⟩ (.nil (.region (.run 5 rfl ⟨⟨⟨by omega,by omega⟩,Qu9⟩,trivial⟩ ?_))))
    obtain ⟨_,r',hr,hr2⟩:=Xir hR (by omega) (by omega)
    subst hr
    refine WL.call Xgc rfl (X0 (.of rfl) (X0 (.of rfl) (X0 (.of rfl) (X0 (.of rfl) (X0 (.of rfl) X4))))) rfl (Xcw hE pa c1 0 (at_ l ((k:Int)+1)) false 0 ((at_ l ((k:Int)+1)).toNat:Int) (fun x=>by simp [takes,X1k] <;> exact BEq.comm) (by decide) B w J As hS hA (by omega)) ?_
    clear hS
    rintro _ w ⟨J2,q,R2,hJ2,rfl,hA2,hE2,hS⟩
    refine .q 1 rfl (.nil (.region (.run 3 rfl ⟨⟨by omega,by omega⟩,trivial⟩ (.nil ?_))))
    refine ⟨(k+2,r',_,R2,q,s.length+1,J2),⟨rfl,rfl,rfl,rfl,trivial⟩,⟨by omega,hr2,hfl,fun u=>(hsem u).trans (X1r _ _ _ u).symm,hE2,hA2,hJ.trans hJ2,hS⟩,by dsimp only; omega⟩
   have hc56:=hb56; try simp only [Y6] at hc56
   refine .seq (.q 2 rfl ?_)
   refine WC.cond rfl (fun hb66=>?_) (fun hb66=>?_)
   ·
    have hc66:=hb66; try simp only [Y6] at hc66
    refine .seq (.t 2 rfl ?_)
    obtain ⟨t1,t2,b,r',hd0,hr,hr1,hr2,hd1,hk2,hk3⟩:=Xqa hR (by omega) (by omega)
    subst hr
    obtain ⟨ps,halts,hbars⟩:=Xmq hr1 t2 (k:Int)
    rw [← hd0] at hbars
    refine .call Tryz.func195 rfl (X0 (.of rfl) (X0 (.of rfl) X4)) rfl (Xm8 l k (by omega) (by omega) B w J As hS) ?_
    clear hS
    rintro _ w ⟨J2,la,lc,hJ2,rfl,hla,hS⟩
    generalize hallE0:barsGo (l.drop k) k 0 []=all at hla hbars ⊢
    have hallE:=hbars
    obtain ⟨lp,rfl,hlA⟩:=hla.2 (by rw [hbars]; simp)
    have hps:=Xlx halts
    have hal:all.length=ps.length+1:=by rw [hallE]; simp
    have hlast:all.getD ((all.length:Int) - 1).toNat 0=(k:Int)+1+t1.length:=by rw [hallE]; exact Xlk
    have ht1:t1.length≤l.length:=by omega
    refine .q 1 rfl (.nil (.seq (.region (.run 3 rfl ⟨Qu9,⟨by omega,by omega⟩,trivial⟩ ?_))))
    refine WL.make (l:=s.length+1) hS (.of rfl) (.of rfl) X2u X38 rfl (by simp [Tryz.t4] <;> omega) (by omega) rfl rfl rfl ?_
    clear hS; intro b74 w hS
    refine .q 1 rfl (.nil (.seq (.region (.run 3 rfl ⟨⟨by omega,by omega⟩,trivial⟩ (.nil (.seq (.seq (.q 1 rfl (.block ?_)))))))))
    refine WC.loop (σ:=Nat×Nat×Xbn×List Bool×Im) (fun ⟨m,at0,Dg,S1,J4⟩=>[(0,S l),(1,S s),(2,.slice (some pa) (s.length+1) c1),(8,.slice (some lp) all.length lc),(9,.slice (some (ad b74 0)) (s.length+1) (s.length+1)),(10,I64 (at0:Nat)),(11,I64 (m:Nat))]) (fun ⟨m,at0,Dg,S1,J4⟩ w=>m≤all.length∧EndsAt s fr Dg S1∧Xko l t2 b all ((k:Int)+1+t1.length) m at0 Dg∧Le J2 J4∧Sat B w J4 (blk b74 ((S1).map Value.bool ++ []) 4::As)) (fun ⟨m,at0,Dg,S1,J4⟩=>all.length - m) (0,k+1,(fun _=>False),List.replicate (s.length+1) false,J2) ⟨rfl,rfl,rfl,rfl,rfl,rfl,rfl,trivial⟩ ⟨Yq _,EndsAt.none s fr,⟨fun _=>⟨t1,b,ps,by rw [hallE]; rfl,by simpa using halts,hd1,by simp,fun u=>by simp⟩,fun h=>by rw [hallE] at h; simp at h⟩,Le.refl _,by rw [Y2t,Y9]; exact hS⟩ ?_
    rintro ⟨m,at0,Dg,S1,J4⟩ w ⟨hm,hES,hAlt,hJ4,hS⟩
    refine .seq (.seq (.region (.run 4 rfl ⟨⟨_,Xi⟩,trivial⟩ (.nil ?_))))
    refine WC.cond rfl (fun hb80=>?_) (fun hb80=>?_)
    ·
     have hc80:=hb80; try simp only [Y6] at hc80
     refine .skip (.seq (.block (.seq ?_)))
     have hA4:=hA.mono (hJ2.trans hJ4)
     obtain ⟨q,b1,hq1,hq2,hq3,hq4,hb1,hb1f,hAlt2⟩:=Xlu hAlt (by omega)
     have hlA4:=hlA.mono hJ4
     have hqd:all.getD ((m:Int)).toNat 0=(q:Int):=by rw [Yj,Y8,hq1]; rfl
     refine .t 4 rfl (.val (.indexAddrI (.of rfl) (.of rfl) (by omega) (by omega) Xi Qs3) rfl (.val (.ldEI I64 all 0 (.of rfl) hS hlA4 rfl Qg3 (by omega) (by omega)) rfl ?_))
     rw [hqd]
     refine .val (.sub3 (.of rfl) (.of rfl) (.of rfl) (by omega) (by omega) (by omega) Qu9) rfl ?_
     rw [Yj,Yj]
     refine .q 2 rfl ?_
     refine WL.call Tryz.func164 rfl (X0 (.of rfl) (X0 (.of rfl) (X0 (.of rfl) X4))) rfl (ih ((l.drop at0).take (q - at0)) b1 (by simp; omega) hb1 hb1f (by simp; omega) fr pa c1 B w J4 _ hS hA4 hE.1) ?_
     clear hS
     rintro _ w ⟨J6,qa,qc,R6,hJ6,rfl,hA6,hE6,hS⟩
     refine .q 1 rfl (.nil (.seq (.seq (.q 1 rfl (.block (.loop (σ:=Nat) (fun j=>[(0,S l),(1,S s),(2,.slice (some pa) (s.length+1) c1),(8,.slice (some lp) all.length lc),(9,.slice (some (ad b74 0)) (s.length+1) (s.length+1)),(11,I64 (m:Nat)),(12,.slice (some qa) (s.length+1) qc),(13,I64 (j:Nat))]) (fun j w=>j≤s.length+1∧Sat B w J6 (blk b74 ((iter (Xo8 R6) S1 j).map Value.bool ++ []) 4::As)) (fun j=>s.length+1 - j) 0 ⟨rfl,rfl,rfl,rfl,rfl,rfl,rfl,rfl,trivial⟩ ⟨Yq _,hS⟩ ?_))))))
     rintro j w ⟨hj,hS⟩
     have ho:=(X9c R6 S1 j).1
     have hS1l:=hES.1
     have hR6l:=hE6.1
     obtain ⟨oj,hoj⟩:∃ oj,oj=iter (Xo8 R6) S1 j:=⟨_,rfl⟩
     rw [← hoj] at hS ho
     refine .seq (.seq (.region (.run 4 rfl ⟨Qu9,trivial⟩ (.nil ?_))))
     refine WC.cond rfl (fun hb96=>?_) (fun hb96=>?_)
     ·
      have hc96:=hb96; try simp only [Y6] at hc96
      refine .skip (.seq (.block (.t 4 rfl (.val (.indexAddr (.of rfl) (.of rfl) (by omega) (by omega) X2u Qs4) rfl (.val (.ldE .bool oj false [] (.of rfl) hS (k:=0) rfl rfl Qg4 (by omega) (by omega)) rfl (.q 1 rfl (.gval rfl rfl (fun hg1=>(.move (.of rfl))) rfl (.gval rfl rfl (fun hg1=>(.move (.of rfl))) rfl ?_))))))))
      refine WL.gval rfl rfl (fun hg1=>(.indexAddrI (.gd hg1 rfl) (.gd hg1 rfl) (by (try simp only [Y6] at hg1); omega) (by (try simp only [Y6] at hg1); omega) X2u Qs4)) rfl ?_
      refine .gval rfl rfl (fun hg1=>.ldEI .bool R6 false (.gd hg1 rfl) hS hA6 rfl Qg4 (by omega) (by omega)) rfl (.val (.por (.of rfl) (.of rfl) (.of rfl)) rfl (.val (.indexAddr (.of rfl) (.of rfl) (by omega) (by omega) X2u Qs4) rfl (.stE .bool oj [] (u:=oj.getD ((j:Int)).toNat false || R6.getD ((j:Int)).toNat false) hS (k:=0) rfl (.of rfl) (.of rfl) rfl rfl Qs4 (by omega) (by omega) ?_)))
      clear hS; intro w hS; dsimp only [List.set] at hS
      refine .nil (.region (.run 3 rfl ⟨⟨by omega,by omega⟩,trivial⟩ (.nil ?_)))
      refine ⟨j+1,⟨rfl,rfl,rfl,rfl,rfl,rfl,rfl,rfl,trivial⟩,⟨by omega,?_⟩,by omega⟩
      rw [iter,← hoj]; unfold Xo8; simp only [Yj] at hS; exact hS
     have hc96:=hb96; try simp only [Y6] at hc96
     refine .exit ?_
     have hlA6:=hlA4.mono hJ6
     refine .t 2 rfl (.val (.indexAddrI (.of rfl) (.of rfl) (by omega) (by omega) Xi Qs3) rfl (.val (.ldEI I64 all 0 (.of rfl) hS hlA6 rfl Qg3 (by omega) (by omega)) rfl ?_))
     rw [hqd]
     refine .run 2 rfl ⟨⟨by omega,by omega⟩,trivial⟩ (.nil (.region (.run 3 rfl ⟨⟨by omega,by omega⟩,trivial⟩ (.nil ?_))))
     obtain rfl:j=s.length+1:=by omega
     refine ⟨(m+1,q+1,_,iter (Xo8 R6) S1 (s.length+1),J6),⟨rfl,rfl,rfl,rfl,rfl,rfl,rfl,trivial⟩,⟨by omega,hES.or hE6,hAlt2,hJ4.trans hJ6,by rw [hoj] at hS; exact hS⟩,by dsimp only; omega⟩
    have hc80:=hb80; try simp only [Y6] at hc80
    refine .exit (.seq (.q 2 rfl ?_))
    have hlA7:=hlA.mono hJ4
    have hm9:m=all.length:=by omega
    refine .region (.run 4 rfl ⟨⟨_,Xi⟩,⟨by omega,by omega⟩,trivial⟩ (.val (.indexAddrI (.of rfl) (.of rfl) (by omega) (by omega) Xi Qs3) rfl (.val (.ldEI I64 all 0 (.of rfl) hS hlA7 rfl Qg3 (by omega) (by omega)) rfl ?_)))
    rw [hlast]
    refine .q 1 rfl (.nil (.region (.run 3 rfl ⟨⟨by omega,by omega⟩,trivial⟩ (.nil ?_))))
    obtain rfl:m=all.length:=by omega
    obtain ⟨J5,hJ5,hb5,hS⟩:=hS.freeze (k:=0) rfl
    refine ⟨(k+1+t1.length+1,r',_,S1,ad b74 0,s.length+1,J5),⟨rfl,rfl,rfl,rfl,trivial⟩,⟨by omega,by rw [hk2]; exact hr2,hfl,fun u=>(hsem u).trans (X1r _ _ _ u).symm,hE.cat (hES.congr fun u=>(hAlt.2 rfl u).symm),⟨rfl,_,_,_,hb5,fun j v hj=>by simpa using hj⟩,((hJ.trans hJ2).trans hJ4).trans hJ5,hS⟩,by dsimp only; omega⟩
   have hc66:=hb66; try simp only [Y6] at hc66
   refine .region (.run 5 rfl ⟨⟨⟨by omega,by omega⟩,Qu9⟩,trivial⟩ ?_)
   obtain ⟨r',hr,hr2⟩:=Xmd hR hfl (by omega) (by omega) (by omega) (by omega) (by omega)
   subst hr
   refine WL.call Xgc rfl (X0 (.of rfl) (X0 (.of rfl) (X0 (.of rfl) (X0 (.of rfl) (X0 (.of rfl) X4))))) rfl (Xcw hE pa c1 0 (at_ l (k:Int)) false 0 ((at_ l (k:Int)).toNat:Int) (fun x=>by simp [takes,X1k] <;> exact BEq.comm) (by decide) B w J As hS hA (by omega)) ?_
   clear hS
   rintro _ w ⟨J2,q,R2,hJ2,rfl,hA2,hE2,hS⟩
   refine .q 1 rfl (.nil (.region (.run 3 rfl ⟨⟨by omega,by omega⟩,trivial⟩ (.nil ?_))))
   refine ⟨(k+1,r',_,R2,q,s.length+1,J2),⟨rfl,rfl,rfl,rfl,trivial⟩,⟨by omega,hr2,hfl,fun u=>(hsem u).trans (X1r _ _ _ u).symm,hE2,hA2,hJ.trans hJ2,hS⟩,by dsimp only; omega⟩
  have hc17:=hb17; try simp only [Y6] at hc17
  refine .exit (.seq (.q 2 rfl (.ret (Xh Tryz.results164 rfl ?_))))
  refine ⟨_,rfl,J,pa,c1,fr,hJ,rfl,hA,hE.congr fun u=>?_,hS⟩
  rw [Y16 (by omega)] at hR
  obtain rfl:=Xp3 hR
  exact ((hsem u).trans (Xi4 _ u)).symm
theorem Xcz {l:List UInt8} {p:Pt} (hr:Rep l p) (hf:p.flat) (s:List UInt8) (hl:l.length≤1000) (hs:s.length≤1000) (B w:World) (I:Im) (As:List Xe) (hS:Sat B w I As) :
  Calls Tryz.prog 126 [S l,S s].toArray w (Ret fun v w'=>∃ b,v=.bool b∧(b=true ↔ (sem p).1 s)∧∃ J,Le I J∧Sat B w' J As):=by
 refine calls Tryz.func126 rfl Tryz.ntmps126 rfl (.seq (.q 1 rfl (.seq (.region (.run 3 rfl ⟨Qu9,⟨by omega,by omega⟩,trivial⟩ ?_)))))
 refine WL.make (l:=s.length+1) hS (.of rfl) (.of rfl) X2u X38 rfl (by simp [Tryz.t4] <;> omega) (by omega) rfl rfl rfl ?_
 clear hS; intro b9 w hS
 refine .q 1 rfl (.nil (.seq (.t 1 rfl (.val (.indexAddr (.of rfl) (.of rfl) (by omega) (by omega) X2u Qs4) rfl ?_))))
 replace hS:Sat B w I (blk b9 ((List.replicate (s.length+1) false).map Value.bool ++ []) 4::As):=by rw [Y2t,Y9]; exact hS
 refine .stE .bool (List.replicate (s.length+1) false) [] (u:=true) hS (k:=0) rfl (.of rfl) (.of rfl) rfl rfl Qs4 (by omega) (by simp) ?_
 clear hS; intro w hS; dsimp only [List.set] at hS
 obtain ⟨J,hJ,hb,hS⟩:=hS.freeze (k:=0) rfl
 have hA:At J (ad b9 0) (((List.replicate (s.length+1) false).set 0 true).map Value.bool):=⟨rfl,_,_,_,hb,fun j v hj=>by simpa using hj⟩
 refine .nil (.seq (.t 3 rfl (.call Tryz.func164 rfl (X0 (.of rfl) (X0 (.of rfl) (X0 (.of rfl) X4))) rfl (Xnd s (by omega) (l.length+1) l p (by omega) hr hf (by omega) _ (ad b9 0) _ B w J As hS hA (by simp)) ?_)))
 clear hS
 rintro _ w ⟨J2,q,qc,R2,hJ2,rfl,hA2,hE2,hS⟩
 refine .run 2 rfl ⟨Qu9,trivial⟩ (.val (.indexAddrI (.of rfl) (.of rfl) (by omega) (by omega) X2u Qs4) rfl ?_)
 have hR2:=hE2.1
 refine .val (.ldEI .bool R2 false (.of rfl) hS hA2 rfl Qg4 (by omega) (by omega)) rfl (.q 1 rfl (.nil (.ret (Xh Tryz.results126 rfl ?_))))
 refine ⟨_,rfl,_,rfl,?_,J2,hJ.trans hJ2,hS⟩
 rw [Yj,hE2.2 s.length (Yu _)]
 constructor
 ·rintro ⟨i,h1,h2,h3⟩
  rcases Pat.getD_set_true _ _ _ h2 with h4 | h4
  ·rw [X4u] at h4; cases h4
  ·subst h4; simpa [seg] using h3
 ·intro h; exact ⟨0,Yq _,X6l (by simp),by simpa [seg] using h⟩
theorem X2w:Bld Tryz.prog 101 [(0,1),(1,1),(2,1),(3,1),(4,1),(5,1),(6,1),(7,1)] [.int .i64 0,.float .f64 0,S [],.bool false,.bool false,.bool false,S [],.slice none 0 0]:=X26 X25 X82 (fun w=>by simp [go_sem])
theorem Xao {l:List UInt8} (h:(chk l).1=0):∃ Q,cmp l=.ok Q:=by
 unfold chk at h
 split at h
 ·cases h
 ·rename_i hl
  cases hc:cmp l with
  | ok Q=>exact ⟨Q,rfl⟩
  | error e =>
   unfold cmp at hc
   rw [if_neg hl] at hc
   have:=(X1j l.length l 0 [] [] [] (Yu _) rfl).1 e hc
   rw [this.1] at h
   exact absurd h this.2
theorem Xho (l s:List UInt8) (hQ:∃ Q,cmp l=.ok Q) (hs:s.length≤1000) (B w:World) (I:Im) (As:List Xe) (hS:Sat B w I As) :
  Calls Tryz.prog 126 [S l,S s].toArray w (Ret fun v w'=>∃ J,v=.bool (X9h l s).1∧Le I J∧Sat B w' J As):=by
 obtain ⟨Q,hQ⟩:=hQ
 have hm:(X9h l s).2=true:=by unfold X9h; rw [hQ]
 obtain ⟨p,hr,hf,_,hl,ht⟩:=mt_ok hm
 refine (Xcz hr hf s (by omega) hs B w I As hS).mono fun e w' he=>?_
 obtain ⟨v,rfl,b,rfl,hb,J,hJ,hS'⟩:=he
 refine ⟨_,rfl,J,?_,hJ,hS'⟩
 congr 1
 exact Y3a.2 (hb.trans (ht s).2.symm)
def z0:Sv:=⟨0,0,[],false,false,false,[],[]⟩
def Xe8 (l:List Sv) (D:List Int) (s:List UInt8):Sv×List UInt8×Nat :=
 if (Ul.nU s).2≠0 then (z0,[],(Ul.nU s).2) else if 100<(Ul.nU s).1.length then (z0,[],2)
 else match D.find? (fun d=>(X9h (l.getD d.toNat z0).urls (Ul.nU s).1).1) with
  | none=>(z0,[],31)
  | some d=>(l.getD d.toNat z0,(Ul.nU s).1,0)
def right (l:List Sv):Prop:=∀ s∈l,(∃ Q,cmp s.urls=.ok Q)∧∃ Q,cmp s.calls=.ok Q
theorem Xid {α:Type} {p:α→Bool}:∀ {D:List α} {j:Nat} {d:α},(∀ (q:Nat) e,q<j→D[q]?=some e→p e=false)→D[j]?=some d→p d=true→D.find? p=some d
 | [],_,_,_,h,_=>by simp at h
 | a::D,0,d,_,h,hp=>by simp at h; subst h; rw [Y2y,hp]
 | a::D,j+1,d,hn,h,hp=>by
  have h0:=hn 0 a (by omega) rfl
  rw [Y2y,h0]
  exact Xid (j:=j) (fun q e hq he=>hn (q+1) e (by omega) (by simpa using he)) (by simpa using h) hp
theorem Xqu {α:Type} {p:α→Bool} {D:List α} (h:∀ (q:Nat) e,D[q]?=some e→p e=false):D.find? p=none:=by
 rw [Y4j]
 intro x hx
 obtain ⟨q,hq⟩:=Y10.1 hx
 rw [h q x hq]; decide
theorem pick8 {I:Im} {a:Option Addr} {L:List (List Value)} {l:List Sv} (h:SvsIn I a L l) {D:List Int} (hD:∀ d∈D,0≤d∧d<l.length):∀ c∈X3x L D,c.length=8:=fun c hc=>by
 obtain ⟨d,hd,rfl⟩:=Y2f.1 hc
 obtain ⟨h0,h1⟩:=hD d hd
 obtain ⟨p,c,_,h2,_,ra,rc,rfl,_⟩:=h.2 d.toNat _ (Y4 (by omega))
 rw [Y8,h2]
 rfl
theorem Xf5 (a:Option Addr) (cap:Nat) (L:List (List Value)) (l:List Sv) (hln:l.length≤100000) (hsm:∀ v∈ords l,v<18446744073709551616) (hright:right l) (s:List UInt8) (hs:s.length≤1000000) (B w:World) (I:Im) (hl:SvsIn I a L l) (As:List Xe) (hS:Sat B w I As) :
  Calls Tryz.prog 77 [.slice a l.length cap,S s].toArray w (Ret fun v w'=>∃ J u c n e,Le I J∧v=.tuple #[.agg (List.toArray c),S n,I64 ((e:Nat):Int)]∧SvAt J u c∧(∀ D,Srt.Ord (kx (ords l)) l.length D→Xe8 l D s=(u,n,e))∧Sat B w' J As):=by
 refine calls Tryz.func77 rfl Tryz.ntmps77 rfl (.seq (.region (.allocA (cs:=[_,_,_,_,_,_,_,_]) hS X82 rfl ?_)))
 clear hS; intro b4 w hS
 refine .q 2 rfl (.nil (.seq (.t 1 rfl (.call Tryz.func23 rfl (X0 (.of rfl) X4) rfl (X5h s hs B _ I _ hS) ?_))))
 clear hS
 rintro _ w ⟨rfl,hS⟩
 refine .q 5 rfl (.nil (.seq (.seq (.q 2 rfl ?_))))
 refine WC.cond rfl (fun hb18=>?_) (fun hb18=>?_)
 ·
  have hc18:=hb18; try simp only [Y6] at hc18
  refine .seq (.region (.val (.build (cs:=[_,_,_,_,_,_,_,_]) X6 X2w rfl) rfl (.q 1 rfl (.stA hS (k:=0) rfl (.of rfl) (.of rfl) rfl X12 rfl (by simp) ?_))))
  clear hS; intro w hS
  try simp only [Yh,Yd,Y9,Y7,Yg,Ym,Yc] at hS
  refine .q 2 rfl (.nil (.ret (Xcm (b:=_) (cs:=[_,_,_,_,_,_,_,_]) Qr77 hS (k:=0) rfl X59 X12 rfl rfl rfl rfl ?_)))
  exact ⟨_,rfl,I,z0,_,_,_,Le.refl _,rfl,⟨none,0,rfl,Yu _,RS.nil _ _⟩,fun D2 hD2=>by rw [Xe8,if_pos (by omega)]; try rfl,(hS.drop (k:=0) rfl)⟩
 have hc18:=hb18; try simp only [Y6] at hc18
 refine .skip (.seq (.seq (.region (.run 3 rfl ⟨Qu9,trivial⟩ (.nil ?_)))))
 refine WC.cond rfl (fun hb23=>?_) (fun hb23=>?_)
 ·
  have hc23:=hb23; try simp only [Y6] at hc23
  refine .seq (.region (.val (.build (cs:=[_,_,_,_,_,_,_,_]) X6 X2w rfl) rfl (.stA hS (k:=0) rfl (.of rfl) (.of rfl) rfl X12 rfl (by simp) ?_)))
  clear hS; intro w hS
  try simp only [Yh,Yd,Y9,Y7,Yg,Ym,Yc] at hS
  refine .q 2 rfl (.nil (.ret (Xcm (b:=_) (cs:=[_,_,_,_,_,_,_,_]) Qr77 hS (k:=0) rfl X59 X12 rfl rfl rfl rfl ?_)))
  exact ⟨_,rfl,I,z0,_,_,_,Le.refl _,rfl,⟨none,0,rfl,Yu _,RS.nil _ _⟩,fun D2 hD2=>by rw [Xe8,if_neg (by omega),if_pos (by omega)]; try rfl,(hS.drop (k:=0) rfl)⟩
 have hc23:=hb23; try simp only [Y6] at hc23
 refine .skip (.seq (.t 1 rfl (.call Tryz.func125 rfl (X0 (.of rfl) X4) rfl (Xqi a cap L l hln hsm B _ I hl _ hS) ?_)))
 clear hS
 rintro _ w ⟨J,D,hJ,hD,hS⟩
 refine .q 1 rfl (.nil (.seq (.seq ?_)))
 obtain ⟨va,vc,rfl,hvc,_⟩:=hS.vecSlice (k:=0) rfl
 obtain ⟨J2,hJ2,hAR,hS2⟩:=hS.freezeVec (k:=0) rfl
 clear hS
 have hS:=hS2
 clear hS2
 try dsimp only [List.eraseIdx] at hS
 replace hJ:=Le.trans hJ hJ2
 have hDl:=hD.len
 have hDm:∀ d∈D,0≤d∧d<l.length:=fun d hd=>Srt.upto_mem.1 (hD.2.mem_iff.1 hd)
 have h8:=pick8 hl hDm
 refine .q 1 rfl (.block (.loop (σ:=Nat×Im) (fun ⟨j,J3⟩=>[(4,ptr b4 0),(7,S (Ul.nU s).1),(9,.slice va l.length vc),(10,I64 (j:Nat))]) (fun ⟨j,J3⟩ w=>j≤l.length∧(∀ (q:Nat) e,q<j→D[q]?=some e→(X9h (l.getD e.toNat z0).urls (Ul.nU s).1).1=false)∧Le J2 J3∧Sat B w J3 (blk b4 [I64 0,F64 0,S [],.bool false,.bool false,.bool false,S [],.slice none 0 0] 101::As)) (fun ⟨j,J3⟩=>l.length - j) (0,J2) ⟨rfl,rfl,rfl,rfl,trivial⟩ ⟨Yq _,fun _ _ h=>absurd h (by omega),Le.refl _,hS⟩ ?_))
 rintro ⟨j,J3⟩ w ⟨hj,hno,hJ3,hS⟩
 refine .seq (.seq (.region (.run 4 rfl ⟨⟨_,X7o⟩,trivial⟩ (.nil ?_))))
 refine WC.cond rfl (fun hb30=>?_) (fun hb30=>?_)
 ·
  have hc30:=hb30; try simp only [Y6] at hc30
  refine .skip (.seq (.block (.seq ?_)))
  obtain ⟨d,hd⟩:∃ d,D[j]?=some d:=⟨_,Y4 (by omega)⟩
  have hdr:=hDm d (Yl hd)
  obtain ⟨u,hu⟩:∃ u,l[d.toNat]?=some u:=⟨_,Y4 (by omega)⟩
  obtain ⟨_,c,_,hc,_,ra,rc,rfl,hrc,hr⟩:=hl.2 d.toNat u hu
  obtain ⟨p,rfl,hp⟩:=hAR.2 (by omega)
  have hpk:(X3x L D)[j]?=some (X1u u ra rc):=by unfold X3x; rw [Yw,hd]; simp [Y8,hc]
  have hx:=X4g ((hp.mono hJ3).add (j*8)) 8
  rw [X1w _ h8 j _ hpk] at hx
  unfold X1u at hx
  have hgu:l.getD d.toNat z0=u:=by rw [Y8,hu]; rfl
  obtain ⟨hru,hrc2⟩:=hright u (Yl hu)
  refine .t 2 rfl (.val (.indexAddrI (.of rfl) (.of rfl) (by omega) (by omega) X7o X12) rfl (.val (.fieldAddrI 2 (.of rfl) X25 rfl rfl Qs9 rfl) rfl (.val (.ldI (.of rfl) hS (At.add hx _) Qg9 rfl) rfl (.q 1 rfl (.call Tryz.func126 rfl (X0 (.of rfl) (X0 (.of rfl) X4)) rfl (Xho u.urls _ hru (by omega) B _ J3 _ hS) ?_)))))
  clear hS
  rintro _ w ⟨J4,rfl,hJ4,hS⟩
  replace hx:=hx.mono hJ4
  refine .q 1 rfl (.nil (.seq (.q 1 rfl ?_)))
  refine WC.cond rfl (fun hb40=>?_) (fun hb40=>?_)
  ·
   refine .seq (.t 2 rfl (.val (.indexAddrI (.of rfl) (.of rfl) (by omega) (by omega) X7o X12) rfl (.val (.ldsI (.of rfl) hS hx X59 X12 rfl (fun _ _ h=>h)) rfl (.q 1 rfl (.stA hS (k:=0) rfl (.of rfl) (.of rfl) rfl X12 rfl (by simp) ?_)))))
   clear hS; intro w hS
   try simp only [Yh,Yd,Y9,Y7,Yg,Ym,Yc] at hS
   refine .q 2 rfl (.nil (.ret (Xcm (b:=_) (cs:=[_,_,_,_,_,_,_,_]) Qr77 hS (k:=0) rfl X59 X12 rfl rfl rfl rfl ?_)))
   exact ⟨_,rfl,J4,u,_,_,_,Le.trans hJ (Le.trans hJ3 hJ4),rfl,⟨ra,rc,rfl,hrc,hr.mono (Le.trans hJ (Le.trans hJ3 hJ4))⟩,fun D2 hD2=>by rw [← hD.unique hD2,Xe8,if_neg (by omega),if_neg (by omega),Xid hno hd (by rw [hgu]; exact hb40)]; simp only; rw [hgu]; try rfl,(hS.drop (k:=0) rfl)⟩
  refine .skip (.region (.run 3 rfl ⟨⟨by omega,by omega⟩,trivial⟩ (.nil ?_)))
  refine ⟨(j+1,J4),⟨rfl,rfl,rfl,rfl,trivial⟩,⟨by (try dsimp only); omega,fun q e hq he=>?_,Le.trans hJ3 hJ4,hS⟩,by (try dsimp only); omega⟩
  rcases Yr q j with h1 | h1
  ·exact hno q e h1 he
  ·have e2:q=j:=by (try dsimp only at hq); omega
   subst e2
   rw [hd] at he; cases he
   rw [hgu]; exact hb40
 have hc30:=hb30; try simp only [Y6] at hc30
 refine .exit (.seq (.region (.val (.build (cs:=[_,_,_,_,_,_,_,_]) X6 X2w rfl) rfl (.stA hS (k:=0) rfl (.of rfl) (.of rfl) rfl X12 rfl (by simp) ?_))))
 clear hS; intro w hS
 try simp only [Yh,Yd,Y9,Y7,Yg,Ym,Yc] at hS
 refine .q 2 rfl (.nil (.ret (Xcm (b:=_) (cs:=[_,_,_,_,_,_,_,_]) Qr77 hS (k:=0) rfl X59 X12 rfl rfl rfl rfl ?_)))
 exact ⟨_,rfl,J3,z0,_,_,_,Le.trans hJ hJ3,rfl,⟨none,0,rfl,Yu _,RS.nil _ _⟩,fun D2 hD2=>by rw [← hD.unique hD2,Xe8,if_neg (by omega),if_neg (by omega),Xqu (fun q e he=>hno q e (by have:=(Y5.1 he).1; omega) he)]; try rfl,(hS.drop (k:=0) rfl)⟩
theorem Xda (a:Option Addr) (c:Nat) (l:List (List UInt8)) (hl:l.length≤1000000) (B w:World) (I:Im) (hr:RS I a 1 l.length (l.map S)) (As:List Xe) (hS:Sat B w I As) :
  Calls Tryz.prog 129 [.slice a l.length c].toArray w (Ret fun v w'=>∃ J ra rc,v=.slice ra l.length rc∧Le I J∧l.length≤rc∧RS J ra 1 l.length (l.map S)∧Sat B w' J As):=by
 have fin:∀ (v:Value) (w':World) (n:Nat) (xs:List Value),n=l.length→xs=l.map S→Go.RowKit.Below w.heap.size w w'→w'.ownsRow w.heap.size 9 1 v n xs→∃ J ra rc,v=.slice ra l.length rc∧Le I J∧l.length≤rc∧RS J ra 1 l.length (l.map S)∧Sat B w' J As:=by
  intro v w' n xs hn hx hb ho
  subst hn; subst hx
  have h2:=hS.grownRow hb ho
  obtain ⟨ra,rc,rfl,h3,_⟩:=h2.vecSlice (k:=0) rfl
  obtain ⟨J,hJ,hRS,hS2⟩:=h2.freezeVec (k:=0) rfl
  exact ⟨J,ra,rc,rfl,hJ,h3,hRS,hS2⟩
 cases a with
 | none =>
  have h0:l=[]:=by
   rcases Y1p l.length with h | h
   ·exact Yk h
   ·obtain ⟨p,hp,_⟩:=hr.2 h; cases hp
  subst h0
  refine (Tryz.slices_Clone_string_nil 0 c w).mono fun e w' he=>?_
  obtain ⟨rfl,rfl⟩:=he
  exact ⟨_,rfl,I,none,0,rfl,Le.refl _,Yu _,RS.nil _ _,hS⟩
 | some p =>
  rcases Y1p l.length with h | h
  ·have h0:=Yk h
   subst h0
   refine (Tryz.slices_Clone_string_zero p c w).mono fun e w' he=>?_
   obtain ⟨v',rfl,ho,_,hb⟩:=he
   exact ⟨_,rfl,fin v' w' 0 [] rfl rfl hb ho⟩
  ·obtain ⟨q,hq,hA⟩:=hr.2 h
   injection hq with hq
   subst hq
   obtain ⟨b,off,sp⟩:=p
   have hsp:sp=none:=hA.1
   subst hsp
   refine (Tryz.slices_Clone_string b off l.length c (l.map fun x=>⟨x.toArray⟩) w (by rw [Yz]; exact Yu _) (by omega) (fun j hj=>?_)).mono fun e w' he=>?_
   ·rw [Yz] at hj
    have h2:=X2k hS hA (j:=j) (v:=S (l[j])) (by rw [Yw,Y4 hj]; rfl)
    rw [show (⟨b,off,none⟩:Addr).add j=⟨b,off+j,none⟩ from X1i b off j] at h2
    rw [h2,Y8,Yw,Y4 hj]
    rfl
   ·obtain ⟨v',rfl,ho,_,hb⟩:=he
    refine ⟨_,rfl,fin v' w' l.length _ rfl ?_ hb ho⟩
    rw [Yy (by rw [Yz]; exact Yu _),List.map_map]
    rfl
theorem Xp4 (s:Sv) (a:Option Addr) (c:Nat) (hrl:s.rel.length≤1000000) (B w:World) (I:Im) (hr:RS I a 1 s.rel.length (s.rel.map S)) (As:List Xe) (hS:Sat B w I As) :
  Calls Tryz.prog 88 [.agg [I64 s.id,F64 s.ord,S s.urls,.bool s.login,.bool s.proxy,.bool s.back,S s.calls,.slice a s.rel.length c].toArray].toArray w (Ret fun v w'=>∃ J cs,Le I J∧v=.agg (List.toArray cs)∧SvAt J s cs∧Sat B w' J As):=by
 refine calls Tryz.func88 rfl Tryz.ntmps88 rfl (.seq (.region (.boxA (cs:=[_,_,_,_,_,_,_,_]) hS (.of rfl) rfl ?_)))
 clear hS; intro b1 w hS
 refine .allocA (cs:=[_,_,_,_,_,_,_,_]) hS X82 rfl ?_
 clear hS; intro b2 w hS
 refine .nil (.seq (.region (.val (.fieldAddr 7 (.of rfl) X25 rfl rfl Xeo rfl) rfl (.val (.ld (.of rfl) hS (k:=1) rfl Xie rfl) rfl (.call Tryz.func129 rfl (X0 (.of rfl) X4) rfl (Xda a c s.rel hrl B _ I hr _ hS) ?_)))))
 clear hS
 rintro _ w ⟨J,ra,rc,rfl,hJ,hrc,hrr,hS⟩
 refine .val (.fieldAddr 7 (.of rfl) X25 rfl rfl Xeo rfl) rfl (.st1 hS (k:=1) rfl (.of rfl) (.of rfl) rfl Xeo (by simp) ?_)
 clear hS; intro w hS
 refine .nil (.seq (.region (.val (.ldsW (cs:=[_,_,_,_,_,_,_,_]) (.of rfl) hS (k:=1) rfl X59 X12 rfl) rfl (.stA hS (k:=0) rfl (.of rfl) (.of rfl) rfl X12 rfl (by simp) ?_))))
 clear hS; intro w hS
 try simp only [Yh,Yd,Y9,Y7,Yg,Ym,Yc] at hS
 refine .nil (.ret (Xnq (b:=_) (cs:=[_,_,_,_,_,_,_,_]) Tryz.results88 hS (k:=0) rfl X59 X12 rfl rfl ?_))
 exact ⟨_,rfl,J,[I64 s.id,F64 s.ord,S s.urls,.bool s.login,.bool s.proxy,.bool s.back,S s.calls,.slice ra s.rel.length rc],hJ,rfl,⟨ra,rc,rfl,hrc,hrr⟩,(hS.drop (k:=0) rfl).drop (k:=0) rfl⟩
def X1m (s:Sv) (a:Option Addr) (c:Nat) (p q:Addr):List Value:=[I64 s.id,F64 s.ord,S s.urls,.bool s.login,.bool s.proxy,.bool s.back,S s.calls,.slice a s.rel.length c,.pointer (some p),.pointer (some q)]
def EntAt (I:Im) (s:Sv) (l:List Value):Prop:=∃ a c p q Q R,l=X1m s a c p q∧s.rel.length≤c∧RS I a 1 s.rel.length (s.rel.map S)∧cmp s.urls=.ok Q∧PatI I p Q s.urls.length∧cmp s.calls=.ok R∧PatI I q R s.calls.length
def EntsIn (I:Im) (a:Option Addr) (E:List (List Value)) (l:List Sv):Prop:=E.length=l.length∧∀ (i:Nat) (s:Sv),l[i]?=some s→∃ p c,a=some p∧E[i]?=some c∧At I (p.add (i*10)) c∧EntAt I s c
def Xe9 (w:World) (I:Im) (a:Option Addr) (l:List Sv):Prop:=∀ (i:Nat) (s:Sv),l[i]?=some s→∃ p c,a=some p∧(∀ (j:Nat) v,c[j]?=some v→w.cell? ((p.add (i*10)).add j)=some v)∧EntAt I s c
theorem EntsIn.now {B w:World} {I:Im} {As:List Xe} {a:Option Addr} {E:List (List Value)} {l:List Sv} (h:EntsIn I a E l) (hS:Sat B w I As):Xe9 w I a l:=fun i s hs=>by
 obtain ⟨p,c,e,_,h1,h2⟩:=h.2 i s hs
 exact ⟨p,c,e,fun j v hj=>X2k hS h1 hj,h2⟩
theorem Xms {B w:World} {I:Im} {As:List Xe} {k T cap:Nat} {a:Option Addr} {E:List (List Value)} {l:List Sv} (hS:Sat B w I As) (hk:As[k]?=some (Vec T 10 (.slice a l.length cap) l.length E.flatten)) (h10:∀ c∈E,c.length=10)
  (hE:∀ (i:Nat) (s:Sv),l[i]?=some s→∃ c,E[i]?=some c∧EntAt I s c):Xe9 w I a l:=fun i s hs=>by
 obtain ⟨c,hc,he⟩:=hE i s hs
 have hi:=(Y5.1 hs).1
 obtain ⟨g,cap',rest,hv,_,_,_,_,hS2⟩:=hS.vecOpen hk (by omega)
 injection hv with hv1 hv2 hv3
 have hlk:k<As.length:=(Y5.1 hk).1
 have hb:w.heap[g]?=some (Xq (E.flatten ++ rest) T):=hS2.block (k:=k) (by simp [hlk,blk])
 refine ⟨⟨g,0,none⟩,c,hv1,fun j v hj=>?_,he⟩
 have hjl:j<10:=by
  have h1:=(Y5.1 hj).1
  rw [h10 c (Yl hc)] at h1
  exact h1
 rw [Addr.add_add,show (⟨g,0,none⟩:Addr).add (i*10+j)=ad g (0+(i*10+j)) from X1i g 0 _,Yc]
 refine X1g hb ?_
 have h2:=X49 E h10 i j hjl
 rw [hc] at h2
 have h3:E.flatten[i*10+j]?=some v:=h2.trans hj
 rw [Yi (Y5.1 h3).1]
 exact h3
theorem ldsC {P:Program} {n:Nat} {L:Env} {w:World} {ty:TypeId} {pos:String} {af:Array Edge} {g:Option (Nat×Bool)} {t:TypeId} {x:Operand} {d:Option Nat} {p:Addr} {s:Nat} {vs:List Value} (hx:Ev n L x (.pointer (some p))) (hv:∀ (j:Nat) v,vs[j]?=some v→w.cell? (p.add j)=some v) (ht:∀ w,(isAgg t).run P w=.ok true w) (hs:∀ w,(Go.sizeOf t).run P w=.ok s w)
  (hl:vs.length=s):Ex P n L w ⟨d,.load t x,ty,pos,af,g⟩ (.agg vs.toArray) w:=fun a ha=>by
 have h:=run_loadCells_list (P:=P) w p vs hv
 rw [hl] at h
 simp [execOp,hx a ha,Instr.loadAt,Instr.sureAddr,loadVar,ht,hs,h]
def X2f (pr:Sv→Bool):List Sv→Nat→Int
 | [],_=>-1
 | s::r,i=>if pr s then (i:Int) else X2f pr r (i+1)
theorem X5p (pr:Sv→Bool):∀ (n:Nat) (r:List Sv) (i:Nat),(∀ (j:Nat) s,j<n→r[j]?=some s→pr s=false)→X2f pr r i=X2f pr (r.drop n) (i+min n r.length)
 | 0,r,i,_=>by simp
 | n+1,[],i,_=>by simp [X2f]
 | n+1,s::r,i,h=>by
  rw [X2f,if_neg (by rw [h 0 s (by omega) rfl]; decide),X5p pr n r (i+1) (fun j t hj ht=>h (j+1) t (by omega) (by simpa using ht)),Y7,Ye]
  congr 1
  omega
theorem Xgn {pr:Sv→Bool} {l:List Sv} {i:Nat} {s:Sv} (h:∀ (j:Nat) t,j<i→l[j]?=some t→pr t=false) (hs:l[i]?=some s) (hp:pr s=true):X2f pr l 0=(i:Int):=by
 have hi:=(Y5.1 hs).1
 rw [X5p pr i l 0 h,Yc,Y39 (by omega),Y1j hi,(Y5.1 hs).2,X2f,if_pos hp]
theorem Xds {pr:Sv→Bool} {l:List Sv} (h:∀ (j:Nat) t,l[j]?=some t→pr t=false):X2f pr l 0=-1:=by
 rw [X5p pr l.length l 0 (fun j t _ ht=>h j t ht),Y34]
 rfl
theorem X6e (a:Option Addr) (cap:Nat) (l:List Sv) (hln:l.length≤100000) (pr:Sv→Bool) (fid:FuncId) (fn:Func) (hfn:Tryz.prog.funcs[fid]?=some fn) (hcal:Xr fn=true) (capv:List Value) (B w:World) (I:Im) (As:List Xe) (hE:∀ w,Sat B w I As→Xe9 w I a l) (hf:∀ (s:Sv) (c:List Value),EntAt I s c→∀ w,Sat B w I As→Calls Tryz.prog fid ([Value.agg c.toArray] ++ capv).toArray w (Ret fun v w'=>v=.bool (pr s)∧Sat B w' I As)) (hS:Sat B w I As) :
  Calls Tryz.prog 85 [.slice a l.length cap,.func (.func fid) #[] capv.toArray].toArray w (Ret fun v w'=>v=I64 (X2f pr l 0)∧Sat B w' I As):=by
 refine calls Tryz.func85 rfl Tryz.ntmps85 rfl (.seq (.q 1 rfl (.seq (.seq (.region (.run 3 rfl ⟨⟨_,X7u⟩,trivial⟩ (.nil (.block (.loop (σ:=Nat) (fun i=>[(0,.slice a l.length cap),(1,.func (.func fid) #[] capv.toArray),(7,I64 (l.length:Nat)),(8,I64 (i:Nat))]) (fun i w=>i≤l.length∧(∀ (j:Nat) t,j<i→l[j]?=some t→pr t=false)∧Sat B w I As) (fun i=>l.length - i) 0 ⟨rfl,rfl,rfl,rfl,trivial⟩ ⟨Yq _,fun _ _ h=>absurd h (by omega),hS⟩ ?_)))))))))
 rintro i w ⟨hi,hno,hS⟩
 refine .seq (.q 1 rfl (.seq ?_))
 refine WC.cond rfl (fun hb9=>?_) (fun hb9=>?_)
 ·
  have hc9:=hb9; try simp only [Y6] at hc9
  refine .skip (.seq (.block (.seq ?_)))
  obtain ⟨s,hs⟩:∃ s,l[i]?=some s:=⟨_,Y4 (by omega)⟩
  obtain ⟨p,c,rfl,hx,he⟩:=hE w hS i s hs
  have he2:=he
  obtain ⟨ra,rc,pp,qq,Q,R,rfl,_⟩:=he2
  unfold X1m at hx he
  refine .q 2 rfl (.seq (.t 3 rfl (.val (.indexAddrI (.of rfl) (.of rfl) (by omega) (by omega) X7u X3e) rfl (.val (ldsC (.of rfl) hx Xcp X3e rfl) rfl (.vcall (cap:=capv) hfn hcal (.of rfl) (X0 (.of rfl) X4) rfl (hf s _ he w hS) ?_)))))
  clear hS
  rintro _ w ⟨rfl,hS⟩
  refine .nil ?_
  refine WC.cond rfl (fun hb16=>?_) (fun hb16=>?_)
  ·
   refine .seq (.q 2 rfl (.ret (Xh Tryz.results85 rfl ?_)))
   exact ⟨_,rfl,by rw [Xgn hno hs hb16],hS⟩
  have hc16:=hb16; try simp only [Y6] at hc16
  refine .skip (.region (.run 2 rfl ⟨⟨by omega,by omega⟩,trivial⟩ (.nil ?_)))
  refine ⟨i+1,⟨rfl,rfl,rfl,rfl,trivial⟩,⟨by omega,fun j t hj ht=>?_,hS⟩,by omega⟩
  rcases Yr j i with h1 | h1
  ·exact hno j t h1 ht
  ·have e:j=i:=by omega
   subst e
   rw [hs] at ht; cases ht
   exact hb16
 have hc9:=hb9; try simp only [Y6] at hc9
 refine .exit (.seq (.q 1 rfl (.ret (Xh Tryz.results85 rfl ?_))))
 exact ⟨_,rfl,by rw [Xds (fun j t ht=>hno j t (by have:=(Y5.1 ht).1; omega) ht)],hS⟩
theorem X7r (a:Option Addr) (cap:Nat) (l:List Sv) (hln:l.length≤100000) (pr:Sv→Bool) (fid:FuncId) (fn:Func) (hfn:Tryz.prog.funcs[fid]?=some fn) (hcal:Xr fn=true) (capv:List Value) (B w:World) (I:Im) (As:List Xe) (hE:∀ w,Sat B w I As→Xe9 w I a l) (hf:∀ (s:Sv) (c:List Value),EntAt I s c→∀ w,Sat B w I As→Calls Tryz.prog fid ([Value.agg c.toArray] ++ capv).toArray w (Ret fun v w'=>v=.bool (pr s)∧Sat B w' I As)) (hS:Sat B w I As) :
  Calls Tryz.prog 167 [.slice a l.length cap,.func (.func fid) #[] capv.toArray].toArray w (Ret fun v w'=>v=.bool (decide (0≤X2f pr l 0))∧Sat B w' I As):=by
 refine calls Tryz.func167 rfl Tryz.ntmps167 rfl (.seq (.q 1 rfl (.seq (.t 2 rfl (.call Tryz.func85 rfl (X0 (.of rfl) (X0 (.of rfl) X4)) rfl (X6e a cap l hln pr fid fn hfn hcal capv B _ I As hE hf hS) ?_)))))
 clear hS
 rintro _ w ⟨rfl,hS⟩
 refine .q 2 rfl (.nil (.ret (Xh Tryz.results167 rfl ?_)))
 exact ⟨_,rfl,rfl,hS⟩
end Go.Proofs.YtadhiihnnkcagaaGreatDoor
namespace Go.Proofs.YtadhiihnnkcagaaGreatDoor
open Gk Ul Pc Tk Tr
def Xv (l:List Rec):List Value:=(l.map X7).flatten
def RecsW (w:World) (a:Option Addr) (l:List Rec):Prop:=∀ (i:Nat) (r:Rec),l[i]?=some r→∃ p,a=some p∧(∀ (j:Nat) v,(X7 r)[j]?=some v→w.cell? ((p.add (i*10)).add j)=some v)
theorem Xkj {l:List Rec} {i j:Nat} {r:Rec} {v:Value} (hr:l[i]?=some r) (hj:(X7 r)[j]?=some v):(Xv l)[i*10+j]?=some v:=by
 have h2:=X49 (l.map X7) (fun c hc=>by obtain ⟨x,_,rfl⟩:=Y2f.1 hc; rfl) i j (show j<10 from (Y5.1 hj).1)
 rw [Yw,hr] at h2
 exact h2.trans hj
theorem X55 {B w:World} {I:Im} {As:List Xe} {k T cap:Nat} {a:Option Addr} {l:List Rec} (hS:Sat B w I As) (hk:As[k]?=some (Vec T 10 (.slice a l.length cap) l.length (Xv l))):RecsW w a l:=fun i r hr=>by
 have hi:=(Y5.1 hr).1
 obtain ⟨g,cap',rest,hv,_,_,_,_,hS2⟩:=hS.vecOpen hk (by omega)
 injection hv with hv1 hv2 hv3
 have hlk:k<As.length:=(Y5.1 hk).1
 have hb:w.heap[g]?=some (Xq (Xv l ++ rest) T):=hS2.block (k:=k) (by simp [hlk,blk])
 refine ⟨⟨g,0,none⟩,hv1,fun j v hj=>?_⟩
 rw [Addr.add_add,show (⟨g,0,none⟩:Addr).add (i*10+j)=ad g (0+(i*10+j)) from X1i g 0 _,Yc]
 refine X1g hb ?_
 have h3:=Xkj hr hj
 rw [Yi (Y5.1 h3).1]
 exact h3
theorem ldC {P:Program} {n:Nat} {L:Env} {w:World} {ty:TypeId} {pos:String} {af:Array Edge} {g:Option (Nat×Bool)} {t:TypeId} {x:Operand} {d:Option Nat} {p:Addr} {v:Value} (hx:Ev n L x (.pointer (some p))) (hv:w.cell? p=some v) (ht:∀ w,(isAgg t).run P w=.ok false w):Ex P n L w ⟨d,.load t x,ty,pos,af,g⟩ v w:=fun a hh=>by
 simp [execOp,hx a hh,Instr.loadAt,Instr.sureAddr,loadVar,ht,load,Sem.run,hv]
theorem Ex.slNil {P:Program} {n:Nat} {L:Env} {w:World} {ty t':TypeId} {pos:String} {af:Array Edge} {g:Option (Nat×Bool)} {t e:TypeId} {x y:Operand} {d:Option Nat} {a:Option Addr} {m c:Nat} (hx:Ev n L x (.slice a m c)) (hy:Ev n L y (.slice none 0 0)) (hT:P.underlying t=some (.slice e)):Ex P n L w ⟨d,.binOp .eql t x y t',ty,pos,af,g⟩ (.bool a.isNone) w :=
 X1d hx hy (fun _ _=>by unfold eqGuard; split <;> simp) (run_eql_slice_nil w t e a m c hT)
theorem SepAll.app:∀ {Xs As:List Xe} {h:X9t},SepAll (Xs ++ As) h ↔ ∃ h1 h2,h=h1 ++ h2∧SepAll Xs h1∧SepAll As h2
 | [],As,h=>⟨fun hs=>⟨[],h,rfl,rfl,hs⟩,fun ⟨h1,h2,e,h3,h4⟩=>by
   have h3:h1=[]:=h3
   subst h3; subst e; exact h4⟩
 | X::Xs,As,h=>by
  constructor
  ·rintro ⟨h1,h2,rfl,hx,hs⟩
   obtain ⟨h3,h4,rfl,h5,h6⟩:=(SepAll.app (Xs:=Xs)).1 hs
   exact ⟨h1 ++ h3,h4,by rw [Yf],⟨h1,h3,rfl,hx,h5⟩,h6⟩
  ·rintro ⟨h1,h2,rfl,⟨h3,h4,rfl,hx,h5⟩,h6⟩
   exact ⟨h3,h4 ++ h2,by rw [Yf],hx,(SepAll.app (Xs:=Xs)).2 ⟨h4,h2,rfl,h5,h6⟩⟩
def Box {X:Type} (T:X→List Xe):Xe:=fun h=>∃ x,SepAll (T x) h
theorem Sat.unbox {X:Type} {T:X→List Xe} {B w:World} {I:Im} {As:List Xe} (hS:Sat B w I (Box T::As)):∃ x,Sat B w I (T x ++ As):=by
 obtain ⟨h,⟨h1,h2,rfl,⟨x,hx⟩,h3⟩,hg⟩:=hS
 exact ⟨x,h1 ++ h2,SepAll.app.2 ⟨h1,h2,rfl,hx,h3⟩,hg⟩
theorem Sat.box {X:Type} {T:X→List Xe} {B w:World} {I:Im} {As:List Xe} (x:X) (hS:Sat B w I (T x ++ As)):Sat B w I (Box T::As):=by
 obtain ⟨h,hs,hg⟩:=hS
 obtain ⟨h1,h2,rfl,h3,h4⟩:=SepAll.app.1 hs
 exact ⟨h1 ++ h2,⟨h1,h2,rfl,⟨x,h3⟩,h4⟩,hg⟩
theorem X9s (a:Option Addr) (cap:Nat) (l:List Rec) (hln:l.length≤100000) (pr:Rec→Bool) (fid:FuncId) (fn:Func) (hfn:Tryz.prog.funcs[fid]?=some fn) (hcal:Xr fn=true) (capv:List Value) (B w:World) (I:Im) (As:List Xe) (hE:∀ w,Sat B w I As→RecsW w a l) (hf:∀ (r:Rec) w,Sat B w I As→Calls Tryz.prog fid ([Value.agg (X7 r).toArray] ++ capv).toArray w (Ret fun v w'=>v=.bool (pr r)∧Sat B w' I As)) (hS:Sat B w I As) :
  Calls Tryz.prog 109 [.slice a l.length cap,.func (.func fid) #[] capv.toArray].toArray w (Ret fun v w'=>v=I64 (X2o pr l 0)∧Sat B w' I As):=by
 refine calls Tryz.func109 rfl Tryz.ntmps109 rfl (.seq (.q 1 rfl (.seq (.seq (.region (.run 3 rfl ⟨⟨_,X2x⟩,trivial⟩ (.nil (.block (.loop (σ:=Nat) (fun i=>[(0,.slice a l.length cap),(1,.func (.func fid) #[] capv.toArray),(7,I64 (l.length:Nat)),(8,I64 (i:Nat))]) (fun i w=>i≤l.length∧(∀ (j:Nat) t,j<i→l[j]?=some t→pr t=false)∧Sat B w I As) (fun i=>l.length - i) 0 ⟨rfl,rfl,rfl,rfl,trivial⟩ ⟨Yq _,fun _ _ h=>absurd h (by omega),hS⟩ ?_)))))))))
 rintro i w ⟨hi,hno,hS⟩
 refine .seq (.q 1 rfl (.seq ?_))
 refine WC.cond rfl (fun hb9=>?_) (fun hb9=>?_)
 ·
  have hc9:=hb9; try simp only [Y6] at hc9
  refine .skip (.seq (.block (.seq ?_)))
  obtain ⟨r,hr⟩:∃ r,l[i]?=some r:=⟨_,Y4 (by omega)⟩
  obtain ⟨p,rfl,hx⟩:=hE w hS i r hr
  refine .q 2 rfl (.seq (.t 3 rfl ?_))
  refine WL.val (.indexAddrI (.of rfl) (.of rfl) (by omega) (by omega) X2x X17) rfl ?_
  refine .val (ldsC (.of rfl) hx X36 X17 rfl) rfl (.vcall (cap:=capv) hfn hcal (.of rfl) (X0 (.of rfl) X4) rfl (hf r w hS) ?_)
  clear hS
  rintro _ w ⟨rfl,hS⟩
  refine .nil ?_
  refine WC.cond rfl (fun hb16=>?_) (fun hb16=>?_)
  ·
   refine .seq (.q 2 rfl (.ret (Xh Tryz.results109 rfl ?_)))
   exact ⟨_,rfl,by rw [X4w hno hr hb16],hS⟩
  have hc16:=hb16; try simp only [Y6] at hc16
  refine .skip (.region (.run 2 rfl ⟨⟨by omega,by omega⟩,trivial⟩ (.nil ?_)))
  refine ⟨i+1,⟨rfl,rfl,rfl,rfl,trivial⟩,⟨by omega,fun j t hj ht=>?_,hS⟩,by omega⟩
  rcases Yr j i with h1 | h1
  ·exact hno j t h1 ht
  ·have e:j=i:=by omega
   subst e
   rw [hr] at ht; cases ht
   exact hb16
 have hc9:=hb9; try simp only [Y6] at hc9
 refine .exit (.seq (.q 1 rfl (.ret (Xh Tryz.results109 rfl ?_))))
 exact ⟨_,rfl,by rw [X3n (fun j t ht=>hno j t (by have:=(Y5.1 ht).1; omega) ht)],hS⟩
theorem Xou (r:Rec) (name:List UInt8) (b:Nat) (B w:World) (I:Im) (As:List Xe) (hS:Sat B w I (blk b [S name] 9::As)) :
  Calls Tryz.prog 110 [.agg (X7 r).toArray,ptr b 0].toArray w (Ret fun v w'=>v=.bool (decide (r.name=name))∧Sat B w' I (blk b [S name] 9::As)):=by
 refine calls Tryz.func110 rfl Tryz.ntmps110 rfl (.seq (.region (.boxA (cs:=[_,_,_,_,_,_,_,_,_,_]) hS (.of rfl) rfl ?_)))
 clear hS; intro b2 w hS
 refine .q 1 rfl (.nil (.seq (.region ?_)))
 refine WL.val (.fieldAddr 1 (.of rfl) X16 rfl rfl Qs9 rfl) rfl ?_
 refine WL.val (.ld (.of rfl) hS (k:=0) rfl Qg9 rfl) rfl ?_
 refine WL.val (.ld (.of rfl) hS (k:=1) rfl Qg9 rfl) rfl ?_
 refine .q 2 rfl (.nil (.ret (Xh Tryz.results110 rfl ?_)))
 exact ⟨_,rfl,congrArg Value.bool (by rw [Y3a]; simp),hS.drop (k:=0) rfl⟩
theorem Xai (tb:Nat) (room:Int) (a:Option Addr) (c:Nat) (l:List Rec) (hl:l.length≤100000) (name:List UInt8) (B w:World) (I:Im) (As:List Xe) (hS:Sat B w I (blk tb [I64 room,.slice a l.length c] 127::Vec 45 10 (.slice a l.length c) l.length (Xv l)::As)) :
  Calls Tryz.prog 61 [ptr tb 0,S name].toArray w (Ret fun v w'=>v=I64 (at0 l name)∧Sat B w' I (blk tb [I64 room,.slice a l.length c] 127::Vec 45 10 (.slice a l.length c) l.length (Xv l)::As)):=by
 refine calls Xqe rfl Tryz.ntmps61 rfl (.seq (.region (.box1 hS (.of rfl) rfl rfl ?_)))
 clear hS; intro b3 w hS
 refine .q 1 rfl (.nil (.seq (.t 2 rfl ?_)))
 refine WL.val (.fieldAddr 1 (.of rfl) X7q rfl rfl X61 rfl) rfl ?_
 refine WL.val (.ld (.of rfl) hS (k:=1) rfl Xbz rfl) rfl ?_
 refine .val (.makeFunc (X0 (.of rfl) X4)) rfl (.call Tryz.func109 rfl (X0 (.of rfl) (X0 (.of rfl) X4)) rfl (X9s a c l hl (fun r=>decide (r.name=name)) 110 _ Tryz.func110 rfl [ptr b3 0] B _ I (blk b3 [S name] 9::(blk tb [I64 room,.slice a l.length c] 127::Vec 45 10 (.slice a l.length c) l.length (Xv l)::As)) (fun w h=>X55 h (k:=2) rfl) (fun r w h=>Xou r name b3 B w I _ h) hS) ?_)
 clear hS
 rintro _ w ⟨rfl,hS⟩
 refine .q 1 rfl (.nil (.ret (Xh Tryz.results61 rfl ?_)))
 exact ⟨_,rfl,by rw [X7x]; rfl,hS.drop (k:=0) rfl⟩
theorem X2d:Bld Tryz.prog 45 [(0,1),(1,1),(2,1),(3,1),(4,1),(5,1),(6,1),(7,1),(8,1),(9,1)] [.int .i64 0,S [],S [],S [],S [],S [],.int .i64 0,.int .i64 0,.int .i64 0,.bool false]:=X26 X16 X7c (fun w=>by simp [go_sem])
theorem Xez (tb:Nat) (room:Int) (a:Option Addr) (c:Nat) (l:List Rec) (hl:l.length≤100000) (name:List UInt8) (B w:World) (I:Im) (As:List Xe) (hS:Sat B w I (blk tb [I64 room,.slice a l.length c] 127::Vec 45 10 (.slice a l.length c) l.length (Xv l)::As)) :
  Calls Tryz.prog 17 [ptr tb 0,S name].toArray w (Ret fun v w'=>v=.tuple #[.agg (X7 (getD l name)).toArray,.bool (get l name).isSome]∧Sat B w' I (blk tb [I64 room,.slice a l.length c] 127::Vec 45 10 (.slice a l.length c) l.length (Xv l)::As)):=by
 refine calls Qf17 rfl Tryz.ntmps17 rfl (.seq (.region (.allocA (cs:=[_,_,_,_,_,_,_,_,_,_]) hS X7c rfl ?_)))
 clear hS; intro b4 w hS
 refine .q 1 rfl (.nil (.seq (.seq (.t 2 rfl (.call Xqe rfl (X0 (.of rfl) (X0 (.of rfl) X4)) rfl (Xai tb room a c l hl name B _ I _ ((hS.pick 2 rfl).pick 2 rfl)) ?_)))))
 clear hS
 rintro _ w ⟨rfl,hS⟩
 replace hS:=hS.pick 2 rfl
 refine .q 1 rfl (.nil (.seq (.q 2 rfl ?_)))
 refine WC.cond rfl (fun hb11=>?_) (fun hb11=>?_)
 ·
  refine .seq ?_
  have hq:0≤at0 l name:=by simpa using hb11
  obtain ⟨j,r,hj,hr,hn⟩:∃ (j:Nat) (r:Rec),at0 l name=(j:Int)∧l[j]?=some r∧get l name=some r:=by
   rcases Tr.get_at l name with ⟨h1,_⟩ | ⟨j,r,h1,h2,_,h3⟩
   ·omega
   ·exact ⟨j,r,h1,h2,h3⟩
  have hjl:=(Y5.1 hr).1
  obtain ⟨p,rfl,hx⟩:=X55 hS (k:=2) rfl j r hr
  rw [hj]
  refine .t 2 rfl ?_
  refine WL.val (.fieldAddr 1 (.of rfl) X7q rfl rfl X61 rfl) rfl ?_
  refine WL.val (.ld (.of rfl) hS (k:=1) rfl Xbz rfl) rfl ?_
  refine .q 1 rfl ?_
  refine WL.val (.indexAddrI (.of rfl) (.of rfl) (by omega) (by omega) X2x X17) rfl ?_
  refine .val (ldsC (.of rfl) hx X36 X17 rfl) rfl ?_
  refine WL.stA hS (k:=0) rfl (.of rfl) (.of rfl) rfl X17 rfl (by simp) ?_
  clear hS; intro w hS
  try simp only [Yh,Yd,Y9,Y7,Yg,Ym,Yc] at hS
  refine .q 1 rfl (.nil (.ret ?_))
  refine X18 (b:=_) (cs:=[_,_,_,_,_,_,_,_,_,_]) Tryz.results17 hS (k:=0) rfl X36 X17 rfl rfl rfl ?_
  exact ⟨_,rfl,by rw [getD,hn]; rfl,hS.drop (k:=0) rfl⟩
 refine .skip (.seq (.region (.val (.build (cs:=[_,_,_,_,_,_,_,_,_,_]) X6 X2d rfl) rfl ?_)))
 refine WL.stA hS (k:=0) rfl (.of rfl) (.of rfl) rfl X17 rfl (by simp) ?_
 clear hS; intro w hS
 try simp only [Yh,Yd,Y9,Y7,Yg,Ym,Yc] at hS
 refine .q 1 rfl (.nil (.ret ?_))
 refine X18 (b:=_) (cs:=[_,_,_,_,_,_,_,_,_,_]) Tryz.results17 hS (k:=0) rfl X36 X17 rfl rfl rfl ?_
 refine ⟨_,rfl,?_,hS.drop (k:=0) rfl⟩
 rcases Tr.get_at l name with ⟨h1,h2⟩ | ⟨j,r,h1,_⟩
 ·rw [getD,h2]; rfl
 ·exfalso; rw [h1] at hb11; simp at hb11
theorem Xfz (l:List Rec):∀ (f:Nat) (i:Int),(X3y l f i).length≤f
 | 0,_=>by simp [X3y]
 | f+1,i=>by
  rw [X3y]
  split
  ·simp
  ·cases l[i.toNat]? with
   | none=>simp
   | some r =>
    have h:=Xfz l f (at0 l r.parent)
    simp only [Ye]; omega
theorem X45 {l:List Rec} (h:Wf l) (name:List UInt8):(path l name).length≤l.length:=by
 unfold path Xdb
 rcases X2q l name with ⟨h1,_⟩ | ⟨j,r,h1,h2,_⟩
 ·rw [h1,X3h l _ (by omega)]; simp
 ·have h3:=(Y5.1 h2).1
  have h4:=Xfz l ((at0 l name).toNat+1) (at0 l name)
  rw [h1] at h4 ⊢
  omega
theorem Xfj (tb:Nat) (room:Int) (a:Option Addr) (c:Nat) (l:List Rec) (hl:l.length≤100000) (hwf:Wf l) (name:List UInt8) (B w:World) (I:Im) (As:List Xe) (hS:Sat B w I (blk tb [I64 room,.slice a l.length c] 127::Vec 45 10 (.slice a l.length c) l.length (Xv l)::As)) :
  Calls Tryz.prog 80 [ptr tb 0,S name].toArray w (Ret fun v w'=>∃ J ra rc,v=.slice ra (path l name).length rc∧Le I J∧(path l name).length≤rc∧RS J ra 1 (path l name).length ((path l name).map fun r=>S r.name)∧Sat B w' J (blk tb [I64 room,.slice a l.length c] 127::Vec 45 10 (.slice a l.length c) l.length (Xv l)::As)):=by
 refine calls Tryz.func80 rfl Tryz.ntmps80 rfl (.seq (.q 1 rfl (.seq (.q 1 rfl (.seq (.seq (.t 2 rfl (.call Xqe rfl (X0 (.of rfl) (X0 (.of rfl) X4)) rfl (Xai tb room a c l hl name B _ I _ hS) ?_))))))))
 clear hS
 rintro _ w ⟨rfl,hS⟩
 replace hS:=hS.vecNil 9 1
 refine .q 1 rfl (.nil (.block (.loop (σ:=Value×Int×List Rec) (fun ⟨kv,i,D⟩=>[(0,ptr tb 0),(1,S name),(5,kv),(6,I64 i)]) (fun ⟨kv,i,D⟩ w=>path l name=D ++ Xdb l i∧-1≤i∧i<l.length∧Sat B w I (Vec 9 1 kv D.length (D.map fun r=>S r.name)::blk tb [I64 room,.slice a l.length c] 127::Vec 45 10 (.slice a l.length c) l.length (Xv l)::As)) (fun ⟨kv,i,D⟩=>(i+1).toNat) (.slice none 0 0,at0 l name,[]) ⟨rfl,rfl,rfl,rfl,trivial⟩ ⟨rfl,Xkg l name,Xed l name,hS⟩ ?_)))
 rintro ⟨kv,i,D⟩ w ⟨hp2,hi1,hi2,hS⟩
 refine .seq (.seq (.q 2 rfl ?_))
 refine WC.cond rfl (fun hb11=>?_) (fun hb11=>?_)
 ·
  refine .skip (.seq (.block ?_))
  obtain ⟨q,rfl⟩:∃ q:Nat,i=(q:Int):=⟨i.toNat,by simp at hb11; omega⟩
  obtain ⟨r,hr⟩:∃ r,l[q]?=some r:=⟨_,Y4 (by omega)⟩
  obtain ⟨p,rfl,hx⟩:=X55 hS (k:=2) rfl q r hr
  have hql:q<l.length:=by omega
  have hup:=(hwf.up q r hr).2
  have hDl:D.length≤l.length:=by have h1:=X45 hwf name; rw [hp2,Y0] at h1; omega
  refine .t 3 rfl ?_
  refine WL.val (.fieldAddr 1 (.of rfl) X7q rfl rfl X61 rfl) rfl ?_
  refine WL.val (.ld (.of rfl) hS (k:=1) rfl Xbz rfl) rfl ?_
  refine .q 1 rfl ?_
  refine WL.val (.indexAddrI (.of rfl) (.of rfl) (by omega) (by omega) X2x X17) rfl ?_
  refine WL.val (.fieldAddrI 1 (.of rfl) X16 rfl rfl Qs9 rfl) rfl ?_
  refine .val (ldC (.of rfl) (hx 1 _ rfl) Qg9) rfl (.buildSlice (cs:=[_]) hS (X5 (.of rfl) X6) X1p Qs9 Qz9 rfl rfl rfl rfl ?_)
  clear hS; intro b31 w hS
  refine WL.append (size:=1) (bytes:=16) hS (.of rfl) (.of rfl) (k:=0) rfl X1p X21 rfl rfl rfl rfl rfl rfl rfl ⟨by omega,by unfold maxLen; omega⟩ rfl ?_
  clear hS; intro v32 w hS
  obtain ⟨a32,c32,rfl,hcap32,_⟩:=hS.vecSlice (k:=0) (v:=v32) rfl
  refine .q 1 rfl (.nil ?_)
  obtain ⟨p9,hp9,hx⟩:=X55 hS (k:=2) rfl q r hr
  cases hp9
  refine .t 3 rfl ?_
  refine WL.val (.fieldAddr 1 (.of rfl) X7q rfl rfl X61 rfl) rfl ?_
  refine WL.val (.ld (.of rfl) hS (k:=1) rfl Xbz rfl) rfl ?_
  refine .q 1 rfl ?_
  refine WL.val (.indexAddrI (.of rfl) (.of rfl) (by omega) (by omega) X2x X17) rfl ?_
  refine WL.val (.fieldAddrI 2 (.of rfl) X16 rfl rfl Qs9 rfl) rfl ?_
  refine .val (ldC (.of rfl) (hx 2 _ rfl) Qg9) rfl (.call Xqe rfl (X0 (.of rfl) (X0 (.of rfl) X4)) rfl (Xai tb room (some p) c l hl r.parent B _ I _ ((hS.pick 2 rfl).pick 2 rfl)) ?_)
  clear hS
  rintro _ w ⟨rfl,hS⟩
  refine .q 1 rfl (.nil ?_)
  refine ⟨(.slice a32 (D.length+1) c32,at0 l r.parent,D ++ [r]),⟨rfl,rfl,rfl,rfl,trivial⟩,⟨by (try dsimp only); rw [hp2,Xau hwf hr,Yf]; rfl,Xkg l _,Xed l _,?_⟩,by (try dsimp only); omega⟩
  rw [Y0,Yx]
  exact (hS.pick 2 rfl)
 refine .exit (.seq (.q 2 rfl (.ret (Xh Tryz.results80 rfl ?_))))
 have hin:i<0:=by simp at hb11; omega
 rw [X66 l hin,Y9] at hp2
 subst hp2
 obtain ⟨ka,kc,rfl,hkc,_⟩:=hS.vecSlice (k:=0) rfl
 obtain ⟨J,hJ,hRS,hS⟩:=hS.freezeVec (k:=0) rfl
 exact ⟨_,rfl,J,ka,kc,rfl,hJ,hkc,hRS,hS⟩
theorem X5z:Tryz.prog.info? 45=some Tryz.t45:=by kernel_rfl
theorem Xi3:Bld Tryz.prog 127 [(0,1),(1,1)] [.int .i64 0,.slice none 0 0]:=X26 X7q Tryz.zeroValue127 (fun w=>by simp [go_sem])
theorem X56 (l:List Rec) (r:Rec):Xv (l ++ [r])=Xv l ++ X7 r:=by unfold Xv; simp
theorem X93 {r:Rec}:∀ {l:List Rec} {j:Nat},j<l.length→Xv (l.set j r)=(Xv l).take (j*10) ++ X7 r ++ (Xv l).drop (j*10+10)
 | [],j,h=>absurd h (by simp)
 | t::l,0,h=>by
  unfold Xv
  rw [Y4i,Y1e,Y1v,Y1e,Y1v,Y2k (by exact Yu 10)]
  rfl
 | t::l,j+1,h=>by
  have h1:=X93 (r:=r) (l:=l) (j:=j) (by simpa using h)
  have e:∀ l:List Rec,Xv (t::l)=X7 t ++ Xv l:=fun l=>rfl
  rw [Y3s,e,e,h1,show (j+1)*10=(X7 t).length+j*10 by show (j+1)*10=10+j*10; omega,List.take_length_add_append,Y3c,List.drop_length_add_append]
  simp only [Yf]
theorem Xqn (r:Rec):(X7 r).all Value.oneCell'=true:=rfl
theorem X52:∀ (l:List Rec),(Xv l).all Value.oneCell'=true
 | []=>rfl
 | r::l=>by
  show (X7 r ++ Xv l).all Value.oneCell'=true
  rw [List.all_append,Xqn,X52 l]; rfl
theorem Xa2 (l:List Rec) (r:Rec):(put l r).length=l.length:=by
 unfold put
 split
 ·rw [Y25]
 ·rfl
def Xkl (n:Int):Int:=max 0 (min n 64)
theorem Xeg (n:Int) (B w:World) (I:Im) (As:List Xe) (hS:Sat B w I As) :
  Calls Tryz.prog 92 [I64 n].toArray w (Ret fun v w'=>∃ tb,v=ptr tb 0∧Sat B w' I (blk tb [I64 (Xkl n),.slice none (([]:List Rec)).length 0] 127::Vec 45 10 (.slice none (([]:List Rec)).length 0) (([]:List Rec)).length (Xv (([]:List Rec)))::As)):=by
 refine calls Tryz.func92 rfl Tryz.ntmps92 rfl (.seq (.q 1 rfl (.seq (.t 1 rfl (.val (.min2 (.of rfl) (.of rfl)) rfl (.val (.max2 (.of rfl) (.of rfl)) rfl (.val (.build (cs:=[_,_]) (X5 (.of rfl) X6) Xi3 rfl) rfl (.boxA (cs:=[_,_]) hS (.of rfl) rfl ?_))))))))
 clear hS; intro b7 w hS
 refine .q 1 rfl (.nil (.ret (Xh Tryz.results92 rfl ?_)))
 refine ⟨_,rfl,_,rfl,?_⟩
 exact (hS.vecNil 45 10).pick 1 rfl
theorem Xq5 (tb:Nat) (room:Int) (a:Option Addr) (c:Nat) (l:List Rec) (hl:l.length≤100000) (r:Rec) (hn:r.name.length≤1000000) (hp:r.parent.length≤1000000) (B w:World) (I:Im) (hK:Known I) (hP:PreAt I) (As:List Xe) (hS:Sat B w I (blk tb [I64 room,.slice a l.length c] 127::Vec 45 10 (.slice a l.length c) l.length (Xv l)::As)) :
  Calls Tryz.prog 95 [ptr tb 0,.agg (X7 r).toArray].toArray w (Ret fun v w'=>v=I64 (X9o l r:Nat)∧Sat B w' I (blk tb [I64 room,.slice a (put l r).length c] 127::Vec 45 10 (.slice a (put l r).length c) (put l r).length (Xv (put l r))::As)):=by
 refine calls Tryz.func95 rfl Tryz.ntmps95 rfl (.seq (.region (.boxA (cs:=[_,_,_,_,_,_,_,_,_,_]) hS (.of rfl) rfl ?_)))
 clear hS; intro b3 w hS
 refine .q 1 rfl (.nil (.seq (.seq (.region ?_))))
 refine WL.val (.ldsW (cs:=[_,_,_,_,_,_,_,_,_,_]) (.of rfl) hS (k:=0) rfl X36 X17 rfl) rfl ?_
 refine .call Tryz.func106 rfl (X0 (.of rfl) X4) rfl (Xde r hn hp B _ I hK hP _ hS) ?_
 clear hS
 rintro _ w ⟨rfl,hS⟩
 refine .q 1 rfl (.nil ?_)
 refine WC.cond rfl (fun hb8=>?_) (fun hb8=>?_)
 ·
  refine .seq (.q 1 rfl (.ret (Xh Qr95 rfl ?_)))
  have h1:Xt r=false:=by simpa using hb8
  have hE:X9o l r=1:=by rw [X9o,if_pos h1]
  have hQ:put l r=l:=by rw [put,if_neg (by rw [hE]; decide)]
  rw [hE,hQ]
  exact ⟨_,rfl,rfl,hS.drop (k:=0) rfl⟩
 refine .skip (.seq (.t 1 rfl ?_))
 refine WL.val (.fieldAddr 1 (.of rfl) X16 rfl rfl Qs9 rfl) rfl ?_
 refine WL.val (.ld (.of rfl) hS (k:=0) rfl Qg9 rfl) rfl ?_
 refine .call Xqe rfl (X0 (.of rfl) (X0 (.of rfl) X4)) rfl (Xai tb room a c l hl r.name B _ I _ ((hS.pick 2 rfl).pick 2 rfl)) ?_
 clear hS
 rintro _ w ⟨rfl,hS⟩
 replace hS:=hS.pick 2 rfl
 refine .q 1 rfl (.nil (.seq (.block (.seq (.q 3 rfl ?_)))))
 refine WC.cond rfl (fun hb13=>?_) (fun hb13=>?_)
 ·
  refine .seq (.q 1 rfl (.ret (Xh Qr95 rfl ?_)))
  have h1:¬ Xt r=false:=by simpa using hb8
  have h2:get l r.name=none:=by
   rcases Tr.get_at l r.name with ⟨_,h2⟩ | ⟨j,t,h2,_⟩
   ·exact h2
   ·exfalso; rw [h2] at hb13; have:=of_decide_eq_true hb13; omega
  have hE:X9o l r=6:=by rw [X9o,if_neg h1,h2]
  have hQ:put l r=l:=by rw [put,if_neg (by rw [hE]; decide)]
  rw [hE,hQ]
  exact ⟨_,rfl,rfl,hS.drop (k:=0) rfl⟩
 refine .seq ?_
 obtain ⟨j,t,hj,ht,hn2⟩:∃ (j:Nat) (t:Rec),at0 l r.name=(j:Int)∧l[j]?=some t∧get l r.name=some t:=by
  rcases Tr.get_at l r.name with ⟨h1,_⟩ | ⟨j,t,h1,h2,_,h3⟩
  ·exfalso; rw [h1] at hb13; simp at hb13
  ·exact ⟨j,t,h1,h2,h3⟩
 have hjl:=(Y5.1 ht).1
 obtain ⟨p,rfl,_⟩:=X55 hS (k:=2) rfl j t ht
 rw [hj]
 refine .quiet (by kernel_rfl) (by kernel_rfl) hS (.val (fun w hS=>(.move (.of rfl))) rfl (.val (fun w hS=>(.nilCheck (.of rfl))) rfl ?_))
 refine WQ.val (fun w hS=>(by exact .fieldAddr 1 (.of rfl) X7q rfl rfl X61 rfl)) rfl ?_
 refine WQ.val (fun w hS=>(by exact (.ld (.of rfl) hS (k:=1) rfl Xbz rfl))) rfl ?_
 refine .val (fun w hS=>(.move (.of rfl))) rfl ?_
 refine WQ.val (fun w hS=>(by exact .indexAddrI (.of rfl) (.of rfl) (by omega) (by omega) X2x X17)) rfl ?_
 refine WQ.val (fun w hS=>(by exact .fieldAddrI 2 (.of rfl) X16 rfl rfl Qs9 rfl)) rfl ?_
 refine WQ.val (fun w hS=>ldC (.of rfl) (by obtain ⟨p9,hp9,hx⟩:=X55 hS (k:=2) rfl j t ht; cases hp9; exact hx 2 _ rfl) Qg9) rfl ?_
 refine WQ.val (fun w hS=>(by exact .fieldAddr 2 (.of rfl) X16 rfl rfl Qs9 rfl)) rfl ?_
 refine WQ.val (fun w hS=>(by exact (.ld (.of rfl) hS (k:=0) rfl Qg9 rfl))) rfl ?_
 refine .val (fun w hS=>(.nes (.of rfl) (.of rfl))) rfl (.val (fun w hS=>(.assign (.of rfl))) rfl (.nil ?_))
 clear hS; intro w hS
 refine WC.cond rfl (fun hb16=>?_) (fun hb16=>?_)
 ·
  refine .seq (.q 1 rfl (.ret (Xh Qr95 rfl ?_)))
  have h1:¬ Xt r=false:=by simpa using hb8
  have h2:t.parent≠r.parent:=by simpa using hb16
  have hE:X9o l r=8:=by rw [X9o,if_neg h1,hn2]; exact if_pos h2
  have hQ:put l r=l:=by rw [put,if_neg (by rw [hE]; decide)]
  rw [hE,hQ]
  exact ⟨_,rfl,rfl,hS.drop (k:=0) rfl⟩
 refine .skip (.seq ?_)
 obtain ⟨gb,cap9,rest9,hv9,hc1,hc2,hl1,hl2,hS⟩:=hS.vecOpen (k:=2) rfl (by omega)
 injection hv9 with hv1 hv2 hv3
 injection hv1 with hv1
 subst hv1
 subst hv3
 refine .drawn (fun w=>∃ R,Sat B w I (blk b3 [I64 r.kind,S r.name,S r.parent,S r.user,S r.service,S r.url,I64 r.made,I64 r.used,I64 r.uses,.bool r.fresh] 45::blk tb [I64 room,.slice (some ⟨gb,0,none⟩) l.length c] 127::blk gb (Xv l ++ rest9) 45::R)) (fun j=>!([7].contains j)) (by kernel_rfl) ?_
 replace hS:=hS.drew; generalize w.drew=w at hS ⊢
 have hH:=(((hS.pick 2 rfl).pick 2 rfl).pick 2 rfl)
 refine .tp (i:=0) rfl (by kernel_rfl) (fun w=>(.move (.of rfl))) rfl (.tp (i:=1) rfl (by kernel_rfl) (fun w=>(.nilCheck (.of rfl))) rfl ?_)
 refine WD.tp (i:=2) rfl (by kernel_rfl) (fun w=>(.fieldAddr 1 (.of rfl) X7q rfl rfl X61 rfl)) rfl ?_
 refine WD.tk (i:=3) rfl (by kernel_rfl) ⟨_,hH⟩ (fun w ⟨R,hS⟩=>((.ld (.of rfl) hS (k:=1) rfl Xbz rfl))) rfl ?_
 refine .tp (i:=4) rfl (by kernel_rfl) (fun w=>(.move (.of rfl))) rfl ?_
 refine WD.tk (i:=5) rfl (by kernel_rfl) ⟨_,hH⟩ (fun w ⟨R,hS⟩=>((.ldsW (cs:=[_,_,_,_,_,_,_,_,_,_]) (.of rfl) hS (k:=0) rfl X36 X17 rfl))) rfl ?_
 refine WD.tp (i:=6) rfl (by kernel_rfl) (fun w=>(.indexAddr (.of rfl) (.of rfl) (by omega) (by omega) X2x X17)) rfl ?_
 refine WD.branch [7] (by kernel_rfl) rfl (WO.cons rfl ?_ (WO.nil))
 refine WL.stA hS (k:=2) rfl (.of rfl) (.of rfl) rfl X17 rfl (by simp only [Y0]; omega) ?_
 clear hS; intro w hS
 rw [Yc,Y2j (by omega),Y2k (by omega),← Yf] at hS
 replace hS:=hS.drop (k:=0) rfl
 replace hS:=hS.vecShut (n:=l.length) (size:=10) (k:=1) rfl hc1 hc2 (by simp only [Y0,Ys,Yp,Ye,Yn]; omega) (by simp only [Y0,Ys,Yp,Ye,Yn]; omega)
 refine .nil ?_
 refine And.intro (by intro h; cases h) ?_
 refine .done (by kernel_rfl) (.seq (.q 1 rfl (.ret (Xh Qr95 rfl ?_))))
 have h1:¬ Xt r=false:=by simpa using hb8
 have h2:¬ t.parent≠r.parent:=by simpa using hb16
 have hE:X9o l r=0:=by rw [X9o,if_neg h1,hn2]; exact if_neg h2
 have hQ:put l r=l.set j r:=by rw [put,if_pos hE,hj,Yj]
 rw [hE,Xa2,hQ,X93 hjl]
 exact ⟨_,rfl,rfl,hS⟩
theorem Xf9 (tb:Nat) (room:Int) (a:Option Addr) (c:Nat) (l:List Rec) (hl:l.length≤100000) (r:Rec) (hn:r.name.length≤1000000) (hp:r.parent.length≤1000000) (B w:World) (I:Im) (hK:Known I) (hP:PreAt I) (As:List Xe) (hS:Sat B w I (blk tb [I64 room,.slice a l.length c] 127::Vec 45 10 (.slice a l.length c) l.length (Xv l)::As)) :
  Calls Tryz.prog 57 [ptr tb 0,.agg (X7 r).toArray].toArray w (Ret fun v w'=>v=I64 (X6k room l r:Nat)∧∃ a c,Sat B w' I (blk tb [I64 room,.slice a (add room l r).length c] 127::Vec 45 10 (.slice a (add room l r).length c) (add room l r).length (Xv (add room l r))::As)):=by
 refine calls Qf57 rfl Tryz.ntmps57 rfl (.seq (.region (.boxA (cs:=[_,_,_,_,_,_,_,_,_,_]) hS (.of rfl) rfl ?_)))
 clear hS; intro b3 w hS
 refine .q 1 rfl (.nil (.seq (.block (.seq (.region ?_)))))
 refine WL.val (.ldsW (cs:=[_,_,_,_,_,_,_,_,_,_]) (.of rfl) hS (k:=0) rfl X36 X17 rfl) rfl ?_
 refine .call Tryz.func106 rfl (X0 (.of rfl) X4) rfl (Xde r hn hp B _ I hK hP _ hS) ?_
 clear hS
 rintro _ w ⟨rfl,hS⟩
 refine .q 2 rfl (.nil ?_)
 refine WC.cond rfl (fun hb5=>?_) (fun hb5=>?_)
 ·
  refine .seq (.q 1 rfl (.ret (Xh Qr57 rfl ?_)))
  have hE:X6k room l r=1:=by rw [X6k,if_pos (by simpa using hb5)]
  have hQ:add room l r=l:=by rw [add,if_neg (by rw [hE]; decide)]
  rw [hE,hQ]
  exact ⟨_,rfl,rfl,a,c,hS.drop (k:=0) rfl⟩
 have hc5:=hb5; try simp only [Y6] at hc5
 refine .seq (.t 1 rfl ?_)
 refine WL.val (.fieldAddr 1 (.of rfl) X16 rfl rfl Qs9 rfl) rfl ?_
 refine WL.val (.ld (.of rfl) hS (k:=0) rfl Qg9 rfl) rfl ?_
 refine .call Xqe rfl (X0 (.of rfl) (X0 (.of rfl) X4)) rfl (Xai tb room a c l hl r.name B _ I _ ((hS.pick 2 rfl).pick 2 rfl)) ?_
 clear hS
 rintro _ w ⟨rfl,hS⟩
 refine .q 2 rfl (.nil ?_)
 refine WC.cond rfl (fun hb9=>?_) (fun hb9=>?_)
 ·
  refine .seq (.q 1 rfl (.ret (Xh Qr57 rfl ?_)))
  have h1:¬ Xt r=false:=by simpa using hb5
  have hE:X6k room l r=7:=by rw [X6k,if_neg h1,if_pos (by simpa using hb9)]
  have hQ:add room l r=l:=by rw [add,if_neg (by rw [hE]; decide)]
  rw [hE,hQ]
  exact ⟨_,rfl,rfl,a,c,hS.drop (k:=2) rfl⟩
 have hc9:=hb9; try simp only [Y6] at hc9
 refine .seq (.region ?_)
 refine WL.val (.fieldAddr 2 (.of rfl) X16 rfl rfl Qs9 rfl) rfl ?_
 refine WL.val (.ld (.of rfl) hS (k:=2) rfl Qg9 rfl) rfl ?_
 refine .q 2 rfl (.gval rfl rfl (fun hg1=>(.move (.of rfl))) rfl ?_)
 refine WL.gval rfl rfl (fun hg1=>(by exact .fieldAddr 2 (.of rfl) X16 rfl rfl Qs9 rfl)) rfl ?_
 refine WL.gval rfl rfl (fun hg1=>(by exact (.ld (.gd hg1 rfl) hS (k:=2) rfl Qg9 rfl))) rfl ?_
 refine .gcall (T:=fun w=>Sat B w I (blk tb [I64 room,.slice a l.length c] 127::Vec 45 10 (.slice a l.length c) l.length (Xv l)::blk b3 [I64 r.kind,S r.name,S r.parent,S r.user,S r.service,S r.url,I64 r.made,I64 r.used,I64 r.uses,.bool r.fresh] 45::As)) rfl rfl rfl Xqe rfl (fun hg1=>(X0 (.gd hg1 rfl) (X0 (.gd hg1 rfl) X4))) rfl (fun hg1=>Xai tb room a c l hl r.parent B _ I _ hS) hS ?_
 clear hS; rintro w hS
 refine .gval rfl rfl (fun hg1=>(.lss (.gd hg1 rfl) (.of rfl))) rfl (.val (.pand (.of rfl) (.of rfl) (.of rfl)) rfl (.q 1 rfl (.nil ?_)))
 refine WC.cond rfl (fun hb15=>?_) (fun hb15=>?_)
 ·
  refine .seq (.q 1 rfl (.ret (Xh Qr57 rfl ?_)))
  have h1:¬ Xt r=false:=by simpa using hb5
  have h2:¬ 0≤at0 l r.name:=by simpa using hb9
  have hE:X6k room l r=6:=by rw [X6k,if_neg h1,if_neg h2,if_pos (by simpa using hb15)]
  have hQ:add room l r=l:=by rw [add,if_neg (by rw [hE]; decide)]
  rw [hE,hQ]
  exact ⟨_,rfl,rfl,a,c,hS.drop (k:=2) rfl⟩
 have hc15:=hb15; try simp only [Y6] at hc15
 refine .seq (.quiet (by kernel_rfl) (by kernel_rfl) hS (.val (fun w hS=>(.move (.of rfl))) rfl (.val (fun w hS=>(.nilCheck (.of rfl))) rfl ?_)))
 refine WQ.val (fun w hS=>(by exact .fieldAddr 1 (.of rfl) X7q rfl rfl X61 rfl)) rfl ?_
 refine WQ.val (fun w hS=>(by exact (.ld (.of rfl) hS (k:=0) rfl Xbz rfl))) rfl ?_
 refine .val (fun w hS=>(.lenSlice (.of rfl) X2x)) rfl (.val (fun w hS=>(.move (.of rfl))) rfl (.val (fun w hS=>(.nilCheck (.of rfl))) rfl ?_))
 refine WQ.val (fun w hS=>(by exact .fieldAddr 0 (.of rfl) X7q rfl rfl Qs3 rfl)) rfl ?_
 refine WQ.val (fun w hS=>(by exact (.ld (.of rfl) hS (k:=0) rfl Qg3 rfl))) rfl ?_
 refine .val (fun w hS=>(.geq (.of rfl) (.of rfl))) rfl (.val (fun w hS=>(.assign (.of rfl))) rfl (.nil ?_))
 clear hS; intro w hS
 refine WC.cond rfl (fun hb26=>?_) (fun hb26=>?_)
 ·
  have hc26:=hb26; try simp only [Y6] at hc26
  refine .seq (.q 1 rfl (.ret (Xh Qr57 rfl ?_)))
  have h1:¬ Xt r=false:=by simpa using hb5
  have h2:¬ 0≤at0 l r.name:=by simpa using hb9
  have h3:¬ (r.parent≠[]∧at0 l r.parent<0):=fun h=>by
   rcases hc15 with e | e
   ·exact h.1 e
   ·omega
  have hE:X6k room l r=5:=by rw [X6k,if_neg h1,if_neg h2,if_neg h3,if_pos (by simpa using hb26)]
  have hQ:add room l r=l:=by rw [add,if_neg (by rw [hE]; decide)]
  rw [hE,hQ]
  exact ⟨_,rfl,rfl,a,c,hS.drop (k:=2) rfl⟩
 have hc26:=hb26; try simp only [Y6] at hc26
 refine .skip (.seq (.drawn (fun w=>∃ R,Sat B w I (blk b3 [I64 r.kind,S r.name,S r.parent,S r.user,S r.service,S r.url,I64 r.made,I64 r.used,I64 r.uses,.bool r.fresh] 45::blk tb [I64 room,.slice a l.length c] 127::R)) (fun j=>!([10].contains j)) (by kernel_rfl) ?_))
 replace hS:=hS.drew; generalize w.drew=w at hS ⊢
 have hH:=((hS.pick 0 rfl).pick 2 rfl)
 refine .tp (i:=0) rfl (by kernel_rfl) (fun w=>(.move (.of rfl))) rfl (.tp (i:=1) rfl (by kernel_rfl) (fun w=>(.move (.of rfl))) rfl (.tp (i:=2) rfl (by kernel_rfl) (fun w=>(.nilCheck (.of rfl))) rfl ?_))
 refine WD.tp (i:=3) rfl (by kernel_rfl) (fun w=>(.fieldAddr 1 (.of rfl) X7q rfl rfl X61 rfl)) rfl ?_
 refine WD.tk (i:=4) rfl (by kernel_rfl) ⟨_,hH⟩ (fun w ⟨R,hS⟩=>((.ld (.of rfl) hS (k:=1) rfl Xbz rfl))) rfl ?_
 refine WD.tk (i:=5) rfl (by kernel_rfl) ⟨_,hH⟩ (fun w ⟨R,hS⟩=>((.ldsW (cs:=[_,_,_,_,_,_,_,_,_,_]) (.of rfl) hS (k:=0) rfl X36 X17 rfl))) rfl ?_
 refine WD.branch [6] (by kernel_rfl) rfl (WO.cons rfl ?_ (WO.nil))
 refine .buildSlice (cs:=[_,_,_,_,_,_,_,_,_,_]) hS (X5 (.of rfl) X6) X2x X17 X7c rfl rfl rfl rfl ?_
 clear hS; intro b43 w hS
 refine .nil ?_
 clear hH
 have hH:=((hS.pick 1 rfl).pick 3 rfl)
 refine And.intro (by intro _ _; exact ⟨_,hH⟩) ?_
 refine WD.branch [7] (by kernel_rfl) rfl (WO.cons rfl ?_ (WO.nil))
 refine WL.append (size:=10) (bytes:=120) hS (.of rfl) (.of rfl) (k:=1) rfl X2x X5z rfl rfl rfl rfl rfl rfl rfl ⟨by omega,by unfold maxLen; omega⟩ rfl ?_
 clear hS; intro v44 w hS
 obtain ⟨a44,c44,rfl,hcap44,_⟩:=hS.vecSlice (k:=1) (v:=v44) rfl
 refine .nil ?_
 clear hH
 have hH:=((hS.pick 0 rfl).pick 2 rfl)
 refine And.intro (by intro _ _; exact ⟨_,hH⟩) ?_
 refine .tp (i:=8) rfl (by kernel_rfl) (fun w=>(.nilCheck (.of rfl))) rfl ?_
 refine WD.tp (i:=9) rfl (by kernel_rfl) (fun w=>(.fieldAddr 1 (.of rfl) X7q rfl rfl X61 rfl)) rfl ?_
 refine WD.branch [10] (by kernel_rfl) rfl (WO.cons rfl ?_ (WO.nil))
 refine WL.st1 hS (k:=0) rfl (.of rfl) (.of rfl) rfl X61 (by simp) ?_
 clear hS; intro w hS
 refine .nil ?_
 refine And.intro (by intro h; cases h) ?_
 refine .done (by kernel_rfl) (.seq (.q 1 rfl (.ret (Xh Qr57 rfl ?_))))
 have h1:¬ Xt r=false:=by simpa using hb5
 have h2:¬ 0≤at0 l r.name:=by simpa using hb9
 have h3:¬ (r.parent≠[]∧at0 l r.parent<0):=fun h=>by
  rcases hc15 with e | e
  ·exact h.1 e
  ·omega
 have hE:X6k room l r=0:=by rw [X6k,if_neg h1,if_neg h2,if_neg h3,if_neg (by simpa using hb26)]
 have hQ:add room l r=l ++ [r]:=by rw [add,if_pos hE]
 rw [hE,hQ]
 refine ⟨_,rfl,rfl,a44,c44,?_⟩
 rw [X56,Y0]
 exact hS.drop (k:=2) rfl
theorem Xgd (a:Option Addr) (c:Nat) (l:List Rec) (hl:l.length≤100000) (B w:World) (I:Im) (As:List Xe) (hS:Sat B w I (Vec 45 10 (.slice a l.length c) l.length (Xv l)::As)) :
  Calls Tryz.prog 79 [.slice a l.length c].toArray w (Ret fun v w'=>∃ v',v=v'∧Sat B w' I (Vec 45 10 v' l.length (Xv l)::Vec 45 10 (.slice a l.length c) l.length (Xv l)::As)):=by
 refine calls Tryz.func79 rfl Tryz.ntmps79 rfl (.seq (.q 1 rfl (.seq (.seq (.t 1 rfl (.val (Ex.slNil (.of rfl) (.of rfl) X2x) rfl (.nil ?_)))))))
 refine WC.cond rfl (fun hb4=>?_) (fun hb4=>?_)
 ·
  refine .seq (.q 1 rfl (.ret (Xh Tryz.results79 rfl ?_)))
  cases a with
  | some p=>simp at hb4
  | none =>
  have h0:l=[]:=hS.pure_ (k:=0) rfl fun _ ⟨_,hh⟩=>by
   rcases hh with ⟨_,h,_⟩ | ⟨b,cap,r,hv,_⟩
   ·exact Yk h
   ·cases hv
  subst h0
  exact ⟨_,rfl,.slice none 0 0,rfl,hS.vecNil 45 10⟩
 refine .skip (.seq (.region (.buildSlice (cs:=[]) hS X6 X2x X17 X7c rfl rfl rfl rfl ?_)))
 clear hS; intro b5 w hS
 refine .q 1 rfl ?_
 replace hS:=hS.vecOf (k:=0) (E:=45) (size:=10) (n:=0) rfl rfl (Yq _)
 refine WL.appendV (size:=10) (bytes:=120) hS (.of rfl) (.of rfl) (k:=0) (j:=1) rfl rfl X2x (i:=Tryz.t45) (by kernel_rfl) rfl rfl rfl rfl (X52 l) ⟨by omega,by unfold maxLen; omega⟩ rfl ?_
 clear hS; intro v7 w hS
 rw [Yc,Yd] at hS
 refine .q 1 rfl (.nil (.ret (Xh Tryz.results79 rfl ?_)))
 exact ⟨_,rfl,v7,rfl,hS⟩
theorem Xer (tb:Nat) (room:Int) (a:Option Addr) (c:Nat) (l:List Rec) (hl:l.length≤100000) (B w:World) (I:Im) (As:List Xe) (hS:Sat B w I (blk tb [I64 room,.slice a l.length c] 127::Vec 45 10 (.slice a l.length c) l.length (Xv l)::As)) :
  Calls Tryz.prog 29 [ptr tb 0].toArray w (Ret fun v w'=>∃ J ra rc,v=.slice ra l.length rc∧Le I J∧l.length≤rc∧RS J ra 10 l.length (Xv l)∧Sat B w' J (blk tb [I64 room,.slice a l.length c] 127::Vec 45 10 (.slice a l.length c) l.length (Xv l)::As)):=by
 refine calls Tryz.func29 rfl Tryz.ntmps29 rfl (.seq (.q 1 rfl (.seq (.t 2 rfl ?_))))
 refine WL.val (.fieldAddr 1 (.of rfl) X7q rfl rfl X61 rfl) rfl ?_
 refine WL.val (.ld (.of rfl) hS (k:=0) rfl Xbz rfl) rfl ?_
 refine .call Tryz.func79 rfl (X0 (.of rfl) X4) rfl (Xgd a c l hl B _ I _ (hS.pick 1 rfl)) ?_
 clear hS
 rintro _ w ⟨v7,rfl,hS⟩
 refine .q 1 rfl (.nil (.ret (Xh Tryz.results29 rfl ?_)))
 obtain ⟨ra,rc,rfl,hrc,_⟩:=hS.vecSlice (k:=0) rfl
 obtain ⟨J,hJ,hRS,hS⟩:=hS.freezeVec (k:=0) rfl
 exact ⟨_,rfl,J,ra,rc,rfl,hJ,hrc,hRS,hS.pick 1 rfl⟩
def X4f (n limit:Int):Bool:=limit == 0 || decide (n<limit)
def Xfl (kind:Int):Bool:=kind == 1 || kind == 4
def X6a (ps:List Int) (r:Rec) (now:Int):Bool:=decide (1≤r.kind) && decide (r.kind≤6) && (X4f (now - r.made) (ps.getD r.kind.toNat 0) && X4f (now - r.used) (ps.getD (7+r.kind.toNat) 0) && X4f r.uses (ps.getD (14+r.kind.toNat) 0))
def Xo (r:Rec) (now:Int):Rec:={ r with uses:=min (r.uses+1) 255,used:=max r.used now }
theorem X8n (n limit:Int) (w:World) :
  Calls Tryz.prog 156 [I64 n,I64 limit].toArray w (Ret fun v w'=>v=.bool (X4f n limit)∧w=w'):=by
 refine calls Xn8 rfl Tryz.ntmps156 rfl (.seq (.q 1 rfl (.seq (.t 3 rfl (.gval rfl rfl (fun hg1=>(.move (.of rfl))) rfl (.gval rfl rfl (fun hg1=>(.move (.of rfl))) rfl (.gval rfl rfl (fun hg1=>(.lss (.gd hg1 rfl) (.gd hg1 rfl))) rfl (.val (.por (.of rfl) (.of rfl) (.of rfl)) rfl (.q 1 rfl (.nil (.ret (Xh Tryz.results156 rfl ?_))))))))))))
 exact ⟨_,rfl,rfl,rfl⟩
theorem Xk1 (kind:Int) (w:World) :
  Calls Tryz.prog 114 [I64 kind].toArray w (Ret fun v w'=>v=.bool (Xfl kind)∧w=w'):=by
 refine calls Tryz.func114 rfl Tryz.ntmps114 rfl (.seq (.q 1 rfl (.seq (.t 3 rfl (.gval rfl rfl (fun hg1=>(.move (.of rfl))) rfl (.gval rfl rfl (fun hg1=>(.eql (.gd hg1 rfl) (.of rfl))) rfl (.val (.por (.of rfl) (.of rfl) (.of rfl)) rfl (.q 1 rfl (.nil (.ret (Xh Tryz.results114 rfl ?_)))))))))))
 exact ⟨_,rfl,rfl,rfl⟩
theorem Xk5 (r:Rec) (now:Int) (hu:0≤r.uses) (hu2:r.uses≤255) (B w:World) (I:Im) (As:List Xe) (hS:Sat B w I As) :
  Calls Tryz.prog 96 [.agg (X7 r).toArray,I64 now].toArray w (Ret fun v w'=>v=.agg (X7 (Xo r now)).toArray∧Sat B w' I As):=by
 refine calls Tryz.func96 rfl Tryz.ntmps96 rfl (.seq (.region (.boxA (cs:=[_,_,_,_,_,_,_,_,_,_]) hS (.of rfl) rfl ?_)))
 clear hS; intro b2 w hS
 refine .allocA (cs:=[_,_,_,_,_,_,_,_,_,_]) hS X7c rfl ?_
 clear hS; intro b4 w hS
 refine .nil (.seq (.region ?_))
 refine WL.val (.fieldAddr 8 (.of rfl) X16 rfl rfl Qs3 rfl) rfl ?_
 refine WL.val (.ld (.of rfl) hS (k:=1) rfl Qg3 rfl) rfl ?_
 refine .run 1 rfl ⟨⟨by omega,by omega⟩,trivial⟩ (.val (.min2 (.of rfl) (.of rfl)) rfl ?_)
 refine WL.val (.fieldAddr 8 (.of rfl) X16 rfl rfl Qs3 rfl) rfl ?_
 refine WL.st1 hS (k:=1) rfl (.of rfl) (.of rfl) rfl Qs3 (by simp) ?_
 clear hS; intro w hS
 refine .nil (.seq (.region ?_))
 refine WL.val (.fieldAddr 7 (.of rfl) X16 rfl rfl Qs3 rfl) rfl ?_
 refine WL.val (.ld (.of rfl) hS (k:=1) rfl Qg3 rfl) rfl ?_
 refine .q 1 rfl (.val (.max2 (.of rfl) (.of rfl)) rfl ?_)
 refine WL.val (.fieldAddr 7 (.of rfl) X16 rfl rfl Qs3 rfl) rfl ?_
 refine WL.st1 hS (k:=1) rfl (.of rfl) (.of rfl) rfl Qs3 (by simp) ?_
 clear hS; intro w hS
 refine .nil (.seq (.region ?_))
 refine WL.val (.ldsW (cs:=[_,_,_,_,_,_,_,_,_,_]) (.of rfl) hS (k:=1) rfl X36 X17 rfl) rfl ?_
 refine WL.stA hS (k:=0) rfl (.of rfl) (.of rfl) rfl X17 rfl (by simp) ?_
 clear hS; intro w hS
 try simp only [Yh,Yd,Y9,Y7,Yg,Ym,Yc] at hS
 refine .nil (.ret ?_)
 refine Xnq (b:=_) (cs:=[_,_,_,_,_,_,_,_,_,_]) Tryz.results96 hS (k:=0) rfl X36 X17 rfl rfl ?_
 exact ⟨_,rfl,rfl,(hS.drop (k:=0) rfl).drop (k:=0) rfl⟩
theorem Ex.arrAddrO {P:Program} {n:Nat} {L:Env} {w:World} {ty t:TypeId} {pos:String} {af:Array Edge} {g:Option (Nat×Bool)} {x y:Operand} {d:Option Nat} {b o:Nat} {m s:Nat} {e:TypeId} {i:Int} {q:IntKind} (hx:Ev n L x (ptr b o)) (hy:Ev n L y (.int q i)) (hi:0≤i) (hl:i<(m:Int)) (ht:P.underlying t=some (.array m e)) (hs:∀ w,(Go.sizeOf e).run P w=.ok s w) :
  Ex P n L w ⟨d,.indexAddr t x y,ty,pos,af,g⟩ (ptr b (o+i.toNat*s)) w:=by
 have h:=Ex.arrAddrI (P:=P) (w:=w) (d:=d) (ty:=ty) (pos:=pos) (af:=af) (g:=g) hx hy hi hl ht hs
 rw [show (⟨b,o,none⟩:Addr).add (i.toNat*s)=⟨b,o+i.toNat*s,none⟩ from X1i b o _] at h
 exact h
theorem X34 {ps:List Int} (hps:ps.length=21) {o k:Nat} (e:o=k) (h:k<21):(ps.map I64)[o]?=some (I64 (ps.getD k 0)):=by
 subst e
 rw [Yw,Y8,Y4 (by omega)]
 rfl
theorem Xnf (ps:List Int) (hps:ps.length=21) (r:Rec) (now:Int) (hm:0≤r.made∧r.made≤1099511627776) (hu:0≤r.used∧r.used≤1099511627776) (hn:0≤now∧now≤1099511627776) (B w:World) (I:Im) (As:List Xe) (hS:Sat B w I As) :
  Calls Tryz.prog 115 [.agg (ps.map I64).toArray,.agg (X7 r).toArray,I64 now].toArray w (Ret fun v w'=>v=.bool (X6a ps r now)∧Sat B w' I As):=by
 refine calls Tryz.func115 rfl Tryz.ntmps115 rfl (.seq (.region (.boxA (cs:=ps.map I64) hS (.of rfl) rfl ?_)))
 clear hS; intro b3 w hS
 refine .boxA (cs:=[_,_,_,_,_,_,_,_,_,_]) hS (.of rfl) rfl ?_
 clear hS; intro b4 w hS
 refine .q 1 rfl (.nil (.seq (.seq (.region ?_))))
 refine WL.val (.fieldAddr 0 (.of rfl) X16 rfl rfl Qs3 rfl) rfl ?_
 refine .val (.ld (.of rfl) hS (k:=0) rfl Qg3 rfl) rfl (.q 2 rfl ?_)
 refine WL.gval rfl rfl (fun hg1=>(by exact .fieldAddr 0 (.of rfl) X16 rfl rfl Qs3 rfl)) rfl ?_
 refine .gval rfl rfl (fun hg1=>(.ld (.gd hg1 rfl) hS (k:=0) rfl Qg3 rfl)) rfl (.gval rfl rfl (fun hg1=>(.gtr (.gd hg1 rfl) (.of rfl))) rfl (.val (.por (.of rfl) (.of rfl) (.of rfl)) rfl (.nil ?_)))
 refine WC.cond rfl (fun hb14=>?_) (fun hb14=>?_)
 ·
  have hc14:=hb14; try simp only [Y6] at hc14
  refine .seq (.q 1 rfl (.ret (Xh Tryz.results115 rfl ?_)))
  refine ⟨_,rfl,congrArg Value.bool ?_,(hS.drop (k:=0) rfl).drop (k:=0) rfl⟩
  have:(decide (1≤r.kind) && decide (r.kind≤6))=false:=by
   rcases hc14 with e | e
   ·rw [decide_eq_false (by omega)]; rfl
   ·rw [decide_eq_false (p:=r.kind≤6) (by omega),Y3i]
  rw [X6a,this]; rfl
 have hc14:=hb14; try simp only [Y6] at hc14
 refine .skip (.seq ?_)
 have hk1:1≤r.kind∧r.kind≤6:=by omega
 refine .quiet (by kernel_rfl) (by kernel_rfl) hS (.val (fun w hS=>(.move (.of rfl))) rfl ?_)
 refine WQ.val (fun w hS=>(by exact .fieldAddr 6 (.of rfl) X16 rfl rfl Qs3 rfl)) rfl ?_
 refine .val (fun w hS=>(.ld (.of rfl) hS (k:=0) rfl Qg3 rfl)) rfl (.val (fun w hS=>(.sub (.of rfl) (.of rfl) ⟨by omega,by omega⟩)) rfl ?_)
 refine WQ.val (fun w hS=>(by exact .fieldAddr 0 (.of rfl) X16 rfl rfl Qs3 rfl)) rfl ?_
 refine .val (fun w hS=>(.ld (.of rfl) hS (k:=0) rfl Qg3 rfl)) rfl ?_
 refine WQ.val (fun w hS=>(by exact .fieldAddr 0 (.of rfl) Xb1 rfl rfl Xc3 rfl)) rfl ?_
 refine .val (fun w hS=>(Ex.arrAddrO (i:=r.kind) (.of rfl) (.of rfl) (by omega) (by omega) Xay Qs3)) rfl (.val (fun w hS=>(.ld (.of rfl) hS (k:=1) rfl Qg3 (X34 hps (o:=0+0+r.kind.toNat*1) (k:=r.kind.toNat) (by omega) (by omega)))) rfl (.call Xn8 rfl (X0 (.of rfl) (X0 (.of rfl) X4)) rfl (fun w hS=>X23 (X8n _ _ w) hS) (.val (fun w hS=>(.move (.of rfl))) rfl (.gval rfl rfl rfl (fun hg1 w hS=>(.move (.of rfl))) rfl ?_))))
 refine WQ.gval rfl rfl rfl (fun hg1 w hS=>(by exact .fieldAddr 7 (.of rfl) X16 rfl rfl Qs3 rfl)) rfl ?_
 refine .gval rfl rfl rfl (fun hg1 w hS=>(.ld (.gd hg1 rfl) hS (k:=0) rfl Qg3 rfl)) rfl (.gval rfl rfl rfl (fun hg1 w hS=>(.sub (.gd hg1 rfl) (.gd hg1 rfl) ⟨by omega,by omega⟩)) rfl ?_)
 refine WQ.gval rfl rfl rfl (fun hg1 w hS=>(by exact .fieldAddr 0 (.of rfl) X16 rfl rfl Qs3 rfl)) rfl ?_
 refine .gval rfl rfl rfl (fun hg1 w hS=>(.ld (.gd hg1 rfl) hS (k:=0) rfl Qg3 rfl)) rfl ?_
 refine WQ.gval rfl rfl rfl (fun hg1 w hS=>(by exact .fieldAddr 7 (.of rfl) Xb1 rfl rfl Xc3 rfl)) rfl ?_
 refine .gval rfl rfl rfl (fun hg1 w hS=>(Ex.arrAddrO (i:=r.kind) (.gd hg1 rfl) (.gd hg1 rfl) (by omega) (by omega) Xay Qs3)) rfl (.gval rfl rfl rfl (fun hg1 w hS=>(.ld (.gd hg1 rfl) hS (k:=1) rfl Qg3 (X34 hps (o:=0+7+r.kind.toNat*1) (k:=7+r.kind.toNat) (by omega) (by omega)))) rfl (.gcall rfl rfl rfl Xn8 rfl (fun hg1=>(X0 (.gd hg1 rfl) (X0 (.gd hg1 rfl) X4))) rfl (fun hg1 w hS=>X23 (X8n _ _ w) hS) (.val (fun w hS=>(.pand (.of rfl) (.of rfl) (.of rfl))) rfl (.val (fun w hS=>(.move (.of rfl))) rfl ?_))))
 refine WQ.gval rfl rfl rfl (fun hg1 w hS=>(by exact .fieldAddr 8 (.of rfl) X16 rfl rfl Qs3 rfl)) rfl ?_
 refine .gval rfl rfl rfl (fun hg1 w hS=>(.ld (.gd hg1 rfl) hS (k:=0) rfl Qg3 rfl)) rfl ?_
 refine WQ.gval rfl rfl rfl (fun hg1 w hS=>(by exact .fieldAddr 0 (.of rfl) X16 rfl rfl Qs3 rfl)) rfl ?_
 refine .gval rfl rfl rfl (fun hg1 w hS=>(.ld (.gd hg1 rfl) hS (k:=0) rfl Qg3 rfl)) rfl ?_
 refine WQ.gval rfl rfl rfl (fun hg1 w hS=>(by exact .fieldAddr 14 (.of rfl) Xb1 rfl rfl Xc3 rfl)) rfl ?_
 refine .gval rfl rfl rfl (fun hg1 w hS=>(Ex.arrAddrO (i:=r.kind) (.gd hg1 rfl) (.gd hg1 rfl) (by omega) (by omega) Xay Qs3)) rfl (.gval rfl rfl rfl (fun hg1 w hS=>(.ld (.gd hg1 rfl) hS (k:=1) rfl Qg3 (X34 hps (o:=0+14+r.kind.toNat*1) (k:=14+r.kind.toNat) (by omega) (by omega)))) rfl (.gcall rfl rfl rfl Xn8 rfl (fun hg1=>(X0 (.gd hg1 rfl) (X0 (.gd hg1 rfl) X4))) rfl (fun hg1 w hS=>X23 (X8n _ _ w) hS) (.val (fun w hS=>(.pand (.of rfl) (.of rfl) (.of rfl))) rfl (.val (fun w hS=>(.assign (.of rfl))) rfl (.nil ?_)))))
 clear hS; intro w hS
 refine .ret (Xh Tryz.results115 rfl ?_)
 refine ⟨_,rfl,congrArg Value.bool ?_,(hS.drop (k:=0) rfl).drop (k:=0) rfl⟩
 rw [X6a,decide_eq_true hk1.1,decide_eq_true hk1.2]
 rfl
def Xku (ps:List Int) (name:List UInt8) (now:Int) (r:Rec):Bool:=((r.name == name) || Xfl r.kind) && !X6a ps r now
def X3w (ps:List Int) (l:List Rec) (name:List UInt8) (now:Int):Bool:=!(path l name).any (Xku ps name now) && decide (0<(path l name).length)
theorem Xd1 (l:List Rec):∀ (f:Nat) (i:Int) (r:Rec),r∈X3y l f i→∃ j:Nat,l[j]?=some r
 | 0,_,r,h=>by simp [X3y] at h
 | f+1,i,r,h=>by
  rw [X3y] at h
  split at h
  ·simp at h
  ·split at h
   ·rename_i t ht
    rcases Y1b.1 h with e | e
    ·subst e; exact ⟨_,ht⟩
    ·exact Xd1 l f _ r e
   ·simp at h
theorem X7y {l:List Rec} {name:List UInt8} {r:Rec} (h:r∈path l name):∃ j:Nat,l[j]?=some r:=Xd1 l _ _ r h
theorem X5s {r:Rec} (h:Xt r=true):(0≤r.made∧r.made≤1099511627776)∧(0≤r.used∧r.used≤1099511627776)∧0≤r.uses∧r.uses≤255:=by
 unfold Xt at h
 simp only [Yo,decide_eq_true_eq] at h
 omega
theorem Xhr (tb:Nat) (room:Int) (a:Option Addr) (c:Nat) (l:List Rec) (hl:l.length≤100000) (hwf:Wf l) (ps:List Int) (hps:ps.length=21) (name:List UInt8) (now:Int) (hn:0≤now∧now≤1099511627776) (B w:World) (I:Im) (As:List Xe) (hS:Sat B w I (blk tb [I64 room,.slice a l.length c] 127::Vec 45 10 (.slice a l.length c) l.length (Xv l)::As)) :
  Calls Tryz.prog 65 [ptr tb 0,.agg (ps.map I64).toArray,S name,I64 now].toArray w (Ret fun v w'=>∃ J,Le I J∧v=.bool (X3w ps l name now)∧Sat B w' J (blk tb [I64 room,.slice a l.length c] 127::Vec 45 10 (.slice a l.length c) l.length (Xv l)::As)):=by
 refine calls Tryz.func65 rfl Tryz.ntmps65 rfl (.seq (.region (.boxA (cs:=ps.map I64) hS (.of rfl) rfl ?_)))
 clear hS; intro b5 w hS
 refine .q 1 rfl (.nil (.seq (.t 2 rfl (.call Tryz.func80 rfl (X0 (.of rfl) (X0 (.of rfl) X4)) rfl (Xfj tb room a c l hl hwf name B _ I _ ((hS.pick 2 rfl).pick 2 rfl)) ?_))))
 clear hS
 rintro _ w ⟨J,pa,pc,rfl,hJ,hpc,hRS,hS⟩
 have hpl:=X45 hwf name
 refine .q 1 rfl (.nil (.seq (.seq (.region (.run 3 rfl ⟨⟨_,X1p⟩,trivial⟩ (.nil (.block (.loop (σ:=Nat) (fun i=>[(0,ptr tb 0),(2,S name),(3,I64 now),(5,ptr b5 0),(9,.slice pa (path l name).length pc),(17,.slice pa (path l name).length pc),(18,I64 ((path l name).length:Nat)),(19,I64 (i:Nat))]) (fun i w=>i≤(path l name).length∧(∀ (j:Nat) r,j<i→(path l name)[j]?=some r→Xku ps name now r=false)∧Sat B w J (blk tb [I64 room,.slice a l.length c] 127::Vec 45 10 (.slice a l.length c) l.length (Xv l)::blk b5 (ps.map I64) 31::As)) (fun i=>(path l name).length - i) 0 ⟨rfl,rfl,rfl,rfl,rfl,rfl,rfl,rfl,trivial⟩ ⟨Yq _,fun _ _ h=>absurd h (by omega),hS⟩ ?_))))))))
 rintro i w ⟨hi,hno,hS⟩
 refine .seq (.q 1 rfl (.seq ?_))
 refine WC.cond rfl (fun hb20=>?_) (fun hb20=>?_)
 ·
  have hc20:=hb20; try simp only [Y6] at hc20
  refine .skip (.seq (.block (.seq ?_)))
  obtain ⟨r,hr⟩:∃ r,(path l name)[i]?=some r:=⟨_,Y4 (by omega)⟩
  obtain ⟨q,hq⟩:=X7y (Yl hr)
  have hgd:getD l r.name=r:=by rw [getD,hwf.get_ hq]; rfl
  obtain ⟨ht1,ht2,_⟩:=X5s (hwf.right r (Yl hq))
  obtain ⟨p,rfl,hA⟩:=hRS.2 (by omega)
  have hnm:((path l name).map fun r=>S r.name)[i]?=some (S r.name):=by rw [Yw,hr]; rfl
  refine .region ?_
  refine WL.val (.indexAddrI (.of rfl) (.of rfl) (by omega) (by omega) X1p Qs9) rfl ?_
  refine WL.val (ldC (.of rfl) (by have h9:=X2k hS hA hnm; simpa using h9) Qg9) rfl ?_
  refine .q 1 rfl (.nil (.seq (.t 2 rfl (.call Qf17 rfl (X0 (.of rfl) (X0 (.of rfl) X4)) rfl (Xez tb room _ c l hl r.name B _ J _ hS) ?_))))
  clear hS
  rintro _ w ⟨rfl,hS⟩
  rw [hgd]
  refine .q 3 rfl (.allocA (cs:=[_,_,_,_,_,_,_,_,_,_]) hS X7c rfl ?_)
  clear hS; intro b12 w hS
  refine WL.stA hS (k:=0) rfl (.of rfl) (.of rfl) rfl X17 rfl (by simp) ?_
  clear hS; intro w hS
  try simp only [Yh,Yd,Y9,Y7,Yg,Ym,Yc] at hS
  refine .q 1 rfl (.nil (.seq (.t 4 rfl ?_)))
  refine WL.gval rfl rfl (fun hg1=>(by exact .fieldAddr 0 (.of rfl) X16 rfl rfl Qs3 rfl)) rfl ?_
  refine WL.gval rfl rfl (fun hg1=>(by exact (.ld (.gd hg1 rfl) hS (k:=0) rfl Qg3 rfl))) rfl ?_
  refine .gcall (T:=fun w=>Sat B w J (blk b12 [I64 r.kind,S r.name,S r.parent,S r.user,S r.service,S r.url,I64 r.made,I64 r.used,I64 r.uses,.bool r.fresh] 45::blk tb [I64 room,.slice a l.length c] 127::Vec 45 10 (.slice a l.length c) l.length (Xv l)::blk b5 (ps.map I64) 31::As)) rfl rfl rfl Tryz.func114 rfl (fun hg1=>(X0 (.gd hg1 rfl) X4)) rfl (fun hg1=>X23 (Xk1 _ w) hS) hS ?_
  clear hS; rintro w hS
  refine .val (.por (.of rfl) (.of rfl) (.of rfl)) rfl (.q 1 rfl ?_)
  refine WL.gval rfl rfl (fun hg1=>(.lds (vs:=ps.map I64) (.of rfl) hS (k:=3) rfl Xqq Xhu (by rw [Yz]; exact hps) (fun j v hj=>by rw [Yc]; exact hj))) rfl ?_
  refine WL.gval rfl rfl (fun hg1=>(by exact (.ldsW (cs:=[_,_,_,_,_,_,_,_,_,_]) (.of rfl) hS (k:=0) rfl X36 X17 rfl))) rfl ?_
  refine .gval rfl rfl (fun hg1=>(.move (.of rfl))) rfl (.gcall (T:=fun w=>Sat B w J (blk b12 [I64 r.kind,S r.name,S r.parent,S r.user,S r.service,S r.url,I64 r.made,I64 r.used,I64 r.uses,.bool r.fresh] 45::blk tb [I64 room,.slice a l.length c] 127::Vec 45 10 (.slice a l.length c) l.length (Xv l)::blk b5 (ps.map I64) 31::As)) rfl rfl rfl Tryz.func115 rfl (fun hg1=>(X0 (.gd hg1 rfl) (X0 (.gd hg1 rfl) (X0 (.gd hg1 rfl) X4)))) rfl (fun hg1=>Xnf ps hps r now ht1 ht2 hn B _ J _ hS) hS ?_)
  clear hS; rintro w hS
  refine .gval rfl rfl (fun hg1=>(.not (.gd hg1 rfl))) rfl (.val (.pand (.of rfl) (.of rfl) (.of rfl)) rfl (.nil ?_))
  refine WC.cond rfl (fun hb43=>?_) (fun hb43=>?_)
  ·
   refine .seq (.q 1 rfl (.ret (Xh Tryz.results65 rfl ?_)))
   refine ⟨_,rfl,J,hJ,congrArg Value.bool ?_,(hS.drop (k:=0) rfl).drop (k:=2) rfl⟩
   have:(path l name).any (Xku ps name now)=true:=Y2i.2 ⟨r,Yl hr,hb43⟩
   rw [X3w,this]; rfl
  have hc43:=hb43; try simp only [Y6] at hc43
  refine .skip (.region (.run 2 rfl ⟨⟨by omega,by omega⟩,trivial⟩ (.nil ?_)))
  refine ⟨i+1,⟨rfl,rfl,rfl,rfl,rfl,rfl,rfl,rfl,trivial⟩,⟨by (try dsimp only); omega,fun j t hj ht=>?_,hS.drop (k:=0) rfl⟩,by (try dsimp only); omega⟩
  rcases Yr j i with h1 | h1
  ·exact hno j t h1 ht
  ·have e:j=i:=by omega
   subst e
   rw [hr] at ht; cases ht
   exact hb43
 have hc20:=hb20; try simp only [Y6] at hc20
 refine .exit (.seq (.region (.run 4 rfl ⟨⟨_,X1p⟩,trivial⟩ (.nil (.ret (Xh Tryz.results65 rfl ?_))))))
 refine ⟨_,rfl,J,hJ,congrArg Value.bool ?_,hS.drop (k:=2) rfl⟩
 have:(path l name).any (Xku ps name now)=false:=by
  rw [Y3e]
  intro r hr
  obtain ⟨j,hj,hjr⟩:=Y33 hr
  rw [hno j r (by omega) (by rw [Y4 hj,hjr])]
  decide
 rw [X3w,this]
 simp
def letC (c:UInt8):Bool:=(decide ((97:Int)≤(c.toNat:Int)) && decide ((c.toNat:Int)≤122)) || (decide ((65:Int)≤(c.toNat:Int)) && decide ((c.toNat:Int)≤90))
def X5l (s:List UInt8) (lo least most:Int):Bool:=(s.all fun c=>!(decide ((c.toNat:Int)<lo) || decide ((126:Int)<(c.toNat:Int)))) && (decide (least≤(s.length:Int)) && decide ((s.length:Int)≤most))
theorem Xgk (c:UInt8) (w:World) :
  Calls Tryz.prog 202 [U8 c.toNat].toArray w (Ret fun v w'=>v=.bool (letC c)∧w=w'):=by
 refine calls Tryz.func202 rfl Tryz.ntmps202 rfl (.seq (.q 1 rfl (.seq (.t 3 rfl (.gval rfl rfl (fun hg1=>(.move (.of rfl))) rfl (.gval rfl rfl (fun hg1=>(.leq (.gd hg1 rfl) (.of rfl))) rfl (.val (.pand (.of rfl) (.of rfl) (.of rfl)) rfl (.q 1 rfl (.gval rfl rfl (fun hg1=>(.move (.of rfl))) rfl (.gval rfl rfl (fun hg1=>(.geq (.gd hg1 rfl) (.of rfl))) rfl (.gval rfl rfl (fun hg1=>(.move (.gd hg1 rfl))) rfl (.gval2 rfl rfl rfl (fun hg1 hg2=>(.move (.of rfl))) rfl (.gval2 rfl rfl rfl (fun hg1 hg2=>(.leq (.gd2 hg1 hg2 rfl) (.of rfl))) rfl (.gval rfl rfl (fun hg1=>(.pand (.gd hg1 rfl) (.gd hg1 rfl) (.of rfl))) rfl (.val (.por (.of rfl) (.of rfl) (.of rfl)) rfl (.q 1 rfl (.nil (.ret (Xh Tryz.results202 rfl ?_)))))))))))))))))))
 exact ⟨_,rfl,rfl,rfl⟩
theorem Xa6 (s:List UInt8) (lo least most:Int) (hs:s.length≤9223372036854775807) (B w:World) (I:Im) (As:List Xe) (hS:Sat B w I As) :
  Calls Tryz.prog 176 [S s,.int .u8 lo,I64 least,I64 most].toArray w (Ret fun v w'=>v=.bool (X5l s lo least most)∧Sat B w' I As):=by
 refine calls Tryz.func176 rfl Tryz.ntmps176 rfl (.seq (.q 1 rfl (.seq (.seq (.region (.run 3 rfl ⟨Qu9,trivial⟩ (.nil (.block (.loop (σ:=Nat) (fun i=>[(0,S s),(1,.int .u8 lo),(2,I64 least),(3,I64 most),(11,I64 (s.length:Nat)),(12,I64 (i:Nat))]) (fun i w=>i≤s.length∧(∀ (j:Nat) c,j<i→s[j]?=some c→(decide ((c.toNat:Int)<lo) || decide ((126:Int)<(c.toNat:Int)))=false)∧Sat B w I As) (fun i=>s.length - i) 0 ⟨rfl,rfl,rfl,rfl,rfl,rfl,trivial⟩ ⟨Yq _,fun _ _ h=>absurd h (by omega),hS⟩ ?_)))))))))
 rintro i w ⟨hi,hno,hS⟩
 refine .seq (.q 1 rfl (.seq ?_))
 refine WC.cond rfl (fun hb13=>?_) (fun hb13=>?_)
 ·
  have hc13:=hb13; try simp only [Y6] at hc13
  refine .skip (.seq (.block (.seq (.q 2 rfl (.seq (.region (.run 6 rfl ⟨⟨⟨by omega,by omega⟩,Qu9⟩,trivial⟩ (.gval rfl rfl (fun hg1=>(.move (.of rfl))) rfl (.gval rfl rfl (fun hg1=>(.move (.of rfl))) rfl ?_)))))))))
  refine WL.gval rfl rfl (fun hg1=>(.index (.gd hg1 rfl) (.gd hg1 rfl) (by (try simp only [Y6] at hg1); omega) (by (try simp only [Y6] at hg1); omega) Qu9)) rfl ?_
  refine .gval rfl rfl (fun hg1=>(.gtr (.gd hg1 rfl) (.of rfl))) rfl (.val (.por (.of rfl) (.of rfl) (.of rfl)) rfl (.nil ?_))
  refine WC.cond rfl (fun hb25=>?_) (fun hb25=>?_)
  ·
   have hc25:=hb25; try simp only [Y6] at hc25
   refine .seq (.q 1 rfl (.ret (Xh Tryz.results176 rfl ?_)))
   refine ⟨_,rfl,congrArg Value.bool ?_,hS⟩
   have:(s.all fun c=>!(decide ((c.toNat:Int)<lo) || decide ((126:Int)<(c.toNat:Int))))=false:=by
    rw [Y28]
    exact ⟨_,Yl (X11 (show i<s.length by omega)),by rw [hb25]; decide⟩
   rw [X5l,this]; rfl
  have hc25:=hb25; try simp only [Y6] at hc25
  refine .skip (.region (.run 2 rfl ⟨⟨by omega,by omega⟩,trivial⟩ (.nil ?_)))
  refine ⟨i+1,⟨rfl,rfl,rfl,rfl,rfl,rfl,trivial⟩,⟨by (try dsimp only); omega,fun j c hj hc=>?_,hS⟩,by (try dsimp only); omega⟩
  rcases Yr j i with h1 | h1
  ·exact hno j c h1 hc
  ·have e:j=i:=by omega
   subst e
   rw [X11 (show j<s.length by omega)] at hc; cases hc
   exact hb25
 have hc13:=hb13; try simp only [Y6] at hc13
 refine .exit (.seq (.region (.run 5 rfl ⟨Qu9,trivial⟩ (.gval rfl rfl (fun hg1=>(.move (.of rfl))) rfl (.gval rfl rfl (fun hg1=>(.len (.gd hg1 rfl) Qu9)) rfl (.gval rfl rfl (fun hg1=>(.move (.of rfl))) rfl (.gval rfl rfl (fun hg1=>(.leq (.gd hg1 rfl) (.gd hg1 rfl))) rfl (.val (.pand (.of rfl) (.of rfl) (.of rfl)) rfl (.q 1 rfl (.nil (.ret (Xh Tryz.results176 rfl ?_))))))))))))
 refine ⟨_,rfl,congrArg Value.bool ?_,hS⟩
 have:(s.all fun c=>!(decide ((c.toNat:Int)<lo) || decide ((126:Int)<(c.toNat:Int))))=true:=by
  rw [Y1d]
  intro c hc
  obtain ⟨j,hj,hjr⟩:=Y33 hc
  rw [hno j c (by omega) (by rw [Y4 hj,hjr])]
  rfl
 rw [X5l,this]
 rfl
end Go.Proofs.YtadhiihnnkcagaaGreatDoor
namespace Tr
open Tk
inductive Und (l:List Rec) (k:List UInt8):List UInt8→Prop
 | self:Und l k k
 | step {i:Nat} {r:Rec} (hr:l[i]?=some r) (h:Und l k r.parent):Und l k r.name
theorem Und.trans {l:List Rec} {a b c:List UInt8} (h:Und l a b) (k:Und l b c):Und l a c:=by
 induction k with
 | self=>exact h
 | step hr _ ih=>exact .step hr ih
theorem Xna {l:List Rec} {name x:List UInt8} (h:x∈kids l name):name≠[]∧∃ (i:Nat) (r:Rec),l[i]?=some r∧r.parent=name∧r.name=x:=by
 unfold kids Xqr at h
 obtain ⟨r,hr,hx⟩:=Y2f.1 h
 obtain ⟨h1,h2⟩:=Y4c.1 hr
 simp only [Yo,decide_eq_true_eq] at h2
 obtain ⟨i,hi,he⟩:=Y33 h1
 exact ⟨h2.1,i,r,by rw [Y4 hi,he],h2.2,hx⟩
theorem kid_at {l:List Rec} (hw:Wf l) {name k:List UInt8} (h:k∈kids l name):at0 l name<at0 l k∧0≤at0 l k∧0≤at0 l name:=by
 obtain ⟨h0,i,r,hr,hp,hn⟩:=Xna h
 have h1:=(hw.up i r hr)
 have h2:=hw.at_ hr
 subst hp; subst hn
 rcases h1.1 with e | e
 ·exact absurd e h0
 ·rw [h2]; exact ⟨h1.2,by omega,e⟩
theorem X8p {l:List Rec} (hw:Wf l):∀ (n m:Nat) (name:List UInt8),0≤at0 l name→(l.length:Int) - at0 l name≤n→(l.length:Int) - at0 l name≤m→X4c l n name=X4c l m name
 | 0,_,name,_,h,_=>by have:=Xed l name; omega
 | _+1,0,name,_,_,h=>by have:=Xed l name; omega
 | n+1,m+1,name,h0,hn,hm=>by
  rw [X4c,X4c]
  congr 1
  rw [List.flatMap_def,List.flatMap_def]
  congr 1
  refine List.map_congr_left fun k hk=>?_
  have:=kid_at hw hk
  exact X8p hw n m k this.2.1 (by omega) (by omega)
theorem Xa1 {l:List Rec} {i:Nat} {r:Rec} (hr:l[i]?=some r) (h0:r.parent≠[]):∀ (n:Nat) (name:List UInt8),r.parent∈X4c l n name→r.name∈X4c l (n+1) name
 | 0,_,h=>by simp [X4c] at h
 | n+1,name,h=>by
  rw [X4c,Y1b] at h ⊢
  refine .inr (List.mem_flatMap.2 ?_)
  rcases h with e | h
  ·refine ⟨r.name,?_,by rw [X4c]; simp⟩
   unfold kids Xqr
   exact Y2f.2 ⟨r,Y4c.2 ⟨Yl hr,by simp [← e,h0]⟩,rfl⟩
  ·obtain ⟨k,hk,hx⟩:=List.mem_flatMap.1 h
   exact ⟨k,hk,Xa1 hr h0 n k hx⟩
theorem Xme {l:List Rec} (hw:Wf l) {name:List UInt8} {i:Nat} {r:Rec} (hr:l[i]?=some r) (h0:r.parent≠[]) (h:r.parent∈below l name):r.name∈below l name:=by
 unfold below at h ⊢
 split at h
 ·rename_i h1
  rw [if_pos h1,X8p hw l.length (l.length+1) name h1 (by omega) (by omega)]
  exact Xa1 hr h0 _ _ h
 ·simp at h
theorem Wf.names {l:List Rec} (hw:Wf l):(l.map Rec.name).Nodup:=by
 rw [List.Nodup,Y3m]
 intro i j hi hj hij e
 simp only [Yz] at hi hj
 simp only [Y3n] at e
 have:=hw.one i j l[i] l[j] (Y4 hi) (Y4 hj) e
 omega
theorem Wf.split {l:List Rec} (hw:Wf l) {xs ys:List Rec} {r:Rec} (h:l=xs ++ r::ys):r.parent=[]∨∃ t∈xs,t.name=r.parent:=by
 have hr:l[xs.length]?=some r:=by rw [h]; simp
 obtain ⟨h1,h2⟩:=hw.up _ _ hr
 rcases h1 with e | e
 ·exact .inl e
 ·rcases X2q l r.parent with ⟨h3,_⟩ | ⟨j,t,h3,h4,h5,_⟩
  ·omega
  ·refine .inr ⟨t,?_,h5⟩
   rw [h,Yi (by omega)] at h4
   exact Yl h4
theorem Wf.of {l:List Rec} (h1:∀ r∈l,Xt r=true) (h2:(l.map Rec.name).Nodup) (h3:∀ xs r ys,l=xs ++ r::ys→r.parent=[]∨∃ t∈xs,t.name=r.parent):Wf l:=by
 refine ⟨h1,fun i j r s hr hs e=>?_,fun i r hr=>?_⟩
 ·rw [List.Nodup,Y3m] at h2
  obtain ⟨hi,e1⟩:=Y5.1 hr
  obtain ⟨hj,e2⟩:=Y5.1 hs
  rcases Nat.lt_trichotomy i j with h | h | h
  ·exact absurd (by rw [Y3n,Y3n,e1,e2,e]) (h2 i j (by simpa using hi) (by simpa using hj) h)
  ·exact h
  ·exact absurd (by rw [Y3n,Y3n,e1,e2,e]) (h2 j i (by simpa using hj) (by simpa using hi) h)
 ·obtain ⟨hi,e1⟩:=Y5.1 hr
  have hsp:l=l.take i ++ r::l.drop (i+1):=by
   rw [← e1,← Y1j hi]; exact (Y11 i l).symm
  rcases h3 _ _ _ hsp with e | ⟨t,ht,e⟩
  ·refine ⟨.inl e,?_⟩
   rcases X2q l r.parent with ⟨h4,_⟩ | ⟨j,t,h4,h5,h6,_⟩
   ·omega
   ·exact absurd (h6.trans e) (X72 (h1 t (Yl h5)))
  ·obtain ⟨j,hj,e2⟩:=Y33 ht
   rw [Ys] at hj
   have h7:l[j]?=some t:=by rw [← e2,List.getElem_take]; exact Y4 (by omega)
   rcases X2q l r.parent with ⟨_,h5⟩ | ⟨q,u,h4,h5,h6,h8⟩
   ·exact absurd e (h5 t (Yl h7))
   ·have:q≤j:=Nat.le_of_not_lt fun hh=>h8 j t hh h7 e
    exact ⟨.inr (by omega),by omega⟩
theorem Wf.drop {l:List Rec} (hw:Wf l) (name:List UInt8):Wf (drop l name):=by
 refine Wf.of (fun r hr=>hw.right r (Y4c.1 hr).1) (hw.names.sublist (List.filter_sublist.map Rec.name)) fun xs r ys h=>?_
 obtain ⟨l1,l2,e1,e2,e3⟩:=List.filter_eq_append_iff.1 h
 obtain ⟨m1,m2,e4,e5,e6,_⟩:=List.filter_eq_cons_iff.1 e3
 have hsp:l=(l1 ++ m1) ++ r::m2:=by rw [e1,e4,Yf]
 have hr:l[(l1 ++ m1).length]?=some r:=by rw [hsp]; simp
 rcases hw.split hsp with e | ⟨t,ht,e⟩
 ·exact .inl e
 ·by_cases h0:r.parent=[]
  ·exact .inl h0
  ·refine .inr ⟨t,?_,e⟩
   have hk:((below l name).contains t.name)=false:=by
    cases hc:(below l name).contains t.name with
    | false=>rfl
    | true =>
     have h1:=Xme hw hr h0 (by rw [← e]; simpa using hc)
     have h2:(below l name).contains r.name=true:=by simpa using h1
     rw [h2] at e6; cases e6
   rcases Y14.1 ht with h1 | h1
   ·rw [← e2]; exact Y4c.2 ⟨h1,by rw [hk]; rfl⟩
   ·exact absurd (by rw [hk]; rfl) (e5 t h1)
end Tr
namespace Go.Proofs.YtadhiihnnkcagaaGreatDoor
open Gk Ul Pc Tk Tr
theorem WL.clear {P:Program} {n:Nat} {ops:Array Oper} {K:X3u} {rest:List Oper} {L:Env} {w B:World} {I:Im} {As:List Xe} {k b o m cap s:Nat} {cs:List Value} {E e t ty:TypeId} {x:Operand} {z:Value} {pos:String} {af:Array Edge} (hS:Sat B w I As) (hk:As[k]?=some (blk b cs E)) (hx:Ev n L x (.slice (some (ad b o)) m cap)) (ht:P.underlying t=some (.slice e)) (hz:∀ w,(zeroValue e).run P w=.ok z w) (hs:z.cells.size=s) (h1:∀ v∈z.cells,v.oneCell'=true) (ho:o+m*s≤cs.length)
  (h:∀ w' cs',cs'.length=cs.length→cs'.take o=cs.take o→Sat B w' I (As.set k (blk b cs' E))→WL P n ops K rest L w'):WL P n ops K (⟨none,.call ⟨.builtin .clear,#[x],#[t]⟩,ty,pos,af,none⟩::rest) L w:=by
 subst hs
 have go:∀ w' v,(∀ a,Holds n L a→(execOp a.eval (⟨none,.call ⟨.builtin .clear,#[x],#[t]⟩,ty,pos,af,none⟩:Oper)).run P w=.ok (.value v) w')→WL P n ops K rest L w'→WL P n ops K (⟨none,.call ⟨.builtin .clear,#[x],#[t]⟩,ty,pos,af,none⟩::rest) L w:=by
  intro w' v hx h a ha
  refine wpList_plain rfl fun K' hK=>?_
  unfold Oper.wp
  rw [hx a ha]
  exact hK _ _ (h _ (ha.skip v))
 have hb:=hS.block hk
 have hzl:(Builtin.zeroCells z.cells m).toList.length=m*z.cells.size:=by rw [Y3o,size_zeroCells]
 have hst:=run_storeCells_at P b o E (Builtin.zeroCells z.cells m).toList 0 cs.toArray w hb (by simp only [Y26,hzl,Y4l]; exact ho) (fun v hv=>by
  rw [Array.mem_toList_iff] at hv
  unfold Builtin.zeroCells at hv
  obtain ⟨i,hi,rfl⟩:=Array.mem_map.1 hv
  have hi2:i<m*z.cells.size:=by simpa using hi
  have hp:0<z.cells.size:=Nat.pos_of_ne_zero fun e=>by rw [e] at hi2; omega
  have hlt:=Y3d i hp
  rw [getElem!_pos z.cells (i % z.cells.size) hlt]
  exact h1 _ (Array.getElem_mem hlt))
 simp only [Y26] at hst
 cases m with
 | zero =>
  refine go w (.tuple #[]) (fun a ha=>?_) (h w cs rfl rfl ?_)
  ·simp [execOp,resolve,invoke,builtin,hx a ha,Builtin.clear_,run_underlying ht]
  ·have e:As.set k (blk b cs E)=As:=by
    apply Y1w
    intro i
    rw [Y22]
    split
    ·rename_i e; subst e
     split
     ·exact hk.symm
     ·rename_i hlt; rw [Y1f (by omega)]
    ·rfl
   rw [e]; exact hS
 | succ m =>
  refine go (w.setRow b _) (.tuple #[]) (fun a ha=>?_) (h _ _ ?_ ?_ (hS.write (o':=Xq (cs.take o ++ (Builtin.zeroCells z.cells (m+1)).toList ++ cs.drop (o+(Builtin.zeroCells z.cells (m+1)).toList.length)) E) hk rfl rfl rfl (setRow_heap w b _ _ E _ hb) fun c hc=>setRow_other w b c _ hc))
  ·simp [execOp,resolve,invoke,builtin,hx a ha,Builtin.clear_,run_underlying ht,hz,hst]
  ·simp only [Y0,Ys,Yp,hzl]; omega
  ·rw [Yf,Y2j (by rw [Ys]; omega),Y4s,Nat.min_self]
end Go.Proofs.YtadhiihnnkcagaaGreatDoor
namespace Gk
open Go
structure Xny {β:Type} (D:TypeDesc) (K:β→Value):Prop where
 is:∀ b,MapKept.IsKey D (K b)
 inj:∀ a b,K a=K b→a=b
theorem keyS:Xny .string S:=⟨fun _=>trivial,fun a b h=>by injection h with h; injection h with h; injection h⟩
theorem Xoa:Xny (.int .i64) I64:=⟨fun _=>rfl,fun a b h=>by injection h⟩
def Xmf {β:Type} (K:β→Value) (kv:List (β×Value)) (es:Array MapEntry):Prop:=es.toList.map (fun e=>(e.key,e.val))=kv.map fun p=>(K p.1,p.2)
def X9i {β:Type} (K:β→Value) (b:Nat) (kv:List (β×Value)):Xe:=fun h=>∃ es clk,Xmf K kv es∧h=[(b,.map es clk)]
def MapI {β:Type} (I:Im) (K:β→Value) (b:Nat) (kv:List (β×Value)):Prop:=∃ es clk,Xmf K kv es∧I b=some (.map es clk)
theorem MapI.mono {β:Type} {I J:Im} {K:β→Value} {b:Nat} {kv:List (β×Value)} (h:MapI I K b kv) (hl:Le I J):MapI J K b kv:=by
 obtain ⟨es,clk,h1,h2⟩:=h
 exact ⟨es,clk,h1,hl _ _ h2⟩
section
variable {P:Program} {n:Nat} {K':X3u} {L:Env} {w B:World} {ops:Array Oper} {rest:List Oper} {I:Im} {As:List Xe} {β:Type} {K:β→Value} {D:TypeDesc} {kv:List (β×Value)} {k b:Nat} {t kt et ty:TypeId} {x y z:Operand} {pos:String} {af:Array Edge} {d:Nat} {g:Option (Nat×Bool)}
theorem X79 [BEq β] [LawfulBEq β] (hK:Xny D K) (key:β):∀ (kv:List (β×Value)) (es:List MapEntry) (i:Nat),es.map (fun e=>(e.key,e.val))=kv.map (fun p=>(K p.1,p.2)) →
  (kv.lookup key=none∧Instr.findNow D (K key) es i=some none)∨∃ j v,kv.lookup key=some v∧Instr.findNow D (K key) es i=some (some (j,v))
 | [],[],_,_=>.inl ⟨rfl,rfl⟩
 | [],e::es,_,h=>by simp at h
 | p::kv,[],_,h=>by simp at h
 | p::kv,e::es,i,h=>by
  simp only [Y1e,List.cons.injEq,Prod.mk.injEq] at h
  obtain ⟨⟨h1,h2⟩,h3⟩:=h
  have hk:MapKept.IsKey D e.key:=h1 ▸ hK.is _
  obtain ⟨r,hr,hi⟩:=MapKept.sameNow_of_keys (hK.is key) hk
  cases r with
  | true =>
   have e1:=hK.inj _ _ ((hi.1 rfl).trans h1)
   exact .inr ⟨i,p.2,by obtain ⟨p1,p2⟩:=p; simp only at e1; subst e1; simp [List.lookup,beq_self_eq_true],by simp [Instr.findNow,hr,h2]⟩
  | false =>
   have hne:key≠p.1:=fun q=>by have:=hi.2 (by rw [h1,q]); cases this
   have hl:(p::kv).lookup key=kv.lookup key:=by obtain ⟨p1,p2⟩:=p; simp only at hne; simp [List.lookup,beq_eq_false_iff_ne.2 hne]
   rcases X79 hK key kv es (i+1) h3 with ⟨e1,e2⟩ | ⟨j,v,e1,e2⟩
   ·exact .inl ⟨by rw [hl]; exact e1,by simp [Instr.findNow,hr,e2]⟩
   ·exact .inr ⟨j,v,by rw [hl]; exact e1,by simp [Instr.findNow,hr,e2]⟩
theorem X8c [BEq β] [LawfulBEq β] {ty:TypeId} {b:Nat} {es:Array MapEntry} {clk:Nat} {z:Value} (hK:Xny D K) (hb:w.heap[b]?=some (.map es clk)) (he:Xmf K kv es) (key:β) (ht:P.underlying t=some (.map kt et)) (hk:P.underlying kt=some D) (hz:∀ w,(zeroValue et).run P w=.ok z w) (ok:Bool) :
  (Instr.lookup t (.map (some b)) (K key) ok).run P w=.ok (if ok then .tuple #[(kv.lookup key).getD z,.bool (kv.lookup key).isSome] else (kv.lookup key).getD z) w:=by
 have hc:(Instr.checkKey es.isEmpty 10000 kt (K key)).run P w=.ok () w:=MapKept.run_checkKey hk (hK.is key) _ 9999
 rcases X79 hK key kv es.toList 0 he with ⟨h1,h2⟩ | ⟨j,v,h1,h2⟩
 ·simp [Instr.lookup,run_underlying ht,MapKept.run_getObj_map hb,hc,MapKept.run_findKey hk h2,h1,hz,Result.andThen]
 ·simp [Instr.lookup,run_underlying ht,MapKept.run_getObj_map hb,hc,MapKept.run_findKey hk h2,h1,Result.andThen]
theorem Sat.mapNow (hS:Sat B w I As) (hk:As[k]?=some (X9i K b kv)):∃ es clk,Xmf K kv es∧w.heap[b]?=some (.map es clk):=by
 obtain ⟨g,hs,hg⟩:=hS
 obtain ⟨h1,h2,hp,⟨es,clk,he,rfl⟩,_⟩:=hs.at_ hk
 exact ⟨es,clk,he,(hg.perm hp).own b _ (by simp)⟩
theorem MapI.now (h:MapI I K b kv) (hS:Sat B w I As):∃ es clk,Xmf K kv es∧w.heap[b]?=some (.map es clk):=by
 obtain ⟨es,clk,h1,h2⟩:=h
 obtain ⟨g,hs,hg⟩:=hS
 exact ⟨es,clk,h1,hg.imm _ _ h2⟩
theorem Ex.look2 [BEq β] [LawfulBEq β] {d:Option Nat} {z:Value} {key:β} (hK:Xny D K) (hm:∃ es clk,Xmf K kv es∧w.heap[b]?=some (.map es clk)) (hx:Ev n L x (.map (some b))) (hy:Ev n L y (K key)) (ht:P.underlying t=some (.map kt et)) (hk:P.underlying kt=some D) (hz:∀ w,(zeroValue et).run P w=.ok z w) :
  Ex P n L w ⟨d,.lookup t x y true,ty,pos,af,g⟩ (.tuple #[(kv.lookup key).getD z,.bool (kv.lookup key).isSome]) w:=fun a ha=>by
 obtain ⟨es,clk,he,hb⟩:=hm
 have h:=X8c (ty:=ty) hK hb he key ht hk hz true
 simp [execOp,hx a ha,hy a ha,h]
theorem Ex.look1 [BEq β] [LawfulBEq β] {d:Option Nat} {z:Value} {key:β} (hK:Xny D K) (hm:∃ es clk,Xmf K kv es∧w.heap[b]?=some (.map es clk)) (hx:Ev n L x (.map (some b))) (hy:Ev n L y (K key)) (ht:P.underlying t=some (.map kt et)) (hk:P.underlying kt=some D) (hz:∀ w,(zeroValue et).run P w=.ok z w) :
  Ex P n L w ⟨d,.lookup t x y false,ty,pos,af,g⟩ ((kv.lookup key).getD z) w:=fun a ha=>by
 obtain ⟨es,clk,he,hb⟩:=hm
 have h:=X8c (ty:=ty) hK hb he key ht hk hz false
 simp [execOp,hx a ha,hy a ha,h]
theorem WL.mkMap (K:β→Value) (hS:Sat B w I As) (hd:Nat.blt d n=true) (h:∀ b w',Sat B w' I (X9i K b []::As)→WL P n ops K' rest ((d,.map (some b))::L) w'):WL P n ops K' (⟨some d,.makeMap t none,ty,pos,af,none⟩::rest) L w:=by
 have h2:Sat B (w.alloc (.map #[] 0)) I (X9i K w.heap.size []::As):=(hS.alloc (.map #[] 0)).say (k:=0) rfl (A':=X9i K w.heap.size []) fun g hg=>⟨#[],0,rfl,hg⟩
 refine WL.val (v:=.map (some w.heap.size)) (fun a ha=>?_) hd (h _ _ h2)
 have hr:=run_makeMap_plain (P:=P) w t
 simp [execOp,hr]
theorem Xg6 [BEq β] [LawfulBEq β] {val:Value} {key:β} (hK:Xny D K) (hS:Sat B w I As) (hk:As[k]?=some (X9i K b kv)) (hno:kv.lookup key=none) (ht:P.underlying t=some (.map kt et)) (hkt:P.underlying kt=some D) :
  ∃ w',(Instr.mapUpdate t (.map (some b)) (K key) val).run P w=.ok () w'∧Sat B w' I (As.set k (X9i K b (kv ++ [(key,val)]))):=by
 obtain ⟨g,hs,hg⟩:=hS
 obtain ⟨h1,h2,hp,⟨es,clk,he,rfl⟩,hset,_⟩:=hs.at_ hk
 have hb:=(hg.perm hp).own b (.map es clk) (by simp)
 have hlt:b<w.heap.size:=(Y1a.1 hb).1
 have hc:(Instr.checkKey false 10000 kt (K key)).run P w=.ok () w:=MapKept.run_checkKey hkt (hK.is key) _ 9999
 have hf:Instr.findNow D (K key) es.toList 0=some none:=by
  rcases X79 hK key kv es.toList 0 he with ⟨_,h⟩ | ⟨j,v,h,_⟩
  ·exact h
  ·rw [hno] at h; cases h
 refine ⟨{ w with heap:=w.heap.setIfInBounds b (.map (es.push { key:=K key,val:=val,born:=clk }) (clk+1)) },?_,?_⟩
 ·simp [Instr.mapUpdate,run_underlying ht,MapKept.run_getObj_map hb,hc,MapKept.run_findKey hkt hf,MapKept.run_setObj_map _ hb,Result.andThen]
 ·-- the block is written
  have hS0:Sat B w I (As.set k (own b (.map es clk))):=by
   obtain ⟨g',hs',hp'⟩:=hset (own b (.map es clk)) [(b,.map es clk)] rfl
   exact ⟨g',hs',hg.perm (hp.trans hp'.symm)⟩
  have hkl:k<As.length:=(Y5.1 hk).1
  have hw:=hS0.write (k:=k) (b:=b) (o:=.map es clk) (w':={ w with heap:=w.heap.setIfInBounds b (.map (es.push { key:=K key,val:=val,born:=clk }) (clk+1)) }) (o':=.map (es.push { key:=K key,val:=val,born:=clk }) (clk+1)) (by simp [hkl]) rfl rfl rfl (MapKept.heap_set hb).1 (fun c hc=>(MapKept.heap_set hb).2 c hc)
  have hf2:=hw.say (k:=k) (A:=own b (.map (es.push { key:=K key,val:=val,born:=clk }) (clk+1))) (A':=X9i K b (kv ++ [(key,val)])) (by simp [hkl]) fun g hg=>⟨_,_,by
   unfold Xmf at he ⊢
   rw [Array.toList_push,Yx,Yx,he]
   rfl,hg⟩
  simpa using hf2
theorem WL.mput [BEq β] [LawfulBEq β] {val:Value} {key:β} (hK:Xny D K) (hS:Sat B w I As) (hk:As[k]?=some (X9i K b kv)) (hx:Ev n L x (.map (some b))) (hy:Ev n L y (K key)) (hz:Ev n L z val) (hno:kv.lookup key=none) (ht:P.underlying t=some (.map kt et)) (hkt:P.underlying kt=some D)
  (h:∀ w',Sat B w' I (As.set k (X9i K b (kv ++ [(key,val)])))→WL P n ops K' rest L w'):WL P n ops K' (⟨none,.mapUpdate t x y z,ty,pos,af,none⟩::rest) L w:=by
 obtain ⟨w',hr,hS'⟩:=Xg6 (val:=val) hK hS hk hno ht hkt
 refine WL.st (w':=w') (fun a ha=>?_) (h _ hS')
 simp [execOp,hx a ha,hy a ha,hz a ha,hr]
theorem WL.mins [BEq β] [LawfulBEq β] {val:Value} {key:β} (hK:Xny D K) (hS:Sat B w I As) (hk:As[k]?=some (X9i K b kv)) (hx:Ev n L x (.map (some b))) (hy:Ev n L y (K key)) (hz:Ev n L z val) (hno:kv.lookup key=none) (ht:P.underlying t=some (.map kt et)) (hkt:P.underlying kt=some D)
  (h:∀ w',Sat B w' I (As.set k (X9i K b (kv ++ [(key,val)])))→WL P n ops K' rest L w'):WL P n ops K' (⟨none,.insert t x y z,ty,pos,af,none⟩::rest) L w:=by
 obtain ⟨w',hr,hS'⟩:=Xg6 (val:=val) hK hS hk hno ht hkt
 refine WL.st (w':=w') (fun a ha=>?_) (h _ hS')
 simp [execOp,hx a ha,hy a ha,hz a ha,hr]
theorem Sat.freezeMap (hS:Sat B w I As) (hk:As[k]?=some (X9i K b kv)):∃ J,Le I J∧MapI J K b kv∧Sat B w J (As.eraseIdx k):=by
 have hkl:k<As.length:=(Y5.1 hk).1
 obtain ⟨⟨⟨es,clk⟩,he⟩,hS2⟩:=hS.opened (X:={ x:Array MapEntry×Nat // Xmf K kv x.1 }) (T:=fun x=>own b (.map x.1.1 x.1.2)) hk fun g hg=>by
  obtain ⟨es,clk,he,rfl⟩:=hg
  exact ⟨⟨(es,clk),he⟩,rfl⟩
 obtain ⟨J,h1,h2,h3⟩:=hS2.freeze (k:=k) (b:=b) (o:=.map es clk) (by simp [hkl])
 rw [Y3f] at h3
 exact ⟨J,h1,⟨es,clk,he,h2⟩,h3⟩
end
def Xy {α:Type} (cells:α→List Value) (l:List α):List Value:=(l.map cells).flatten
theorem Xix {α:Type} {cells:α→List Value} {s:Nat} (hc:∀ x,(cells x).length=s) {l:List α} {i j:Nat} {r:α} {v:Value} (hr:l[i]?=some r) (hj:(cells r)[j]?=some v):(Xy cells l)[i*s+j]?=some v:=by
 have hjs:j<s:=by rw [← hc r]; exact (Y5.1 hj).1
 have h2:=X49 (l.map cells) (fun c h=>by obtain ⟨x,_,rfl⟩:=Y2f.1 h; exact hc x) i j hjs
 rw [Yw,hr] at h2
 exact h2.trans hj
theorem Xa0 {α:Type} (cells:α→List Value) (l:List α) (x:α):Xy cells (l ++ [x])=Xy cells l ++ cells x:=by simp [Xy]
def Xhj {α:Type} (w:World) (cells:α→List Value) (s:Nat) (a:Option Addr) (l:List α):Prop:=∀ (i:Nat) (r:α),l[i]?=some r→∃ p,a=some p∧∀ (j:Nat) v,(cells r)[j]?=some v→w.cell? ((p.add (i*s)).add j)=some v
section
variable {P:Program} {n:Nat} {K:X3u} {L:Env} {w B:World} {ops:Array Oper} {rest:List Oper} {I:Im} {As:List Xe} {k:Nat} {ty t t' E:TypeId} {x y:Operand} {pos:String} {af:Array Edge} {g:Option (Nat×Bool)} {v:Value}
theorem Xii {α:Type} {cells:α→List Value} {s:Nat} {a:Option Addr} {l:List α} (hc:∀ x,(cells x).length=s) (hS:Sat B w I As) (hR:RS I a s l.length (Xy cells l)):Xhj w cells s a l:=fun i r hr=>by
 obtain ⟨p,rfl,hA⟩:=hR.2 (by have:=(Y5.1 hr).1; omega)
 refine ⟨p,rfl,fun j v hj=>?_⟩
 rw [Addr.add_add]
 exact X2k hS hA (Xix hc hr hj)
theorem Ex.ldR {d:Option Nat} {p:Addr} {s:Nat} {vs:List Value} (hx:Ev n L x (.pointer (some p))) (hv:∀ (j:Nat) v,vs[j]?=some v→w.cell? (p.add j)=some v) (ht:∀ w,(isAgg t).run P w=.ok true w) (hs:∀ w,(Go.sizeOf t).run P w=.ok s w)
  (hl:vs.length=s):Ex P n L w ⟨d,.load t x,ty,pos,af,g⟩ (.agg vs.toArray) w:=fun a ha=>by
 have h:=run_loadCells_list (P:=P) w p vs hv
 rw [hl] at h
 simp [execOp,hx a ha,Instr.loadAt,Instr.sureAddr,loadVar,ht,hs,h]
theorem Ex.ld1 {d:Option Nat} {p:Addr} {v:Value} (hx:Ev n L x (.pointer (some p))) (hv:w.cell? p=some v) (ht:∀ w,(isAgg t).run P w=.ok false w):Ex P n L w ⟨d,.load t x,ty,pos,af,g⟩ v w:=fun a hh=>by
 simp [execOp,hx a hh,Instr.loadAt,Instr.sureAddr,loadVar,ht,load,Sem.run,hv]
theorem WL.appendF {d E size m c nn:Nat} {a:Option Addr} {v:Value} {xs ys:List Value} {i:TypeInfo} {z:Value} {bytes:Nat} (hS:Sat B w I As) (hx:Ev n L x v) (hy:Ev n L y (.slice a m c)) (hr:RS I a size m ys)
  (hk:As[k]?=some (Vec E size v nn xs)) (ht:P.underlying t=some (.slice E)) (hi:P.info? E=some i) (hz:i.zero=some z) (hsize:i.size=size) (hby:i.bytes=bytes) (hzs:z.cells.size=size)
  (h1:ys.all Value.oneCell'=true) (h63:(nn+m)*bytes≤140737488355328∧nn+m≤maxLen) (hd:Nat.blt d n=true)
  (h:∀ v' w',Sat B w' I (As.set k (Vec E size v' (nn+m) (xs ++ ys)))→WL P n ops K rest ((d,v')::L) w') :
  WL P n ops K (⟨some d,.call ⟨.builtin .append,#[x,y],#[t,t]⟩,ty,pos,af,none⟩::rest) L w:=by
 rcases Y1p m with h0 | h0
 ·subst h0
  have hy0:ys=[]:=Yk (by simpa using hr.1)
  subst hy0
  obtain ⟨a0,c0,rfl,hc0,_⟩:=hS.vecSlice hk
  have hr:(Builtin.append_ #[t,t] ty #[.slice a0 nn c0,.slice a 0 c]).run P w=.ok (.slice a0 nn c0) w:=by
   subst hsize
   cases a0 <;> cases a <;> simp [Builtin.append_,run_underlying ht,Go.sizeOf,typeInfo,hi,Builtin.lenOf,Builtin.firstCells,loadCells,loadCellsFrom,storeCells,hc0]
  have h2:=h (.slice a0 nn c0) w (by
   have hlk:k<As.length:=(Y5.1 hk).1
   have:As.set k (Vec E size (.slice a0 nn c0) (nn+0) (xs ++ []))=As:=by
    rw [Y26,Y9]
    have:=(Y5.1 hk).2
    rw [← this,List.set_getElem_self]
   rw [this]; exact hS)
  exact WL.val (w':=w) (fun a' ha=>by simp [execOp,resolve,invoke,builtin,hx a' ha,hy a' ha,hr]) hd h2
 ·obtain ⟨p,rfl,hA⟩:=hr.2 h0
  obtain ⟨v',w',hr',hS'⟩:=X2c (P:=P) (ty:=ty) hS ht hi hz hsize hby hzs hk (p:=p) (m:=m) (c:=c) hr.1 h0 (fun q u hu=>X2k hS hA hu) (Y1d.1 h1) h63.2 h63.1
  exact WL.val (w':=w') (fun a' ha=>by simp [execOp,resolve,invoke,builtin,hx a' ha,hy a' ha,hr']) hd (h _ _ hS')
theorem Ex.fieldV {d:Option Nat} {f off:Nat} {fs:Array Field} {fd:Field} {cs:List Value} {v:Value} (hx:Ev n L x (.agg cs.toArray)) (ht:P.underlying t=some (.struct fs)) (hf:fs[f]?=some fd) (ho:fd.offset=off) (hs:∀ w,(isAgg fd.type).run P w=.ok false w) (hv:cs[off]?=some v):Ex P n L w ⟨d,.field t x f,ty,pos,af,g⟩ v w:=fun a ha=>by
 subst ho
 simp [execOp,hx a ha,Instr.field,run_underlying ht,hf,asAgg,part,hs,hv]
end
end Gk
namespace Go.Proofs.YtadhiihnnkcagaaGreatDoor
open Gk Ul Pc Tk Tr
abbrev Pr:=List UInt8×List UInt8
def Xk (p:Pr):List Value:=[S p.1,S p.2]
theorem pr_one (l:List Pr):(Xy Xk l).all Value.oneCell'=true:=by
 unfold Xy
 induction l with
 | nil=>rfl
 | cons p l ih=>rw [Y1e,Y1v,List.all_append,ih]; rfl
structure Us where
 name:List UInt8
 pw:List UInt8
 attrs:List Pr
def X2m (u:Us) (a:Option Addr) (c:Nat):List Value:=[S u.name,S u.pw,.slice a u.attrs.length c]
def UsAt (I:Im) (u:Us) (l:List Value):Prop:=∃ a c,l=X2m u a c∧u.attrs.length≤c∧RS I a 2 u.attrs.length (Xy Xk u.attrs)
theorem UsAt.mono {I J:Im} {u:Us} {l:List Value} (h:UsAt I u l) (hl:Le I J):UsAt J u l:=by
 obtain ⟨a,c,e,h1,h2⟩:=h
 exact ⟨a,c,e,h1,h2.mono hl⟩
def badW (i:Nat) (c:UInt8):Bool:=!letC c && (((i:Int) == 0) || (((decide ((c.toNat:Int)<48) || decide ((57:Int)<(c.toNat:Int))) && ((c.toNat:Int) != 45)) && ((c.toNat:Int) != 95)))
def X83:List UInt8→Nat→Bool
 | [],_=>true
 | c::r,i=>!badW i c && X83 r (i+1)
theorem X43:∀ (s:List UInt8) (k:Nat),X83 s k=true ↔ ∀ (j:Nat) c,s[j]?=some c→badW (k+j) c=false
 | [],k=>by simp [X83]
 | c::r,k=>by
  rw [X83,Yo,X43 r (k+1)]
  constructor
  ·rintro ⟨h1,h2⟩ j d hd
   cases j with
   | zero=>simp at hd; subst hd; simpa using h1
   | succ j=>rw [show k+(j+1)=k+1+j by omega]; exact h2 j d (by simpa using hd)
  ·intro h
   refine ⟨by simpa using h 0 c rfl,fun j d hd=>?_⟩
   rw [show k+1+j=k+(j+1) by omega]
   exact h (j+1) d (by simpa using hd)
def X9q (s:List UInt8):Bool:=X83 s 0 && (!(s == []) && decide ((s.length:Int)≤60))
def Xl1 (p:Pr):Bool:=!X9q p.1 || !X5l p.2 32 0 60
def X67 (u:Us):Bool:=X5l u.name 33 1 32 && decide ((1:Int)≤(u.pw.length:Int)) && decide ((u.pw.length:Int)≤60) && decide ((u.attrs.length:Int)≤8) && !u.attrs.any Xl1
def X1k (p:Pr):Prop:=p.1.length≤maxLen∧p.2.length≤maxLen
theorem Xmi (s:List UInt8) (hs:s.length≤9223372036854775807) (B w:World) (I:Im) (As:List Xe) (hS:Sat B w I As) :
  Calls Tryz.prog 175 [S s].toArray w (Ret fun v w'=>v=.bool (X9q s)∧Sat B w' I As):=by
 refine calls Tryz.func175 rfl Tryz.ntmps175 rfl (.seq (.q 1 rfl (.seq (.seq (.region (.run 3 rfl ⟨Qu9,trivial⟩ (.nil (.block (.loop (σ:=Nat) (fun i=>[(0,S s),(6,I64 (s.length:Nat)),(7,I64 (i:Nat))]) (fun i w=>i≤s.length∧(∀ (j:Nat) c,j<i→s[j]?=some c→badW j c=false)∧Sat B w I As) (fun i=>s.length - i) 0 ⟨rfl,rfl,rfl,trivial⟩ ⟨Yq _,fun _ _ h=>absurd h (by omega),hS⟩ ?_)))))))))
 rintro i w ⟨hi,hno,hS⟩
 refine .seq (.q 1 rfl (.seq ?_))
 refine WC.cond rfl (fun hb8=>?_) (fun hb8=>?_)
 ·
  have hc8:=hb8; try simp only [Y6] at hc8
  refine .skip (.seq (.block (.seq (.q 2 rfl (.seq (.region (.run 4 rfl ⟨⟨⟨by omega,by omega⟩,Qu9⟩,trivial⟩ (.nil (.seq (.t 1 rfl (.call Tryz.func202 rfl (X0 (.of rfl) X4) rfl (Xgk _ w) ?_)))))))))))
  rintro _ _ ⟨rfl,rfl⟩
  refine .q 2 rfl (.gval rfl rfl (fun hg1=>(.move (.of rfl))) rfl (.gval rfl rfl (fun hg1=>(.eql (.gd hg1 rfl) (.of rfl))) rfl (.gval rfl rfl (fun hg1=>(.move (.gd hg1 rfl))) rfl (.gval2 rfl rfl rfl (fun hg1 hg2=>(.move (.of rfl))) rfl (.gval2 rfl rfl rfl (fun hg1 hg2=>(.lss (.gd2 hg1 hg2 rfl) (.of rfl))) rfl (.gval2 rfl rfl rfl (fun hg1 hg2=>(.move (.gd2 hg1 hg2 rfl))) rfl (.gval3 rfl rfl rfl (fun hg1 hg2 hg3=>(.move (.of rfl))) rfl (.gval3 rfl rfl rfl (fun hg1 hg2 hg3=>(.gtr (.gd3 hg1 hg2 hg3 rfl) (.of rfl))) rfl (.gval2 rfl rfl rfl (fun hg1 hg2=>(.por (.gd2 hg1 hg2 rfl) (.of rfl) (.gd2 hg1 hg2 rfl))) rfl (.gval2 rfl rfl rfl (fun hg1 hg2=>(.move (.gd2 hg1 hg2 rfl))) rfl (.gval3 rfl rfl rfl (fun hg1 hg2 hg3=>(.move (.of rfl))) rfl (.gval3 rfl rfl rfl (fun hg1 hg2 hg3=>(.neq (.gd3 hg1 hg2 hg3 rfl) (.of rfl))) rfl (.gval2 rfl rfl rfl (fun hg1 hg2=>(.pand (.gd2 hg1 hg2 rfl) (.gd2 hg1 hg2 rfl) (.of rfl))) rfl (.gval2 rfl rfl rfl (fun hg1 hg2=>(.move (.gd2 hg1 hg2 rfl))) rfl (.gval3 rfl rfl rfl (fun hg1 hg2 hg3=>(.move (.of rfl))) rfl (.gval3 rfl rfl rfl (fun hg1 hg2 hg3=>(.neq (.gd3 hg1 hg2 hg3 rfl) (.of rfl))) rfl (.gval2 rfl rfl rfl (fun hg1 hg2=>(.pand (.gd2 hg1 hg2 rfl) (.gd2 hg1 hg2 rfl) (.of rfl))) rfl (.gval rfl rfl (fun hg1=>(.por (.gd hg1 rfl) (.of rfl) (.gd hg1 rfl))) rfl (.val (.pand (.of rfl) (.of rfl) (.of rfl)) rfl (.nil ?_))))))))))))))))))))
  refine WC.cond rfl (fun hb35=>?_) (fun hb35=>?_)
  ·
   have hc35:=hb35; try simp only [Y6] at hc35
   refine .seq (.q 1 rfl (.ret (Xh Tryz.results175 rfl ?_)))
   refine ⟨_,rfl,congrArg Value.bool ?_,hS⟩
   have:X83 s 0=false:=by
    cases h:X83 s 0 with
    | false=>rfl
    | true =>
     have h1:=(X43 s 0).1 h i _ (X11 (show i<s.length by omega))
     rw [Yc] at h1
     exact absurd (hb35.symm.trans h1) (by decide)
   rw [X9q,this]; rfl
  have hc35:=hb35; try simp only [Y6] at hc35
  refine .skip (.region (.run 2 rfl ⟨⟨by omega,by omega⟩,trivial⟩ (.nil ?_)))
  refine ⟨i+1,⟨rfl,rfl,rfl,trivial⟩,⟨by (try dsimp only); omega,fun j c hj hc=>?_,hS⟩,by (try dsimp only); omega⟩
  rcases Yr j i with h1 | h1
  ·exact hno j c h1 hc
  ·have e:j=i:=by omega
   subst e
   rw [X11 (show j<s.length by omega)] at hc; cases hc
   exact hb35
 have hc8:=hb8; try simp only [Y6] at hc8
 refine .exit (.seq (.t 3 rfl (.gval rfl rfl (fun hg1=>(.move (.of rfl))) rfl (.gval rfl rfl (fun hg1=>(.len (.gd hg1 rfl) Qu9)) rfl (.gval rfl rfl (fun hg1=>(.leq (.gd hg1 rfl) (.of rfl))) rfl (.val (.pand (.of rfl) (.of rfl) (.of rfl)) rfl (.q 1 rfl (.nil (.ret (Xh Tryz.results175 rfl ?_))))))))))
 refine ⟨_,rfl,congrArg Value.bool ?_,hS⟩
 have:X83 s 0=true:=(X43 s 0).2 fun j c hc=>by
  have:=(Y5.1 hc).1
  rw [Yc]; exact hno j c (by omega) hc
 rw [X9q,this]
 simp
theorem Xla (p:Pr) (hp:X1k p) (B w:World) (I:Im) (As:List Xe) (hS:Sat B w I As) :
  Calls Tryz.prog 174 [.agg (Xk p).toArray].toArray w (Ret fun v w'=>v=.bool (Xl1 p)∧Sat B w' I As):=by
 refine calls Tryz.func174 rfl Tryz.ntmps174 rfl (.seq (.region (.boxA (cs:=[_,_]) hS (.of rfl) rfl ?_)))
 clear hS; intro b1 w hS
 refine .q 1 rfl (.nil (.seq (.region ?_)))
 refine WL.val (.fieldAddr 0 (.of rfl) Xi1 rfl rfl Qs9 rfl) rfl ?_
 refine WL.val (.ld (.of rfl) hS (k:=0) rfl Qg9 rfl) rfl ?_
 refine .call Tryz.func175 rfl (X0 (.of rfl) X4) rfl (Xmi p.1 hp.1 B _ I _ hS) ?_
 clear hS
 rintro _ w ⟨rfl,hS⟩
 refine .q 2 rfl ?_
 refine WL.gval rfl rfl (fun hg1=>(by exact .fieldAddr 1 (.of rfl) Xi1 rfl rfl Qs9 rfl)) rfl ?_
 refine WL.gval rfl rfl (fun hg1=>(by exact (.ld (.gd hg1 rfl) hS (k:=0) rfl Qg9 rfl))) rfl ?_
 refine .gcall (T:=fun w=>Sat B w I (blk b1 [S p.1,S p.2] 69::As)) rfl rfl rfl Tryz.func176 rfl (fun hg1=>(X0 (.gd hg1 rfl) (X0 (.of rfl) (X0 (.of rfl) (X0 (.of rfl) X4))))) rfl (fun hg1=>Xa6 p.2 32 0 60 hp.2 B _ I _ hS) hS ?_
 clear hS; rintro w hS
 refine .gval rfl rfl (fun hg1=>(.not (.gd hg1 rfl))) rfl (.val (.por (.of rfl) (.of rfl) (.of rfl)) rfl (.q 1 rfl (.nil (.ret (Xh Tryz.results174 rfl ?_)))))
 exact ⟨_,rfl,rfl,hS.drop (k:=0) rfl⟩
theorem X9v (a:Option Addr) (cap:Nat) (l:List (Pr)) (hln:l.length≤9223372036854775807) (pr:Pr→Bool) (fid:FuncId) (fn:Func) (hfn:Tryz.prog.funcs[fid]?=some fn) (hcal:Xr fn=true) (capv:List Value) (B w:World) (I:Im) (As:List Xe) (hE:∀ w,Sat B w I As→Xhj w Xk 2 a l) (hf:∀ (r:Pr) (hr:r∈l) w,Sat B w I As→Calls Tryz.prog fid ([Value.agg (Xk r).toArray] ++ capv).toArray w (Ret fun v w'=>v=.bool (pr r)∧Sat B w' I As)) (hS:Sat B w I As) :
  Calls Tryz.prog 203 [.slice a l.length cap,.func (.func fid) #[] capv.toArray].toArray w (Ret fun v w'=>v=I64 (X2o pr l 0)∧Sat B w' I As):=by
 refine calls Tryz.func203 rfl Tryz.ntmps203 rfl (.seq (.q 1 rfl (.seq (.seq (.region (.run 3 rfl ⟨⟨_,X6n⟩,trivial⟩ (.nil (.block (.loop (σ:=Nat) (fun i=>[(0,.slice a l.length cap),(1,.func (.func fid) #[] capv.toArray),(7,I64 (l.length:Nat)),(8,I64 (i:Nat))]) (fun i w=>i≤l.length∧(∀ (j:Nat) t,j<i→l[j]?=some t→pr t=false)∧Sat B w I As) (fun i=>l.length - i) 0 ⟨rfl,rfl,rfl,rfl,trivial⟩ ⟨Yq _,fun _ _ h=>absurd h (by omega),hS⟩ ?_)))))))))
 rintro i w ⟨hi,hno,hS⟩
 refine .seq (.q 1 rfl (.seq ?_))
 refine WC.cond rfl (fun hb9=>?_) (fun hb9=>?_)
 ·
  have hc9:=hb9; try simp only [Y6] at hc9
  refine .skip (.seq (.block (.seq ?_)))
  obtain ⟨r,hr⟩:∃ r,l[i]?=some r:=⟨_,Y4 (by omega)⟩
  obtain ⟨p,rfl,hx⟩:=hE w hS i r hr
  refine .q 2 rfl (.seq (.t 3 rfl ?_))
  refine WL.val (.indexAddrI (.of rfl) (.of rfl) (by omega) (by omega) X6n X9l) rfl ?_
  refine .val (.ldR (.of rfl) hx Xp9 X9l rfl) rfl (.vcall (cap:=capv) hfn hcal (.of rfl) (X0 (.of rfl) X4) rfl (hf r (Yl hr) w hS) ?_)
  clear hS
  rintro _ w ⟨rfl,hS⟩
  refine .nil ?_
  refine WC.cond rfl (fun hb16=>?_) (fun hb16=>?_)
  ·
   refine .seq (.q 2 rfl (.ret (Xh Tryz.results203 rfl ?_)))
   exact ⟨_,rfl,by rw [X4w hno hr hb16],hS⟩
  have hc16:=hb16; try simp only [Y6] at hc16
  refine .skip (.region (.run 2 rfl ⟨⟨by omega,by omega⟩,trivial⟩ (.nil ?_)))
  refine ⟨i+1,⟨rfl,rfl,rfl,rfl,trivial⟩,⟨by (try dsimp only); omega,fun j t hj ht=>?_,hS⟩,by (try dsimp only); omega⟩
  rcases Yr j i with h1 | h1
  ·exact hno j t h1 ht
  ·have e:j=i:=by omega
   subst e
   rw [hr] at ht; cases ht
   exact hb16
 have hc9:=hb9; try simp only [Y6] at hc9
 refine .exit (.seq (.q 1 rfl (.ret (Xh Tryz.results203 rfl ?_))))
 exact ⟨_,rfl,by rw [X3n (fun j t ht=>hno j t (by have:=(Y5.1 ht).1; omega) ht)],hS⟩
theorem X6t (a:Option Addr) (cap:Nat) (l:List (Pr)) (hln:l.length≤9223372036854775807) (pr:Pr→Bool) (fid:FuncId) (fn:Func) (hfn:Tryz.prog.funcs[fid]?=some fn) (hcal:Xr fn=true) (capv:List Value) (B w:World) (I:Im) (As:List Xe) (hE:∀ w,Sat B w I As→Xhj w Xk 2 a l) (hf:∀ (r:Pr) (hr:r∈l) w,Sat B w I As→Calls Tryz.prog fid ([Value.agg (Xk r).toArray] ++ capv).toArray w (Ret fun v w'=>v=.bool (pr r)∧Sat B w' I As)) (hS:Sat B w I As) :
  Calls Tryz.prog 177 [.slice a l.length cap,.func (.func fid) #[] capv.toArray].toArray w (Ret fun v w'=>v=.bool (l.any pr)∧Sat B w' I As):=by
 refine calls Tryz.func177 rfl Tryz.ntmps177 rfl (.seq (.q 1 rfl (.seq (.t 2 rfl (.call Tryz.func203 rfl (X0 (.of rfl) (X0 (.of rfl) X4)) rfl (X9v a cap l hln pr fid fn hfn hcal capv B _ I As hE hf hS) ?_)))))
 clear hS
 rintro _ w ⟨rfl,hS⟩
 refine .q 2 rfl (.nil (.ret (Xh Tryz.results177 rfl ?_)))
 exact ⟨_,rfl,by rw [← X74 pr l 0],hS⟩
theorem Xgw (a:Option Addr) (c:Nat) (l:List (Pr)) (hl:l.length≤1000000) (B w:World) (I:Im) (hR:RS I a 2 l.length (Xy Xk l)) (As:List Xe) (hS:Sat B w I As) :
  Calls Tryz.prog 133 [.slice a l.length c].toArray w (Ret fun v w'=>∃ J ra rc,v=.slice ra l.length rc∧Le I J∧l.length≤rc∧RS J ra 2 l.length (Xy Xk l)∧Sat B w' J As):=by
 refine calls Tryz.func133 rfl Tryz.ntmps133 rfl (.seq (.q 1 rfl (.seq (.seq (.t 1 rfl (.val (Ex.slNil (.of rfl) (.of rfl) X6n) rfl (.nil ?_)))))))
 refine WC.cond rfl (fun hb4=>?_) (fun hb4=>?_)
 ·
  refine .seq (.q 1 rfl (.ret (Xh Tryz.results133 rfl ?_)))
  cases a with
  | some p=>simp at hb4
  | none =>
  have h0:l=[]:=by
   cases l with
   | nil=>rfl
   | cons x l=>obtain ⟨p,h,_⟩:=hR.2 (by simp); cases h
  subst h0
  exact ⟨_,rfl,I,none,0,rfl,Le.refl _,Yu _,⟨rfl,fun h=>absurd h (by simp)⟩,hS⟩
 refine .skip (.seq (.region (.buildSlice (cs:=[]) hS X6 X6n X9l Qz69 rfl rfl rfl rfl ?_)))
 clear hS; intro b5 w hS
 refine .q 1 rfl ?_
 replace hS:=hS.vecOf (k:=0) (E:=69) (size:=2) (n:=0) rfl rfl (Yq _)
 refine WL.appendF (size:=2) (bytes:=32) hS (.of rfl) (.of rfl) hR (k:=0) rfl X6n (i:=Tryz.t69) (by kernel_rfl) rfl rfl rfl rfl (pr_one l) ⟨by omega,by unfold maxLen; omega⟩ rfl ?_
 clear hS; intro v7 w hS
 rw [Yc,Yd] at hS
 refine .q 1 rfl (.nil (.ret (Xh Tryz.results133 rfl ?_)))
 obtain ⟨ra,rc,rfl,hrc,_⟩:=hS.vecSlice (k:=0) rfl
 obtain ⟨J,hJ,hRS,hS⟩:=hS.freezeVec (k:=0) rfl
 exact ⟨_,rfl,J,ra,rc,rfl,hJ,hrc,hRS,hS⟩
theorem Xjc (u:Us) (a:Option Addr) (c:Nat) (hn:u.name.length≤9223372036854775807) (hal:u.attrs.length≤9223372036854775807) (hA:∀ p∈u.attrs,X1k p) (B w:World) (I:Im) (hR:RS I a 2 u.attrs.length (Xy Xk u.attrs)) (As:List Xe) (hS:Sat B w I As) :
  Calls Tryz.prog 132 [.agg (X2m u a c).toArray].toArray w (Ret fun v w'=>v=.bool (X67 u)∧Sat B w' I As):=by
 refine calls Tryz.func132 rfl Tryz.ntmps132 rfl (.seq (.region (.boxA (cs:=[_,_,_]) hS (.of rfl) rfl ?_)))
 clear hS; intro b1 w hS
 refine .q 1 rfl (.nil (.seq (.q 1 rfl (.seq (.region ?_)))))
 refine WL.val (.fieldAddr 0 (.of rfl) X5g rfl rfl Qs9 rfl) rfl ?_
 refine WL.val (.ld (.of rfl) hS (k:=0) rfl Qg9 rfl) rfl ?_
 refine .call Tryz.func176 rfl (X0 (.of rfl) (X0 (.of rfl) (X0 (.of rfl) (X0 (.of rfl) X4)))) rfl (Xa6 u.name 33 1 32 hn B _ I _ hS) ?_
 clear hS
 rintro _ w ⟨rfl,hS⟩
 refine .q 1 rfl ?_
 refine WL.gval rfl rfl (fun hg1=>(by exact .fieldAddr 1 (.of rfl) X5g rfl rfl Qs9 rfl)) rfl ?_
 refine WL.gval rfl rfl (fun hg1=>(by exact (.ld (.gd hg1 rfl) hS (k:=0) rfl Qg9 rfl))) rfl ?_
 refine .gval rfl rfl (fun hg1=>(.len (.gd hg1 rfl) Qu9)) rfl (.gval rfl rfl (fun hg1=>(.geq (.gd hg1 rfl) (.of rfl))) rfl (.val (.pand (.of rfl) (.of rfl) (.of rfl)) rfl (.q 1 rfl ?_)))
 refine WL.gval rfl rfl (fun hg1=>(by exact .fieldAddr 1 (.of rfl) X5g rfl rfl Qs9 rfl)) rfl ?_
 refine WL.gval rfl rfl (fun hg1=>(by exact (.ld (.gd hg1 rfl) hS (k:=0) rfl Qg9 rfl))) rfl ?_
 refine .gval rfl rfl (fun hg1=>(.len (.gd hg1 rfl) Qu9)) rfl (.gval rfl rfl (fun hg1=>(.leq (.gd hg1 rfl) (.of rfl))) rfl (.val (.pand (.of rfl) (.of rfl) (.of rfl)) rfl (.q 1 rfl ?_)))
 refine WL.gval rfl rfl (fun hg1=>(by exact .fieldAddr 2 (.of rfl) X5g rfl rfl Xcv rfl)) rfl ?_
 refine WL.gval rfl rfl (fun hg1=>(by exact (.ld (.gd hg1 rfl) hS (k:=0) rfl Xdj rfl))) rfl ?_
 refine .gval rfl rfl (fun hg1=>(.lenSlice (.gd hg1 rfl) X6n)) rfl (.gval rfl rfl (fun hg1=>(.leq (.gd hg1 rfl) (.of rfl))) rfl (.val (.pand (.of rfl) (.of rfl) (.of rfl)) rfl (.q 1 rfl ?_)))
 refine WL.gval rfl rfl (fun hg1=>(by exact .fieldAddr 2 (.of rfl) X5g rfl rfl Xcv rfl)) rfl ?_
 refine WL.gval rfl rfl (fun hg1=>(by exact (.ld (.gd hg1 rfl) hS (k:=0) rfl Xdj rfl))) rfl ?_
 refine .gval rfl rfl (fun hg1=>(.move (.of rfl))) rfl (.gcall (T:=fun w=>Sat B w I (blk b1 (X2m u a c) 67::As)) rfl rfl rfl Tryz.func177 rfl (fun hg1=>(X0 (.gd hg1 rfl) (X0 (.gd hg1 rfl) X4))) rfl (fun hg1=>X6t a c u.attrs (by omega) Xl1 174 _ Tryz.func174 rfl [] B _ I _ (fun w h=>Xii (fun _=>rfl) h hR) (fun p hp w h=>Xla p (hA p hp) B w I _ h) hS) hS ?_)
 clear hS; rintro w hS
 refine .gval rfl rfl (fun hg1=>(.not (.gd hg1 rfl))) rfl (.val (.pand (.of rfl) (.of rfl) (.of rfl)) rfl (.q 1 rfl (.nil (.ret (Xh Tryz.results132 rfl ?_)))))
 exact ⟨_,rfl,rfl,hS.drop (k:=0) rfl⟩
theorem Xdc:Tryz.prog.info? 69=some Tryz.t69:=by kernel_rfl
theorem Xk8:Bld Tryz.prog 179 [(0,1)] [.map none]:=X26 Xn3 Tryz.zeroValue179 (fun w=>by simp [go_sem])
def UsrsAt (I:Im) (a:Option Addr) (l:List Us):Prop:=∀ (i:Nat) (u:Us),l[i]?=some u→∃ p ra rc,a=some p∧At I (p.add (i*3)) (X2m u ra rc)∧u.attrs.length≤rc∧RS I ra 2 u.attrs.length (Xy Xk u.attrs)
theorem UsrsAt.mono {I J:Im} {a:Option Addr} {l:List Us} (h:UsrsAt I a l) (hl:Le I J):UsrsAt J a l:=fun i u hu=>by
 obtain ⟨p,ra,rc,e,h1,h2,h3⟩:=h i u hu
 exact ⟨p,ra,rc,e,h1.mono hl,h2,h3.mono hl⟩
structure Us.fits (u:Us):Prop where
 name:u.name.length≤maxLen
 pw:u.pw.length≤maxLen
 attrs:u.attrs.length≤9223372036854775807∧∀ p∈u.attrs,X1k p
def X3z:List Us→Nat→List Us→Nat×Nat
 | [],_,_=>(0,0)
 | u::r,i,acc=>if 16≤i then (5,i) else if X67 u=false then (1,i) else if acc.any (fun t=>t.name == u.name) then (7,i) else X3z r (i+1) (acc ++ [u])
def KvOf (J:Im) (kv:List (List UInt8×Value)) (l:List Us):Prop:=kv.length=l.length∧∀ (i:Nat) (u:Us),l[i]?=some u→∃ cs,kv[i]?=some (u.name,.agg (List.toArray cs))∧UsAt J u cs
theorem KvOf.mono {I J:Im} {kv:List (List UInt8×Value)} {l:List Us} (h:KvOf I kv l) (hl:Le I J):KvOf J kv l:=⟨h.1,fun i u hu=>by
 obtain ⟨cs,h1,h2⟩:=h.2 i u hu
 exact ⟨cs,h1,h2.mono hl⟩⟩
theorem KvOf.snoc {J:Im} {kv:List (List UInt8×Value)} {l:List Us} {u:Us} {cs:List Value} (h:KvOf J kv l) (hu:UsAt J u cs):KvOf J (kv ++ [(u.name,.agg cs.toArray)]) (l ++ [u]):=⟨by simp [h.1],fun i t ht=>by
 rcases Yr i l.length with h1 | h1
 ·rw [Yi h1] at ht
  rw [Yi (by rw [h.1]; exact h1)]
  exact h.2 i t ht
 ·have h2:=(Y5.1 ht).1
  simp only [Y0,Ye,Yn] at h2
  have e:i=l.length:=by omega
  subst e
  simp at ht; subst ht
  exact ⟨cs,by rw [← h.1]; simp,hu⟩⟩
theorem Xex {J:Im} (name:List UInt8):∀ {kv:List (List UInt8×Value)} {l:List Us},KvOf J kv l→(l.find? (fun t=>t.name == name)=none∧kv.lookup name=none)∨∃ u cs,l.find? (fun t=>t.name == name)=some u∧kv.lookup name=some (.agg (List.toArray cs))∧UsAt J u cs
 | [],[],_=>.inl ⟨rfl,rfl⟩
 | [],u::l,h=>by have:=h.1; simp at this
 | p::kv,[],h=>by have:=h.1; simp at this
 | p::kv,u::l,h=>by
  obtain ⟨cs,h1,h2⟩:=h.2 0 u rfl
  simp at h1; subst h1
  have h3:KvOf J kv l:=⟨by simpa using h.1,fun i t ht=>by simpa using h.2 (i+1) t (by simpa using ht)⟩
  rw [Y2y]
  by_cases e:u.name=name
  ·subst e
   exact .inr ⟨u,cs,by simp,by simp [List.lookup],h2⟩
  ·have e1:(u.name == name)=false:=beq_eq_false_iff_ne.2 e
   have e2:(name == u.name)=false:=beq_eq_false_iff_ne.2 (Ne.symm e)
   simp only [e1,List.lookup,e2]
   exact Xex name h3
theorem Xmw (l:List Us) (name:List UInt8):l.any (fun t=>t.name == name)=(l.find? (fun t=>t.name == name)).isSome:=by
 rw [Y3a,Y2i,List.find?_isSome]
def TabAt (J:Im) (tb:Nat) (l:List Us):Prop:=∃ mb kv,At J (ad tb 0) [.map (some mb)]∧MapI J S mb kv∧KvOf J kv l
theorem TabAt.mono {I J:Im} {tb:Nat} {l:List Us} (h:TabAt I tb l) (hl:Le I J):TabAt J tb l:=by
 obtain ⟨mb,kv,h1,h2,h3⟩:=h
 exact ⟨mb,kv,h1.mono hl,h2.mono hl,h3.mono hl⟩
theorem X87 {J:Im} {b:Nat} {cs:List Value} {E:TypeId} (h:J b=some (Xq cs E)):At J (ad b 0) cs:=⟨rfl,_,E,(0,0),h,fun j v hj=>by simpa [ad] using hj⟩
theorem X5t {u:Us} (h:X67 u=true):u.attrs.length≤8:=by
 unfold X67 at h
 simp only [Yo,decide_eq_true_eq] at h
 omega
set_option maxRecDepth 20000 in
theorem Xdi (a:Option Addr) (cap:Nat) (l:List Us) (hln:l.length≤9223372036854775807) (hfit:∀ u∈l,u.fits) (B w:World) (I:Im) (hU:UsrsAt I a l) (As:List Xe) (hS:Sat B w I As) :
  Calls Tryz.prog 90 [.slice a l.length cap].toArray w (Ret fun v w'=>∃ J,Le I J∧(((X3z l 0 []).1=0∧∃ tb,v=.tuple #[ptr tb 0,I64 0,I64 0]∧TabAt J tb l)∨((X3z l 0 []).1≠0∧v=.tuple #[.pointer none,I64 ((X3z l 0 []).1:Nat),I64 ((X3z l 0 []).2:Nat)]))∧Sat B w' J As):=by
 refine calls Tryz.func90 rfl Tryz.ntmps90 rfl (.seq (.q 3 rfl (.seq (.region (.mkMap S hS rfl ?_)))))
 clear hS; intro b10 w hS
 refine .val (.build (cs:=[_]) (X5 (.of rfl) X6) Xk8 rfl) rfl (.boxA (cs:=[_]) hS (.of rfl) rfl ?_)
 clear hS; intro b12 w hS
 refine .q 1 rfl (.nil (.seq (.seq (.region (.run 3 rfl ⟨⟨_,X9n⟩,trivial⟩ (.nil (.block (.loop (σ:=Nat×Im×List (List UInt8×Value)) (fun ⟨i,J,kv⟩=>[(0,.slice a l.length cap),(5,ptr b12 0),(13,.slice a l.length cap),(14,I64 (l.length:Nat)),(15,I64 (i:Nat))]) (fun ⟨i,J,kv⟩ w=>i≤l.length∧Le I J∧KvOf J kv (l.take i)∧X3z (l.drop i) i (l.take i)=X3z l 0 []∧Sat B w J (blk b12 [.map (some b10)] 179::X9i S b10 kv::As)) (fun ⟨i,J,kv⟩=>l.length - i) (0,I,[]) ⟨rfl,rfl,rfl,rfl,rfl,trivial⟩ ⟨Yq _,Le.refl _,⟨rfl,fun i u h=>by simp at h⟩,rfl,hS⟩ ?_))))))))
 rintro ⟨i,J,kv⟩ w ⟨hi,hJ,hkv,hq,hS⟩
 refine .seq (.q 1 rfl (.seq ?_))
 refine WC.cond rfl (fun hb16=>?_) (fun hb16=>?_)
 ·
  have hc16:=hb16; try simp only [Y6] at hc16
  refine .skip (.seq (.block (.seq ?_)))
  obtain ⟨u,hu⟩:∃ u,l[i]?=some u:=⟨_,Y4 (by omega)⟩
  obtain ⟨p,ra,rc,hap,hA0,hrc,hRR⟩:=hU i u hu
  have hfu:=hfit u (Yl hu)
  subst hap
  have hA:=hA0.mono hJ
  have hR:=hRR.mono hJ
  have hstep:X3z (l.drop i) i (l.take i)=if 16≤i then (5,i) else if X67 u=false then (1,i) else if (l.take i).any (fun t=>t.name == u.name) then (7,i) else X3z (l.drop (i+1)) (i+1) (l.take (i+1)):=by
   rw [Y1j (by omega),(Y5.1 hu).2,X3z]
   simp only [Y15,hu,Y1s]
  rw [hq] at hstep
  have hlook:=Xex u.name hkv
  have hany:=Xmw (l.take i) u.name
  refine .t 1 rfl ?_
  refine WL.val (.indexAddrI (.of rfl) (.of rfl) (by omega) (by omega) X9n X9p) rfl ?_
  refine .val (.ldR (vs:=X2m u ra rc) (.of rfl) (fun j v hj=>X2k hS hA hj) Qg67 X9p rfl) rfl ?_
  unfold X2m
  refine .allocA (cs:=[_,_,_]) hS Qz67 rfl ?_
  clear hS; intro b7 w hS
  refine .q 1 rfl ?_
  refine WL.stA hS (k:=0) rfl (.of rfl) (.of rfl) rfl X9p rfl (by simp) ?_
  clear hS; intro w hS
  try simp only [Yh,Yd,Y9,Y7,Yg,Ym,Yc] at hS
  refine .nil (.seq ?_)
  obtain ⟨n9,p9,a9,k9,c9,hz9⟩:∃ n9 p9 a9 k9 c9,(kv.lookup u.name).getD (.agg [S [],S [],.slice none 0 0].toArray)=.agg [S n9,S p9,.slice a9 k9 c9].toArray:=by
   rcases hlook with ⟨_,e⟩ | ⟨t,cs,_,e,ta,tc,ht,_⟩
   ·rw [e]; exact ⟨_,_,_,_,_,rfl⟩
   ·rw [e,ht]; exact ⟨_,_,_,_,_,rfl⟩
  refine .drawn (fun w=>∃ R,Sat B w J (blk b7 [S u.name,S u.pw,.slice ra u.attrs.length rc] 67::blk b12 [.map (some b10)] 179::X9i S b10 kv::R)) (fun j=>!([].contains j)) (by kernel_rfl) ?_
  replace hS:=hS.drew; generalize w.drew=w at hS ⊢
  have hH:=(((hS.pick 2 rfl).pick 2 rfl).pick 2 rfl)
  refine .tp (i:=0) rfl (by kernel_rfl) (fun w=>(.move (.of rfl))) rfl (.tp (i:=1) rfl (by kernel_rfl) (fun w=>(.nilCheck (.of rfl))) rfl ?_)
  refine WD.tp (i:=2) rfl (by kernel_rfl) (fun w=>(.fieldAddr 0 (.of rfl) Xn3 rfl rfl Tryz.sizeOf177 rfl)) rfl ?_
  refine WD.tk (i:=3) rfl (by kernel_rfl) ⟨_,hH⟩ (fun w ⟨R,hS⟩=>((.ld (.of rfl) hS (k:=1) rfl Tryz.isAgg177 rfl))) rfl ?_
  refine WD.tp (i:=4) rfl (by kernel_rfl) (fun w=>(.fieldAddr 0 (.of rfl) X5g rfl rfl Qs9 rfl)) rfl ?_
  refine WD.tk (i:=5) rfl (by kernel_rfl) ⟨_,hH⟩ (fun w ⟨R,hS⟩=>((.ld (.of rfl) hS (k:=0) rfl Qg9 rfl))) rfl ?_
  refine WD.tk (i:=6) rfl (by kernel_rfl) ⟨_,hH⟩ (v:=.tuple #[.agg [S n9,S p9,.slice a9 k9 c9].toArray,.bool (kv.lookup u.name).isSome]) (fun w ⟨R,hS⟩=>by rw [← hz9]; exact .look2 (key:=u.name) keyS (hS.mapNow (k:=2) rfl) (.of rfl) (.of rfl) Xq6 Qu9 Qz67) rfl ?_
  refine .tp (i:=7) rfl (by kernel_rfl) (fun w=>(.move (.of rfl))) rfl (.tp (i:=8) rfl (by kernel_rfl) (fun w=>(.extract (.of rfl) rfl)) rfl (.tp (i:=9) rfl (by kernel_rfl) (fun w=>(.extract (.of rfl) rfl)) rfl ?_))
  refine WD.branch [10] (by kernel_rfl) rfl (WO.cons rfl ?_ (WO.nil))
  refine .allocA (cs:=[_,_,_]) hS Qz67 rfl ?_
  clear hS; intro b8 w hS
  refine .nil ?_
  clear hH
  have hH:=(((hS.pick 3 rfl).pick 3 rfl).pick 3 rfl)
  refine And.intro (by intro _ _; exact ⟨_,hH⟩) ?_
  refine WD.branch [11] (by kernel_rfl) rfl (WO.cons rfl ?_ (WO.nil))
  refine WL.stA hS (k:=0) rfl (.of rfl) (.of rfl) rfl X9p rfl (by simp) ?_
  clear hS; intro w hS
  try simp only [Yh,Yd,Y9,Y7,Yg,Ym,Yc] at hS
  refine .nil ?_
  clear hH
  have hH:=(((hS.pick 3 rfl).pick 3 rfl).pick 3 rfl)
  refine And.intro (by intro _ _; exact ⟨_,hH⟩) ?_
  refine .tp (i:=12) rfl (by kernel_rfl) (fun w=>(.assign (.of rfl))) rfl (.done (by kernel_rfl) (.seq (.block (.seq (.q 3 rfl ?_)))))
  refine WC.cond rfl (fun hb30=>?_) (fun hb30=>?_)
  ·
   have hc30:=hb30; try simp only [Y6] at hc30
   refine .seq (.q 4 rfl (.ret (Xbs Qr90 rfl rfl rfl ?_)))
   have hE:X3z l 0 []=(5,i):=by rw [hstep]; exact if_pos (by omega)
   rw [hE]
   exact ⟨_,rfl,J,hJ,.inr ⟨show (5:Nat)≠0 by decide,rfl⟩,(((hS.drop (k:=0) rfl).drop (k:=0) rfl).drop (k:=0) rfl).drop (k:=0) rfl⟩
  have hc30:=hb30; try simp only [Y6] at hc30
  refine .seq (.region ?_)
  refine WL.val (.ldsW (cs:=[_,_,_]) (.of rfl) hS (k:=1) rfl Qg67 X9p rfl) rfl ?_
  refine .call Tryz.func132 rfl (X0 (.of rfl) X4) rfl (Xjc u ra rc hfu.name hfu.attrs.1 hfu.attrs.2 B _ J hR _ hS) ?_
  clear hS
  rintro _ w ⟨rfl,hS⟩
  refine .q 2 rfl (.nil ?_)
  refine WC.cond rfl (fun hb34=>?_) (fun hb34=>?_)
  ·
   have hc34:=hb34; try simp only [Y6] at hc34
   refine .seq (.q 4 rfl (.ret (Xbs Qr90 rfl rfl rfl ?_)))
   have hE:X3z l 0 []=(1,i):=by rw [hstep]; rw [if_neg (by omega)]; exact if_pos (by simpa using hb34)
   rw [hE]
   exact ⟨_,rfl,J,hJ,.inr ⟨show (1:Nat)≠0 by decide,rfl⟩,(((hS.drop (k:=0) rfl).drop (k:=0) rfl).drop (k:=0) rfl).drop (k:=0) rfl⟩
  have hc34:=hb34; try simp only [Y6] at hc34
  refine .seq (.q 2 rfl ?_)
  refine WC.cond rfl (fun hb39=>?_) (fun hb39=>?_)
  ·
   have hc39:=hb39; try simp only [Y6] at hc39
   refine .seq (.q 4 rfl (.ret (Xbs Qr90 rfl rfl rfl ?_)))
   have hE:X3z l 0 []=(7,i):=by rw [hstep]; rw [if_neg (by omega)]; rw [if_neg (show ¬ X67 u=false by simpa using hb34)]; exact if_pos (by rw [hany]; rcases hlook with ⟨_,e⟩ | ⟨t,cs,e,_⟩ <;> simp_all)
   rw [hE]
   exact ⟨_,rfl,J,hJ,.inr ⟨show (7:Nat)≠0 by decide,rfl⟩,(((hS.drop (k:=0) rfl).drop (k:=0) rfl).drop (k:=0) rfl).drop (k:=0) rfl⟩
  have hc39:=hb39; try simp only [Y6] at hc39
  refine .skip (.seq ?_)
  have hur:X67 u=true:=by simpa using hb34
  have hal:=X5t hur
  refine .region ?_
  refine WL.val (.fieldAddr 2 (.of rfl) X5g rfl rfl Xcv rfl) rfl ?_
  refine WL.val (.ld (.of rfl) hS (k:=1) rfl Xdj rfl) rfl ?_
  refine .call Tryz.func133 rfl (X0 (.of rfl) X4) rfl (Xgw ra rc u.attrs (by omega) B _ J hR _ hS) ?_
  clear hS
  rintro _ w ⟨J2,ra2,rc2,rfl,hJ2,hrc2,hR2,hS⟩
  refine WL.val (.fieldAddr 2 (.of rfl) X5g rfl rfl Xcv rfl) rfl ?_
  refine WL.st1 hS (k:=1) rfl (.of rfl) (.of rfl) rfl Xcv (by simp) ?_
  clear hS; intro w hS
  refine .nil (.tail 7 (by kernel_rfl) (by kernel_rfl) ?_)
  replace hS:=hS.drew; generalize w.drew=w at hS ⊢
  refine .val (.move (.of rfl)) rfl (.val (.nilCheck (.of rfl)) rfl ?_)
  refine WT.val (by exact .fieldAddr 0 (.of rfl) Xn3 rfl rfl Tryz.sizeOf177 rfl) rfl ?_
  refine WT.val (by exact (.ld (.of rfl) hS (k:=2) rfl Tryz.isAgg177 rfl)) rfl ?_
  refine WT.val (by exact .fieldAddr 0 (.of rfl) X5g rfl rfl Qs9 rfl) rfl ?_
  refine WT.val (by exact (.ld (.of rfl) hS (k:=1) rfl Qg9 rfl)) rfl ?_
  refine WT.val (by exact (.ldsW (cs:=[_,_,_]) (.of rfl) hS (k:=1) rfl Qg67 X9p rfl)) rfl ?_
  refine .nil ?_
  show WL _ _ _ _ _ _ _
  have hno:kv.lookup u.name=none:=by
   cases h:kv.lookup u.name with
   | none=>rfl
   | some x=>rw [h] at hb39; cases hb39
  refine .mput keyS hS (k:=3) rfl (.of rfl) (.of rfl) (.of rfl) hno Xq6 Qu9 ?_
  clear hS; intro w hS
  try dsimp only [List.set] at hS
  refine .nil (.region (.run 2 rfl ⟨⟨by omega,by omega⟩,trivial⟩ (.nil ?_)))
  refine ⟨(i+1,J2,kv ++ [(u.name,Value.agg #[S u.name,S u.pw,Value.slice ra2 u.attrs.length rc2])]),⟨rfl,rfl,rfl,rfl,rfl,trivial⟩,⟨by (try dsimp only); omega,hJ.trans hJ2,?_,?_,(hS.drop (k:=0) rfl).drop (k:=0) rfl⟩,by (try dsimp only); omega⟩
  ·show KvOf J2 _ (l.take (i+1))
   rw [Y15,hu]
   exact (hkv.mono hJ2).snoc ⟨ra2,rc2,rfl,hrc2,hR2⟩
  ·show X3z (l.drop (i+1)) (i+1) (l.take (i+1))=_
   rw [hstep,if_neg (by omega),if_neg (by rw [hur]; decide),if_neg]
   rw [hany]
   rcases hlook with ⟨e,_⟩ | ⟨t,cs,e,e2,_⟩
   ·rw [e]; decide
   ·rw [hno] at e2; cases e2
 have hc16:=hb16; try simp only [Y6] at hc16
 refine .exit (.seq (.q 4 rfl (.ret (Xbs Qr90 rfl rfl rfl ?_))))
 have e:i=l.length:=by omega
 subst e
 have hE:X3z l 0 []=(0,0):=by rw [← hq,Y34]; rfl
 rw [Y19] at hkv
 rw [hE]
 obtain ⟨J2,hJ2,hA2,hS⟩:=hS.freeze (k:=0) rfl
 obtain ⟨J3,hJ3,hM3,hS⟩:=hS.freezeMap (k:=0) rfl
 exact ⟨_,rfl,J3,(hJ.trans hJ2).trans hJ3,.inl ⟨rfl,b12,rfl,b10,kv,(X87 hA2).mono hJ3,hM3,(hkv.mono hJ2).mono hJ3⟩,hS⟩
def Xj1 (l:List Us) (name pw:List UInt8):Bool:=match l.find? (fun t=>t.name == name) with
 | some u=>u.pw == pw
 | none=>false
def atU (l:List Us) (name:List UInt8):List Pr:=match l.find? (fun t=>t.name == name) with
 | some u=>u.attrs
 | none=>[]
def X1n (l:List Us) (name:List UInt8) (rel:List (List UInt8)):List Pr:=rel.flatMap fun x=>(atU l name).filter fun a=>a.1 == x
theorem X75 {A:List Pr} {rel:List (List UInt8)} (hA:A.length≤8):(rel.flatMap fun x=>A.filter fun a=>a.1 == x).length≤8*rel.length:=by
 induction rel with
 | nil=>simp
 | cons x r ih =>
  have h:=Y2b (fun a:Pr=>a.1 == x) A
  simp only [Y2e,Y0,Ye]
  omega
theorem Xo5 {I:Im} {mb:Nat} {kv:List (List UInt8×Value)} {l:List Us} (hkv:KvOf I kv l) (hfit:∀ u∈l,u.fits) (name pw:List UInt8):∃ n9 p9 a9 c9,(kv.lookup name).getD (.agg #[S [],S [],.slice none 0 0])=.agg #[S n9,S p9,.slice a9 (atU l name).length c9]∧RS I a9 2 (atU l name).length (Xy Xk (atU l name))∧p9.length≤9223372036854775807∧((p9 == pw) && (kv.lookup name).isSome)=Xj1 l name pw:=by
 rcases Xex name hkv with ⟨e1,e2⟩ | ⟨u,cs,e1,e2,ua,uc,h1,h2,h3⟩
 ·refine ⟨[],[],none,0,?_,?_,by simp,?_⟩
  ·rw [e2,atU,e1]; rfl
  ·rw [atU,e1]; exact ⟨rfl,fun h=>absurd h (by simp)⟩
  ·rw [e2,Xj1,e1]; simp
 ·refine ⟨u.name,u.pw,ua,uc,?_,?_,(hfit u (Y2u e1)).pw,?_⟩
  ·rw [e2,atU,e1,h1]; rfl
  ·rw [atU,e1]; exact h3
  ·rw [e2,Xj1,e1]; simp
theorem Xhn (tb:Nat) (l:List Us) (hfit:∀ u∈l,u.fits) (name:List UInt8) (h8:(atU l name).length≤8) (ra:Option Addr) (rc:Nat) (rel:List (List UInt8)) (hrl:rel.length≤1000000) (B w:World) (I:Im) (hT:TabAt I tb l) (hRR:RS I ra 1 rel.length (rel.map S)) (As:List Xe) (hS:Sat B w I As) :
  Calls Tryz.prog 64 [ptr tb 0,S name,.slice ra rel.length rc].toArray w (Ret fun v w'=>∃ J ka kc,v=.slice ka (X1n l name rel).length kc∧Le I J∧(X1n l name rel).length≤kc∧RS J ka 2 (X1n l name rel).length (Xy Xk (X1n l name rel))∧Sat B w' J As):=by
 refine calls Tryz.func64 rfl Tryz.ntmps64 rfl (.seq ?_)
 obtain ⟨mb,kv,hTA,hM,hkv⟩:=hT
 obtain ⟨n9,p9,a9,c9,hz9,hR9,hp9,hck⟩:=Xo5 (mb:=mb) hkv hfit name []
 refine .q 1 rfl (.seq (.q 1 rfl (.seq (.seq ?_))))
 replace hS:=hS.vecNil 69 2
 refine .region (.run 3 rfl ⟨⟨_,X1p⟩,trivial⟩ (.nil (.block (.loop (σ:=Nat×Value) (fun ⟨i,v⟩=>[(0,ptr tb 0),(1,S name),(7,v),(12,.slice ra rel.length rc),(13,I64 (rel.length:Nat)),(14,I64 (i:Nat))]) (fun ⟨i,v⟩ w=>i≤rel.length∧Sat B w I (Vec 69 2 v ((rel.take i).flatMap (fun x=>(atU l name).filter fun a=>a.1 == x)).length (Xy Xk ((rel.take i).flatMap (fun x=>(atU l name).filter fun a=>a.1 == x)))::As)) (fun ⟨i,v⟩=>rel.length - i) (0,.slice none 0 0) ⟨rfl,rfl,rfl,rfl,rfl,rfl,trivial⟩ ⟨Yq _,hS⟩ ?_))))
 rintro ⟨i,v⟩ w ⟨hi,hS⟩
 refine .seq (.q 1 rfl (.seq ?_))
 refine WC.cond rfl (fun hb15=>?_) (fun hb15=>?_)
 ·
  have hc15:=hb15; try simp only [Y6] at hc15
  refine .skip (.seq (.block (.seq ?_)))
  obtain ⟨x,hx⟩:∃ x,rel[i]?=some x:=⟨_,Y4 (by omega)⟩
  obtain ⟨p,hrp,hA⟩:=hRR.2 (by omega)
  subst hrp
  have hnx:(rel.map S)[i]?=some (S x):=by rw [Yw,hx]; rfl
  have hol:=X75 (rel:=rel.take i) h8
  rw [Ys] at hol
  refine .region ?_
  refine WL.val (.indexAddrI (.of rfl) (.of rfl) (by omega) (by omega) X1p Qs9) rfl ?_
  refine WL.val (.ld1 (.of rfl) (by have h9:=X2k hS hA hnx; simpa using h9) Qg9) rfl ?_
  refine .q 1 rfl (.nil (.seq (.t 2 rfl ?_)))
  refine WL.val (.fieldAddr 0 (.of rfl) Xn3 rfl rfl Tryz.sizeOf177 rfl) rfl ?_
  refine .val (.ldI (.of rfl) hS hTA Tryz.isAgg177 rfl) rfl (.q 1 rfl ?_)
  refine WL.val (v:=.agg [S n9,S p9,.slice a9 (atU l name).length c9].toArray) (by have hz9:=hz9; rw [← hz9]; exact .look1 (key:=name) keyS (hM.now hS) (.of rfl) (.of rfl) Xq6 Qu9 Qz67) rfl ?_
  refine .val (.fieldV (off:=2) (.of rfl) X5g rfl rfl Xdj rfl) rfl (.run 2 rfl ⟨⟨_,X6n⟩,trivial⟩ (.nil (.block (.loop (σ:=Nat×Value) (fun ⟨j,v⟩=>[(0,ptr tb 0),(1,S name),(7,v),(9,S x),(12,.slice (some p) rel.length rc),(13,I64 (rel.length:Nat)),(14,I64 (i:Nat)),(24,.slice a9 (atU l name).length c9),(25,I64 ((atU l name).length:Nat)),(26,I64 (j:Nat))]) (fun ⟨j,v⟩ w=>j≤(atU l name).length∧Sat B w I (Vec 69 2 v ((rel.take i).flatMap (fun x=>(atU l name).filter fun a=>a.1 == x) ++ ((atU l name).take j).filter (fun a=>a.1 == x)).length (Xy Xk ((rel.take i).flatMap (fun x=>(atU l name).filter fun a=>a.1 == x) ++ ((atU l name).take j).filter (fun a=>a.1 == x)))::As)) (fun ⟨j,v⟩=>(atU l name).length - j) (0,v) ⟨rfl,rfl,rfl,rfl,rfl,rfl,rfl,rfl,rfl,rfl,trivial⟩ ⟨Yq _,by simpa using hS⟩ ?_))))
  rintro ⟨j,v⟩ w ⟨hj,hS⟩
  refine .seq (.q 1 rfl (.seq ?_))
  refine WC.cond rfl (fun hb27=>?_) (fun hb27=>?_)
  ·
   have hc27:=hb27; try simp only [Y6] at hc27
   refine .skip (.seq (.block (.seq ?_)))
   obtain ⟨y,hy⟩:∃ y,(atU l name)[j]?=some y:=⟨_,Y4 (by omega)⟩
   obtain ⟨q,hq9,hxa⟩:=Xii (cells:=Xk) (s:=2) (fun _=>rfl) hS hR9 j y hy
   have hfj:=Y2b (fun a:Pr=>a.1 == x) ((atU l name).take j)
   rw [Ys] at hfj
   have hsn:((atU l name).take (j+1)).filter (fun a=>a.1 == x)=((atU l name).take j).filter (fun a=>a.1 == x) ++ [y].filter (fun a=>a.1 == x):=by rw [Y15,hy,Y1s,Y38]
   have hO2:((rel.take i).flatMap (fun x=>(atU l name).filter fun a=>a.1 == x) ++ ((atU l name).take j).filter (fun a=>a.1 == x)).length=((rel.take i).flatMap (fun x=>(atU l name).filter fun a=>a.1 == x)).length+(((atU l name).take j).filter (fun a=>a.1 == x)).length:=Y0
   rw [hq9]
   refine .region ?_
   refine WL.val (.indexAddrI (.of rfl) (.of rfl) (by omega) (by omega) X6n X9l) rfl ?_
   refine .val (.ldR (.of rfl) hxa Xp9 X9l rfl) rfl (.allocA (cs:=[_,_]) hS Qz69 rfl ?_)
   clear hS; intro b11 w hS
   refine WL.stA hS (k:=0) rfl (.of rfl) (.of rfl) rfl X9l rfl (by simp) ?_
   clear hS; intro w hS
   try simp only [Yh,Yd,Y9,Y7,Yg,Ym,Yc] at hS
   refine .nil (.seq (.region ?_))
   refine WL.val (.fieldAddr 0 (.of rfl) Xi1 rfl rfl Qs9 rfl) rfl ?_
   refine WL.val (.ld (.of rfl) hS (k:=0) rfl Qg9 rfl) rfl ?_
   refine .q 2 rfl (.nil ?_)
   refine WC.cond rfl (fun hb33=>?_) (fun hb33=>?_)
   ·
    have hc33:=hb33; try simp only [Y6] at hc33
    refine .t 1 rfl ?_
    refine WL.val (.ldsW (cs:=[_,_]) (.of rfl) hS (k:=0) rfl Xp9 X9l rfl) rfl ?_
    refine .buildSlice (cs:=[_,_]) hS (X5 (.of rfl) X6) X6n X9l Qz69 rfl rfl rfl rfl ?_
    clear hS; intro b36 w hS
    refine WL.append (size:=2) (bytes:=32) hS (.of rfl) (.of rfl) (k:=1) rfl X6n Xdc rfl rfl rfl rfl rfl rfl rfl ⟨by omega,by unfold maxLen; omega⟩ rfl ?_
    clear hS; intro v37 w hS
    obtain ⟨a37,c37,rfl,hcap37,_⟩:=hS.vecSlice (k:=1) (v:=v37) rfl
    refine .q 1 rfl (.nil (.region (.run 2 rfl ⟨⟨by omega,by omega⟩,trivial⟩ (.nil ?_))))
    refine ⟨(j+1,.slice a37 (((rel.take i).flatMap (fun x=>(atU l name).filter fun a=>a.1 == x) ++ ((atU l name).take j).filter (fun a=>a.1 == x)).length+1) c37),⟨rfl,rfl,rfl,rfl,rfl,rfl,rfl,rfl,rfl,rfl,trivial⟩,⟨by (try dsimp only); omega,?_⟩,by (try dsimp only); omega⟩
    rw [hsn,Y2l,if_pos (by simpa using hb33),Y2n,← Yf,Xa0,show ((rel.take i).flatMap (fun x=>(atU l name).filter fun a=>a.1 == x) ++ ((atU l name).take j).filter (fun a=>a.1 == x) ++ [y]).length=((rel.take i).flatMap (fun x=>(atU l name).filter fun a=>a.1 == x) ++ ((atU l name).take j).filter (fun a=>a.1 == x)).length+1 from Y0]
    exact hS.drop (k:=0) rfl
   have hc33:=hb33; try simp only [Y6] at hc33
   refine .skip (.region (.run 2 rfl ⟨⟨by omega,by omega⟩,trivial⟩ (.nil ?_)))
   refine ⟨(j+1,v),⟨rfl,rfl,rfl,rfl,rfl,rfl,rfl,rfl,rfl,rfl,trivial⟩,⟨by (try dsimp only); omega,?_⟩,by (try dsimp only); omega⟩
   rw [hsn,Y2l,if_neg (by simpa using hb33),Y2n,Y9]
   exact hS.drop (k:=0) rfl
  have hc27:=hb27; try simp only [Y6] at hc27
  refine .exit (.region (.run 2 rfl ⟨⟨by omega,by omega⟩,trivial⟩ (.nil ?_)))
  refine ⟨(i+1,v),⟨rfl,rfl,rfl,rfl,rfl,rfl,trivial⟩,⟨by (try dsimp only); omega,?_⟩,by (try dsimp only); omega⟩
  have ej:j=(atU l name).length:=by omega
  subst ej
  rw [Y19] at hS
  rw [Y15,hx,Y1s,Y1u,Y2e,List.flatMap_nil,Y9]
  exact hS
 have hc15:=hb15; try simp only [Y6] at hc15
 refine .exit (.seq (.q 2 rfl (.ret (Xh Tryz.results64 rfl ?_))))
 have ei:i=rel.length:=by omega
 subst ei
 rw [Y19] at hS
 obtain ⟨ka,kc,rfl,hkc,_⟩:=hS.vecSlice (k:=0) rfl
 obtain ⟨J,hJ,hRS,hS⟩:=hS.freezeVec (k:=0) rfl
 exact ⟨_,rfl,J,ka,kc,rfl,hJ,hkc,hRS,hS⟩
end Go.Proofs.YtadhiihnnkcagaaGreatDoor
namespace Go.Proofs.YtadhiihnnkcagaaGreatDoor
open Gk Pat
def CompT (I:Im) (l:List UInt8) (po:Option Addr) (e a:Int):Prop:=match cmp l with
 | .error (e',a')=>po=none∧e=e'∧a=a'
 | .ok Q=>∃ p,po=some p∧e=0∧a=0∧PatI I p Q l.length
theorem CompT.mono {I J:Im} {l:List UInt8} {po:Option Addr} {e a:Int} (h:CompT I l po e a) (hl:Le I J):CompT J l po e a:=by
 unfold CompT at h ⊢
 cases hq:cmp l with
 | error x=>rw [hq] at h; exact h
 | ok Q=>rw [hq] at h; obtain ⟨p,h1,h2,h3,h4⟩:=h; exact ⟨p,h1,h2,h3,h4.mono hl⟩
theorem Xcs (l:List UInt8) (B w:World) (I:Im) (As:List Xe) (hS:Sat B w I As) (hl:l.length≤9223372036854775807) :
  Calls Tryz.prog 169 [S l].toArray w (Ret fun v w'=>∃ po e a J,v=.tuple #[.pointer po,I64 e,I64 a]∧Le I J∧CompT J l po e a∧Sat B w' J As):=by
 refine (Xei l B w I As hS hl).mono fun x w' ⟨v,hx,h⟩=>⟨v,hx,?_⟩
 rcases h with ⟨e,a,J,h1,h2,h3,h4⟩ | ⟨Q,p,J,h1,h2,h3,h4,h5⟩
 ·exact ⟨none,e,a,J,h2,h3,by rw [CompT,h1]; exact ⟨rfl,rfl,rfl⟩,h4⟩
 ·exact ⟨some p,0,0,J,h2,h3,by rw [CompT,h1]; exact ⟨p,rfl,rfl,rfl,h4⟩,h5⟩
theorem Xj8 {l:List UInt8} {Q:List Pl} (h:cmp l=.ok Q):WF Q∧0<Q.length∧Q.length≤201∧l.length≤200:=by
 obtain ⟨hl,p,h1,h2,h3,rfl⟩:=Xj6 h
 obtain ⟨hW,hE⟩:=X92 h1.ok
 have h4:=X7d p
 have h5:=h1.len
 exact ⟨hW,hE.1,by unfold X1b at h4; omega,hl⟩
theorem Xju {l:List UInt8} {Q:List Pl} (hq:cmp l=.ok Q) (p:Addr) (s:List UInt8) (hs:s.length≤1000000) (B w:World) (I:Im) (As:List Xe) (hS:Sat B w I As) (hp:PatI I p Q l.length) :
  Calls Tryz.prog 87 [.pointer (some p),S s].toArray w (Ret fun v w'=>v=.bool (mat Q s)∧Sat B w' I As):=by
 have hf:=Xj8 hq
 refine calls Tryz.func87 rfl Tryz.ntmps87 rfl (.seq (.q 1 rfl (.seq (.t 2 rfl (.call Tryz.func128 rfl (X0 (.of rfl) (X0 (.of rfl) X4)) rfl (Xp8 Q p l.length s hf.1 hf.2.1 (by omega) (by omega) hs B w I As hS hp) ?_)))))
 clear hS
 rintro _ w ⟨rfl,hS⟩
 refine .q 5 rfl (.nil (.seq (.q 2 rfl (.ret (Xh Tryz.results87 rfl ?_)))))
 exact ⟨_,rfl,rfl,hS⟩
theorem Xj5 {s:Sv} {Q:List Pl} (hq:cmp s.urls=.ok Q) (a:Option Addr) (c:Nat) (p q:Addr) (n:List UInt8) (hn:n.length≤1000000) (b:Nat) (B w:World) (I:Im) (hp:PatI I p Q s.urls.length) (As:List Xe) (hS:Sat B w I (blk b [S n] 9::As)) :
  Calls Tryz.prog 86 [.agg [I64 s.id,F64 s.ord,S s.urls,.bool s.login,.bool s.proxy,.bool s.back,S s.calls,.slice a s.rel.length c,.pointer (some p),.pointer (some q)].toArray,ptr b 0].toArray w (Ret fun v w'=>v=.bool (mat Q n)∧Sat B w' I (blk b [S n] 9::As)):=by
 refine calls Tryz.func86 rfl Tryz.ntmps86 rfl (.seq (.region (.boxA (cs:=[_,_,_,_,_,_,_,_,_,_]) hS (.of rfl) rfl ?_)))
 clear hS; intro b2 w hS
 refine .q 1 rfl (.nil (.seq (.region (.val (.fieldAddr 8 (.of rfl) Xml rfl rfl Tryz.sizeOf153 rfl) rfl (.val (.ld (.of rfl) hS (k:=0) rfl Tryz.isAgg153 rfl) rfl (.val (.ld (.of rfl) hS (k:=1) rfl Qg9 rfl) rfl (.call Tryz.func87 rfl (X0 (.of rfl) (X0 (.of rfl) X4)) rfl (Xju hq p n hn B _ I _ hS hp) ?_)))))))
 clear hS
 rintro _ w ⟨rfl,hS⟩
 refine .q 1 rfl (.nil (.ret (Xh Tryz.results86 rfl ?_)))
 exact ⟨_,rfl,rfl,hS.drop (k:=0) rfl⟩
theorem Xio (s t:Sv) (a ta:Option Addr) (c tc:Nat) (p q:Addr) (b:Nat) (B w:World) (I:Im) (As:List Xe) (hS:Sat B w I (blk b [I64 t.id,F64 t.ord,S t.urls,.bool t.login,.bool t.proxy,.bool t.back,S t.calls,.slice ta t.rel.length tc] 101::As)) :
  Calls Tryz.prog 168 [.agg [I64 s.id,F64 s.ord,S s.urls,.bool s.login,.bool s.proxy,.bool s.back,S s.calls,.slice a s.rel.length c,.pointer (some p),.pointer (some q)].toArray,ptr b 0].toArray w (Ret fun v w'=>v=.bool (s.id == t.id)∧Sat B w' I (blk b [I64 t.id,F64 t.ord,S t.urls,.bool t.login,.bool t.proxy,.bool t.back,S t.calls,.slice ta t.rel.length tc] 101::As)):=by
 refine calls Tryz.func168 rfl Tryz.ntmps168 rfl (.seq (.region (.boxA (cs:=[_,_,_,_,_,_,_,_,_,_]) hS (.of rfl) rfl ?_)))
 clear hS; intro b2 w hS
 refine .q 1 rfl (.nil (.seq (.region (.val (.fieldAddr 0 (.of rfl) Xml rfl rfl X12 rfl) rfl (.val (.fieldAddr 0 (.of rfl) X25 rfl rfl Qs3 rfl) rfl (.val (.ld (.of rfl) hS (k:=0) rfl Qg3 rfl) rfl (.val (.fieldAddr 0 (.of rfl) X25 rfl rfl Qs3 rfl) rfl (.val (.ld (.of rfl) hS (k:=1) rfl Qg3 rfl) rfl (.q 2 rfl (.nil (.ret (Xh Tryz.results168 rfl ?_))))))))))))
 exact ⟨_,rfl,rfl,hS.drop (k:=0) rfl⟩
theorem X3b:Bld Tryz.prog 155 [(0,8),(8,1),(9,1)] [.int .i64 0,.float .f64 0,S [],.bool false,.bool false,.bool false,S [],.slice none 0 0,.pointer none,.pointer none]:=X26 Xml Xhe (fun w=>by simp [go_sem])
def Xln (lo:List Sv) (s:Sv):Nat :=
 if 16≤lo.length then 5 else if (decide (s.id<0) || decide (8<(s.rel.length:Int)))=true then 1 else if lo.any (fun t=>t.id == s.id)=true then 7
 else if (((chk s.urls).1 != 0) || ((chk s.calls).1 != 0))=true then 8 else 0
theorem Xan (pr:Sv→Bool):∀ (l:List Sv) (i:Nat),decide (0≤X2f pr l i)=l.any pr
 | [],_=>rfl
 | s::r,i=>by
  rw [X2f,List.any_cons]
  cases pr s with
  | true=>simp
  | false=>simpa using Xan pr r (i+1)
theorem X4s {I:Im} {l:List UInt8} {po:Option Addr} {e a:Int} (h:CompT I l po e a):(e != 0)=((chk l).1 != 0)∧((chk l).1=0→∃ p Q,po=some p∧cmp l=.ok Q∧PatI I p Q l.length):=by
 have key:∀ e',cmp l=.error e'→(chk l).1=e'.1∧e'.1≠0:=fun e' hc=>by
  unfold cmp at hc
  unfold chk
  split at hc
  ·rename_i hl; rw [if_pos hl]; cases hc; exact ⟨rfl,by decide⟩
  ·rename_i hl
   rw [if_neg hl]
   have:=(X1j l.length l 0 [] [] [] (Yu _) rfl).1 e' hc
   rw [this.1]; exact ⟨rfl,this.2⟩
 have key2:∀ Q,cmp l=.ok Q→(chk l).1=0:=fun Q hc=>by
  unfold cmp at hc
  unfold chk
  split at hc
  ·cases hc
  ·rename_i hl
   rw [if_neg hl,(X1j l.length l 0 [] [] [] (Yu _) rfl).2 Q hc]
 unfold CompT at h
 cases hc:cmp l with
 | ok Q =>
  rw [hc] at h
  obtain ⟨p,rfl,rfl,rfl,hp⟩:=h
  rw [key2 Q hc]
  exact ⟨rfl,fun _=>⟨p,Q,rfl,rfl,hp⟩⟩
 | error x =>
  obtain ⟨e',a'⟩:=x
  rw [hc] at h
  obtain ⟨rfl,rfl,rfl⟩:=h
  obtain ⟨h1,h2⟩:=key _ hc
  rw [h1]
  exact ⟨rfl,fun h3=>absurd h3 h2⟩
theorem Xlp (s:Sv) (sa:Option Addr) (sc:Nat) (hsc:s.rel.length≤sc) (hrl:s.rel.length≤1000000) (hu:s.urls.length≤9223372036854775807) (hcl:s.calls.length≤9223372036854775807) (a:Option Addr) (cap:Nat) (lo:List Sv) (hlo:lo.length≤100000) (B w:World) (I:Im) (hr:RS I sa 1 s.rel.length (s.rel.map S)) (As:List Xe) (hE:∀ w,Sat B w I As→Xe9 w I a lo) (hS:Sat B w I As) :
  Calls Tryz.prog 130 [.agg [I64 s.id,F64 s.ord,S s.urls,.bool s.login,.bool s.proxy,.bool s.back,S s.calls,.slice sa s.rel.length sc].toArray,.slice a lo.length cap].toArray w (Ret fun v w'=>∃ J cs code,Le I J∧v=.tuple #[.agg (List.toArray cs),I64 ((code:Nat):Int)]∧code=Xln lo s∧cs.length=10∧cs.all Value.oneCell'=true∧(code=0→EntAt J s cs)∧Sat B w' J As):=by
 refine calls Tryz.func130 rfl Tryz.ntmps130 rfl (.seq (.region (.boxA (cs:=[_,_,_,_,_,_,_,_]) hS (.of rfl) rfl ?_)))
 clear hS; intro b2 w hS
 refine .allocA (cs:=[_,_,_,_,_,_,_,_,_,_]) hS Xhe rfl ?_
 clear hS; intro b4 w hS
 refine .q 1 rfl (.nil (.seq (.block (.seq (.region (.run 4 rfl ⟨⟨_,X7u⟩,trivial⟩ (.nil ?_)))))))
 refine WC.cond rfl (fun hb12=>?_) (fun hb12=>?_)
 ·
  refine .seq (.region (.val (.build (cs:=[_,_,_,_,_,_,_,_,_,_]) X6 X3b rfl) rfl (.stA hS (k:=0) rfl (.of rfl) (.of rfl) rfl X3e rfl (by simp) ?_)))
  clear hS; intro w hS
  try simp only [Yh,Yd,Y9,Y7,Yg,Ym,Yc] at hS
  refine .q 1 rfl (.nil (.ret (X18 (b:=_) (cs:=[_,_,_,_,_,_,_,_,_,_]) Xip hS (k:=0) rfl Xcp X3e rfl rfl rfl ?_)))
  refine ⟨_,rfl,I,_,5,Le.refl _,rfl,?_,rfl,rfl,fun h=>(by cases h),((hS.drop (k:=0) rfl).drop (k:=0) rfl)⟩
  unfold Xln
  rw [if_pos (by simp only [decide_eq_true_eq] at hb12; omega)]
 refine .seq (.region (.val (.fieldAddr 0 (.of rfl) X25 rfl rfl Qs3 rfl) rfl (.val (.ld (.of rfl) hS (k:=1) rfl Qg3 rfl) rfl (.q 2 rfl (.gval rfl rfl (fun hg1=>(.fieldAddr 7 (.of rfl) X25 rfl rfl Xeo rfl)) rfl (.gval rfl rfl (fun hg1=>(.ld (.gd hg1 rfl) hS (k:=1) rfl Xie rfl)) rfl (.gval rfl rfl (fun hg1=>(.lenSlice (.gd hg1 rfl) X1p)) rfl (.gval rfl rfl (fun hg1=>(.gtr (.gd hg1 rfl) (.of rfl))) rfl (.val (.por (.of rfl) (.of rfl) (.of rfl)) rfl (.q 1 rfl (.nil ?_)))))))))))
 refine WC.cond rfl (fun hb17=>?_) (fun hb17=>?_)
 ·
  refine .seq (.region (.val (.build (cs:=[_,_,_,_,_,_,_,_,_,_]) X6 X3b rfl) rfl (.stA hS (k:=0) rfl (.of rfl) (.of rfl) rfl X3e rfl (by simp) ?_)))
  clear hS; intro w hS
  try simp only [Yh,Yd,Y9,Y7,Yg,Ym,Yc] at hS
  refine .q 1 rfl (.nil (.ret (X18 (b:=_) (cs:=[_,_,_,_,_,_,_,_,_,_]) Xip hS (k:=0) rfl Xcp X3e rfl rfl rfl ?_)))
  refine ⟨_,rfl,I,_,1,Le.refl _,rfl,?_,rfl,rfl,fun h=>(by cases h),((hS.drop (k:=0) rfl).drop (k:=0) rfl)⟩
  unfold Xln
  rw [if_neg (by simp only [decide_eq_false_iff_not] at hb12; omega),if_pos hb17]
 refine .seq ?_
 replace hS:=hS.pick 1 rfl
 refine .t 1 rfl (.val (.makeFunc (X0 (.of rfl) X4)) rfl ?_)
 refine WL.call Tryz.func167 rfl (X0 (.of rfl) (X0 (.of rfl) X4)) rfl (X7r a cap lo hlo (fun t=>t.id == s.id) 168 _ Tryz.func168 rfl [ptr b2 0] B _ I (blk b2 [I64 s.id,F64 s.ord,S s.urls,.bool s.login,.bool s.proxy,.bool s.back,S s.calls,.slice sa s.rel.length sc] 101::blk b4 [I64 0,F64 0,S [],.bool false,.bool false,.bool false,S [],.slice none 0 0,.pointer none,.pointer none] 155::As) (fun w h=>hE w ((h.drop (k:=0) rfl).drop (k:=0) rfl)) (fun t c ht w h=>by
  obtain ⟨ta,tc,tp,tq,_,_,rfl,_⟩:=ht
  exact Xio t s ta sa tc sc tp tq b2 B w I _ h) hS) ?_
 clear hS
 rintro _ w ⟨rfl,hS⟩
 rw [Xan]
 refine .q 1 rfl (.nil ?_)
 refine WC.cond rfl (fun hb28=>?_) (fun hb28=>?_)
 ·
  refine .seq (.region (.val (.build (cs:=[_,_,_,_,_,_,_,_,_,_]) X6 X3b rfl) rfl (.stA hS (k:=1) rfl (.of rfl) (.of rfl) rfl X3e rfl (by simp) ?_)))
  clear hS; intro w hS
  try simp only [Yh,Yd,Y9,Y7,Yg,Ym,Yc] at hS
  refine .q 1 rfl (.nil (.ret (X18 (b:=_) (cs:=[_,_,_,_,_,_,_,_,_,_]) Xip hS (k:=1) rfl Xcp X3e rfl rfl rfl ?_)))
  refine ⟨_,rfl,I,_,7,Le.refl _,rfl,?_,rfl,rfl,fun h=>(by cases h),((hS.drop (k:=0) rfl).drop (k:=0) rfl)⟩
  unfold Xln
  rw [if_neg (by simp only [decide_eq_false_iff_not] at hb12; omega),if_neg (by rw [hb17]; decide),if_pos hb28]
 refine .skip (.seq (.region (.val (.fieldAddr 2 (.of rfl) X25 rfl rfl Qs9 rfl) rfl (.val (.ld (.of rfl) hS (k:=0) rfl Qg9 rfl) rfl (.call Tryz.func169 rfl (X0 (.of rfl) X4) rfl (Xcs s.urls B _ I _ hS hu) ?_)))))
 clear hS
 rintro _ w ⟨po,e1,a1,J1,rfl,hJ1,hc1,hS⟩
 refine .q 7 rfl (.nil (.seq (.region (.val (.fieldAddr 6 (.of rfl) X25 rfl rfl Qs9 rfl) rfl (.val (.ld (.of rfl) hS (k:=0) rfl Qg9 rfl) rfl (.call Tryz.func169 rfl (X0 (.of rfl) X4) rfl (Xcs s.calls B _ J1 _ hS hcl) ?_))))))
 clear hS
 rintro _ w ⟨qo,e2,a2,J2,rfl,hJ2,hc2,hS⟩
 refine .q 7 rfl (.nil (.seq (.seq (.t 3 rfl (.gval rfl rfl (fun hg1=>(.move (.of rfl))) rfl (.gval rfl rfl (fun hg1=>(.neq (.gd hg1 rfl) (.of rfl))) rfl (.val (.por (.of rfl) (.of rfl) (.of rfl)) rfl (.nil ?_))))))))
 refine WC.cond rfl (fun hb52=>?_) (fun hb52=>?_)
 ·
  refine .seq (.region (.val (.build (cs:=[_,_,_,_,_,_,_,_,_,_]) X6 X3b rfl) rfl (.stA hS (k:=1) rfl (.of rfl) (.of rfl) rfl X3e rfl (by simp) ?_)))
  clear hS; intro w hS
  try simp only [Yh,Yd,Y9,Y7,Yg,Ym,Yc] at hS
  refine .q 1 rfl (.nil (.ret (X18 (b:=_) (cs:=[_,_,_,_,_,_,_,_,_,_]) Xip hS (k:=1) rfl Xcp X3e rfl rfl rfl ?_)))
  refine ⟨_,rfl,J2,_,8,Le.trans hJ1 hJ2,rfl,?_,rfl,rfl,fun h=>(by cases h),((hS.drop (k:=0) rfl).drop (k:=0) rfl)⟩
  have hk:=hb52
  rw [(X4s hc1).1,(X4s hc2).1] at hk
  unfold Xln
  rw [if_neg (by simp only [decide_eq_false_iff_not] at hb12; omega),if_neg (by rw [hb17]; decide),if_neg (by rw [hb28]; decide),if_pos hk]
 refine .skip (.seq (.region (.val (.fieldAddr 7 (.of rfl) X25 rfl rfl Xeo rfl) rfl (.val (.ld (.of rfl) hS (k:=0) rfl Xie rfl) rfl (.call Tryz.func129 rfl (X0 (.of rfl) X4) rfl (Xda sa sc s.rel hrl B _ J2 ((hr.mono hJ1).mono hJ2) _ hS) ?_)))))
 clear hS
 rintro _ w ⟨J3,ra,rc,rfl,hJ3,hrc,hrr,hS⟩
 refine .val (.fieldAddr 7 (.of rfl) X25 rfl rfl Xeo rfl) rfl (.st1 hS (k:=0) rfl (.of rfl) (.of rfl) rfl Xeo (by simp) ?_)
 clear hS; intro w hS
 refine .nil (.seq (.region (.val (.ldsW (cs:=[_,_,_,_,_,_,_,_]) (.of rfl) hS (k:=0) rfl X59 X12 rfl) rfl (.q 2 rfl (.val (.build (cs:=[_,_,_,_,_,_,_,_,_,_]) (X5 (.of rfl) (X5 (.of rfl) (X5 (.of rfl) X6))) X3b rfl) rfl (.stA hS (k:=1) rfl (.of rfl) (.of rfl) rfl X3e rfl (by simp) ?_))))))
 clear hS; intro w hS
 try simp only [Yh,Yd,Y9,Y7,Yg,Ym,Yc] at hS
 refine .q 1 rfl (.nil (.ret (X18 (b:=_) (cs:=[_,_,_,_,_,_,_,_,_,_]) Xip hS (k:=1) rfl Xcp X3e rfl rfl rfl ?_)))
 have hk:=hb52
 rw [(X4s hc1).1,(X4s hc2).1] at hk
 obtain ⟨k1,k2⟩:=Y13.1 hk
 simp only [bne_eq_false_iff_eq] at k1 k2
 obtain ⟨p,Q,rfl,hq,hp⟩:=(X4s hc1).2 k1
 obtain ⟨q,T,rfl,hq2,hp2⟩:=(X4s hc2).2 k2
 refine ⟨_,rfl,J3,X1m s ra rc p q,0,Le.trans hJ1 (Le.trans hJ2 hJ3),rfl,?_,rfl,rfl,fun _=>⟨ra,rc,p,q,Q,T,rfl,hrc,hrr,hq,hp.mono (Le.trans hJ2 hJ3),hq2,hp2.mono hJ3⟩,((hS.drop (k:=0) rfl).drop (k:=0) rfl)⟩
 unfold Xln
 rw [if_neg (by simp only [decide_eq_false_iff_not] at hb12; omega),if_neg (by rw [hb17]; decide),if_neg (by rw [hb28]; decide),if_neg (by rw [hk]; decide)]
def RegAt (I:Im) (pr:Addr) (lo:List Sv):Prop:=∃ a c E,At I pr [.slice a lo.length c]∧lo.length≤c∧EntsIn I a E lo
theorem EntsIn.mono {I J:Im} {a:Option Addr} {E:List (List Value)} {l:List Sv} (h:EntsIn I a E l) (hl:Le I J):EntsIn J a E l:=⟨h.1,fun i s hs=>by
 obtain ⟨p,c,e,h0,h1,ra,rc,pp,qq,Q,T,e2,h2,h3,h4,h5,h6,h7⟩:=h.2 i s hs
 exact ⟨p,c,e,h0,h1.mono hl,ra,rc,pp,qq,Q,T,e2,h2,h3.mono hl,h4,h5.mono hl,h6,h7.mono hl⟩⟩
def RowsOf (J:Im) (C:List (List Value)) (l:List Sv):Prop:=C.length=l.length∧∀ (i:Nat) (s:Sv),l[i]?=some s→∃ c,C[i]?=some c∧SvAt J s c
theorem RowsOf.mono {J K:Im} {C:List (List Value)} {l:List Sv} (h:RowsOf J C l) (hl:Le J K):RowsOf K C l:=⟨h.1,fun i s hs=>by
 obtain ⟨c,h1,h2⟩:=h.2 i s hs
 exact ⟨c,h1,h2.mono hl⟩⟩
theorem RowsOf.snoc {J:Im} {C:List (List Value)} {l:List Sv} {s:Sv} {c:List Value} (h:RowsOf J C l) (hs:SvAt J s c):RowsOf J (C ++ [c]) (l ++ [s]):=⟨by simp [h.1],fun i t ht=>by
 rcases Yr i l.length with hi | hi
 ·rw [Yi hi] at ht
  obtain ⟨d,h1,h2⟩:=h.2 i t ht
  exact ⟨d,by rw [Yi (by rw [h.1]; exact hi)]; exact h1,h2⟩
 ·rw [Yv hi] at ht
  have hi0:i - l.length=0:=by have:=(Y5.1 ht).1; simp at this; omega
  rw [hi0] at ht
  cases ht
  exact ⟨c,by rw [Yv (by rw [h.1]; exact hi),h.1,hi0]; rfl,hs⟩⟩
theorem X4q:Tryz.prog.info? 155=some Tryz.t155:=by kernel_rfl
theorem Xjp:Bld Tryz.prog 157 [(0,1)] [.slice none 0 0]:=X26 Xim Tryz.zeroValue157 (fun w=>by simp [go_sem])
theorem bad_le {l:List Sv} {i:Nat} (h:∀ (j:Nat) t,j<i→l[j]?=some t→bad l j t=0) (hi:i≤l.length):i≤16:=by
 rcases Yr 16 i with h1 | h1
 ·have:=h 16 _ h1 (Y4 (by omega))
  unfold bad at this
  rw [if_pos rfl] at this
  cases this
 ·exact h1
theorem Xfi {l:List Sv} {i:Nat} {s:Sv} (hi:i≤16) (hl:i≤l.length):Xln (l.take i) s=bad l i s:=by
 unfold Xln bad
 rw [Ys,Y39 hl]
 by_cases h:i=16
 ·rw [if_pos (by omega),if_pos h]
 ·rw [if_neg (by omega),if_neg h]
theorem made_n (s:Sv) (sa:Option Addr) (sc:Nat) (hsc:s.rel.length≤sc) (hrl:s.rel.length≤1000000) (hu:s.urls.length≤9223372036854775807) (hcl:s.calls.length≤9223372036854775807) (a:Option Addr) (cap:Nat) (lo:List Sv) (n:Nat) (hn:lo.length=n) (hlo:n≤100000) (B w:World) (I:Im) (hr:RS I sa 1 s.rel.length (s.rel.map S)) (As:List Xe) (hE:∀ w,Sat B w I As→Xe9 w I a lo) (hS:Sat B w I As) :
  Calls Tryz.prog 130 [.agg [I64 s.id,F64 s.ord,S s.urls,.bool s.login,.bool s.proxy,.bool s.back,S s.calls,.slice sa s.rel.length sc].toArray,.slice a n cap].toArray w (Ret fun v w'=>∃ J cs code,Le I J∧v=.tuple #[.agg (List.toArray cs),I64 ((code:Nat):Int)]∧code=Xln lo s∧cs.length=10∧cs.all Value.oneCell'=true∧(code=0→EntAt J s cs)∧Sat B w' J As):=by
 subst hn
 exact Xlp s sa sc hsc hrl hu hcl a cap lo hlo B w I hr As hE hS
theorem ents_n {B w:World} {I:Im} {As:List Xe} {k T cap n:Nat} {a:Option Addr} {E:List (List Value)} {l:List Sv} (hS:Sat B w I As) (hn:l.length=n) (hk:As[k]?=some (Vec T 10 (.slice a n cap) n E.flatten)) (h10:∀ c∈E,c.length=10)
  (hE:∀ (i:Nat) (s:Sv),l[i]?=some s→∃ c,E[i]?=some c∧EntAt I s c):Xe9 w I a l:=by
 subst hn
 exact Xms hS hk h10 hE
theorem EntAt.mono {I J:Im} {s:Sv} {l:List Value} (h:EntAt I s l) (hl:Le I J):EntAt J s l:=by
 obtain ⟨ra,rc,pp,qq,Q,T,e2,h2,h3,h4,h5,h6,h7⟩:=h
 exact ⟨ra,rc,pp,qq,Q,T,e2,h2,h3.mono hl,h4,h5.mono hl,h6,h7.mono hl⟩
theorem EntAt.len {I:Im} {s:Sv} {l:List Value} (h:EntAt I s l):l.length=10:=by
 obtain ⟨ra,rc,pp,qq,Q,T,rfl,_⟩:=h
 rfl
def X3o (l:List Sv) (D:List Int):List Sv:=D.map fun d=>l.getD d.toNat z0
theorem Xq3 (a:Option Addr) (cap:Nat) (l:List Sv) (hln:l.length≤100000) (hom:∀ v∈ords l,v<18446744073709551616) (hfit:∀ s∈l,s.urls.length≤9223372036854775807∧s.calls.length≤9223372036854775807∧s.rel.length≤1000000) (B w:World) (I:Im) (hl:SvsAt I a l) (As:List Xe) (hS:Sat B w I As) :
  Calls Tryz.prog 89 [.slice a l.length cap].toArray w (Ret fun v w'=>∃ J,Le I J∧Sat B w' J As∧(((X3c l).1≠0∧v=.tuple #[.pointer none,I64 ((X3c l).1:Nat),I64 ((X3c l).2:Nat)])∨((X3c l).1=0∧∃ pr D,v=.tuple #[.pointer (some pr),I64 0,I64 0]∧Srt.Ord (kx (ords l)) l.length D∧RegAt J pr (X3o l D)))):=by
 refine calls Tryz.func89 rfl Tryz.ntmps89 rfl (.seq (.q 3 rfl (.seq (.q 1 rfl (.seq (.q 1 rfl (.seq (.seq (.region (.run 3 rfl ⟨⟨_,X7o⟩,trivial⟩ (.nil (.block ?_))))))))))))
 replace hS:=hS.vecNil 32 1
 replace hS:=hS.vecNil 155 10
 refine .loop (σ:=Nat×Im×Value×Value×List (List Value)) (fun ⟨i,J,ev,ov,E⟩=>[(5,ev),(6,ov),(14,.slice a l.length cap),(15,I64 (l.length:Nat)),(16,I64 (i:Nat))]) (fun ⟨i,J,ev,ov,E⟩ w=>i≤l.length∧Le I J∧E.length=i∧(∀ c∈E,c.length=10)∧(∀ (j:Nat) (s:Sv),(l.take i)[j]?=some s→∃ c,E[j]?=some c∧EntAt J s c)∧(∀ (j:Nat) (t:Sv),j<i→l[j]?=some t→bad l j t=0)∧Sat B w J (Vec 155 10 ev i E.flatten::Vec 32 1 ov i (((ords l).take i).map F64)::As)) (fun ⟨i,J,ev,ov,E⟩=>l.length - i) (0,I,.slice none 0 0,.slice none 0 0,[]) ⟨rfl,rfl,rfl,rfl,rfl,trivial⟩ ⟨Yq _,Le.refl _,rfl,fun _ h=>(by simp at h),fun _ _ h=>(by simp at h),fun _ _ h=>absurd h (by omega),hS⟩ ?_
 rintro ⟨i,J,ev,ov,E⟩ w ⟨hi,hJ,hEl,h10,hEE,hok,hS⟩
 refine .seq (.q 1 rfl (.seq ?_))
 refine WC.cond rfl (fun hb17=>?_) (fun hb17=>?_)
 ·
  have hc17:=hb17; try simp only [Y6] at hc17
  refine .skip (.seq (.block (.seq ?_)))
  obtain ⟨s,hs⟩:∃ s,l[i]?=some s:=⟨_,Y4 (by omega)⟩
  obtain ⟨p,ra,rc,rfl,hx,hrc,hr⟩:=(hl.mono hJ) i s hs
  unfold X1u at hx
  have hi16:=bad_le hok hi
  have hsm:=hfit s (Yl hs)
  have hln:(l.take i).length=i:=by rw [Ys]; omega
  have hnx:((ords l).take (i+1)).map F64=((ords l).take i).map F64 ++ [F64 s.ord]:=by
   rw [Y15,ords,Yw,hs,Yx]; rfl
  have htn:l.take (i+1)=l.take i ++ [s]:=by rw [Y15,hs]; rfl
  obtain ⟨ea,ec,rfl,hec,_⟩:=hS.vecSlice (k:=0) rfl
  obtain ⟨oa,oc,rfl,hoc,_⟩:=hS.vecSlice (k:=1) rfl
  refine .t 1 rfl (.val (.indexAddrI (.of rfl) (.of rfl) (by omega) (by omega) X7o X12) rfl (.val (.ldsI (.of rfl) hS hx X59 X12 rfl (fun _ _ h=>h)) rfl (.allocA (cs:=[_,_,_,_,_,_,_,_]) hS X82 rfl ?_)))
  clear hS; intro b8 w hS
  refine .q 1 rfl (.stA hS (k:=0) rfl (.of rfl) (.of rfl) rfl X12 rfl (by simp) ?_)
  clear hS; intro w hS
  try simp only [Yh,Yd,Y9,Y7,Yg,Ym,Yc] at hS
  refine .nil (.seq (.region (.val (.ldsW (cs:=[_,_,_,_,_,_,_,_]) (.of rfl) hS (k:=0) rfl X59 X12 rfl) rfl (.q 1 rfl (.call Tryz.func130 rfl (X0 (.of rfl) (X0 (.of rfl) X4)) rfl (made_n s ra rc hrc hsm.2.2 hsm.1 hsm.2.1 ea ec (l.take i) i hln (by omega) B _ J hr _ (fun w h=>ents_n h hln (k:=1) rfl h10 hEE) hS) ?_)))))
  clear hS
  rintro _ w ⟨J2,cs,code,hJ2,rfl,hcode,hcs10,hall,hent,hS⟩
  refine .q 3 rfl (.allocA (cs:=[_,_,_,_,_,_,_,_,_,_]) hS Xhe rfl ?_)
  clear hS; intro b9 w hS
  refine .stA hS (k:=0) rfl (.of rfl) (.of rfl) hall X3e hcs10 (by simp) ?_
  clear hS; intro w hS
  try simp only [Yh,Yd,Y9,Y7,Yg,Ym,Yc] at hS
  refine .q 1 rfl (.nil (.seq (.seq (.q 2 rfl ?_))))
  refine WC.cond rfl (fun hb28=>?_) (fun hb28=>?_)
  ·
   have hc28:=hb28; try simp only [Y6] at hc28
   refine .seq (.q 5 rfl (.ret (Xbs Tryz.results89 rfl rfl rfl ?_)))
   have hb2:=Xfi (l:=l) (i:=i) (s:=s) hi16 (by omega)
   have hbn:bad l i s≠0:=by rw [← hb2,← hcode]; omega
   have hw:=X4a hok hs hbn
   refine ⟨_,rfl,J2,Le.trans hJ hJ2,(((hS.drop (k:=0) rfl).drop (k:=0) rfl).drop (k:=0) rfl).drop (k:=0) rfl,.inl ⟨by rw [hw]; exact hbn,?_⟩⟩
   rw [hw,hcode,hb2]
   rfl
  have hc28:=hb28; try simp only [Y6] at hc28
  refine .skip ?_
  have hcode0:code=0:=by omega
  obtain ⟨sa,sc,pp,qq,Q,T,rfl,hsc,hent⟩:=hent hcode0
  have hent2:EntAt J2 s (X1m s sa sc pp qq):=⟨sa,sc,pp,qq,Q,T,rfl,hsc,hent⟩
  have hbad0:bad l i s=0:=by rw [← Xfi (l:=l) (i:=i) hi16 (by omega),← hcode,hcode0]
  unfold X1m at hS
  refine .drawn (fun w=>∃ R,Sat B w J2 (blk b9 [I64 s.id,F64 s.ord,S s.urls,.bool s.login,.bool s.proxy,.bool s.back,S s.calls,.slice sa s.rel.length sc,.pointer (some pp),.pointer (some qq)] 155::blk b8 [I64 s.id,F64 s.ord,S s.urls,.bool s.login,.bool s.proxy,.bool s.back,S s.calls,.slice ra s.rel.length rc] 101::R)) (fun j=>!([].contains j)) (by kernel_rfl) ?_
  replace hS:=hS.drew; generalize w.drew=w at hS ⊢
  have hH:=((hS.pick 1 rfl).pick 1 rfl)
  refine .tp (i:=0) rfl (by kernel_rfl) (fun w=>(.move (.of rfl))) rfl (.tk (i:=1) rfl (by kernel_rfl) ⟨_,hH⟩ (fun w ⟨R,hS⟩=>(.ldsW (cs:=[_,_,_,_,_,_,_,_,_,_]) (.of rfl) hS (k:=0) rfl Xcp X3e rfl)) rfl (.tp (i:=4) rfl (by kernel_rfl) (fun w=>(.move (.of rfl))) rfl (.tp (i:=5) rfl (by kernel_rfl) (fun w=>(.fieldAddr 1 (.of rfl) X25 rfl rfl Xkz rfl)) rfl (.tk (i:=6) rfl (by kernel_rfl) ⟨_,hH⟩ (fun w ⟨R,hS⟩=>(.ld (.of rfl) hS (k:=1) rfl Qg32 rfl)) rfl ?_))))
  refine WD.branch [2,7] (by kernel_rfl) rfl (WO.cons rfl ?_ (WO.cons rfl ?_ (WO.nil)))
  ·
   refine .buildSlice (cs:=[_,_,_,_,_,_,_,_,_,_]) hS (X5 (.of rfl) X6) X7u X3e Xhe rfl rfl rfl rfl ?_
   clear hS; intro b33 w hS
   refine .nil ?_
   clear hH
   have hH:=((hS.pick 2 rfl).pick 2 rfl)
   refine And.intro (by intro _ _; exact ⟨_,hH⟩) ?_
   refine WD.branch [3,7] (by kernel_rfl) rfl (WO.cons rfl ?_ (WO.cons rfl ?_ (WO.nil)))
   ·
    refine WL.append (size:=10) (bytes:=96) hS (.of rfl) (.of rfl) (k:=2) rfl X7u X4q rfl rfl rfl rfl rfl rfl rfl ⟨by omega,by unfold maxLen; omega⟩ rfl ?_
    clear hS; intro v34 w hS
    obtain ⟨a34,c34,rfl,hcap34,_⟩:=hS.vecSlice (k:=2) (v:=v34) rfl
    refine .nil ?_
    clear hH
    have hH:=((hS.pick 1 rfl).pick 1 rfl)
    refine And.intro (by intro _ _; exact ⟨_,hH⟩) ?_
    refine WD.branch [7] (by kernel_rfl) rfl (WO.cons rfl ?_ (WO.nil))
    refine .buildSlice (cs:=[_]) hS (X5 (.of rfl) X6) X5a Xkz Qz32 rfl rfl rfl rfl ?_
    clear hS; intro b38 w hS
    refine .nil ?_
    clear hH
    have hH:=((hS.pick 2 rfl).pick 2 rfl)
    refine And.intro (by intro _ _; exact ⟨_,hH⟩) ?_
    refine WD.branch [8] (by kernel_rfl) rfl (WO.cons rfl ?_ (WO.nil))
    refine WL.append (size:=1) (bytes:=8) hS (.of rfl) (.of rfl) (k:=3) rfl X5a X4r rfl rfl rfl rfl rfl rfl rfl ⟨by omega,by unfold maxLen; omega⟩ rfl ?_
    clear hS; intro v39 w hS
    obtain ⟨a39,c39,rfl,hcap39,_⟩:=hS.vecSlice (k:=3) (v:=v39) rfl
    refine .nil ?_
    clear hH
    have hH:=((hS.pick 1 rfl).pick 1 rfl)
    refine And.intro (by intro _ _; exact ⟨_,hH⟩) ?_
    refine .tp (i:=9) rfl (by kernel_rfl) (fun w=>(.assign (.of rfl))) rfl (.tp (i:=10) rfl (by kernel_rfl) (fun w=>(.assign (.of rfl))) rfl (.done (by kernel_rfl) (.region (.run 2 rfl ⟨⟨by omega,by omega⟩,trivial⟩ (.nil ?_)))))
    have hfin:=((hS.drop (k:=0) rfl).drop (k:=0) rfl)
    refine ⟨(i+1,J2,.slice a34 (i+1) c34,.slice a39 (i+1) c39,E ++ [X1m s sa sc pp qq]),⟨rfl,rfl,rfl,rfl,rfl,trivial⟩,⟨by (try dsimp only); omega,Le.trans hJ hJ2,by (try dsimp only); rw [Y0,hEl]; rfl,fun c hc=>?_,fun j u hu=>?_,fun j u hj hu=>?_,?_⟩,by (try dsimp only); omega⟩
    ·rcases Y14.1 hc with h | h
     ·exact h10 c h
     ·simp at h; subst h; rfl
    ·(try dsimp only at hu)
     rw [htn] at hu
     rcases Yr j i with h1 | h1
     ·rw [Yi (by omega)] at hu
      obtain ⟨c,e1,e2⟩:=hEE j u hu
      exact ⟨c,by rw [Yi (by omega)]; exact e1,e2.mono hJ2⟩
     ·rw [Yv (by omega),hln] at hu
      have hj0:j - i=0:=by have:=(Y5.1 hu).1; simp at this; omega
      rw [hj0] at hu
      cases hu
      exact ⟨_,by rw [Yv (by omega),hEl,hj0]; rfl,hent2⟩
    ·rcases Yr j i with h1 | h1
     ·exact hok j u h1 hu
     ·have e:j=i:=by (try dsimp only at hj); omega
      subst e
      rw [hs] at hu; cases hu
      exact hbad0
    ·(try dsimp only)
     rw [hnx,Y2m]
     simpa [X1m] using hfin
   ·
    refine .buildSlice (cs:=[_]) hS (X5 (.of rfl) X6) X5a Xkz Qz32 rfl rfl rfl rfl ?_
    clear hS; intro b38 w hS
    refine .nil ?_
    clear hH
    have hH:=((hS.pick 3 rfl).pick 3 rfl)
    refine And.intro (by intro _ _; exact ⟨_,hH⟩) ?_
    refine WD.branch [3] (by kernel_rfl) rfl (WO.cons rfl ?_ (WO.nil))
    replace hS:=hS.pick 1 rfl
    refine WL.append (size:=10) (bytes:=96) hS (.of rfl) (.of rfl) (k:=3) rfl X7u X4q rfl rfl rfl rfl rfl rfl rfl ⟨by omega,by unfold maxLen; omega⟩ rfl ?_
    clear hS; intro v34 w hS
    obtain ⟨a34,c34,rfl,hcap34,_⟩:=hS.vecSlice (k:=3) (v:=v34) rfl
    refine .nil ?_
    clear hH
    have hH:=((hS.pick 2 rfl).pick 2 rfl)
    refine And.intro (by intro _ _; exact ⟨_,hH⟩) ?_
    refine WD.branch [8] (by kernel_rfl) rfl (WO.cons rfl ?_ (WO.nil))
    refine WL.append (size:=1) (bytes:=8) hS (.of rfl) (.of rfl) (k:=3) rfl X5a X4r rfl rfl rfl rfl rfl rfl rfl ⟨by omega,by unfold maxLen; omega⟩ rfl ?_
    clear hS; intro v39 w hS
    obtain ⟨a39,c39,rfl,hcap39,_⟩:=hS.vecSlice (k:=3) (v:=v39) rfl
    refine .nil ?_
    clear hH
    have hH:=((hS.pick 1 rfl).pick 1 rfl)
    refine And.intro (by intro _ _; exact ⟨_,hH⟩) ?_
    refine .tp (i:=9) rfl (by kernel_rfl) (fun w=>(.assign (.of rfl))) rfl (.tp (i:=10) rfl (by kernel_rfl) (fun w=>(.assign (.of rfl))) rfl (.done (by kernel_rfl) (.region (.run 2 rfl ⟨⟨by omega,by omega⟩,trivial⟩ (.nil ?_)))))
    have hfin:=((hS.drop (k:=0) rfl).drop (k:=0) rfl)
    refine ⟨(i+1,J2,.slice a34 (i+1) c34,.slice a39 (i+1) c39,E ++ [X1m s sa sc pp qq]),⟨rfl,rfl,rfl,rfl,rfl,trivial⟩,⟨by (try dsimp only); omega,Le.trans hJ hJ2,by (try dsimp only); rw [Y0,hEl]; rfl,fun c hc=>?_,fun j u hu=>?_,fun j u hj hu=>?_,?_⟩,by (try dsimp only); omega⟩
    ·rcases Y14.1 hc with h | h
     ·exact h10 c h
     ·simp at h; subst h; rfl
    ·(try dsimp only at hu)
     rw [htn] at hu
     rcases Yr j i with h1 | h1
     ·rw [Yi (by omega)] at hu
      obtain ⟨c,e1,e2⟩:=hEE j u hu
      exact ⟨c,by rw [Yi (by omega)]; exact e1,e2.mono hJ2⟩
     ·rw [Yv (by omega),hln] at hu
      have hj0:j - i=0:=by have:=(Y5.1 hu).1; simp at this; omega
      rw [hj0] at hu
      cases hu
      exact ⟨_,by rw [Yv (by omega),hEl,hj0]; rfl,hent2⟩
    ·rcases Yr j i with h1 | h1
     ·exact hok j u h1 hu
     ·have e:j=i:=by (try dsimp only at hj); omega
      subst e
      rw [hs] at hu; cases hu
      exact hbad0
    ·(try dsimp only)
     rw [hnx,Y2m]
     simpa [X1m] using hfin
  ·
   refine .buildSlice (cs:=[_]) hS (X5 (.of rfl) X6) X5a Xkz Qz32 rfl rfl rfl rfl ?_
   clear hS; intro b38 w hS
   refine .nil ?_
   clear hH
   have hH:=((hS.pick 2 rfl).pick 2 rfl)
   refine And.intro (by intro _ _; exact ⟨_,hH⟩) ?_
   refine WD.branch [2] (by kernel_rfl) rfl (WO.cons rfl ?_ (WO.nil))
   refine .buildSlice (cs:=[_,_,_,_,_,_,_,_,_,_]) hS (X5 (.of rfl) X6) X7u X3e Xhe rfl rfl rfl rfl ?_
   clear hS; intro b33 w hS
   refine .nil ?_
   clear hH
   have hH:=((hS.pick 3 rfl).pick 3 rfl)
   refine And.intro (by intro _ _; exact ⟨_,hH⟩) ?_
   refine WD.branch [3] (by kernel_rfl) rfl (WO.cons rfl ?_ (WO.nil))
   refine WL.append (size:=10) (bytes:=96) hS (.of rfl) (.of rfl) (k:=3) rfl X7u X4q rfl rfl rfl rfl rfl rfl rfl ⟨by omega,by unfold maxLen; omega⟩ rfl ?_
   clear hS; intro v34 w hS
   obtain ⟨a34,c34,rfl,hcap34,_⟩:=hS.vecSlice (k:=3) (v:=v34) rfl
   refine .nil ?_
   clear hH
   have hH:=((hS.pick 2 rfl).pick 2 rfl)
   refine And.intro (by intro _ _; exact ⟨_,hH⟩) ?_
   refine WD.branch [8] (by kernel_rfl) rfl (WO.cons rfl ?_ (WO.nil))
   refine WL.append (size:=1) (bytes:=8) hS (.of rfl) (.of rfl) (k:=3) rfl X5a X4r rfl rfl rfl rfl rfl rfl rfl ⟨by omega,by unfold maxLen; omega⟩ rfl ?_
   clear hS; intro v39 w hS
   obtain ⟨a39,c39,rfl,hcap39,_⟩:=hS.vecSlice (k:=3) (v:=v39) rfl
   refine .nil ?_
   clear hH
   have hH:=((hS.pick 1 rfl).pick 1 rfl)
   refine And.intro (by intro _ _; exact ⟨_,hH⟩) ?_
   refine .tp (i:=9) rfl (by kernel_rfl) (fun w=>(.assign (.of rfl))) rfl (.tp (i:=10) rfl (by kernel_rfl) (fun w=>(.assign (.of rfl))) rfl (.done (by kernel_rfl) (.region (.run 2 rfl ⟨⟨by omega,by omega⟩,trivial⟩ (.nil ?_)))))
   have hfin:=((hS.drop (k:=0) rfl).drop (k:=0) rfl)
   refine ⟨(i+1,J2,.slice a34 (i+1) c34,.slice a39 (i+1) c39,E ++ [X1m s sa sc pp qq]),⟨rfl,rfl,rfl,rfl,rfl,trivial⟩,⟨by (try dsimp only); omega,Le.trans hJ hJ2,by (try dsimp only); rw [Y0,hEl]; rfl,fun c hc=>?_,fun j u hu=>?_,fun j u hj hu=>?_,?_⟩,by (try dsimp only); omega⟩
   ·rcases Y14.1 hc with h | h
    ·exact h10 c h
    ·simp at h; subst h; rfl
   ·(try dsimp only at hu)
    rw [htn] at hu
    rcases Yr j i with h1 | h1
    ·rw [Yi (by omega)] at hu
     obtain ⟨c,e1,e2⟩:=hEE j u hu
     exact ⟨c,by rw [Yi (by omega)]; exact e1,e2.mono hJ2⟩
    ·rw [Yv (by omega),hln] at hu
     have hj0:j - i=0:=by have:=(Y5.1 hu).1; simp at this; omega
     rw [hj0] at hu
     cases hu
     exact ⟨_,by rw [Yv (by omega),hEl,hj0]; rfl,hent2⟩
   ·rcases Yr j i with h1 | h1
    ·exact hok j u h1 hu
    ·have e:j=i:=by (try dsimp only at hj); omega
     subst e
     rw [hs] at hu; cases hu
     exact hbad0
   ·(try dsimp only)
    rw [hnx,Y2m]
    simpa [X1m] using hfin
 have hc17:=hb17; try simp only [Y6] at hc17
 refine .exit (.seq ?_)
 have hin:i=l.length:=by omega
 subst hin
 have hol:(ords l).length=l.length:=Yz ..
 rw [Yy (Yu _)] at hEE
 rw [Yy (by omega)] at hS
 obtain ⟨oa,oc,rfl,hoc,_⟩:=hS.vecSlice (k:=1) rfl
 obtain ⟨ea,ec,rfl,hec,_⟩:=hS.vecSlice (k:=0) rfl
 obtain ⟨J1,hJ1,hOR,hS1⟩:=hS.freezeVec (k:=1) rfl
 try dsimp only [List.eraseIdx] at hS1
 obtain ⟨J2,hJ2,hER,hS2⟩:=hS1.freezeVec (k:=0) rfl
 clear hS hS1
 have hS:=hS2
 clear hS2
 try dsimp only [List.eraseIdx] at hS
 replace hJ:=Le.trans hJ (Le.trans hJ1 hJ2)
 replace hOR:=hOR.mono hJ2
 replace hEE:=fun j s h=>let ⟨c,h1,h2⟩:=hEE j s h; (⟨c,h1,EntAt.mono h2 (Le.trans hJ1 hJ2)⟩:∃ c,E[j]?=some c∧EntAt J2 s c)
 refine .region (.val (.build (cs:=[_]) X6 Xjp rfl) rfl (.boxA (cs:=[_]) hS (.of rfl) rfl ?_))
 clear hS; intro b42 w hS
 refine .q 1 rfl (.nil (.seq (.seq ?_)))
 rw [← hol] at hOR ⊢
 refine .t 1 rfl (.call Tryz.func131 rfl (X0 (.of rfl) X4) rfl (Xjv (ords l) hom (by omega) oa oc B _ J2 hOR _ hS) ?_)
 clear hS
 rintro _ w ⟨D,va,vc,rfl,hD,hS⟩
 obtain ⟨J3,hJ3,hDR,hS2⟩:=hS.freezeVec (k:=0) rfl
 clear hS
 have hS:=hS2
 clear hS2
 try dsimp only [List.eraseIdx] at hS
 replace hJ:=Le.trans hJ hJ3
 rw [hol] at hD hDR ⊢
 have hDl:=hD.len
 refine .run 2 rfl ⟨⟨_,Xi⟩,trivial⟩ (.nil (.block ?_))
 replace hS:=(hS.vecNil 155 10).pick 1 rfl
 try dsimp only [List.eraseIdx] at hS
 refine .loop (σ:=Value×Nat) (fun ⟨kv,j⟩=>[(5,.slice ea l.length ec),(11,ptr b42 0),(44,.slice va l.length vc),(45,I64 (l.length:Nat)),(46,I64 (j:Nat))]) (fun ⟨kv,j⟩ w=>j≤l.length∧Sat B w J3 (blk b42 [kv] 157::Vec 155 10 kv j (X3x E (D.take j)).flatten::As)) (fun ⟨kv,j⟩=>l.length - j) (.slice none 0 0,0) ⟨rfl,rfl,rfl,rfl,rfl,trivial⟩ ⟨Yq _,hS⟩ ?_
 rintro ⟨kv,j⟩ w ⟨hj,hS⟩
 refine .seq (.q 1 rfl (.seq ?_))
 refine WC.cond rfl (fun hb47=>?_) (fun hb47=>?_)
 ·
  have hc47:=hb47; try simp only [Y6] at hc47
  refine .skip (.seq (.block (.seq ?_)))
  obtain ⟨d,hd⟩:∃ d,D[j]?=some d:=⟨_,Y4 (by omega)⟩
  have hdm:d∈Srt.upto l.length:=hD.2.mem_iff.1 (Yl hd)
  have hdr:=Srt.upto_mem.1 hdm
  obtain ⟨s,hs⟩:∃ s,l[d.toNat]?=some s:=⟨_,Y4 (by omega)⟩
  obtain ⟨c,hc,ra,rc,pp,qq,Q,T,rfl,hent⟩:=hEE d.toNat s hs
  obtain ⟨pe,rfl,hpe⟩:=(hER.mono hJ3).2 (by omega)
  have hx:=X4g (hpe.add (d.toNat*10)) 10
  rw [X1w E h10 d.toNat _ hc] at hx
  have hnr:(X3x E (D.take (j+1))).flatten=(X3x E (D.take j)).flatten ++ X1m s ra rc pp qq:=by
   unfold X3x
   rw [Y15,hd,Yx,Y2m]
   simp [Y8,hc]
  unfold X1m at hx hnr
  obtain ⟨dp,rfl,hdp⟩:=hDR.2 (by omega)
  obtain ⟨ka,kc,rfl,hkc,_⟩:=hS.vecSlice (k:=1) rfl
  have hdx:((D.map I64).drop ((j:Int).toNat*1))[0]?=some (I64 d):=by rw [Y1c,Yj,Y1r,Y26,Yw,hd]; rfl
  refine .region (.val (.indexAddrI (.of rfl) (.of rfl) (by omega) (by omega) Xi Qs3) rfl (.val (.ldI (v:=I64 d) (.of rfl) hS (hdp.add _) Qg3 hdx) rfl (.q 1 rfl (.nil (.drawn (fun w=>∃ R,Sat B w J3 (blk b42 [.slice ka j kc] 157::R)) (fun j=>!([13].contains j)) (by kernel_rfl) ?_)))))
  replace hS:=hS.drew; generalize w.drew=w at hS ⊢
  have hH:=(hS.pick 0 rfl)
  refine .tp (i:=0) rfl (by kernel_rfl) (fun w=>(.move (.of rfl))) rfl (.tp (i:=1) rfl (by kernel_rfl) (fun w=>(.move (.of rfl))) rfl (.tp (i:=2) rfl (by kernel_rfl) (fun w=>(.nilCheck (.of rfl))) rfl (.tp (i:=3) rfl (by kernel_rfl) (fun w=>(.fieldAddr 0 (.of rfl) Xim rfl rfl Xjt rfl)) rfl (.tk (i:=4) rfl (by kernel_rfl) ⟨_,hH⟩ (fun w ⟨R,hS⟩=>(.ld (.of rfl) hS (k:=0) rfl Tryz.isAgg152 rfl)) rfl (.tp (i:=5) rfl (by kernel_rfl) (fun w=>(.move (.of rfl))) rfl (.tp (i:=6) rfl (by kernel_rfl) (fun w=>(.move (.of rfl))) rfl (.tp (i:=7) rfl (by kernel_rfl) (fun w=>(.indexAddrI (.of rfl) (.of rfl) (by omega) (by omega) X7u X3e)) rfl (.tk (i:=8) rfl (by kernel_rfl) ⟨_,hH⟩ (fun w ⟨R,hS⟩=>(.ldsI (.of rfl) hS hx Xcp X3e rfl (fun _ _ h=>h))) rfl ?_))))))))
  refine WD.branch [9] (by kernel_rfl) rfl (WO.cons rfl ?_ (WO.nil))
  refine .buildSlice (cs:=[_,_,_,_,_,_,_,_,_,_]) hS (X5 (.of rfl) X6) X7u X3e Xhe rfl rfl rfl rfl ?_
  clear hS; intro b59 w hS
  refine .nil ?_
  clear hH
  have hH:=(hS.pick 1 rfl)
  refine And.intro (by intro _ _; exact ⟨_,hH⟩) ?_
  refine WD.branch [10] (by kernel_rfl) rfl (WO.cons rfl ?_ (WO.nil))
  refine WL.append (size:=10) (bytes:=96) hS (.of rfl) (.of rfl) (k:=1) rfl X7u X4q rfl rfl rfl rfl rfl rfl rfl ⟨by omega,by unfold maxLen; omega⟩ rfl ?_
  clear hS; intro v60 w hS
  obtain ⟨a60,c60,rfl,hcap60,_⟩:=hS.vecSlice (k:=1) (v:=v60) rfl
  refine .nil ?_
  clear hH
  have hH:=(hS.pick 0 rfl)
  refine And.intro (by intro _ _; exact ⟨_,hH⟩) ?_
  refine .tp (i:=11) rfl (by kernel_rfl) (fun w=>(.nilCheck (.of rfl))) rfl (.tp (i:=12) rfl (by kernel_rfl) (fun w=>(.fieldAddr 0 (.of rfl) Xim rfl rfl Xjt rfl)) rfl ?_)
  refine WD.branch [13] (by kernel_rfl) rfl (WO.cons rfl ?_ (WO.nil))
  refine .st1 hS (k:=0) rfl (.of rfl) (.of rfl) rfl Xjt (by simp) ?_
  clear hS; intro w hS
  refine .nil ?_
  refine And.intro (by intro h; cases h) ?_
  refine .done (by kernel_rfl) (.region (.run 2 rfl ⟨⟨by omega,by omega⟩,trivial⟩ (.nil ?_)))
  refine ⟨(.slice a60 (j+1) c60,j+1),⟨rfl,rfl,rfl,rfl,rfl,trivial⟩,⟨by (try dsimp only); omega,?_⟩,by (try dsimp only); omega⟩
  rw [hnr]; exact hS
 have hc47:=hb47; try simp only [Y6] at hc47
 refine .exit (.seq (.q 4 rfl (.ret (Xbs Tryz.results89 rfl rfl rfl ?_))))
 have hjn:j=l.length:=by omega
 subst hjn
 rw [Yy (by omega)] at hS
 obtain ⟨ka,kc,rfl,hkc,_⟩:=hS.vecSlice (k:=1) rfl
 obtain ⟨J4,hJ4,hKR,hS1⟩:=hS.freezeVec (k:=1) rfl
 try dsimp only [List.eraseIdx] at hS1
 obtain ⟨J5,hJ5,hb5,hS2⟩:=hS1.freeze (k:=0) rfl
 have hw:X3c l=(0,0):=Xa8 (fun q t ht=>hok q t (by have:=(Y5.1 ht).1; omega) ht)
 have hpl:(X3o l D).length=l.length:=by unfold X3o; rw [Yz,hDl]
 refine ⟨_,rfl,J5,Le.trans hJ (Le.trans hJ4 hJ5),hS2,.inr ⟨by rw [hw],_,D,rfl,hD,ka,kc,X3x E D,?_,by rw [hpl]; exact hkc,by unfold X3x X3o; rw [Yz,Yz],fun q s hq=>?_⟩⟩
 ·rw [hpl]
  exact ⟨rfl,_,_,_,hb5,fun q v hq=>by simpa using hq⟩
 ·unfold X3o at hq
  rw [Yw] at hq
  cases hdq:D[q]? with
  | none=>rw [hdq] at hq; cases hq
  | some d =>
   rw [hdq] at hq
   have hdr:=Srt.upto_mem.1 (hD.2.mem_iff.1 (Yl hdq))
   obtain ⟨u,hu⟩:∃ u,l[d.toNat]?=some u:=⟨_,Y4 (by omega)⟩
   have hus:u=s:=by
    have h2:=hq
    rw [Y45,Y8,hu] at h2
    exact Option.some.inj h2
   subst hus
   obtain ⟨c,hc,hent⟩:=hEE d.toNat u hu
   have hql:=(Y5.1 hdq).1
   obtain ⟨kp,rfl,hkp⟩:=(hKR.mono hJ5).2 (by omega)
   have hpk:(X3x E D)[q]?=some c:=by unfold X3x; rw [Yw,hdq]; simp [Y8,hc]
   have h10':∀ c∈X3x E D,c.length=10:=fun c hc=>by
    unfold X3x at hc
    obtain ⟨d',hd',rfl⟩:=Y2f.1 hc
    have hdr':=Srt.upto_mem.1 (hD.2.mem_iff.1 hd')
    rw [Y8,Y4 (by omega)]
    exact h10 _ (Y2p _)
   have hx:=X4g (hkp.add (q*10)) 10
   rw [X1w _ h10' q _ hpk] at hx
   exact ⟨kp,c,rfl,hpk,hx,hent.mono (Le.trans hJ3 (Le.trans hJ4 hJ5))⟩
end Go.Proofs.YtadhiihnnkcagaaGreatDoor
