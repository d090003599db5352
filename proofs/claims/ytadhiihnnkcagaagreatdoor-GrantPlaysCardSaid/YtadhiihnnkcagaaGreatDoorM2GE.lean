/- Part 5 of what the proof stands on: W17g, W18o, W18q, W18r, W21c, W21d, W21e, W21h, W21i, W21j, Tbw, W21k, W21l, GkM, GkN, W21m, W21n, W18s, W18t. -/
import Derived.Test.YtadhiihnnkcagaaGreatDoorM2GD
import Derived.DataElems
import Derived.Lib.LazyBuf
import Derived.WideMake
set_option linter.unusedVariables false
set_option linter.unusedSimpArgs false
namespace Go.Proofs.YtadhiihnnkcagaaGreatDoor
open Gk Pat
theorem Xn1 {l:List UInt8} {k:Nat} {d:Int} {out X:List Int} (h:(match l.drop (k+1) with | []=>out | _::r'=>barsGo r' ((k:Int)+2) d out)=X):barsGo (l.drop (k+2)) ((k:Int)+2) d out=X:=by
 cases hd:l.drop (k+1) with
 | nil =>
  rw [hd] at h
  have e:l.drop (k+2)=[]:=by rw [List.drop_eq_nil_iff] at hd ⊢; omega
  rw [e,Xau]; exact h
 | cons x r =>
  rw [hd] at h
  have e:l.drop (k+2)=r:=by rw [show k+2=(k+1)+1 from rfl,← Y1i,hd]; rfl
  rw [e]; exact h
set_option maxHeartbeats 800000 in
theorem Xob (l:List UInt8) (i:Nat) (hi:i<l.length) (hl:l.length≤1000000) (B w:World) (I:Im) (As:List X8) (hS:Sat B w I As) :
  Calls Tryz.prog 195 [S l,I64 (i:Nat)].toArray w (Ret fun v w'=>∃ J a c,Le I J∧v=.slice a (barsGo (l.drop i) i 0 []).length c∧RS J a 1 (barsGo (l.drop i) i 0 []).length ((barsGo (l.drop i) i 0 []).map I64)∧Sat B w' J As):=by
 refine calls Tryz.func195 rfl Tryz.ntmps195 rfl (.seq (.q 1 rfl (.seq (.region (.val (.assign (.of rfl)) rfl ?_)))))
 replace hS:=hS.vecNil 3 1
 refine .nil (.seq (.q 1 rfl (.seq (.seq (.q 2 rfl (.block (.loop (σ:=Nat×Int×Value×List Int) (fun ⟨k,deep,v,out⟩=>[(0,S l),(5,v),(6,I64 deep),(7,I64 (k:Nat))]) (fun ⟨k,deep,v,out⟩ w=>k≤l.length+1∧-(k:Int)≤deep∧deep≤k∧out.length≤k∧barsGo (l.drop k) k deep out=barsGo (l.drop i) i 0 []∧Sat B w I (Vec 3 1 v out.length (out.map I64)::As)) (fun ⟨k,deep,v,out⟩=>l.length+1 - k) (i,0,.slice none 0 0,[]) ⟨rfl,rfl,rfl,rfl,trivial⟩ ⟨by omega,by omega,by omega,by simp,rfl,hS⟩ ?_)))))))
 rintro ⟨k,deep,v,out⟩ w ⟨hk,hd1,hd2,hol,hq,hS⟩
 refine .seq (.seq (.region (.run 4 rfl ⟨Qu9,trivial⟩ (.nil ?_))))
 refine WC.cond rfl (fun hb12=>?_) (fun hb12=>?_)
 ·
  have hc12:=hb12; try simp only [Y6] at hc12
  refine .skip (.seq (.block (.seq (.region (.run 3 rfl ⟨⟨⟨by omega,by omega⟩,Qu9⟩,trivial⟩ (.nil (.block (.seq (.q 2 rfl ?_)))))))))
  refine WC.cond rfl (fun hb18=>?_) (fun hb18=>?_)
  ·
   have hc18:=hb18; try simp only [Y6] at hc18
   refine .region (.run 3 rfl ⟨⟨by omega,by omega⟩,trivial⟩ (.nil (.region (.run 3 rfl ⟨⟨by omega,by omega⟩,trivial⟩ (.nil ?_)))))
   have e9:=hq
   rw [Xc l (by omega),Xk,if_pos (by omega)] at e9
   have e9:=Xn1 e9
   refine ⟨(k+2,deep,v,out),⟨rfl,rfl,rfl,rfl,trivial⟩,⟨by omega,by omega,by omega,by (try simp only [Y0,Y1f]); omega,?_,?_⟩,by dsimp only; omega⟩
   ·exact e9
   ·exact hS
  have hc18:=hb18; try simp only [Y6] at hc18
  refine .seq (.q 2 rfl ?_)
  refine WC.cond rfl (fun hb22=>?_) (fun hb22=>?_)
  ·
   have hc22:=hb22; try simp only [Y6] at hc22
   refine .region (.run 3 rfl ⟨⟨by omega,by omega⟩,trivial⟩ (.nil (.region (.run 3 rfl ⟨⟨by omega,by omega⟩,trivial⟩ (.nil ?_)))))
   have e9:=hq
   rw [Xc l (by omega),Xk,if_neg (by omega),if_pos (by omega)] at e9
   refine ⟨(k+1,deep+1,v,out),⟨rfl,rfl,rfl,rfl,trivial⟩,⟨by omega,by omega,by omega,by (try simp only [Y0,Y1f]); omega,?_,?_⟩,by dsimp only; omega⟩
   ·exact e9
   ·exact hS
  have hc22:=hb22; try simp only [Y6] at hc22
  refine .seq (.q 2 rfl ?_)
  refine WC.cond rfl (fun hb26=>?_) (fun hb26=>?_)
  ·
   have hc26:=hb26; try simp only [Y6] at hc26
   refine .seq (.q 2 rfl ?_)
   refine WC.cond rfl (fun hb29=>?_) (fun hb29=>?_)
   ·
    have hc29:=hb29; try simp only [Y6] at hc29
    refine .t 2 rfl (.buildSlice (cs:=[_]) hS (X5 (.of rfl) X6) Xd Qs3 Qz3 rfl rfl rfl rfl ?_)
    clear hS; intro b32 w hS
    refine WL.append (size:=1) (bytes:=8) hS (.of rfl) (.of rfl) (k:=0) rfl Xd X1e rfl rfl rfl rfl rfl rfl rfl ⟨by omega,by unfold maxLen; omega⟩ rfl ?_
    clear hS; intro v33 w hS
    obtain ⟨a33,c33,rfl,hcap33,_⟩:=hS.vecSlice (k:=0) (v:=v33) rfl
    refine .q 1 rfl (.nil (.region (.run 3 rfl ⟨⟨by omega,by omega⟩,trivial⟩ (.nil ?_))))
    have e9:=hq
    rw [Xc l (by omega),Xk,if_neg (by omega),if_neg (by omega),if_pos (by omega),if_pos (by omega)] at e9
    refine ⟨(k+1,deep,.slice a33 (out.length+1) c33,out ++ [(k:Int)]),⟨rfl,rfl,rfl,rfl,trivial⟩,⟨by omega,by omega,by omega,by (try simp only [Y0,Y1f]); omega,?_,?_⟩,by dsimp only; omega⟩
    ·exact e9
    ·rw [Y0,Yw]; exact hS
   have hc29:=hb29; try simp only [Y6] at hc29
   refine .skip (.region (.run 3 rfl ⟨⟨by omega,by omega⟩,trivial⟩ (.nil ?_)))
   have e9:=hq
   rw [Xc l (by omega),Xk,if_neg (by omega),if_neg (by omega),if_pos (by omega),if_neg (by omega)] at e9
   refine ⟨(k+1,deep,v,out),⟨rfl,rfl,rfl,rfl,trivial⟩,⟨by omega,by omega,by omega,by (try simp only [Y0,Y1f]); omega,?_,?_⟩,by dsimp only; omega⟩
   ·exact e9
   ·exact hS
  have hc26:=hb26; try simp only [Y6] at hc26
  refine .seq (.q 2 rfl ?_)
  refine WC.cond rfl (fun hb34=>?_) (fun hb34=>?_)
  ·
   have hc34:=hb34; try simp only [Y6] at hc34
   refine .seq (.region (.run 3 rfl ⟨⟨by omega,by omega⟩,trivial⟩ (.nil (.seq (.q 2 rfl ?_)))))
   refine WC.cond rfl (fun hb39=>?_) (fun hb39=>?_)
   ·
    have hc39:=hb39; try simp only [Y6] at hc39
    refine .seq (.t 2 rfl (.buildSlice (cs:=[_]) hS (X5 (.of rfl) X6) Xd Qs3 Qz3 rfl rfl rfl rfl ?_))
    clear hS; intro b42 w hS
    refine WL.append (size:=1) (bytes:=8) hS (.of rfl) (.of rfl) (k:=0) rfl Xd X1e rfl rfl rfl rfl rfl rfl rfl ⟨by omega,by unfold maxLen; omega⟩ rfl ?_
    clear hS; intro v43 w hS
    obtain ⟨a43,c43,rfl,hcap43,_⟩:=hS.vecSlice (k:=0) (v:=v43) rfl
    refine .q 1 rfl (.nil (.ret (X9 Tryz.results195 rfl ?_)))
    have e9:=hq
    rw [Xc l (by omega),Xk,if_neg (by omega),if_neg (by omega),if_neg (by omega),if_pos (by omega),if_pos (by omega)] at e9
    rw [← e9]
    obtain ⟨J,hJ,hrs,hS⟩:=hS.freezeVec (k:=0) rfl
    exact ⟨_,rfl,J,_,_,hJ,by rw [Y0]; rfl,by rw [Y0,Yw]; exact hrs,hS⟩
   have hc39:=hb39; try simp only [Y6] at hc39
   refine .skip (.region (.run 3 rfl ⟨⟨by omega,by omega⟩,trivial⟩ (.nil ?_)))
   have e9:=hq
   rw [Xc l (by omega),Xk,if_neg (by omega),if_neg (by omega),if_neg (by omega),if_pos (by omega),if_neg (by omega)] at e9
   refine ⟨(k+1,deep - 1,v,out),⟨rfl,rfl,rfl,rfl,trivial⟩,⟨by omega,by omega,by omega,by (try simp only [Y0,Y1f]); omega,?_,?_⟩,by dsimp only; omega⟩
   ·exact e9
   ·exact hS
  have hc34:=hb34; try simp only [Y6] at hc34
  refine .skip (.region (.run 3 rfl ⟨⟨by omega,by omega⟩,trivial⟩ (.nil ?_)))
  have e9:=hq
  rw [Xc l (by omega),Xk,if_neg (by omega),if_neg (by omega),if_neg (by omega),if_neg (by omega)] at e9
  refine ⟨(k+1,deep,v,out),⟨rfl,rfl,rfl,rfl,trivial⟩,⟨by omega,by omega,by omega,by (try simp only [Y0,Y1f]); omega,?_,?_⟩,by dsimp only; omega⟩
  ·exact e9
  ·exact hS
 have hc12:=hb12; try simp only [Y6] at hc12
 refine .exit (.seq (.q 2 rfl (.ret (X9 Tryz.results195 rfl ?_))))
 obtain ⟨va,vc,rfl,_,_⟩:=hS.vecSlice (k:=0) rfl
 have e9:=hq
 rw [Y13 (by omega),Xau] at e9
 rw [← e9]
 obtain ⟨J,hJ,hrs,hS⟩:=hS.freezeVec (k:=0) rfl
 exact ⟨_,rfl,J,_,_,hJ,rfl,hrs,hS⟩
theorem Xd9 {s:List UInt8} {fr0 fr:List Bool} {D:Xbp} (hE:EndsAt s fr0 D fr) (p:Addr) (c:Nat) (kind:Int) (own:UInt8) (many:Bool) (k c0:Int) (hu:∀ x,takes kind own x=X1k k c0 x) (hm:many=true ↔ (k=2∨k=3)) (B w:World) (I:Im) (As:List X8) (hS:Sat B w I As) (hp:At I p (fr.map Value.bool)) (hb:s.length≤1000000) :
  Calls Tryz.prog 194 [S s,.slice (some p) (s.length+1) c,I64 kind,U8 own.toNat,.bool many].toArray w (Ret fun v w'=>∃ J q R,Le I J∧v=.slice (some q) (s.length+1) (s.length+1)∧At J q (R.map Value.bool)∧EndsAt s fr0 (cat D (Xif k c0)) R∧Sat B w' J As):=by
 have h:=Xmb s fr p c kind own many B w I As hS hp hE.1 hb
 rw [hE.1] at h
 refine h.mono fun x w' ⟨v,hx,J,q,h1,h2,h3,h4⟩=>⟨v,hx,J,q,_,h1,h2,h3,hE.cat (Xix hu hm),h4⟩
theorem Xp0 {ps:List Int} {x:Int}:(ps ++ [x]).getD (((ps ++ [x]).length:Int) - 1).toNat 0=x:=by
 have e:(((ps ++ [x]).length:Int) - 1).toNat=ps.length:=by simp
 rw [e,Y7]; simp
set_option maxHeartbeats 1600000 in
theorem Xme (s:List UInt8) (hs:s.length≤100000):∀ (n:Nat) (l:List UInt8) (p:Pt),l.length<n→Rep l p→p.flat→l.length≤100000→∀ (fr0:List Bool) (pa0:Addr) (c0:Nat) (B w:World) (I:Im) (As:List X8),Sat B w I As→At I pa0 (fr0.map Value.bool)→fr0.length=s.length+1 →
  Calls Tryz.prog 164 [S l,S s,.slice (some pa0) (s.length+1) c0].toArray w (Ret fun v w'=>∃ J q c R,Le I J∧v=.slice (some q) (s.length+1) c∧At J q (R.map Value.bool)∧EndsAt s fr0 (sem p).1 R∧Sat B w' J As):=by
 intro n
 induction n with
 | zero =>
  intro l p hn
  omega
 | succ n ih =>
  intro l p hn hR0 hf0 hl fr0 pa0 c0 B w I As hS hA0 hfr0
  refine calls Tryz.func164 rfl Tryz.ntmps164 rfl (.seq (.q 1 rfl (.seq (.seq (.q 1 rfl (.block (.loop (σ:=Nat×Pt×Xbp×List Bool×Addr×Nat×Im) (fun ⟨k,r,D,fr,pa,c1,J⟩=>[(0,S l),(1,S s),(2,.slice (some pa) (s.length+1) c1),(7,I64 (k:Nat))]) (fun ⟨k,r,D,fr,pa,c1,J⟩ w=>k≤l.length∧Rep (l.drop k) r∧r.flat∧(∀ u,(sem p).1 u ↔ cat D (sem r).1 u)∧EndsAt s fr0 D fr∧At J pa (fr.map Value.bool)∧Le I J∧Sat B w J As) (fun ⟨k,r,D,fr,pa,c1,J⟩=>l.length - k) (0,p,(fun u=>u=[]),fr0,pa0,c0,I) ⟨rfl,rfl,rfl,rfl,trivial⟩ ⟨Yp _,hR0,hf0,fun u=>(Xcc _ u).symm,EndsAt.nil hfr0,hA0,Le.refl I,hS⟩ ?_)))))))
  rintro ⟨k,r,D,fr,pa,c1,J⟩ w ⟨hk,hR,hfl,hsem,hE,hA,hJ,hS⟩
  refine .seq (.seq (.region (.run 4 rfl ⟨Qu9,trivial⟩ (.nil ?_))))
  refine WC.cond rfl (fun hb17=>?_) (fun hb17=>?_)
  ·
   have hc17:=hb17; try simp only [Y6] at hc17
   refine .skip (.seq (.block (.seq (.region (.run 3 rfl ⟨⟨⟨by omega,by omega⟩,Qu9⟩,trivial⟩ (.nil (.block (.seq (.q 2 rfl ?_)))))))))
   refine WC.cond rfl (fun hb29=>?_) (fun hb29=>?_)
   ·
    have hc29:=hb29; try simp only [Y6] at hc29
    refine .t 2 rfl ?_
    obtain ⟨r',hr,hr2⟩:=Xqs hR (by omega) (by omega)
    subst hr
    refine WL.call Xhe rfl (X0 (.of rfl) (X0 (.of rfl) (X0 (.of rfl) (X0 (.of rfl) (X0 (.of rfl) X4))))) rfl (Xd9 hE pa c1 1 0 false 1 0 (fun x=>by simp [takes,X1k] <;> exact BEq.comm) (by decide) B w J As hS hA (by omega)) ?_
    clear hS
    rintro _ w ⟨J2,q,R2,hJ2,rfl,hA2,hE2,hS⟩
    refine .q 1 rfl (.nil (.region (.run 3 rfl ⟨⟨by omega,by omega⟩,trivial⟩ (.nil ?_))))
    refine ⟨(k+1,r',_,R2,q,s.length+1,J2),⟨rfl,rfl,rfl,rfl,trivial⟩,⟨by omega,hr2,hfl,fun u=>(hsem u).trans (X1r _ _ _ u).symm,hE2,hA2,hJ.trans hJ2,hS⟩,by dsimp only; omega⟩
   have hc29:=hb29; try simp only [Y6] at hc29
   refine .seq (.q 2 rfl ?_)
   refine WC.cond rfl (fun hb34=>?_) (fun hb34=>?_)
   ·
    have hc34:=hb34; try simp only [Y6] at hc34
    refine .seq (.region (.run 6 rfl ⟨⟨by omega,by omega⟩,Qu9,trivial⟩ (.gval rfl rfl (fun hg1=>(.move (.of rfl))) rfl (.gval rfl rfl (fun hg1=>(.move (.of rfl))) rfl (.gval rfl rfl (fun hg1=>(.add (.gd hg1 rfl) (.of rfl) ⟨by omega,by omega⟩)) rfl ?_)))))
    refine WL.gval rfl rfl (fun hg1=>(.index (.gd hg1 rfl) (.gd hg1 rfl) (by (try simp only [Y6] at hg1); omega) (by (try simp only [Y6] at hg1); omega) Qu9)) rfl ?_
    refine .gval rfl rfl (fun hg1=>(.eql (.gd hg1 rfl) (.of rfl))) rfl (.val (.pand (.of rfl) (.of rfl) (.of rfl)) rfl (.nil ?_))
    refine WC.cond rfl (fun hb47=>?_) (fun hb47=>?_)
    ·
     have hc47:=hb47; try simp only [Y6] at hc47
     refine .seq (.region (.run 3 rfl ⟨⟨by omega,by omega⟩,trivial⟩ (.nil (.t 2 rfl ?_))))
     obtain ⟨r',hr,hr2⟩:=Xrx hR (by omega) (by omega) (by omega)
     subst hr
     refine WL.call Xhe rfl (X0 (.of rfl) (X0 (.of rfl) (X0 (.of rfl) (X0 (.of rfl) (X0 (.of rfl) X4))))) rfl (Xd9 hE pa c1 2 0 true 2 0 (fun x=>by simp [takes,X1k] <;> exact BEq.comm) (by decide) B w J As hS hA (by omega)) ?_
     clear hS
     rintro _ w ⟨J2,q,R2,hJ2,rfl,hA2,hE2,hS⟩
     refine .q 1 rfl (.nil (.region (.run 3 rfl ⟨⟨by omega,by omega⟩,trivial⟩ (.nil ?_))))
     refine ⟨(k+2,r',_,R2,q,s.length+1,J2),⟨rfl,rfl,rfl,rfl,trivial⟩,⟨by omega,hr2,hfl,fun u=>(hsem u).trans (X1r _ _ _ u).symm,hE2,hA2,hJ.trans hJ2,hS⟩,by dsimp only; omega⟩
    have hc47:=hb47; try simp only [Y6] at hc47
    refine .t 2 rfl ?_
    obtain ⟨r',hr,hr2⟩:=Xsm hR (by omega) (by omega) (by omega)
    subst hr
    refine WL.call Xhe rfl (X0 (.of rfl) (X0 (.of rfl) (X0 (.of rfl) (X0 (.of rfl) (X0 (.of rfl) X4))))) rfl (Xd9 hE pa c1 1 0 true 3 0 (fun x=>by simp [takes,X1k] <;> exact BEq.comm) (by decide) B w J As hS hA (by omega)) ?_
    clear hS
    rintro _ w ⟨J2,q,R2,hJ2,rfl,hA2,hE2,hS⟩
    refine .q 1 rfl (.nil (.region (.run 3 rfl ⟨⟨by omega,by omega⟩,trivial⟩ (.nil ?_))))
    refine ⟨(k+1,r',_,R2,q,s.length+1,J2),⟨rfl,rfl,rfl,rfl,trivial⟩,⟨by omega,hr2,hfl,fun u=>(hsem u).trans (X1r _ _ _ u).symm,hE2,hA2,hJ.trans hJ2,hS⟩,by dsimp only; omega⟩
   have hc34:=hb34; try simp only [Y6] at hc34
   refine .seq (.q 2 rfl ?_)
   refine WC.cond rfl (fun hb56=>?_) (fun hb56=>?_)
   ·
    have hc56:=hb56; try simp only [Y6] at hc56
    refine .seq ?_
    have hesc:=(Xkd hR (by omega) (by omega)).1
    refine .region (.run 3 rfl ⟨⟨by omega,by omega⟩,trivial⟩ (.nil (.region (.run 5 rfl ⟨⟨⟨by omega,by omega⟩,Qu9⟩,trivial⟩ ?_))))
    obtain ⟨_,r',hr,hr2⟩:=Xkd hR (by omega) (by omega)
    subst hr
    refine WL.call Xhe rfl (X0 (.of rfl) (X0 (.of rfl) (X0 (.of rfl) (X0 (.of rfl) (X0 (.of rfl) X4))))) rfl (Xd9 hE pa c1 0 (at_ l ((k:Int)+1)) false 0 ((at_ l ((k:Int)+1)).toNat:Int) (fun x=>by simp [takes,X1k] <;> exact BEq.comm) (by decide) B w J As hS hA (by omega)) ?_
    clear hS
    rintro _ w ⟨J2,q,R2,hJ2,rfl,hA2,hE2,hS⟩
    refine .q 1 rfl (.nil (.region (.run 3 rfl ⟨⟨by omega,by omega⟩,trivial⟩ (.nil ?_))))
    refine ⟨(k+2,r',_,R2,q,s.length+1,J2),⟨rfl,rfl,rfl,rfl,trivial⟩,⟨by omega,hr2,hfl,fun u=>(hsem u).trans (X1r _ _ _ u).symm,hE2,hA2,hJ.trans hJ2,hS⟩,by dsimp only; omega⟩
   have hc56:=hb56; try simp only [Y6] at hc56
   refine .seq (.q 2 rfl ?_)
   refine WC.cond rfl (fun hb66=>?_) (fun hb66=>?_)
   ·
    have hc66:=hb66; try simp only [Y6] at hc66
    refine .seq (.t 2 rfl ?_)
    obtain ⟨t1,t2,b,r',hd0,hr,hr1,hr2,hd1,hk2,hk3⟩:=Xqc hR (by omega) (by omega)
    subst hr
    obtain ⟨ps,halts,hbars⟩:=Xm6 hr1 t2 (k:Int)
    rw [← hd0] at hbars
    refine .call Tryz.func195 rfl (X0 (.of rfl) (X0 (.of rfl) X4)) rfl (Xob l k (by omega) (by omega) B w J As hS) ?_
    clear hS
    rintro _ w ⟨J2,la,lc,hJ2,rfl,hla,hS⟩
    generalize hallE0:barsGo (l.drop k) k 0 []=all at hla hbars ⊢
    have hallE:=hbars
    obtain ⟨lp,rfl,hlA⟩:=hla.2 (by rw [hbars]; simp)
    have hps:=Xn6 halts
    have hal:all.length=ps.length+1:=by rw [hallE]; simp
    have hlast:all.getD ((all.length:Int) - 1).toNat 0=(k:Int)+1+t1.length:=by rw [hallE]; exact Xp0
    have ht1:t1.length≤l.length:=by omega
    refine .q 1 rfl (.nil (.seq (.region (.run 3 rfl ⟨Qu9,⟨by omega,by omega⟩,trivial⟩ ?_))))
    refine WL.make (l:=s.length+1) hS (.of rfl) (.of rfl) X2w X3c rfl (by simp [Tryz.t4] <;> omega) (by omega) rfl rfl rfl ?_
    clear hS; intro b74 w hS
    refine .q 1 rfl (.nil (.seq (.region (.run 3 rfl ⟨⟨by omega,by omega⟩,trivial⟩ (.nil (.seq (.seq (.q 1 rfl (.block ?_)))))))))
    refine WC.loop (σ:=Nat×Nat×Xbp×List Bool×Im) (fun ⟨m,at0,Dg,S1,J4⟩=>[(0,S l),(1,S s),(2,.slice (some pa) (s.length+1) c1),(8,.slice (some lp) all.length lc),(9,.slice (some (ad b74 0)) (s.length+1) (s.length+1)),(10,I64 (at0:Nat)),(11,I64 (m:Nat))]) (fun ⟨m,at0,Dg,S1,J4⟩ w=>m≤all.length∧EndsAt s fr Dg S1∧Xli l t2 b all ((k:Int)+1+t1.length) m at0 Dg∧Le J2 J4∧Sat B w J4 (blk b74 ((S1).map Value.bool ++ []) 4::As)) (fun ⟨m,at0,Dg,S1,J4⟩=>all.length - m) (0,k+1,(fun _=>False),List.replicate (s.length+1) false,J2) ⟨rfl,rfl,rfl,rfl,rfl,rfl,rfl,trivial⟩ ⟨Yp _,EndsAt.none s fr,⟨fun _=>⟨t1,b,ps,by rw [hallE]; rfl,by simpa using halts,hd1,by simp,fun u=>by simp⟩,fun h=>by rw [hallE] at h; simp at h⟩,Le.refl _,by rw [Y2t,Yc]; exact hS⟩ ?_
    rintro ⟨m,at0,Dg,S1,J4⟩ w ⟨hm,hES,hAlt,hJ4,hS⟩
    refine .seq (.seq (.region (.run 4 rfl ⟨⟨_,Xd⟩,trivial⟩ (.nil ?_))))
    refine WC.cond rfl (fun hb80=>?_) (fun hb80=>?_)
    ·
     have hc80:=hb80; try simp only [Y6] at hc80
     refine .skip (.seq (.block (.seq ?_)))
     have hA4:=hA.mono (hJ2.trans hJ4)
     obtain ⟨q,b1,hq1,hq2,hq3,hq4,hb1,hb1f,hAlt2⟩:=Xmw hAlt (by omega)
     have hlA4:=hlA.mono hJ4
     have hqd:all.getD ((m:Int)).toNat 0=(q:Int):=by rw [Yi,Y7,hq1]; rfl
     refine .t 4 rfl (.val (.indexAddrI (.of rfl) (.of rfl) (by omega) (by omega) Xd Qs3) rfl (.val (.ldEI I64 all 0 (.of rfl) hS hlA4 rfl Qg3 (by omega) (by omega)) rfl ?_))
     rw [hqd]
     refine .val (.sub3 (.of rfl) (.of rfl) (.of rfl) (by omega) (by omega) (by omega) Qu9) rfl ?_
     rw [Yi,Yi]
     refine .q 2 rfl (WL.call Tryz.func164 rfl (X0 (.of rfl) (X0 (.of rfl) (X0 (.of rfl) X4))) rfl (ih ((l.drop at0).take (q - at0)) b1 (by simp; omega) hb1 hb1f (by simp; omega) fr pa c1 B w J4 _ hS hA4 hE.1) ?_)
     clear hS
     rintro _ w ⟨J6,qa,qc,R6,hJ6,rfl,hA6,hE6,hS⟩
     refine .q 1 rfl (.nil (.seq (.seq (.q 1 rfl (.block (.loop (σ:=Nat) (fun j=>[(0,S l),(1,S s),(2,.slice (some pa) (s.length+1) c1),(8,.slice (some lp) all.length lc),(9,.slice (some (ad b74 0)) (s.length+1) (s.length+1)),(11,I64 (m:Nat)),(12,.slice (some qa) (s.length+1) qc),(13,I64 (j:Nat))]) (fun j w=>j≤s.length+1∧Sat B w J6 (blk b74 ((iter (Xpg R6) S1 j).map Value.bool ++ []) 4::As)) (fun j=>s.length+1 - j) 0 ⟨rfl,rfl,rfl,rfl,rfl,rfl,rfl,rfl,trivial⟩ ⟨Yp _,hS⟩ ?_))))))
     rintro j w ⟨hj,hS⟩
     have ho:=(X9g R6 S1 j).1
     have hS1l:=hES.1
     have hR6l:=hE6.1
     obtain ⟨oj,hoj⟩:∃ oj,oj=iter (Xpg R6) S1 j:=⟨_,rfl⟩
     rw [← hoj] at hS ho
     refine .seq (.seq (.region (.run 4 rfl ⟨Qu9,trivial⟩ (.nil ?_))))
     refine WC.cond rfl (fun hb96=>?_) (fun hb96=>?_)
     ·
      have hc96:=hb96; try simp only [Y6] at hc96
      refine .skip (.seq (.block (.t 4 rfl (.val (.indexAddr (.of rfl) (.of rfl) (by omega) (by omega) X2w Qs4) rfl (.val (.ldE .bool oj false [] (.of rfl) hS (k:=0) rfl rfl Qg4 (by omega) (by omega)) rfl (.q 1 rfl (.gval rfl rfl (fun hg1=>(.move (.of rfl))) rfl (.gval rfl rfl (fun hg1=>(.move (.of rfl))) rfl ?_))))))))
      refine WL.gval rfl rfl (fun hg1=>(.indexAddrI (.gd hg1 rfl) (.gd hg1 rfl) (by (try simp only [Y6] at hg1); omega) (by (try simp only [Y6] at hg1); omega) X2w Qs4)) rfl ?_
      refine .gval rfl rfl (fun hg1=>.ldEI .bool R6 false (.gd hg1 rfl) hS hA6 rfl Qg4 (by omega) (by omega)) rfl (.val (.por (.of rfl) (.of rfl) (.of rfl)) rfl (.val (.indexAddr (.of rfl) (.of rfl) (by omega) (by omega) X2w Qs4) rfl (.stE .bool oj [] (u:=oj.getD ((j:Int)).toNat false || R6.getD ((j:Int)).toNat false) hS (k:=0) rfl (.of rfl) (.of rfl) rfl rfl Qs4 (by omega) (by omega) ?_)))
      clear hS; intro w hS; dsimp only [List.set] at hS
      refine .nil (.region (.run 3 rfl ⟨⟨by omega,by omega⟩,trivial⟩ (.nil ?_)))
      refine ⟨j+1,⟨rfl,rfl,rfl,rfl,rfl,rfl,rfl,rfl,trivial⟩,⟨by omega,?_⟩,by omega⟩
      rw [iter,← hoj]; unfold Xpg; simp only [Yi] at hS; exact hS
     have hc96:=hb96; try simp only [Y6] at hc96
     refine .exit ?_
     have hlA6:=hlA4.mono hJ6
     refine .t 2 rfl (.val (.indexAddrI (.of rfl) (.of rfl) (by omega) (by omega) Xd Qs3) rfl (.val (.ldEI I64 all 0 (.of rfl) hS hlA6 rfl Qg3 (by omega) (by omega)) rfl ?_))
     rw [hqd]
     refine .run 2 rfl ⟨⟨by omega,by omega⟩,trivial⟩ (.nil (.region (.run 3 rfl ⟨⟨by omega,by omega⟩,trivial⟩ (.nil ?_))))
     obtain rfl:j=s.length+1:=by omega
     refine ⟨(m+1,q+1,_,iter (Xpg R6) S1 (s.length+1),J6),⟨rfl,rfl,rfl,rfl,rfl,rfl,rfl,trivial⟩,⟨by omega,hES.or hE6,hAlt2,hJ4.trans hJ6,by rw [hoj] at hS; exact hS⟩,by dsimp only; omega⟩
    have hc80:=hb80; try simp only [Y6] at hc80
    refine .exit (.seq (.q 2 rfl ?_))
    have hlA7:=hlA.mono hJ4
    have hm9:m=all.length:=by omega
    refine .region (.run 4 rfl ⟨⟨_,Xd⟩,⟨by omega,by omega⟩,trivial⟩ (.val (.indexAddrI (.of rfl) (.of rfl) (by omega) (by omega) Xd Qs3) rfl (.val (.ldEI I64 all 0 (.of rfl) hS hlA7 rfl Qg3 (by omega) (by omega)) rfl ?_)))
    rw [hlast]
    refine .q 1 rfl (.nil (.region (.run 3 rfl ⟨⟨by omega,by omega⟩,trivial⟩ (.nil ?_))))
    obtain rfl:m=all.length:=by omega
    obtain ⟨J5,hJ5,hb5,hS⟩:=hS.freeze (k:=0) rfl
    refine ⟨(k+1+t1.length+1,r',_,S1,ad b74 0,s.length+1,J5),⟨rfl,rfl,rfl,rfl,trivial⟩,⟨by omega,by rw [hk2]; exact hr2,hfl,fun u=>(hsem u).trans (X1r _ _ _ u).symm,hE.cat (hES.congr fun u=>(hAlt.2 rfl u).symm),⟨rfl,_,_,_,hb5,fun j v hj=>by simpa using hj⟩,((hJ.trans hJ2).trans hJ4).trans hJ5,hS⟩,by dsimp only; omega⟩
   have hc66:=hb66; try simp only [Y6] at hc66
   refine .region (.run 5 rfl ⟨⟨⟨by omega,by omega⟩,Qu9⟩,trivial⟩ ?_)
   obtain ⟨r',hr,hr2⟩:=Xnw hR hfl (by omega) (by omega) (by omega) (by omega) (by omega)
   subst hr
   refine WL.call Xhe rfl (X0 (.of rfl) (X0 (.of rfl) (X0 (.of rfl) (X0 (.of rfl) (X0 (.of rfl) X4))))) rfl (Xd9 hE pa c1 0 (at_ l (k:Int)) false 0 ((at_ l (k:Int)).toNat:Int) (fun x=>by simp [takes,X1k] <;> exact BEq.comm) (by decide) B w J As hS hA (by omega)) ?_
   clear hS
   rintro _ w ⟨J2,q,R2,hJ2,rfl,hA2,hE2,hS⟩
   refine .q 1 rfl (.nil (.region (.run 3 rfl ⟨⟨by omega,by omega⟩,trivial⟩ (.nil ?_))))
   refine ⟨(k+1,r',_,R2,q,s.length+1,J2),⟨rfl,rfl,rfl,rfl,trivial⟩,⟨by omega,hr2,hfl,fun u=>(hsem u).trans (X1r _ _ _ u).symm,hE2,hA2,hJ.trans hJ2,hS⟩,by dsimp only; omega⟩
  have hc17:=hb17; try simp only [Y6] at hc17
  refine .exit (.seq (.q 2 rfl (.ret (X9 Tryz.results164 rfl ?_))))
  refine ⟨_,rfl,J,pa,c1,fr,hJ,rfl,hA,hE.congr fun u=>?_,hS⟩
  rw [Y13 (by omega)] at hR
  obtain rfl:=Xqw hR
  exact ((hsem u).trans (Xjo _ u)).symm
theorem Xe2 {l:List UInt8} {p:Pt} (hr:Rep l p) (hf:p.flat) (s:List UInt8) (hl:l.length≤1000) (hs:s.length≤1000) (B w:World) (I:Im) (As:List X8) (hS:Sat B w I As) :
  Calls Tryz.prog 126 [S l,S s].toArray w (Ret fun v w'=>∃ b,v=.bool b∧(b=true ↔ (sem p).1 s)∧∃ J,Le I J∧Sat B w' J As):=by
 refine calls Tryz.func126 rfl Tryz.ntmps126 rfl (.seq (.q 1 rfl (.seq (.region (.run 3 rfl ⟨Qu9,⟨by omega,by omega⟩,trivial⟩ ?_)))))
 refine WL.make (l:=s.length+1) hS (.of rfl) (.of rfl) X2w X3c rfl (by simp [Tryz.t4] <;> omega) (by omega) rfl rfl rfl ?_
 clear hS; intro b9 w hS
 refine .q 1 rfl (.nil (.seq (.t 1 rfl (.val (.indexAddr (.of rfl) (.of rfl) (by omega) (by omega) X2w Qs4) rfl ?_))))
 replace hS:Sat B w I (blk b9 ((List.replicate (s.length+1) false).map Value.bool ++ []) 4::As):=by rw [Y2t,Yc]; exact hS
 refine .stE .bool (List.replicate (s.length+1) false) [] (u:=true) hS (k:=0) rfl (.of rfl) (.of rfl) rfl rfl Qs4 (by omega) (by simp) ?_
 clear hS; intro w hS; dsimp only [List.set] at hS
 obtain ⟨J,hJ,hb,hS⟩:=hS.freeze (k:=0) rfl
 have hA:At J (ad b9 0) (((List.replicate (s.length+1) false).set 0 true).map Value.bool):=⟨rfl,_,_,_,hb,fun j v hj=>by simpa using hj⟩
 refine .nil (.seq (.t 3 rfl (.call Tryz.func164 rfl (X0 (.of rfl) (X0 (.of rfl) (X0 (.of rfl) X4))) rfl (Xme s (by omega) (l.length+1) l p (by omega) hr hf (by omega) _ (ad b9 0) _ B w J As hS hA (by simp)) ?_)))
 clear hS
 rintro _ w ⟨J2,q,qc,R2,hJ2,rfl,hA2,hE2,hS⟩
 refine .run 2 rfl ⟨Qu9,trivial⟩ (.val (.indexAddrI (.of rfl) (.of rfl) (by omega) (by omega) X2w Qs4) rfl ?_)
 have hR2:=hE2.1
 refine .val (.ldEI .bool R2 false (.of rfl) hS hA2 rfl Qg4 (by omega) (by omega)) rfl (.q 1 rfl (.nil (.ret (X9 Tryz.results126 rfl ?_))))
 refine ⟨_,rfl,_,rfl,?_,J2,hJ.trans hJ2,hS⟩
 rw [Yi,hE2.2 s.length (Yt _)]
 constructor
 ·rintro ⟨i,h1,h2,h3⟩
  rcases Pat.getD_set_true _ _ _ h2 with h4 | h4
  ·rw [X53] at h4; cases h4
  ·subst h4; simpa [seg] using h3
 ·intro h; exact ⟨0,Yp _,X6j (by simp),by simpa [seg] using h⟩
theorem X2z:Bld Tryz.prog 101 [(0,1),(1,1),(2,1),(3,1),(4,1),(5,1),(6,1),(7,1)] [.int .i64 0,.float .f64 0,S [],.bool false,.bool false,.bool false,S [],.slice none 0 0]:=X2l X1t X7d (fun w=>by simp [go_sem])
theorem Xap {l:List UInt8} (h:(chk l).1=0):∃ Q,cmp l=.ok Q:=by
 unfold chk at h
 split at h
 ·cases h
 ·rename_i hl
  cases hc:cmp l with
  | ok Q=>exact ⟨Q,rfl⟩
  | error e =>
   unfold cmp at hc
   rw [if_neg hl] at hc
   have:=(X1i l.length l 0 [] [] [] (Yt _) rfl).1 e hc
   rw [this.1] at h
   exact absurd h this.2
theorem Xhw (l s:List UInt8) (hQ:∃ Q,cmp l=.ok Q) (hs:s.length≤1000) (B w:World) (I:Im) (As:List X8) (hS:Sat B w I As) :
  Calls Tryz.prog 126 [S l,S s].toArray w (Ret fun v w'=>∃ J,v=.bool (X9y l s).1∧Le I J∧Sat B w' J As):=by
 obtain ⟨Q,hQ⟩:=hQ
 have hm:(X9y l s).2=true:=by unfold X9y; rw [hQ]
 obtain ⟨p,hr,hf,_,hl,ht⟩:=mt_ok hm
 refine (Xe2 hr hf s (by omega) hs B w I As hS).mono fun e w' he=>?_
 obtain ⟨v,rfl,b,rfl,hb,J,hJ,hS'⟩:=he
 refine ⟨_,rfl,J,?_,hJ,hS'⟩
 congr 1
 exact Y2y.2 (hb.trans (ht s).2.symm)
def z0:Sv:=⟨0,0,[],false,false,false,[],[]⟩
def Xf7 (l:List Sv) (D:List Int) (s:List UInt8):Sv×List UInt8×Nat :=
 if (Ul.nU s).2≠0 then (z0,[],(Ul.nU s).2) else if 100<(Ul.nU s).1.length then (z0,[],2)
 else match D.find? (fun d=>(X9y (l.getD d.toNat z0).urls (Ul.nU s).1).1) with
  | none=>(z0,[],31)
  | some d=>(l.getD d.toNat z0,(Ul.nU s).1,0)
def right (l:List Sv):Prop:=∀ s∈l,(∃ Q,cmp s.urls=.ok Q)∧∃ Q,cmp s.calls=.ok Q
theorem Xiq {α:Type} {p:α→Bool}:∀ {D:List α} {j:Nat} {d:α},(∀ (q:Nat) e,q<j→D[q]?=some e→p e=false)→D[j]?=some d→p d=true→D.find? p=some d
 | [],_,_,_,h,_=>by simp at h
 | a::D,0,d,_,h,hp=>by simp at h; subst h; rw [Y2x,hp]
 | a::D,j+1,d,hn,h,hp=>by
  have h0:=hn 0 a (by omega) rfl
  rw [Y2x,h0]
  exact Xiq (j:=j) (fun q e hq he=>hn (q+1) e (by omega) (by simpa using he)) (by simpa using h) hp
theorem Xq1 {α:Type} {p:α→Bool} {D:List α} (h:∀ (q:Nat) e,D[q]?=some e→p e=false):D.find? p=none:=by
 rw [Y4o]
 intro x hx
 obtain ⟨q,hq⟩:=Y11.1 hx
 rw [h q x hq]; decide
theorem pick8 {I:Im} {a:Option Addr} {L:List (List Value)} {l:List Sv} (h:SvsIn I a L l) {D:List Int} (hD:∀ d∈D,0≤d∧d<l.length):∀ c∈X47 L D,c.length=8:=fun c hc=>by
 obtain ⟨d,hd,rfl⟩:=Y26.1 hc
 obtain ⟨h0,h1⟩:=hD d hd
 obtain ⟨p,c,_,h2,_,ra,rc,rfl,_⟩:=h.2 d.toNat _ (Y4 (by omega))
 rw [Y7,h2]
 rfl
theorem Xej (a:Option Addr) (cap:Nat) (L:List (List Value)) (l:List Sv) (hln:l.length≤100000) (hsm:∀ v∈ords l,v<18446744073709551616) (hright:right l) (s:List UInt8) (hs:s.length≤1000000) (B w:World) (I:Im) (hl:SvsIn I a L l) (As:List X8) (hS:Sat B w I As) :
  Calls Tryz.prog 77 [.slice a l.length cap,S s].toArray w (Ret fun v w'=>∃ J u c n e,Le I J∧v=.tuple #[.agg (List.toArray c),S n,I64 ((e:Nat):Int)]∧SvAt J u c∧(∀ D,Srt.Ord (kx (ords l)) l.length D→Xf7 l D s=(u,n,e))∧Sat B w' J As):=by
 refine calls Qf77 rfl Tryz.ntmps77 rfl (.seq (.region (.allocA (cs:=[_,_,_,_,_,_,_,_]) hS X7d rfl ?_)))
 clear hS; intro b4 w hS
 refine .q 2 rfl (.nil (.seq (.t 1 rfl (.call Tryz.func23 rfl (X0 (.of rfl) X4) rfl (Xa6 s hs B _ I _ hS) ?_))))
 clear hS
 rintro _ w ⟨rfl,hS⟩
 refine .q 5 rfl (.nil (.seq (.seq (.q 2 rfl ?_))))
 refine WC.cond rfl (fun hb18=>?_) (fun hb18=>?_)
 ·
  have hc18:=hb18; try simp only [Y6] at hc18
  refine .seq (.region (.val (.build (cs:=[_,_,_,_,_,_,_,_]) X6 X2z rfl) rfl (.q 1 rfl (.stA hS (k:=0) rfl (.of rfl) (.of rfl) rfl Xy rfl (by simp) ?_))))
  clear hS; intro w hS
  try simp only [Yl,Yf,Yc,Y9,Yj,Yo,Yd] at hS
  refine .q 2 rfl (.nil (.ret (Xdy (b:=_) (cs:=[_,_,_,_,_,_,_,_]) Qr77 hS (k:=0) rfl X5g Xy rfl rfl rfl rfl ?_)))
  exact ⟨_,rfl,I,z0,_,_,_,Le.refl _,rfl,⟨none,0,rfl,Yt _,RS.nil _ _⟩,fun D2 hD2=>by rw [Xf7,if_pos (by omega)]; try rfl,(hS.drop (k:=0) rfl)⟩
 have hc18:=hb18; try simp only [Y6] at hc18
 refine .skip (.seq (.seq (.region (.run 3 rfl ⟨Qu9,trivial⟩ (.nil ?_)))))
 refine WC.cond rfl (fun hb23=>?_) (fun hb23=>?_)
 ·
  have hc23:=hb23; try simp only [Y6] at hc23
  refine .seq (.region (.val (.build (cs:=[_,_,_,_,_,_,_,_]) X6 X2z rfl) rfl (.stA hS (k:=0) rfl (.of rfl) (.of rfl) rfl Xy rfl (by simp) ?_)))
  clear hS; intro w hS
  try simp only [Yl,Yf,Yc,Y9,Yj,Yo,Yd] at hS
  refine .q 2 rfl (.nil (.ret (Xdy (b:=_) (cs:=[_,_,_,_,_,_,_,_]) Qr77 hS (k:=0) rfl X5g Xy rfl rfl rfl rfl ?_)))
  exact ⟨_,rfl,I,z0,_,_,_,Le.refl _,rfl,⟨none,0,rfl,Yt _,RS.nil _ _⟩,fun D2 hD2=>by rw [Xf7,if_neg (by omega),if_pos (by omega)]; try rfl,(hS.drop (k:=0) rfl)⟩
 have hc23:=hb23; try simp only [Y6] at hc23
 refine .skip (.seq (.t 1 rfl (.call Tryz.func125 rfl (X0 (.of rfl) X4) rfl (Xrf a cap L l hln hsm B _ I hl _ hS) ?_)))
 clear hS
 rintro _ w ⟨J,D,hJ,hD,hS⟩
 refine .q 1 rfl (.nil (.seq (.seq ?_)))
 obtain ⟨va,vc,rfl,hvc,_⟩:=hS.vecSlice (k:=0) rfl
 obtain ⟨J2,hJ2,hAR,hS2⟩:=hS.freezeVec (k:=0) rfl
 clear hS
 have hS:=hS2
 clear hS2
 try dsimp only [List.eraseIdx] at hS
 replace hJ:=Le.trans hJ hJ2
 have hDl:=hD.len
 have hDm:∀ d∈D,0≤d∧d<l.length:=fun d hd=>Srt.upto_mem.1 (hD.2.mem_iff.1 hd)
 have h8:=pick8 hl hDm
 refine .q 1 rfl (.block (.loop (σ:=Nat×Im) (fun ⟨j,J3⟩=>[(4,ptr b4 0),(7,S (Ul.nU s).1),(9,.slice va l.length vc),(10,I64 (j:Nat))]) (fun ⟨j,J3⟩ w=>j≤l.length∧(∀ (q:Nat) e,q<j→D[q]?=some e→(X9y (l.getD e.toNat z0).urls (Ul.nU s).1).1=false)∧Le J2 J3∧Sat B w J3 (blk b4 [I64 0,F64 0,S [],.bool false,.bool false,.bool false,S [],.slice none 0 0] 101::As)) (fun ⟨j,J3⟩=>l.length - j) (0,J2) ⟨rfl,rfl,rfl,rfl,trivial⟩ ⟨Yp _,fun _ _ h=>absurd h (by omega),Le.refl _,hS⟩ ?_))
 rintro ⟨j,J3⟩ w ⟨hj,hno,hJ3,hS⟩
 refine .seq (.seq (.region (.run 4 rfl ⟨⟨_,X7t⟩,trivial⟩ (.nil ?_))))
 refine WC.cond rfl (fun hb30=>?_) (fun hb30=>?_)
 ·
  have hc30:=hb30; try simp only [Y6] at hc30
  refine .skip (.seq (.block (.seq ?_)))
  obtain ⟨d,hd⟩:∃ d,D[j]?=some d:=⟨_,Y4 (by omega)⟩
  have hdr:=hDm d (Ym hd)
  obtain ⟨u,hu⟩:∃ u,l[d.toNat]?=some u:=⟨_,Y4 (by omega)⟩
  obtain ⟨_,c,_,hc,_,ra,rc,rfl,hrc,hr⟩:=hl.2 d.toNat u hu
  obtain ⟨p,rfl,hp⟩:=hAR.2 (by omega)
  have hpk:(X47 L D)[j]?=some (X1q u ra rc):=by unfold X47; rw [Yy,hd]; simp [Y7,hc]
  have hx:=X4f ((hp.mono hJ3).add (j*8)) 8
  rw [X1x _ h8 j _ hpk] at hx
  unfold X1q at hx
  have hgu:l.getD d.toNat z0=u:=by rw [Y7,hu]; rfl
  obtain ⟨hru,hrc2⟩:=hright u (Ym hu)
  refine .t 2 rfl (.val (.indexAddrI (.of rfl) (.of rfl) (by omega) (by omega) X7t Xy) rfl (.val (.fieldAddrI 2 (.of rfl) X1t rfl rfl Qs9 rfl) rfl (.val (.ldI (.of rfl) hS (At.add hx _) Qg9 rfl) rfl (.q 1 rfl (.call Tryz.func126 rfl (X0 (.of rfl) (X0 (.of rfl) X4)) rfl (Xhw u.urls _ hru (by omega) B _ J3 _ hS) ?_)))))
  clear hS
  rintro _ w ⟨J4,rfl,hJ4,hS⟩
  replace hx:=hx.mono hJ4
  refine .q 1 rfl (.nil (.seq (.q 1 rfl ?_)))
  refine WC.cond rfl (fun hb40=>?_) (fun hb40=>?_)
  ·
   refine .seq (.t 2 rfl (.val (.indexAddrI (.of rfl) (.of rfl) (by omega) (by omega) X7t Xy) rfl (.val (.ldsI (.of rfl) hS hx X5g Xy rfl (fun _ _ h=>h)) rfl (.q 1 rfl (.stA hS (k:=0) rfl (.of rfl) (.of rfl) rfl Xy rfl (by simp) ?_)))))
   clear hS; intro w hS
   try simp only [Yl,Yf,Yc,Y9,Yj,Yo,Yd] at hS
   refine .q 2 rfl (.nil (.ret (Xdy (b:=_) (cs:=[_,_,_,_,_,_,_,_]) Qr77 hS (k:=0) rfl X5g Xy rfl rfl rfl rfl ?_)))
   exact ⟨_,rfl,J4,u,_,_,_,Le.trans hJ (Le.trans hJ3 hJ4),rfl,⟨ra,rc,rfl,hrc,hr.mono (Le.trans hJ (Le.trans hJ3 hJ4))⟩,fun D2 hD2=>by rw [← hD.unique hD2,Xf7,if_neg (by omega),if_neg (by omega),Xiq hno hd (by rw [hgu]; exact hb40)]; simp only; rw [hgu]; try rfl,(hS.drop (k:=0) rfl)⟩
  refine .skip (.region (.run 3 rfl ⟨⟨by omega,by omega⟩,trivial⟩ (.nil ?_)))
  refine ⟨(j+1,J4),⟨rfl,rfl,rfl,rfl,trivial⟩,⟨by (try dsimp only); omega,fun q e hq he=>?_,Le.trans hJ3 hJ4,hS⟩,by (try dsimp only); omega⟩
  rcases Yr q j with h1 | h1
  ·exact hno q e h1 he
  ·have e2:q=j:=by (try dsimp only at hq); omega
   subst e2
   rw [hd] at he; cases he
   rw [hgu]; exact hb40
 have hc30:=hb30; try simp only [Y6] at hc30
 refine .exit (.seq (.region (.val (.build (cs:=[_,_,_,_,_,_,_,_]) X6 X2z rfl) rfl (.stA hS (k:=0) rfl (.of rfl) (.of rfl) rfl Xy rfl (by simp) ?_))))
 clear hS; intro w hS
 try simp only [Yl,Yf,Yc,Y9,Yj,Yo,Yd] at hS
 refine .q 2 rfl (.nil (.ret (Xdy (b:=_) (cs:=[_,_,_,_,_,_,_,_]) Qr77 hS (k:=0) rfl X5g Xy rfl rfl rfl rfl ?_)))
 exact ⟨_,rfl,J3,z0,_,_,_,Le.trans hJ hJ3,rfl,⟨none,0,rfl,Yt _,RS.nil _ _⟩,fun D2 hD2=>by rw [← hD.unique hD2,Xf7,if_neg (by omega),if_neg (by omega),Xq1 (fun q e he=>hno q e (by have:=(Y5.1 he).1; omega) he)]; try rfl,(hS.drop (k:=0) rfl)⟩
theorem Xde (a:Option Addr) (c:Nat) (l:List (List UInt8)) (hl:l.length≤1000000) (B w:World) (I:Im) (hr:RS I a 1 l.length (l.map S)) (As:List X8) (hS:Sat B w I As) :
  Calls Tryz.prog 129 [.slice a l.length c].toArray w (Ret fun v w'=>∃ J ra rc,v=.slice ra l.length rc∧Le I J∧l.length≤rc∧RS J ra 1 l.length (l.map S)∧Sat B w' J As):=by
 have fin:∀ (v:Value) (w':World) (n:Nat) (xs:List Value),n=l.length→xs=l.map S→Go.RowKit.Below w.heap.size w w'→w'.ownsRow w.heap.size 9 1 v n xs→∃ J ra rc,v=.slice ra l.length rc∧Le I J∧l.length≤rc∧RS J ra 1 l.length (l.map S)∧Sat B w' J As:=by
  intro v w' n xs hn hx hb ho
  subst hn; subst hx
  have h2:=hS.grownRow hb ho
  obtain ⟨ra,rc,rfl,h3,_⟩:=h2.vecSlice (k:=0) rfl
  obtain ⟨J,hJ,hRS,hS2⟩:=h2.freezeVec (k:=0) rfl
  exact ⟨J,ra,rc,rfl,hJ,h3,hRS,hS2⟩
 cases a with
 | none =>
  have h0:l=[]:=by
   rcases Y1n l.length with h | h
   ·exact Yh h
   ·obtain ⟨p,hp,_⟩:=hr.2 h; cases hp
  subst h0
  refine (Tryz.slices_Clone_string_nil 0 c w).mono fun e w' he=>?_
  obtain ⟨rfl,rfl⟩:=he
  exact ⟨_,rfl,I,none,0,rfl,Le.refl _,Yt _,RS.nil _ _,hS⟩
 | some p =>
  rcases Y1n l.length with h | h
  ·have h0:=Yh h
   subst h0
   refine (Tryz.slices_Clone_string_zero p c w).mono fun e w' he=>?_
   obtain ⟨v',rfl,ho,_,hb⟩:=he
   exact ⟨_,rfl,fin v' w' 0 [] rfl rfl hb ho⟩
  ·obtain ⟨q,hq,hA⟩:=hr.2 h
   injection hq with hq
   subst hq
   obtain ⟨b,off,sp⟩:=p
   have hsp:sp=none:=hA.1
   subst hsp
   refine (Tryz.slices_Clone_string b off l.length c (l.map fun x=>⟨x.toArray⟩) w (by rw [Yz]; exact Yt _) (by omega) (fun j hj=>?_)).mono fun e w' he=>?_
   ·rw [Yz] at hj
    have h2:=X2o hS hA (j:=j) (v:=S (l[j])) (by rw [Yy,Y4 hj]; rfl)
    rw [show (⟨b,off,none⟩:Addr).add j=⟨b,off+j,none⟩ from X19 b off j] at h2
    rw [h2,Y7,Yy,Y4 hj]
    rfl
   ·obtain ⟨v',rfl,ho,_,hb⟩:=he
    refine ⟨_,rfl,fin v' w' l.length _ rfl ?_ hb ho⟩
    rw [Yx (by rw [Yz]; exact Yt _),List.map_map]
    rfl
theorem Xqg (s:Sv) (a:Option Addr) (c:Nat) (hrl:s.rel.length≤1000000) (B w:World) (I:Im) (hr:RS I a 1 s.rel.length (s.rel.map S)) (As:List X8) (hS:Sat B w I As) :
  Calls Tryz.prog 88 [.agg [I64 s.id,F64 s.ord,S s.urls,.bool s.login,.bool s.proxy,.bool s.back,S s.calls,.slice a s.rel.length c].toArray].toArray w (Ret fun v w'=>∃ J cs,Le I J∧v=.agg (List.toArray cs)∧SvAt J s cs∧Sat B w' J As):=by
 refine calls Tryz.func88 rfl Tryz.ntmps88 rfl (.seq (.region (.boxA (cs:=[_,_,_,_,_,_,_,_]) hS (.of rfl) rfl ?_)))
 clear hS; intro b1 w hS
 refine .allocA (cs:=[_,_,_,_,_,_,_,_]) hS X7d rfl ?_
 clear hS; intro b2 w hS
 refine .nil (.seq (.region (.val (.fieldAddr 7 (.of rfl) X1t rfl rfl Xha rfl) rfl (.val (.ld (.of rfl) hS (k:=1) rfl Xio rfl) rfl (.call Tryz.func129 rfl (X0 (.of rfl) X4) rfl (Xde a c s.rel hrl B _ I hr _ hS) ?_)))))
 clear hS
 rintro _ w ⟨J,ra,rc,rfl,hJ,hrc,hrr,hS⟩
 refine .val (.fieldAddr 7 (.of rfl) X1t rfl rfl Xha rfl) rfl (.st1 hS (k:=1) rfl (.of rfl) (.of rfl) rfl Xha (by simp) ?_)
 clear hS; intro w hS
 refine .nil (.seq (.region (.val (.ldsW (cs:=[_,_,_,_,_,_,_,_]) (.of rfl) hS (k:=1) rfl X5g Xy rfl) rfl (.stA hS (k:=0) rfl (.of rfl) (.of rfl) rfl Xy rfl (by simp) ?_))))
 clear hS; intro w hS
 try simp only [Yl,Yf,Yc,Y9,Yj,Yo,Yd] at hS
 refine .nil (.ret (Xlj (b:=_) (cs:=[_,_,_,_,_,_,_,_]) Tryz.results88 hS (k:=0) rfl X5g Xy rfl rfl ?_))
 exact ⟨_,rfl,J,[I64 s.id,F64 s.ord,S s.urls,.bool s.login,.bool s.proxy,.bool s.back,S s.calls,.slice ra s.rel.length rc],hJ,rfl,⟨ra,rc,rfl,hrc,hrr⟩,(hS.drop (k:=0) rfl).drop (k:=0) rfl⟩
def X1l (s:Sv) (a:Option Addr) (c:Nat) (p q:Addr):List Value:=[I64 s.id,F64 s.ord,S s.urls,.bool s.login,.bool s.proxy,.bool s.back,S s.calls,.slice a s.rel.length c,.pointer (some p),.pointer (some q)]
def EntAt (I:Im) (s:Sv) (l:List Value):Prop:=∃ a c p q Q R,l=X1l s a c p q∧s.rel.length≤c∧RS I a 1 s.rel.length (s.rel.map S)∧cmp s.urls=.ok Q∧PatI I p Q s.urls.length∧cmp s.calls=.ok R∧PatI I q R s.calls.length
def EntsIn (I:Im) (a:Option Addr) (E:List (List Value)) (l:List Sv):Prop:=E.length=l.length∧∀ (i:Nat) (s:Sv),l[i]?=some s→∃ p c,a=some p∧E[i]?=some c∧At I (p.add (i*10)) c∧EntAt I s c
def Xfh (w:World) (I:Im) (a:Option Addr) (l:List Sv):Prop:=∀ (i:Nat) (s:Sv),l[i]?=some s→∃ p c,a=some p∧(∀ (j:Nat) v,c[j]?=some v→w.cell? ((p.add (i*10)).add j)=some v)∧EntAt I s c
theorem EntsIn.now {B w:World} {I:Im} {As:List X8} {a:Option Addr} {E:List (List Value)} {l:List Sv} (h:EntsIn I a E l) (hS:Sat B w I As):Xfh w I a l:=fun i s hs=>by
 obtain ⟨p,c,e,_,h1,h2⟩:=h.2 i s hs
 exact ⟨p,c,e,fun j v hj=>X2o hS h1 hj,h2⟩
theorem Xo3 {B w:World} {I:Im} {As:List X8} {k T cap:Nat} {a:Option Addr} {E:List (List Value)} {l:List Sv} (hS:Sat B w I As) (hk:As[k]?=some (Vec T 10 (.slice a l.length cap) l.length E.flatten)) (h10:∀ c∈E,c.length=10)
  (hE:∀ (i:Nat) (s:Sv),l[i]?=some s→∃ c,E[i]?=some c∧EntAt I s c):Xfh w I a l:=fun i s hs=>by
 obtain ⟨c,hc,he⟩:=hE i s hs
 have hi:=(Y5.1 hs).1
 obtain ⟨g,cap',rest,hv,_,_,_,_,hS2⟩:=hS.vecOpen hk (by omega)
 injection hv with hv1 hv2 hv3
 have hlk:k<As.length:=(Y5.1 hk).1
 have hb:w.heap[g]?=some (Xj (E.flatten ++ rest) T):=hS2.block (k:=k) (by simp [hlk,blk])
 refine ⟨⟨g,0,none⟩,c,hv1,fun j v hj=>?_,he⟩
 have hjl:j<10:=by
  have h1:=(Y5.1 hj).1
  rw [h10 c (Ym hc)] at h1
  exact h1
 rw [Addr.add_add,show (⟨g,0,none⟩:Addr).add (i*10+j)=ad g (0+(i*10+j)) from X19 g 0 _,Yd]
 refine X16 hb ?_
 have h2:=X4u E h10 i j hjl
 rw [hc] at h2
 have h3:E.flatten[i*10+j]?=some v:=h2.trans hj
 rw [Yg (Y5.1 h3).1]
 exact h3
theorem ldsC {P:Program} {n:Nat} {L:Env} {w:World} {ty:TypeId} {pos:String} {af:Array Edge} {g:Option (Nat×Bool)} {t:TypeId} {x:Operand} {d:Option Nat} {p:Addr} {s:Nat} {vs:List Value} (hx:Ev n L x (.pointer (some p))) (hv:∀ (j:Nat) v,vs[j]?=some v→w.cell? (p.add j)=some v) (ht:∀ w,(isAgg t).run P w=.ok true w) (hs:∀ w,(Go.sizeOf t).run P w=.ok s w)
  (hl:vs.length=s):Ex P n L w ⟨d,.load t x,ty,pos,af,g⟩ (.agg vs.toArray) w:=fun a ha=>by
 have h:=run_loadCells_list (P:=P) w p vs hv
 rw [hl] at h
 simp [execOp,hx a ha,Instr.loadAt,Instr.sureAddr,loadVar,ht,hs,h]
def X2k (pr:Sv→Bool):List Sv→Nat→Int
 | [],_=>-1
 | s::r,i=>if pr s then (i:Int) else X2k pr r (i+1)
theorem X60 (pr:Sv→Bool):∀ (n:Nat) (r:List Sv) (i:Nat),(∀ (j:Nat) s,j<n→r[j]?=some s→pr s=false)→X2k pr r i=X2k pr (r.drop n) (i+min n r.length)
 | 0,r,i,_=>by simp
 | n+1,[],i,_=>by simp [X2k]
 | n+1,s::r,i,h=>by
  rw [X2k,if_neg (by rw [h 0 s (by omega) rfl]; decide),X60 pr n r (i+1) (fun j t hj ht=>h (j+1) t (by omega) (by simpa using ht)),Y9,Y8]
  congr 1
  omega
theorem Xhh {pr:Sv→Bool} {l:List Sv} {i:Nat} {s:Sv} (h:∀ (j:Nat) t,j<i→l[j]?=some t→pr t=false) (hs:l[i]?=some s) (hp:pr s=true):X2k pr l 0=(i:Int):=by
 have hi:=(Y5.1 hs).1
 rw [X60 pr i l 0 h,Yd,Y3b (by omega),Y1d hi,(Y5.1 hs).2,X2k,if_pos hp]
theorem Xed {pr:Sv→Bool} {l:List Sv} (h:∀ (j:Nat) t,l[j]?=some t→pr t=false):X2k pr l 0=-1:=by
 rw [X60 pr l.length l 0 (fun j t _ ht=>h j t ht),Y34]
 rfl
theorem X6w (a:Option Addr) (cap:Nat) (l:List Sv) (hln:l.length≤100000) (pr:Sv→Bool) (fid:FuncId) (fn:Func) (hfn:Tryz.prog.funcs[fid]?=some fn) (hcal:Xo fn=true) (capv:List Value) (B w:World) (I:Im) (As:List X8) (hE:∀ w,Sat B w I As→Xfh w I a l) (hf:∀ (s:Sv) (c:List Value),EntAt I s c→∀ w,Sat B w I As→Calls Tryz.prog fid ([Value.agg c.toArray] ++ capv).toArray w (Ret fun v w'=>v=.bool (pr s)∧Sat B w' I As)) (hS:Sat B w I As) :
  Calls Tryz.prog 85 [.slice a l.length cap,.func (.func fid) #[] capv.toArray].toArray w (Ret fun v w'=>v=I64 (X2k pr l 0)∧Sat B w' I As):=by
 refine calls Tryz.func85 rfl Tryz.ntmps85 rfl (.seq (.q 1 rfl (.seq (.seq (.region (.run 3 rfl ⟨⟨_,X85⟩,trivial⟩ (.nil (.block (.loop (σ:=Nat) (fun i=>[(0,.slice a l.length cap),(1,.func (.func fid) #[] capv.toArray),(7,I64 (l.length:Nat)),(8,I64 (i:Nat))]) (fun i w=>i≤l.length∧(∀ (j:Nat) t,j<i→l[j]?=some t→pr t=false)∧Sat B w I As) (fun i=>l.length - i) 0 ⟨rfl,rfl,rfl,rfl,trivial⟩ ⟨Yp _,fun _ _ h=>absurd h (by omega),hS⟩ ?_)))))))))
 rintro i w ⟨hi,hno,hS⟩
 refine .seq (.q 1 rfl (.seq ?_))
 refine WC.cond rfl (fun hb9=>?_) (fun hb9=>?_)
 ·
  have hc9:=hb9; try simp only [Y6] at hc9
  refine .skip (.seq (.block (.seq ?_)))
  obtain ⟨s,hs⟩:∃ s,l[i]?=some s:=⟨_,Y4 (by omega)⟩
  obtain ⟨p,c,rfl,hx,he⟩:=hE w hS i s hs
  have he2:=he
  obtain ⟨ra,rc,pp,qq,Q,R,rfl,_⟩:=he2
  unfold X1l at hx he
  refine .q 2 rfl (.seq (.t 3 rfl (.val (.indexAddrI (.of rfl) (.of rfl) (by omega) (by omega) X85 X3e) rfl (.val (ldsC (.of rfl) hx Xdv X3e rfl) rfl (.vcall (cap:=capv) hfn hcal (.of rfl) (X0 (.of rfl) X4) rfl (hf s _ he w hS) ?_)))))
  clear hS
  rintro _ w ⟨rfl,hS⟩
  refine .nil (WC.cond rfl (fun hb16=>?_) (fun hb16=>?_))
  ·
   refine .seq (.q 2 rfl (.ret (X9 Tryz.results85 rfl ?_)))
   exact ⟨_,rfl,by rw [Xhh hno hs hb16],hS⟩
  have hc16:=hb16; try simp only [Y6] at hc16
  refine .skip (.region (.run 2 rfl ⟨⟨by omega,by omega⟩,trivial⟩ (.nil ?_)))
  refine ⟨i+1,⟨rfl,rfl,rfl,rfl,trivial⟩,⟨by omega,fun j t hj ht=>?_,hS⟩,by omega⟩
  rcases Yr j i with h1 | h1
  ·exact hno j t h1 ht
  ·have e:j=i:=by omega
   subst e
   rw [hs] at ht; cases ht
   exact hb16
 have hc9:=hb9; try simp only [Y6] at hc9
 refine .exit (.seq (.q 1 rfl (.ret (X9 Tryz.results85 rfl ?_))))
 exact ⟨_,rfl,by rw [Xed (fun j t ht=>hno j t (by have:=(Y5.1 ht).1; omega) ht)],hS⟩
theorem X86 (a:Option Addr) (cap:Nat) (l:List Sv) (hln:l.length≤100000) (pr:Sv→Bool) (fid:FuncId) (fn:Func) (hfn:Tryz.prog.funcs[fid]?=some fn) (hcal:Xo fn=true) (capv:List Value) (B w:World) (I:Im) (As:List X8) (hE:∀ w,Sat B w I As→Xfh w I a l) (hf:∀ (s:Sv) (c:List Value),EntAt I s c→∀ w,Sat B w I As→Calls Tryz.prog fid ([Value.agg c.toArray] ++ capv).toArray w (Ret fun v w'=>v=.bool (pr s)∧Sat B w' I As)) (hS:Sat B w I As) :
  Calls Tryz.prog 167 [.slice a l.length cap,.func (.func fid) #[] capv.toArray].toArray w (Ret fun v w'=>v=.bool (decide (0≤X2k pr l 0))∧Sat B w' I As):=by
 refine calls Tryz.func167 rfl Tryz.ntmps167 rfl (.seq (.q 1 rfl (.seq (.t 2 rfl (.call Tryz.func85 rfl (X0 (.of rfl) (X0 (.of rfl) X4)) rfl (X6w a cap l hln pr fid fn hfn hcal capv B _ I As hE hf hS) ?_)))))
 clear hS
 rintro _ w ⟨rfl,hS⟩
 refine .q 2 rfl (.nil (.ret (X9 Tryz.results167 rfl ?_)))
 exact ⟨_,rfl,rfl,hS⟩
end Go.Proofs.YtadhiihnnkcagaaGreatDoor
namespace Go.Proofs.YtadhiihnnkcagaaGreatDoor
open Gk Ul Pc Tk Tr
def Xf (l:List Rec):List Value:=(l.map X7).flatten
theorem X8x (l:List Rec):(Xf l).length=l.length*10:=by
 unfold Xf
 induction l with
 | nil=>rfl
 | cons r l ih=>rw [Y1e,Y1s,Y0,ih,Y8,show (X7 r).length=10 from rfl]; omega
def RecsW (w:World) (a:Option Addr) (l:List Rec):Prop:=∀ (i:Nat) (r:Rec),l[i]?=some r→∃ p,a=some p∧(∀ (j:Nat) v,(X7 r)[j]?=some v→w.cell? ((p.add (i*10)).add j)=some v)
theorem Xkp {l:List Rec} {i j:Nat} {r:Rec} {v:Value} (hr:l[i]?=some r) (hj:(X7 r)[j]?=some v):(Xf l)[i*10+j]?=some v:=by
 have h2:=X4u (l.map X7) (fun c hc=>by obtain ⟨x,_,rfl⟩:=Y26.1 hc; rfl) i j (show j<10 from (Y5.1 hj).1)
 rw [Yy,hr] at h2
 exact h2.trans hj
theorem X2s {B w:World} {I:Im} {As:List X8} {k T cap:Nat} {a:Option Addr} {l:List Rec} (hS:Sat B w I As) (hk:As[k]?=some (Vec T 10 (.slice a l.length cap) l.length (Xf l))):RecsW w a l:=fun i r hr=>by
 have hi:=(Y5.1 hr).1
 obtain ⟨g,cap',rest,hv,_,_,_,_,hS2⟩:=hS.vecOpen hk (by omega)
 injection hv with hv1 hv2 hv3
 have hlk:k<As.length:=(Y5.1 hk).1
 have hb:w.heap[g]?=some (Xj (Xf l ++ rest) T):=hS2.block (k:=k) (by simp [hlk,blk])
 refine ⟨⟨g,0,none⟩,hv1,fun j v hj=>?_⟩
 rw [Addr.add_add,show (⟨g,0,none⟩:Addr).add (i*10+j)=ad g (0+(i*10+j)) from X19 g 0 _,Yd]
 refine X16 hb ?_
 have h3:=Xkp hr hj
 rw [Yg (Y5.1 h3).1]
 exact h3
theorem ldC {P:Program} {n:Nat} {L:Env} {w:World} {ty:TypeId} {pos:String} {af:Array Edge} {g:Option (Nat×Bool)} {t:TypeId} {x:Operand} {d:Option Nat} {p:Addr} {v:Value} (hx:Ev n L x (.pointer (some p))) (hv:w.cell? p=some v) (ht:∀ w,(isAgg t).run P w=.ok false w):Ex P n L w ⟨d,.load t x,ty,pos,af,g⟩ v w:=fun a hh=>by
 simp [execOp,hx a hh,Instr.loadAt,Instr.sureAddr,loadVar,ht,load,Sem.run,hv]
theorem Ex.slNil {P:Program} {n:Nat} {L:Env} {w:World} {ty t':TypeId} {pos:String} {af:Array Edge} {g:Option (Nat×Bool)} {t e:TypeId} {x y:Operand} {d:Option Nat} {a:Option Addr} {m c:Nat} (hx:Ev n L x (.slice a m c)) (hy:Ev n L y (.slice none 0 0)) (hT:P.underlying t=some (.slice e)):Ex P n L w ⟨d,.binOp .eql t x y t',ty,pos,af,g⟩ (.bool a.isNone) w :=
 X17 hx hy (fun _ _=>by unfold eqGuard; split <;> simp) (run_eql_slice_nil w t e a m c hT)
theorem SepAll.app:∀ {Xs As:List X8} {h:Xaf},SepAll (Xs ++ As) h ↔ ∃ h1 h2,h=h1 ++ h2∧SepAll Xs h1∧SepAll As h2
 | [],As,h=>⟨fun hs=>⟨[],h,rfl,rfl,hs⟩,fun ⟨h1,h2,e,h3,h4⟩=>by
   have h3:h1=[]:=h3
   subst h3; subst e; exact h4⟩
 | X::Xs,As,h=>by
  constructor
  ·rintro ⟨h1,h2,rfl,hx,hs⟩
   obtain ⟨h3,h4,rfl,h5,h6⟩:=(SepAll.app (Xs:=Xs)).1 hs
   exact ⟨h1 ++ h3,h4,by rw [Ye],⟨h1,h3,rfl,hx,h5⟩,h6⟩
  ·rintro ⟨h1,h2,rfl,⟨h3,h4,rfl,hx,h5⟩,h6⟩
   exact ⟨h3,h4 ++ h2,by rw [Ye],hx,(SepAll.app (Xs:=Xs)).2 ⟨h4,h2,rfl,h5,h6⟩⟩
def Box {X:Type} (T:X→List X8):X8:=fun h=>∃ x,SepAll (T x) h
theorem Sat.unbox {X:Type} {T:X→List X8} {B w:World} {I:Im} {As:List X8} (hS:Sat B w I (Box T::As)):∃ x,Sat B w I (T x ++ As):=by
 obtain ⟨h,⟨h1,h2,rfl,⟨x,hx⟩,h3⟩,hg⟩:=hS
 exact ⟨x,h1 ++ h2,SepAll.app.2 ⟨h1,h2,rfl,hx,h3⟩,hg⟩
theorem Sat.box {X:Type} {T:X→List X8} {B w:World} {I:Im} {As:List X8} (x:X) (hS:Sat B w I (T x ++ As)):Sat B w I (Box T::As):=by
 obtain ⟨h,hs,hg⟩:=hS
 obtain ⟨h1,h2,rfl,h3,h4⟩:=SepAll.app.1 hs
 exact ⟨h1 ++ h2,⟨h1,h2,rfl,⟨x,h3⟩,h4⟩,hg⟩
theorem X5k (a:Option Addr) (cap:Nat) (l:List Rec) (hln:l.length≤100000) (pr:Rec→Bool) (fid:FuncId) (fn:Func) (hfn:Tryz.prog.funcs[fid]?=some fn) (hcal:Xo fn=true) (capv:List Value) (B w:World) (I:Im) (As:List X8) (hE:∀ w,Sat B w I As→RecsW w a l) (hf:∀ (r:Rec) w,Sat B w I As→Calls Tryz.prog fid ([Value.agg (X7 r).toArray] ++ capv).toArray w (Ret fun v w'=>v=.bool (pr r)∧Sat B w' I As)) (hS:Sat B w I As) :
  Calls Tryz.prog 109 [.slice a l.length cap,.func (.func fid) #[] capv.toArray].toArray w (Ret fun v w'=>v=I64 (X24 pr l 0)∧Sat B w' I As):=by
 refine calls Tryz.func109 rfl Tryz.ntmps109 rfl (.seq (.q 1 rfl (.seq (.seq (.region (.run 3 rfl ⟨⟨_,X29⟩,trivial⟩ (.nil (.block (.loop (σ:=Nat) (fun i=>[(0,.slice a l.length cap),(1,.func (.func fid) #[] capv.toArray),(7,I64 (l.length:Nat)),(8,I64 (i:Nat))]) (fun i w=>i≤l.length∧(∀ (j:Nat) t,j<i→l[j]?=some t→pr t=false)∧Sat B w I As) (fun i=>l.length - i) 0 ⟨rfl,rfl,rfl,rfl,trivial⟩ ⟨Yp _,fun _ _ h=>absurd h (by omega),hS⟩ ?_)))))))))
 rintro i w ⟨hi,hno,hS⟩
 refine .seq (.q 1 rfl (.seq ?_))
 refine WC.cond rfl (fun hb9=>?_) (fun hb9=>?_)
 ·
  have hc9:=hb9; try simp only [Y6] at hc9
  refine .skip (.seq (.block (.seq ?_)))
  obtain ⟨r,hr⟩:∃ r,l[i]?=some r:=⟨_,Y4 (by omega)⟩
  obtain ⟨p,rfl,hx⟩:=hE w hS i r hr
  refine .q 2 rfl (.seq (.t 3 rfl ?_))
  refine WL.val (.indexAddrI (.of rfl) (.of rfl) (by omega) (by omega) X29 Xw) rfl (.val (ldsC (.of rfl) hx X36 Xw rfl) rfl (.vcall (cap:=capv) hfn hcal (.of rfl) (X0 (.of rfl) X4) rfl (hf r w hS) ?_))
  clear hS
  rintro _ w ⟨rfl,hS⟩
  refine .nil (WC.cond rfl (fun hb16=>?_) (fun hb16=>?_))
  ·
   refine .seq (.q 2 rfl (.ret (X9 Tryz.results109 rfl ?_)))
   exact ⟨_,rfl,by rw [X54 hno hr hb16],hS⟩
  have hc16:=hb16; try simp only [Y6] at hc16
  refine .skip (.region (.run 2 rfl ⟨⟨by omega,by omega⟩,trivial⟩ (.nil ?_)))
  refine ⟨i+1,⟨rfl,rfl,rfl,rfl,trivial⟩,⟨by omega,fun j t hj ht=>?_,hS⟩,by omega⟩
  rcases Yr j i with h1 | h1
  ·exact hno j t h1 ht
  ·have e:j=i:=by omega
   subst e
   rw [hr] at ht; cases ht
   exact hb16
 have hc9:=hb9; try simp only [Y6] at hc9
 refine .exit (.seq (.q 1 rfl (.ret (X9 Tryz.results109 rfl ?_))))
 exact ⟨_,rfl,by rw [X3o (fun j t ht=>hno j t (by have:=(Y5.1 ht).1; omega) ht)],hS⟩
theorem Xrg (r:Rec) (name:List UInt8) (b:Nat) (B w:World) (I:Im) (As:List X8) (hS:Sat B w I (blk b [S name] 9::As)) :
  Calls Tryz.prog 110 [.agg (X7 r).toArray,ptr b 0].toArray w (Ret fun v w'=>v=.bool (decide (r.name=name))∧Sat B w' I (blk b [S name] 9::As)):=by
 refine calls Tryz.func110 rfl Tryz.ntmps110 rfl (.seq (.region (.boxA (cs:=[_,_,_,_,_,_,_,_,_,_]) hS (.of rfl) rfl ?_)))
 clear hS; intro b2 w hS
 refine .q 1 rfl (.nil (.seq (.region ?_)))
 refine WL.val (.fieldAddr 1 (.of rfl) X15 rfl rfl Qs9 rfl) rfl (WL.val (.ld (.of rfl) hS (k:=0) rfl Qg9 rfl) rfl (WL.val (.ld (.of rfl) hS (k:=1) rfl Qg9 rfl) rfl (.q 2 rfl (.nil (.ret (X9 Tryz.results110 rfl ?_))))))
 exact ⟨_,rfl,congrArg Value.bool (by rw [Y2y]; simp),hS.drop (k:=0) rfl⟩
theorem X8r (tb:Nat) (room:Int) (a:Option Addr) (c:Nat) (l:List Rec) (hl:l.length≤100000) (name:List UInt8) (B w:World) (I:Im) (As:List X8) (hS:Sat B w I (blk tb [I64 room,.slice a l.length c] 127::Vec 45 10 (.slice a l.length c) l.length (Xf l)::As)) :
  Calls Tryz.prog 61 [ptr tb 0,S name].toArray w (Ret fun v w'=>v=I64 (at0 l name)∧Sat B w' I (blk tb [I64 room,.slice a l.length c] 127::Vec 45 10 (.slice a l.length c) l.length (Xf l)::As)):=by
 refine calls Xpl rfl Tryz.ntmps61 rfl (.seq (.region (.box1 hS (.of rfl) rfl rfl ?_)))
 clear hS; intro b3 w hS
 refine .q 1 rfl (.nil (.seq (.t 2 rfl ?_)))
 refine WL.val (.fieldAddr 1 (.of rfl) X5s rfl rfl X3i rfl) rfl (WL.val (.ld (.of rfl) hS (k:=1) rfl X7l rfl) rfl (.val (.makeFunc (X0 (.of rfl) X4)) rfl (.call Tryz.func109 rfl (X0 (.of rfl) (X0 (.of rfl) X4)) rfl (X5k a c l hl (fun r=>decide (r.name=name)) 110 _ Tryz.func110 rfl [ptr b3 0] B _ I (blk b3 [S name] 9::(blk tb [I64 room,.slice a l.length c] 127::Vec 45 10 (.slice a l.length c) l.length (Xf l)::As)) (fun w h=>X2s h (k:=2) rfl) (fun r w h=>Xrg r name b3 B w I _ h) hS) ?_)))
 clear hS
 rintro _ w ⟨rfl,hS⟩
 refine .q 1 rfl (.nil (.ret (X9 Tryz.results61 rfl ?_)))
 exact ⟨_,rfl,by rw [X8b]; rfl,hS.drop (k:=0) rfl⟩
theorem X2e:Bld Tryz.prog 45 [(0,1),(1,1),(2,1),(3,1),(4,1),(5,1),(6,1),(7,1),(8,1),(9,1)] [.int .i64 0,S [],S [],S [],S [],S [],.int .i64 0,.int .i64 0,.int .i64 0,.bool false]:=X2l X15 X5q (fun w=>by simp [go_sem])
theorem Xfi (tb:Nat) (room:Int) (a:Option Addr) (c:Nat) (l:List Rec) (hl:l.length≤100000) (name:List UInt8) (B w:World) (I:Im) (As:List X8) (hS:Sat B w I (blk tb [I64 room,.slice a l.length c] 127::Vec 45 10 (.slice a l.length c) l.length (Xf l)::As)) :
  Calls Tryz.prog 17 [ptr tb 0,S name].toArray w (Ret fun v w'=>v=.tuple #[.agg (X7 (getD l name)).toArray,.bool (get l name).isSome]∧Sat B w' I (blk tb [I64 room,.slice a l.length c] 127::Vec 45 10 (.slice a l.length c) l.length (Xf l)::As)):=by
 refine calls Qf17 rfl Tryz.ntmps17 rfl (.seq (.region (.allocA (cs:=[_,_,_,_,_,_,_,_,_,_]) hS X5q rfl ?_)))
 clear hS; intro b4 w hS
 refine .q 1 rfl (.nil (.seq (.seq (.t 2 rfl (.call Xpl rfl (X0 (.of rfl) (X0 (.of rfl) X4)) rfl (X8r tb room a c l hl name B _ I _ ((hS.pick 2 rfl).pick 2 rfl)) ?_)))))
 clear hS
 rintro _ w ⟨rfl,hS⟩
 replace hS:=hS.pick 2 rfl
 refine .q 1 rfl (.nil (.seq (.q 2 rfl ?_)))
 refine WC.cond rfl (fun hb11=>?_) (fun hb11=>?_)
 ·
  refine .seq ?_
  have hq:0≤at0 l name:=by simpa using hb11
  obtain ⟨j,r,hj,hr,hn⟩:∃ (j:Nat) (r:Rec),at0 l name=(j:Int)∧l[j]?=some r∧get l name=some r:=by
   rcases Tr.get_at l name with ⟨h1,_⟩ | ⟨j,r,h1,h2,_,h3⟩
   ·omega
   ·exact ⟨j,r,h1,h2,h3⟩
  have hjl:=(Y5.1 hr).1
  obtain ⟨p,rfl,hx⟩:=X2s hS (k:=2) rfl j r hr
  rw [hj]
  refine .t 2 rfl (WL.val (.fieldAddr 1 (.of rfl) X5s rfl rfl X3i rfl) rfl (WL.val (.ld (.of rfl) hS (k:=1) rfl X7l rfl) rfl (.q 1 rfl (WL.val (.indexAddrI (.of rfl) (.of rfl) (by omega) (by omega) X29 Xw) rfl (.val (ldsC (.of rfl) hx X36 Xw rfl) rfl (WL.stA hS (k:=0) rfl (.of rfl) (.of rfl) rfl Xw rfl (by simp) ?_))))))
  clear hS; intro w hS
  try simp only [Yl,Yf,Yc,Y9,Yj,Yo,Yd] at hS
  refine .q 1 rfl (.nil (.ret ?_))
  refine X1v (b:=_) (cs:=[_,_,_,_,_,_,_,_,_,_]) Tryz.results17 hS (k:=0) rfl X36 Xw rfl rfl rfl ?_
  exact ⟨_,rfl,by rw [getD,hn]; rfl,hS.drop (k:=0) rfl⟩
 refine .skip (.seq (.region (.val (.build (cs:=[_,_,_,_,_,_,_,_,_,_]) X6 X2e rfl) rfl ?_)))
 refine WL.stA hS (k:=0) rfl (.of rfl) (.of rfl) rfl Xw rfl (by simp) ?_
 clear hS; intro w hS
 try simp only [Yl,Yf,Yc,Y9,Yj,Yo,Yd] at hS
 refine .q 1 rfl (.nil (.ret ?_))
 refine X1v (b:=_) (cs:=[_,_,_,_,_,_,_,_,_,_]) Tryz.results17 hS (k:=0) rfl X36 Xw rfl rfl rfl (⟨_,rfl,?_,hS.drop (k:=0) rfl⟩)
 rcases Tr.get_at l name with ⟨h1,h2⟩ | ⟨j,r,h1,_⟩
 ·rw [getD,h2]; rfl
 ·exfalso; rw [h1] at hb11; simp at hb11
theorem X6b {l:List Rec} {i:Nat} {r:Rec} (hr:l[i]?=some r) (name:List UInt8):X2h (l.take (i+1)) name=X2h (l.take i) name ++ (if name≠[]∧r.parent=name then [r.name] else []):=by
 unfold X2h Xh9
 rw [Y15,hr,Y20,Y3a,Yw]
 congr 1
 by_cases h1:name=[]
 ·simp [h1]
 ·by_cases h2:r.parent=name
  ·simp [h1,h2]
  ·simp [h1,h2]
theorem Xbd (l:List Rec) (name:List UInt8):(X2h l name).length≤l.length:=by
 unfold X2h Xh9
 rw [Yz]
 exact List.length_filter_le _ _
theorem Xmc (tb:Nat) (room:Int) (a:Option Addr) (c:Nat) (l:List Rec) (hl:l.length≤100000) (name:List UInt8) (B w:World) (I:Im) (As:List X8) (hS:Sat B w I (blk tb [I64 room,.slice a l.length c] 127::Vec 45 10 (.slice a l.length c) l.length (Xf l)::As)) :
  Calls Tryz.prog 140 [ptr tb 0,S name].toArray w (Ret fun v w'=>∃ J ra rc,v=.slice ra (X2h l name).length rc∧Le I J∧(X2h l name).length≤rc∧RS J ra 1 (X2h l name).length ((X2h l name).map S)∧Sat B w' J (blk tb [I64 room,.slice a l.length c] 127::Vec 45 10 (.slice a l.length c) l.length (Xf l)::As)):=by
 refine calls Tryz.func140 rfl Tryz.ntmps140 rfl (.seq (.q 1 rfl (.seq (.q 1 rfl (.seq (.seq ?_))))))
 replace hS:=hS.vecNil 9 1
 refine .t 2 rfl (WL.val (.fieldAddr 1 (.of rfl) X5s rfl rfl X3i rfl) rfl (WL.val (.ld (.of rfl) hS (k:=1) rfl X7l rfl) rfl (.run 2 rfl ⟨⟨_,X29⟩,trivial⟩ (.nil (.block (.loop (σ:=Value×Nat) (fun ⟨kv,i⟩=>[(0,ptr tb 0),(1,S name),(5,kv),(11,.slice a l.length c),(12,I64 (l.length:Nat)),(13,I64 (i:Nat))]) (fun ⟨kv,i⟩ w=>i≤l.length∧Sat B w I (Vec 9 1 kv (X2h (l.take i) name).length ((X2h (l.take i) name).map S)::blk tb [I64 room,.slice a l.length c] 127::Vec 45 10 (.slice a l.length c) l.length (Xf l)::As)) (fun ⟨kv,i⟩=>l.length - i) (.slice none 0 0,0) ⟨rfl,rfl,rfl,rfl,rfl,rfl,trivial⟩ ⟨Yp _,hS⟩ ?_))))))
 rintro ⟨kv,i⟩ w ⟨hi,hS⟩
 refine .seq (.q 1 rfl (.seq ?_))
 refine WC.cond rfl (fun hb14=>?_) (fun hb14=>?_)
 ·
  have hc14:=hb14; try simp only [Y6] at hc14
  refine .skip (.seq (.block (.seq ?_)))
  obtain ⟨r,hr⟩:∃ r,l[i]?=some r:=⟨_,Y4 (by omega)⟩
  obtain ⟨p,rfl,hx⟩:=X2s hS (k:=2) rfl i r hr
  have hkl:=Xbd (l.take i) name
  rw [Yu] at hkl
  refine .region (WL.val (.indexAddrI (.of rfl) (.of rfl) (by omega) (by omega) X29 Xw) rfl (.val (ldsC (.of rfl) hx X36 Xw rfl) rfl (.allocA (cs:=[_,_,_,_,_,_,_,_,_,_]) hS X5q rfl ?_)))
  clear hS; intro b7 w hS
  refine WL.stA hS (k:=0) rfl (.of rfl) (.of rfl) rfl Xw rfl (by simp) ?_
  clear hS; intro w hS
  try simp only [Yl,Yf,Yc,Y9,Yj,Yo,Yd] at hS
  refine .nil (.seq (.t 3 rfl ?_))
  refine WL.gval rfl rfl (fun hg1=>(by exact .fieldAddr 2 (.of rfl) X15 rfl rfl Qs9 rfl)) rfl ?_
  refine WL.gval rfl rfl (fun hg1=>(by exact (.ld (.gd hg1 rfl) hS (k:=0) rfl Qg9 rfl))) rfl ?_
  refine .gval rfl rfl (fun hg1=>(.move (.of rfl))) rfl (.gval rfl rfl (fun hg1=>(.eqs (.gd hg1 rfl) (.gd hg1 rfl))) rfl (.val (.pand (.of rfl) (.of rfl) (.of rfl)) rfl (.nil ?_)))
  refine WC.cond rfl (fun hb24=>?_) (fun hb24=>?_)
  ·
   have hc24:=hb24; try simp only [Y6] at hc24
   refine .t 1 rfl (WL.val (.fieldAddr 1 (.of rfl) X15 rfl rfl Qs9 rfl) rfl (WL.val (.ld (.of rfl) hS (k:=0) rfl Qg9 rfl) rfl (.buildSlice (cs:=[_]) hS (X5 (.of rfl) X6) X1p Qs9 Qz9 rfl rfl rfl rfl ?_)))
   clear hS; intro b28 w hS
   refine WL.append (size:=1) (bytes:=16) hS (.of rfl) (.of rfl) (k:=1) rfl X1p X1o rfl rfl rfl rfl rfl rfl rfl ⟨by omega,by unfold maxLen; omega⟩ rfl ?_
   clear hS; intro v29 w hS
   obtain ⟨a29,c29,rfl,hcap29,_⟩:=hS.vecSlice (k:=1) (v:=v29) rfl
   refine .q 1 rfl (.nil (.region (.run 2 rfl ⟨⟨by omega,by omega⟩,trivial⟩ (.nil ?_))))
   have e:=X6b hr name
   rw [if_pos (by simpa using hb24)] at e
   refine ⟨(.slice a29 ((X2h (l.take i) name).length+1) c29,i+1),⟨rfl,rfl,rfl,rfl,rfl,rfl,trivial⟩,⟨by (try dsimp only); omega,?_⟩,by (try dsimp only); omega⟩
   rw [e,Y0,Yw]
   exact hS.drop (k:=0) rfl
  have hc24:=hb24; try simp only [Y6] at hc24
  refine .skip (.region (.run 2 rfl ⟨⟨by omega,by omega⟩,trivial⟩ (.nil ?_)))
  have e:=X6b hr name
  rw [if_neg (by simpa using hb24),Yc] at e
  refine ⟨(kv,i+1),⟨rfl,rfl,rfl,rfl,rfl,rfl,trivial⟩,⟨by (try dsimp only); omega,?_⟩,by (try dsimp only); omega⟩
  rw [e]
  exact hS.drop (k:=0) rfl
 have hc14:=hb14; try simp only [Y6] at hc14
 refine .exit (.seq (.q 2 rfl (.ret (X9 Tryz.results140 rfl ?_))))
 have hin:i=l.length:=by omega
 subst hin
 rw [Y1b] at hS
 obtain ⟨ka,kc,rfl,hkc,_⟩:=hS.vecSlice (k:=0) rfl
 obtain ⟨J,hJ,hRS,hS⟩:=hS.freezeVec (k:=0) rfl
 exact ⟨_,rfl,J,ka,kc,rfl,hJ,hkc,hRS,hS⟩
theorem Xgj (l:List Rec):∀ (f:Nat) (i:Int),(X49 l f i).length≤f
 | 0,_=>by simp [X49]
 | f+1,i=>by
  rw [X49]
  split
  ·simp
  ·cases l[i.toNat]? with
   | none=>simp
   | some r =>
    have h:=Xgj l f (at0 l r.parent)
    simp only [Y8]; omega
theorem Xcj {l:List Rec} (h:Wf l) (name:List UInt8):(path l name).length≤l.length:=by
 unfold path Xdo
 rcases X2r l name with ⟨h1,_⟩ | ⟨j,r,h1,h2,_⟩
 ·rw [h1,X3j l _ (by omega)]; simp
 ·have h3:=(Y5.1 h2).1
  have h4:=Xgj l ((at0 l name).toNat+1) (at0 l name)
  rw [h1] at h4 ⊢
  omega
theorem Xnk (tb:Nat) (room:Int) (a:Option Addr) (c:Nat) (l:List Rec) (hl:l.length≤100000) (hwf:Wf l) (name:List UInt8) (B w:World) (I:Im) (As:List X8) (hS:Sat B w I (blk tb [I64 room,.slice a l.length c] 127::Vec 45 10 (.slice a l.length c) l.length (Xf l)::As)) :
  Calls Tryz.prog 80 [ptr tb 0,S name].toArray w (Ret fun v w'=>∃ J ra rc,v=.slice ra (path l name).length rc∧Le I J∧(path l name).length≤rc∧RS J ra 1 (path l name).length ((path l name).map fun r=>S r.name)∧Sat B w' J (blk tb [I64 room,.slice a l.length c] 127::Vec 45 10 (.slice a l.length c) l.length (Xf l)::As)):=by
 refine calls Tryz.func80 rfl Tryz.ntmps80 rfl (.seq (.q 1 rfl (.seq (.q 1 rfl (.seq (.seq (.t 2 rfl (.call Xpl rfl (X0 (.of rfl) (X0 (.of rfl) X4)) rfl (X8r tb room a c l hl name B _ I _ hS) ?_))))))))
 clear hS
 rintro _ w ⟨rfl,hS⟩
 replace hS:=hS.vecNil 9 1
 refine .q 1 rfl (.nil (.block (.loop (σ:=Value×Int×List Rec) (fun ⟨kv,i,D⟩=>[(0,ptr tb 0),(1,S name),(5,kv),(6,I64 i)]) (fun ⟨kv,i,D⟩ w=>path l name=D ++ Xdo l i∧-1≤i∧i<l.length∧Sat B w I (Vec 9 1 kv D.length (D.map fun r=>S r.name)::blk tb [I64 room,.slice a l.length c] 127::Vec 45 10 (.slice a l.length c) l.length (Xf l)::As)) (fun ⟨kv,i,D⟩=>(i+1).toNat) (.slice none 0 0,at0 l name,[]) ⟨rfl,rfl,rfl,rfl,trivial⟩ ⟨rfl,Xkr l name,Xck l name,hS⟩ ?_)))
 rintro ⟨kv,i,D⟩ w ⟨hp2,hi1,hi2,hS⟩
 refine .seq (.seq (.q 2 rfl ?_))
 refine WC.cond rfl (fun hb11=>?_) (fun hb11=>?_)
 ·
  refine .skip (.seq (.block ?_))
  obtain ⟨q,rfl⟩:∃ q:Nat,i=(q:Int):=⟨i.toNat,by simp at hb11; omega⟩
  obtain ⟨r,hr⟩:∃ r,l[q]?=some r:=⟨_,Y4 (by omega)⟩
  obtain ⟨p,rfl,hx⟩:=X2s hS (k:=2) rfl q r hr
  have hql:q<l.length:=by omega
  have hup:=(hwf.up q r hr).2
  have hDl:D.length≤l.length:=by have h1:=Xcj hwf name; rw [hp2,Y0] at h1; omega
  refine .t 3 rfl (WL.val (.fieldAddr 1 (.of rfl) X5s rfl rfl X3i rfl) rfl (WL.val (.ld (.of rfl) hS (k:=1) rfl X7l rfl) rfl (.q 1 rfl (WL.val (.indexAddrI (.of rfl) (.of rfl) (by omega) (by omega) X29 Xw) rfl (WL.val (.fieldAddrI 1 (.of rfl) X15 rfl rfl Qs9 rfl) rfl (.val (ldC (.of rfl) (hx 1 _ rfl) Qg9) rfl (.buildSlice (cs:=[_]) hS (X5 (.of rfl) X6) X1p Qs9 Qz9 rfl rfl rfl rfl ?_)))))))
  clear hS; intro b31 w hS
  refine WL.append (size:=1) (bytes:=16) hS (.of rfl) (.of rfl) (k:=0) rfl X1p X1o rfl rfl rfl rfl rfl rfl rfl ⟨by omega,by unfold maxLen; omega⟩ rfl ?_
  clear hS; intro v32 w hS
  obtain ⟨a32,c32,rfl,hcap32,_⟩:=hS.vecSlice (k:=0) (v:=v32) rfl
  refine .q 1 rfl (.nil ?_)
  obtain ⟨p9,hp9,hx⟩:=X2s hS (k:=2) rfl q r hr
  cases hp9
  refine .t 3 rfl (WL.val (.fieldAddr 1 (.of rfl) X5s rfl rfl X3i rfl) rfl (WL.val (.ld (.of rfl) hS (k:=1) rfl X7l rfl) rfl (.q 1 rfl (WL.val (.indexAddrI (.of rfl) (.of rfl) (by omega) (by omega) X29 Xw) rfl (WL.val (.fieldAddrI 2 (.of rfl) X15 rfl rfl Qs9 rfl) rfl (.val (ldC (.of rfl) (hx 2 _ rfl) Qg9) rfl (.call Xpl rfl (X0 (.of rfl) (X0 (.of rfl) X4)) rfl (X8r tb room (some p) c l hl r.parent B _ I _ ((hS.pick 2 rfl).pick 2 rfl)) ?_)))))))
  clear hS
  rintro _ w ⟨rfl,hS⟩
  refine .q 1 rfl (.nil ?_)
  refine ⟨(.slice a32 (D.length+1) c32,at0 l r.parent,D ++ [r]),⟨rfl,rfl,rfl,rfl,trivial⟩,⟨by (try dsimp only); rw [hp2,Xc1 hwf hr,Ye]; rfl,Xkr l _,Xck l _,?_⟩,by (try dsimp only); omega⟩
  rw [Y0,Yw]
  exact (hS.pick 2 rfl)
 refine .exit (.seq (.q 2 rfl (.ret (X9 Tryz.results80 rfl ?_))))
 have hin:i<0:=by simp at hb11; omega
 rw [X6t l hin,Yc] at hp2
 subst hp2
 obtain ⟨ka,kc,rfl,hkc,_⟩:=hS.vecSlice (k:=0) rfl
 obtain ⟨J,hJ,hRS,hS⟩:=hS.freezeVec (k:=0) rfl
 exact ⟨_,rfl,J,ka,kc,rfl,hJ,hkc,hRS,hS⟩
theorem X4l:Tryz.prog.info? 45=some Tryz.t45:=by kernel_rfl
theorem Xjy:Bld Tryz.prog 127 [(0,1),(1,1)] [.int .i64 0,.slice none 0 0]:=X2l X5s Tryz.zeroValue127 (fun w=>by simp [go_sem])
theorem X3a (l:List Rec) (r:Rec):Xf (l ++ [r])=Xf l ++ X7 r:=by unfold Xf; simp
theorem X6c {r:Rec}:∀ {l:List Rec} {j:Nat},j<l.length→Xf (l.set j r)=(Xf l).take (j*10) ++ X7 r ++ (Xf l).drop (j*10+10)
 | [],j,h=>absurd h (by simp)
 | t::l,0,h=>by
  unfold Xf
  rw [Y4n,Y1e,Y1s,Y1e,Y1s,Y28 (by exact Yt 10)]
  rfl
 | t::l,j+1,h=>by
  have h1:=X6c (r:=r) (l:=l) (j:=j) (by simpa using h)
  have e:∀ l:List Rec,Xf (t::l)=X7 t ++ Xf l:=fun l=>rfl
  rw [Y39,e,e,h1,show (j+1)*10=(X7 t).length+j*10 by show (j+1)*10=10+j*10; omega,Y4f,Y3c,List.drop_length_add_append]
  simp only [Ye]
theorem Xq9 (r:Rec):(X7 r).all Value.oneCell'=true:=rfl
theorem X50:∀ (l:List Rec),(Xf l).all Value.oneCell'=true
 | []=>rfl
 | r::l=>by
  show (X7 r ++ Xf l).all Value.oneCell'=true
  rw [List.all_append,Xq9,X50 l]; rfl
theorem Xb2 (l:List Rec) (r:Rec):(put l r).length=l.length:=by
 unfold put
 split
 ·rw [Y24]
 ·rfl
def Xl0 (n:Int):Int:=max 0 (min n 64)
theorem Xfq (n:Int) (B w:World) (I:Im) (As:List X8) (hS:Sat B w I As) :
  Calls Tryz.prog 92 [I64 n].toArray w (Ret fun v w'=>∃ tb,v=ptr tb 0∧Sat B w' I (blk tb [I64 (Xl0 n),.slice none (([]:List Rec)).length 0] 127::Vec 45 10 (.slice none (([]:List Rec)).length 0) (([]:List Rec)).length (Xf (([]:List Rec)))::As)):=by
 refine calls Tryz.func92 rfl Tryz.ntmps92 rfl (.seq (.q 1 rfl (.seq (.t 1 rfl (.val (.min2 (.of rfl) (.of rfl)) rfl (.val (.max2 (.of rfl) (.of rfl)) rfl (.val (.build (cs:=[_,_]) (X5 (.of rfl) X6) Xjy rfl) rfl (.boxA (cs:=[_,_]) hS (.of rfl) rfl ?_))))))))
 clear hS; intro b7 w hS
 refine .q 1 rfl (.nil (.ret (X9 Tryz.results92 rfl ?_)))
 refine ⟨_,rfl,_,rfl,?_⟩
 exact (hS.vecNil 45 10).pick 1 rfl
theorem Xsi (tb:Nat) (room:Int) (a:Option Addr) (c:Nat) (l:List Rec) (hl:l.length≤100000) (r:Rec) (hn:r.name.length≤1000000) (hp:r.parent.length≤1000000) (B w:World) (I:Im) (hK:Known I) (hP:PreAt I) (As:List X8) (hS:Sat B w I (blk tb [I64 room,.slice a l.length c] 127::Vec 45 10 (.slice a l.length c) l.length (Xf l)::As)) :
  Calls Tryz.prog 95 [ptr tb 0,.agg (X7 r).toArray].toArray w (Ret fun v w'=>v=I64 (Xa2 l r:Nat)∧Sat B w' I (blk tb [I64 room,.slice a (put l r).length c] 127::Vec 45 10 (.slice a (put l r).length c) (put l r).length (Xf (put l r))::As)):=by
 refine calls Tryz.func95 rfl Tryz.ntmps95 rfl (.seq (.region (.boxA (cs:=[_,_,_,_,_,_,_,_,_,_]) hS (.of rfl) rfl ?_)))
 clear hS; intro b3 w hS
 refine .q 1 rfl (.nil (.seq (.seq (.region ?_))))
 refine WL.val (.ldsW (cs:=[_,_,_,_,_,_,_,_,_,_]) (.of rfl) hS (k:=0) rfl X36 Xw rfl) rfl (.call Tryz.func106 rfl (X0 (.of rfl) X4) rfl (Xcx r hn hp B _ I hK hP _ hS) ?_)
 clear hS
 rintro _ w ⟨rfl,hS⟩
 refine .q 1 rfl (.nil ?_)
 refine WC.cond rfl (fun hb8=>?_) (fun hb8=>?_)
 ·
  refine .seq (.q 1 rfl (.ret (X9 Qr95 rfl ?_)))
  have h1:Xr r=false:=by simpa using hb8
  have hE:Xa2 l r=1:=by rw [Xa2,if_pos h1]
  have hQ:put l r=l:=by rw [put,if_neg (by rw [hE]; decide)]
  rw [hE,hQ]
  exact ⟨_,rfl,rfl,hS.drop (k:=0) rfl⟩
 refine .skip (.seq (.t 1 rfl ?_))
 refine WL.val (.fieldAddr 1 (.of rfl) X15 rfl rfl Qs9 rfl) rfl (WL.val (.ld (.of rfl) hS (k:=0) rfl Qg9 rfl) rfl (.call Xpl rfl (X0 (.of rfl) (X0 (.of rfl) X4)) rfl (X8r tb room a c l hl r.name B _ I _ ((hS.pick 2 rfl).pick 2 rfl)) ?_))
 clear hS
 rintro _ w ⟨rfl,hS⟩
 replace hS:=hS.pick 2 rfl
 refine .q 1 rfl (.nil (.seq (.block (.seq (.q 3 rfl ?_)))))
 refine WC.cond rfl (fun hb13=>?_) (fun hb13=>?_)
 ·
  refine .seq (.q 1 rfl (.ret (X9 Qr95 rfl ?_)))
  have h1:¬ Xr r=false:=by simpa using hb8
  have h2:get l r.name=none:=by
   rcases Tr.get_at l r.name with ⟨_,h2⟩ | ⟨j,t,h2,_⟩
   ·exact h2
   ·exfalso; rw [h2] at hb13; have:=of_decide_eq_true hb13; omega
  have hE:Xa2 l r=6:=by rw [Xa2,if_neg h1,h2]
  have hQ:put l r=l:=by rw [put,if_neg (by rw [hE]; decide)]
  rw [hE,hQ]
  exact ⟨_,rfl,rfl,hS.drop (k:=0) rfl⟩
 refine .seq ?_
 obtain ⟨j,t,hj,ht,hn2⟩:∃ (j:Nat) (t:Rec),at0 l r.name=(j:Int)∧l[j]?=some t∧get l r.name=some t:=by
  rcases Tr.get_at l r.name with ⟨h1,_⟩ | ⟨j,t,h1,h2,_,h3⟩
  ·exfalso; rw [h1] at hb13; simp at hb13
  ·exact ⟨j,t,h1,h2,h3⟩
 have hjl:=(Y5.1 ht).1
 obtain ⟨p,rfl,_⟩:=X2s hS (k:=2) rfl j t ht
 rw [hj]
 refine .quiet (by kernel_rfl) (by kernel_rfl) hS (.val (fun w hS=>(.move (.of rfl))) rfl (.val (fun w hS=>(.nilCheck (.of rfl))) rfl ?_))
 refine WQ.val (fun w hS=>(by exact .fieldAddr 1 (.of rfl) X5s rfl rfl X3i rfl)) rfl ?_
 refine WQ.val (fun w hS=>(by exact (.ld (.of rfl) hS (k:=1) rfl X7l rfl))) rfl ?_
 refine .val (fun w hS=>(.move (.of rfl))) rfl (WQ.val (fun w hS=>(by exact .indexAddrI (.of rfl) (.of rfl) (by omega) (by omega) X29 Xw)) rfl ?_)
 refine WQ.val (fun w hS=>(by exact .fieldAddrI 2 (.of rfl) X15 rfl rfl Qs9 rfl)) rfl ?_
 refine WQ.val (fun w hS=>ldC (.of rfl) (by obtain ⟨p9,hp9,hx⟩:=X2s hS (k:=2) rfl j t ht; cases hp9; exact hx 2 _ rfl) Qg9) rfl ?_
 refine WQ.val (fun w hS=>(by exact .fieldAddr 2 (.of rfl) X15 rfl rfl Qs9 rfl)) rfl ?_
 refine WQ.val (fun w hS=>(by exact (.ld (.of rfl) hS (k:=0) rfl Qg9 rfl))) rfl ?_
 refine .val (fun w hS=>(.nes (.of rfl) (.of rfl))) rfl (.val (fun w hS=>(.assign (.of rfl))) rfl (.nil ?_))
 clear hS; intro w hS
 refine WC.cond rfl (fun hb16=>?_) (fun hb16=>?_)
 ·
  refine .seq (.q 1 rfl (.ret (X9 Qr95 rfl ?_)))
  have h1:¬ Xr r=false:=by simpa using hb8
  have h2:t.parent≠r.parent:=by simpa using hb16
  have hE:Xa2 l r=8:=by rw [Xa2,if_neg h1,hn2]; exact if_pos h2
  have hQ:put l r=l:=by rw [put,if_neg (by rw [hE]; decide)]
  rw [hE,hQ]
  exact ⟨_,rfl,rfl,hS.drop (k:=0) rfl⟩
 refine .skip (.seq ?_)
 obtain ⟨gb,cap9,rest9,hv9,hc1,hc2,hl1,hl2,hS⟩:=hS.vecOpen (k:=2) rfl (by omega)
 injection hv9 with hv1 hv2 hv3
 injection hv1 with hv1
 subst hv1
 subst hv3
 refine .drawn (fun w=>∃ R,Sat B w I (blk b3 [I64 r.kind,S r.name,S r.parent,S r.user,S r.service,S r.url,I64 r.made,I64 r.used,I64 r.uses,.bool r.fresh] 45::blk tb [I64 room,.slice (some ⟨gb,0,none⟩) l.length c] 127::blk gb (Xf l ++ rest9) 45::R)) (fun j=>!([7].contains j)) (by kernel_rfl) ?_
 replace hS:=hS.drew; generalize w.drew=w at hS ⊢
 have hH:=(((hS.pick 2 rfl).pick 2 rfl).pick 2 rfl)
 refine .tp (i:=0) rfl (by kernel_rfl) (fun w=>(.move (.of rfl))) rfl (.tp (i:=1) rfl (by kernel_rfl) (fun w=>(.nilCheck (.of rfl))) rfl ?_)
 refine WD.tp (i:=2) rfl (by kernel_rfl) (fun w=>(.fieldAddr 1 (.of rfl) X5s rfl rfl X3i rfl)) rfl (WD.tk (i:=3) rfl (by kernel_rfl) ⟨_,hH⟩ (fun w ⟨R,hS⟩=>((.ld (.of rfl) hS (k:=1) rfl X7l rfl))) rfl (.tp (i:=4) rfl (by kernel_rfl) (fun w=>(.move (.of rfl))) rfl (WD.tk (i:=5) rfl (by kernel_rfl) ⟨_,hH⟩ (fun w ⟨R,hS⟩=>((.ldsW (cs:=[_,_,_,_,_,_,_,_,_,_]) (.of rfl) hS (k:=0) rfl X36 Xw rfl))) rfl (WD.tp (i:=6) rfl (by kernel_rfl) (fun w=>(.indexAddr (.of rfl) (.of rfl) (by omega) (by omega) X29 Xw)) rfl (WD.branch [7] (by kernel_rfl) rfl (WO.cons rfl ?_ (WO.nil)))))))
 refine WL.stA hS (k:=2) rfl (.of rfl) (.of rfl) rfl Xw rfl (by simp only [Y0]; omega) ?_
 clear hS; intro w hS
 rw [Yd,Y1y (by omega),Y28 (by omega),← Ye] at hS
 replace hS:=hS.drop (k:=0) rfl
 replace hS:=hS.vecShut (n:=l.length) (size:=10) (k:=1) rfl hc1 hc2 (by simp only [Y0,Yu,Yn,Y8,Yk]; omega) (by simp only [Y0,Yu,Yn,Y8,Yk]; omega)
 refine .nil ?_
 refine And.intro (by intro h; cases h) ?_
 refine .done (by kernel_rfl) (.seq (.q 1 rfl (.ret (X9 Qr95 rfl ?_))))
 have h1:¬ Xr r=false:=by simpa using hb8
 have h2:¬ t.parent≠r.parent:=by simpa using hb16
 have hE:Xa2 l r=0:=by rw [Xa2,if_neg h1,hn2]; exact if_neg h2
 have hQ:put l r=l.set j r:=by rw [put,if_pos hE,hj,Yi]
 rw [hE,Xb2,hQ,X6c hjl]
 exact ⟨_,rfl,rfl,hS⟩
theorem Xrh (tb:Nat) (room:Int) (a:Option Addr) (c:Nat) (l:List Rec) (hl:l.length≤100000) (r:Rec) (hn:r.name.length≤1000000) (hp:r.parent.length≤1000000) (B w:World) (I:Im) (hK:Known I) (hP:PreAt I) (As:List X8) (hS:Sat B w I (blk tb [I64 room,.slice a l.length c] 127::Vec 45 10 (.slice a l.length c) l.length (Xf l)::As)) :
  Calls Tryz.prog 57 [ptr tb 0,.agg (X7 r).toArray].toArray w (Ret fun v w'=>v=I64 (X5e room l r:Nat)∧∃ a c,Sat B w' I (blk tb [I64 room,.slice a (add room l r).length c] 127::Vec 45 10 (.slice a (add room l r).length c) (add room l r).length (Xf (add room l r))::As)):=by
 refine calls Tryz.func57 rfl Tryz.ntmps57 rfl (.seq (.region (.boxA (cs:=[_,_,_,_,_,_,_,_,_,_]) hS (.of rfl) rfl ?_)))
 clear hS; intro b3 w hS
 refine .q 1 rfl (.nil (.seq (.block (.seq (.region ?_)))))
 refine WL.val (.ldsW (cs:=[_,_,_,_,_,_,_,_,_,_]) (.of rfl) hS (k:=0) rfl X36 Xw rfl) rfl (.call Tryz.func106 rfl (X0 (.of rfl) X4) rfl (Xcx r hn hp B _ I hK hP _ hS) ?_)
 clear hS
 rintro _ w ⟨rfl,hS⟩
 refine .q 2 rfl (.nil ?_)
 refine WC.cond rfl (fun hb5=>?_) (fun hb5=>?_)
 ·
  refine .seq (.q 1 rfl (.ret (X9 Qr57 rfl ?_)))
  have hE:X5e room l r=1:=by rw [X5e,if_pos (by simpa using hb5)]
  have hQ:add room l r=l:=by rw [add,if_neg (by rw [hE]; decide)]
  rw [hE,hQ]
  exact ⟨_,rfl,rfl,a,c,hS.drop (k:=0) rfl⟩
 have hc5:=hb5; try simp only [Y6] at hc5
 refine .seq (.t 1 rfl ?_)
 refine WL.val (.fieldAddr 1 (.of rfl) X15 rfl rfl Qs9 rfl) rfl (WL.val (.ld (.of rfl) hS (k:=0) rfl Qg9 rfl) rfl (.call Xpl rfl (X0 (.of rfl) (X0 (.of rfl) X4)) rfl (X8r tb room a c l hl r.name B _ I _ ((hS.pick 2 rfl).pick 2 rfl)) ?_))
 clear hS
 rintro _ w ⟨rfl,hS⟩
 refine .q 2 rfl (.nil ?_)
 refine WC.cond rfl (fun hb9=>?_) (fun hb9=>?_)
 ·
  refine .seq (.q 1 rfl (.ret (X9 Qr57 rfl ?_)))
  have h1:¬ Xr r=false:=by simpa using hb5
  have hE:X5e room l r=7:=by rw [X5e,if_neg h1,if_pos (by simpa using hb9)]
  have hQ:add room l r=l:=by rw [add,if_neg (by rw [hE]; decide)]
  rw [hE,hQ]
  exact ⟨_,rfl,rfl,a,c,hS.drop (k:=2) rfl⟩
 have hc9:=hb9; try simp only [Y6] at hc9
 refine .seq (.region ?_)
 refine WL.val (.fieldAddr 2 (.of rfl) X15 rfl rfl Qs9 rfl) rfl (WL.val (.ld (.of rfl) hS (k:=2) rfl Qg9 rfl) rfl (.q 2 rfl (.gval rfl rfl (fun hg1=>(.move (.of rfl))) rfl ?_)))
 refine WL.gval rfl rfl (fun hg1=>(by exact .fieldAddr 2 (.of rfl) X15 rfl rfl Qs9 rfl)) rfl ?_
 refine WL.gval rfl rfl (fun hg1=>(by exact (.ld (.gd hg1 rfl) hS (k:=2) rfl Qg9 rfl))) rfl ?_
 refine .gcall (T:=fun w=>Sat B w I (blk tb [I64 room,.slice a l.length c] 127::Vec 45 10 (.slice a l.length c) l.length (Xf l)::blk b3 [I64 r.kind,S r.name,S r.parent,S r.user,S r.service,S r.url,I64 r.made,I64 r.used,I64 r.uses,.bool r.fresh] 45::As)) rfl rfl rfl Xpl rfl (fun hg1=>(X0 (.gd hg1 rfl) (X0 (.gd hg1 rfl) X4))) rfl (fun hg1=>X8r tb room a c l hl r.parent B _ I _ hS) hS ?_
 clear hS; rintro w hS
 refine .gval rfl rfl (fun hg1=>(.lss (.gd hg1 rfl) (.of rfl))) rfl (.val (.pand (.of rfl) (.of rfl) (.of rfl)) rfl (.q 1 rfl (.nil ?_)))
 refine WC.cond rfl (fun hb15=>?_) (fun hb15=>?_)
 ·
  refine .seq (.q 1 rfl (.ret (X9 Qr57 rfl ?_)))
  have h1:¬ Xr r=false:=by simpa using hb5
  have h2:¬ 0≤at0 l r.name:=by simpa using hb9
  have hE:X5e room l r=6:=by rw [X5e,if_neg h1,if_neg h2,if_pos (by simpa using hb15)]
  have hQ:add room l r=l:=by rw [add,if_neg (by rw [hE]; decide)]
  rw [hE,hQ]
  exact ⟨_,rfl,rfl,a,c,hS.drop (k:=2) rfl⟩
 have hc15:=hb15; try simp only [Y6] at hc15
 refine .seq (.quiet (by kernel_rfl) (by kernel_rfl) hS (.val (fun w hS=>(.move (.of rfl))) rfl (.val (fun w hS=>(.nilCheck (.of rfl))) rfl ?_)))
 refine WQ.val (fun w hS=>(by exact .fieldAddr 1 (.of rfl) X5s rfl rfl X3i rfl)) rfl ?_
 refine WQ.val (fun w hS=>(by exact (.ld (.of rfl) hS (k:=0) rfl X7l rfl))) rfl ?_
 refine .val (fun w hS=>(.lenSlice (.of rfl) X29)) rfl (.val (fun w hS=>(.move (.of rfl))) rfl (.val (fun w hS=>(.nilCheck (.of rfl))) rfl ?_))
 refine WQ.val (fun w hS=>(by exact .fieldAddr 0 (.of rfl) X5s rfl rfl Qs3 rfl)) rfl ?_
 refine WQ.val (fun w hS=>(by exact (.ld (.of rfl) hS (k:=0) rfl Qg3 rfl))) rfl ?_
 refine .val (fun w hS=>(.geq (.of rfl) (.of rfl))) rfl (.val (fun w hS=>(.assign (.of rfl))) rfl (.nil ?_))
 clear hS; intro w hS
 refine WC.cond rfl (fun hb26=>?_) (fun hb26=>?_)
 ·
  have hc26:=hb26; try simp only [Y6] at hc26
  refine .seq (.q 1 rfl (.ret (X9 Qr57 rfl ?_)))
  have h1:¬ Xr r=false:=by simpa using hb5
  have h2:¬ 0≤at0 l r.name:=by simpa using hb9
  have h3:¬ (r.parent≠[]∧at0 l r.parent<0):=fun h=>by
   rcases hc15 with e | e
   ·exact h.1 e
   ·omega
  have hE:X5e room l r=5:=by rw [X5e,if_neg h1,if_neg h2,if_neg h3,if_pos (by simpa using hb26)]
  have hQ:add room l r=l:=by rw [add,if_neg (by rw [hE]; decide)]
  rw [hE,hQ]
  exact ⟨_,rfl,rfl,a,c,hS.drop (k:=2) rfl⟩
 have hc26:=hb26; try simp only [Y6] at hc26
 refine .skip (.seq (.drawn (fun w=>∃ R,Sat B w I (blk b3 [I64 r.kind,S r.name,S r.parent,S r.user,S r.service,S r.url,I64 r.made,I64 r.used,I64 r.uses,.bool r.fresh] 45::blk tb [I64 room,.slice a l.length c] 127::R)) (fun j=>!([10].contains j)) (by kernel_rfl) ?_))
 replace hS:=hS.drew; generalize w.drew=w at hS ⊢
 have hH:=((hS.pick 0 rfl).pick 2 rfl)
 refine .tp (i:=0) rfl (by kernel_rfl) (fun w=>(.move (.of rfl))) rfl (.tp (i:=1) rfl (by kernel_rfl) (fun w=>(.move (.of rfl))) rfl (.tp (i:=2) rfl (by kernel_rfl) (fun w=>(.nilCheck (.of rfl))) rfl ?_))
 refine WD.tp (i:=3) rfl (by kernel_rfl) (fun w=>(.fieldAddr 1 (.of rfl) X5s rfl rfl X3i rfl)) rfl (WD.tk (i:=4) rfl (by kernel_rfl) ⟨_,hH⟩ (fun w ⟨R,hS⟩=>((.ld (.of rfl) hS (k:=1) rfl X7l rfl))) rfl (WD.tk (i:=5) rfl (by kernel_rfl) ⟨_,hH⟩ (fun w ⟨R,hS⟩=>((.ldsW (cs:=[_,_,_,_,_,_,_,_,_,_]) (.of rfl) hS (k:=0) rfl X36 Xw rfl))) rfl (WD.branch [6] (by kernel_rfl) rfl (WO.cons rfl ?_ (WO.nil)))))
 refine .buildSlice (cs:=[_,_,_,_,_,_,_,_,_,_]) hS (X5 (.of rfl) X6) X29 Xw X5q rfl rfl rfl rfl ?_
 clear hS; intro b43 w hS
 refine .nil ?_
 clear hH
 have hH:=((hS.pick 1 rfl).pick 3 rfl)
 refine And.intro (by intro _ _; exact ⟨_,hH⟩) ?_
 refine WD.branch [7] (by kernel_rfl) rfl (WO.cons rfl ?_ (WO.nil))
 refine WL.append (size:=10) (bytes:=120) hS (.of rfl) (.of rfl) (k:=1) rfl X29 X4l rfl rfl rfl rfl rfl rfl rfl ⟨by omega,by unfold maxLen; omega⟩ rfl ?_
 clear hS; intro v44 w hS
 obtain ⟨a44,c44,rfl,hcap44,_⟩:=hS.vecSlice (k:=1) (v:=v44) rfl
 refine .nil ?_
 clear hH
 have hH:=((hS.pick 0 rfl).pick 2 rfl)
 refine And.intro (by intro _ _; exact ⟨_,hH⟩) ?_
 refine .tp (i:=8) rfl (by kernel_rfl) (fun w=>(.nilCheck (.of rfl))) rfl (WD.tp (i:=9) rfl (by kernel_rfl) (fun w=>(.fieldAddr 1 (.of rfl) X5s rfl rfl X3i rfl)) rfl (WD.branch [10] (by kernel_rfl) rfl (WO.cons rfl ?_ (WO.nil))))
 refine WL.st1 hS (k:=0) rfl (.of rfl) (.of rfl) rfl X3i (by simp) ?_
 clear hS; intro w hS
 refine .nil ?_
 refine And.intro (by intro h; cases h) ?_
 refine .done (by kernel_rfl) (.seq (.q 1 rfl (.ret (X9 Qr57 rfl ?_))))
 have h1:¬ Xr r=false:=by simpa using hb5
 have h2:¬ 0≤at0 l r.name:=by simpa using hb9
 have h3:¬ (r.parent≠[]∧at0 l r.parent<0):=fun h=>by
  rcases hc15 with e | e
  ·exact h.1 e
  ·omega
 have hE:X5e room l r=0:=by rw [X5e,if_neg h1,if_neg h2,if_neg h3,if_neg (by simpa using hb26)]
 have hQ:add room l r=l ++ [r]:=by rw [add,if_pos hE]
 rw [hE,hQ]
 refine ⟨_,rfl,rfl,a44,c44,?_⟩
 rw [X3a,Y0]
 exact hS.drop (k:=2) rfl
theorem Xb7 (a:Option Addr) (c:Nat) (l:List Rec) (hl:l.length≤100000) (B w:World) (I:Im) (As:List X8) (hS:Sat B w I (Vec 45 10 (.slice a l.length c) l.length (Xf l)::As)) :
  Calls Tryz.prog 79 [.slice a l.length c].toArray w (Ret fun v w'=>∃ v',v=v'∧Sat B w' I (Vec 45 10 v' l.length (Xf l)::Vec 45 10 (.slice a l.length c) l.length (Xf l)::As)):=by
 refine calls Tryz.func79 rfl Tryz.ntmps79 rfl (.seq (.q 1 rfl (.seq (.seq (.t 1 rfl (.val (Ex.slNil (.of rfl) (.of rfl) X29) rfl (.nil ?_)))))))
 refine WC.cond rfl (fun hb4=>?_) (fun hb4=>?_)
 ·
  refine .seq (.q 1 rfl (.ret (X9 Tryz.results79 rfl ?_)))
  cases a with
  | some p=>simp at hb4
  | none =>
  have h0:l=[]:=hS.pure_ (k:=0) rfl fun _ ⟨_,hh⟩=>by
   rcases hh with ⟨_,h,_⟩ | ⟨b,cap,r,hv,_⟩
   ·exact Yh h
   ·cases hv
  subst h0
  exact ⟨_,rfl,.slice none 0 0,rfl,hS.vecNil 45 10⟩
 refine .skip (.seq (.region (.buildSlice (cs:=[]) hS X6 X29 Xw X5q rfl rfl rfl rfl ?_)))
 clear hS; intro b5 w hS
 refine .q 1 rfl ?_
 replace hS:=hS.vecOf (k:=0) (E:=45) (size:=10) (n:=0) rfl rfl (Yp _)
 refine WL.appendV (size:=10) (bytes:=120) hS (.of rfl) (.of rfl) (k:=0) (j:=1) rfl rfl X29 (i:=Tryz.t45) (by kernel_rfl) rfl rfl rfl rfl (X50 l) ⟨by omega,by unfold maxLen; omega⟩ rfl ?_
 clear hS; intro v7 w hS
 rw [Yd,Yf] at hS
 refine .q 1 rfl (.nil (.ret (X9 Tryz.results79 rfl ?_)))
 exact ⟨_,rfl,v7,rfl,hS⟩
theorem Xf0 (tb:Nat) (room:Int) (a:Option Addr) (c:Nat) (l:List Rec) (hl:l.length≤100000) (B w:World) (I:Im) (As:List X8) (hS:Sat B w I (blk tb [I64 room,.slice a l.length c] 127::Vec 45 10 (.slice a l.length c) l.length (Xf l)::As)) :
  Calls Tryz.prog 29 [ptr tb 0].toArray w (Ret fun v w'=>∃ J ra rc,v=.slice ra l.length rc∧Le I J∧l.length≤rc∧RS J ra 10 l.length (Xf l)∧Sat B w' J (blk tb [I64 room,.slice a l.length c] 127::Vec 45 10 (.slice a l.length c) l.length (Xf l)::As)):=by
 refine calls Tryz.func29 rfl Tryz.ntmps29 rfl (.seq (.q 1 rfl (.seq (.t 2 rfl ?_))))
 refine WL.val (.fieldAddr 1 (.of rfl) X5s rfl rfl X3i rfl) rfl (WL.val (.ld (.of rfl) hS (k:=0) rfl X7l rfl) rfl (.call Tryz.func79 rfl (X0 (.of rfl) X4) rfl (Xb7 a c l hl B _ I _ (hS.pick 1 rfl)) ?_))
 clear hS
 rintro _ w ⟨v7,rfl,hS⟩
 refine .q 1 rfl (.nil (.ret (X9 Tryz.results29 rfl ?_)))
 obtain ⟨ra,rc,rfl,hrc,_⟩:=hS.vecSlice (k:=0) rfl
 obtain ⟨J,hJ,hRS,hS⟩:=hS.freezeVec (k:=0) rfl
 exact ⟨_,rfl,J,ra,rc,rfl,hJ,hrc,hRS,hS.pick 1 rfl⟩
def X4e (n limit:Int):Bool:=limit == 0 || decide (n<limit)
def Xgl (kind:Int):Bool:=kind == 1 || kind == 4
def X6f (ps:List Int) (r:Rec) (now:Int):Bool:=decide (1≤r.kind) && decide (r.kind≤6) && (X4e (now - r.made) (ps.getD r.kind.toNat 0) && X4e (now - r.used) (ps.getD (7+r.kind.toNat) 0) && X4e r.uses (ps.getD (14+r.kind.toNat) 0))
def X45 (r:Rec) (now:Int):Rec:={ r with uses:=min (r.uses+1) 255,used:=max r.used now }
theorem X9b (n limit:Int) (w:World) :
  Calls Tryz.prog 156 [I64 n,I64 limit].toArray w (Ret fun v w'=>v=.bool (X4e n limit)∧w=w'):=by
 refine calls Xp3 rfl Tryz.ntmps156 rfl (.seq (.q 1 rfl (.seq (.t 3 rfl (.gval rfl rfl (fun hg1=>(.move (.of rfl))) rfl (.gval rfl rfl (fun hg1=>(.move (.of rfl))) rfl (.gval rfl rfl (fun hg1=>(.lss (.gd hg1 rfl) (.gd hg1 rfl))) rfl (.val (.por (.of rfl) (.of rfl) (.of rfl)) rfl (.q 1 rfl (.nil (.ret (X9 Tryz.results156 rfl ?_))))))))))))
 exact ⟨_,rfl,rfl,rfl⟩
theorem Xl5 (kind:Int) (w:World) :
  Calls Tryz.prog 114 [I64 kind].toArray w (Ret fun v w'=>v=.bool (Xgl kind)∧w=w'):=by
 refine calls Tryz.func114 rfl Tryz.ntmps114 rfl (.seq (.q 1 rfl (.seq (.t 3 rfl (.gval rfl rfl (fun hg1=>(.move (.of rfl))) rfl (.gval rfl rfl (fun hg1=>(.eql (.gd hg1 rfl) (.of rfl))) rfl (.val (.por (.of rfl) (.of rfl) (.of rfl)) rfl (.q 1 rfl (.nil (.ret (X9 Tryz.results114 rfl ?_)))))))))))
 exact ⟨_,rfl,rfl,rfl⟩
theorem Xjt (r:Rec) (now:Int) (hu:0≤r.uses) (hu2:r.uses≤255) (B w:World) (I:Im) (As:List X8) (hS:Sat B w I As) :
  Calls Tryz.prog 96 [.agg (X7 r).toArray,I64 now].toArray w (Ret fun v w'=>v=.agg (X7 (X45 r now)).toArray∧Sat B w' I As):=by
 refine calls Tryz.func96 rfl Tryz.ntmps96 rfl (.seq (.region (.boxA (cs:=[_,_,_,_,_,_,_,_,_,_]) hS (.of rfl) rfl ?_)))
 clear hS; intro b2 w hS
 refine .allocA (cs:=[_,_,_,_,_,_,_,_,_,_]) hS X5q rfl ?_
 clear hS; intro b4 w hS
 refine .nil (.seq (.region ?_))
 refine WL.val (.fieldAddr 8 (.of rfl) X15 rfl rfl Qs3 rfl) rfl (WL.val (.ld (.of rfl) hS (k:=1) rfl Qg3 rfl) rfl (.run 1 rfl ⟨⟨by omega,by omega⟩,trivial⟩ (.val (.min2 (.of rfl) (.of rfl)) rfl ?_)))
 refine WL.val (.fieldAddr 8 (.of rfl) X15 rfl rfl Qs3 rfl) rfl (WL.st1 hS (k:=1) rfl (.of rfl) (.of rfl) rfl Qs3 (by simp) ?_)
 clear hS; intro w hS
 refine .nil (.seq (.region ?_))
 refine WL.val (.fieldAddr 7 (.of rfl) X15 rfl rfl Qs3 rfl) rfl (WL.val (.ld (.of rfl) hS (k:=1) rfl Qg3 rfl) rfl (.q 1 rfl (.val (.max2 (.of rfl) (.of rfl)) rfl ?_)))
 refine WL.val (.fieldAddr 7 (.of rfl) X15 rfl rfl Qs3 rfl) rfl (WL.st1 hS (k:=1) rfl (.of rfl) (.of rfl) rfl Qs3 (by simp) ?_)
 clear hS; intro w hS
 refine .nil (.seq (.region ?_))
 refine WL.val (.ldsW (cs:=[_,_,_,_,_,_,_,_,_,_]) (.of rfl) hS (k:=1) rfl X36 Xw rfl) rfl (WL.stA hS (k:=0) rfl (.of rfl) (.of rfl) rfl Xw rfl (by simp) ?_)
 clear hS; intro w hS
 try simp only [Yl,Yf,Yc,Y9,Yj,Yo,Yd] at hS
 refine .nil (.ret ?_)
 refine Xlj (b:=_) (cs:=[_,_,_,_,_,_,_,_,_,_]) Tryz.results96 hS (k:=0) rfl X36 Xw rfl rfl ?_
 exact ⟨_,rfl,rfl,(hS.drop (k:=0) rfl).drop (k:=0) rfl⟩
theorem Ex.arrAddrO {P:Program} {n:Nat} {L:Env} {w:World} {ty t:TypeId} {pos:String} {af:Array Edge} {g:Option (Nat×Bool)} {x y:Operand} {d:Option Nat} {b o:Nat} {m s:Nat} {e:TypeId} {i:Int} {q:IntKind} (hx:Ev n L x (ptr b o)) (hy:Ev n L y (.int q i)) (hi:0≤i) (hl:i<(m:Int)) (ht:P.underlying t=some (.array m e)) (hs:∀ w,(Go.sizeOf e).run P w=.ok s w) :
  Ex P n L w ⟨d,.indexAddr t x y,ty,pos,af,g⟩ (ptr b (o+i.toNat*s)) w:=by
 have h:=Ex.arrAddrI (P:=P) (w:=w) (d:=d) (ty:=ty) (pos:=pos) (af:=af) (g:=g) hx hy hi hl ht hs
 rw [show (⟨b,o,none⟩:Addr).add (i.toNat*s)=⟨b,o+i.toNat*s,none⟩ from X19 b o _] at h
 exact h
theorem X38 {ps:List Int} (hps:ps.length=21) {o k:Nat} (e:o=k) (h:k<21):(ps.map I64)[o]?=some (I64 (ps.getD k 0)):=by
 subst e
 rw [Yy,Y7,Y4 (by omega)]
 rfl
theorem Xnp (ps:List Int) (hps:ps.length=21) (r:Rec) (now:Int) (hm:0≤r.made∧r.made≤1099511627776) (hu:0≤r.used∧r.used≤1099511627776) (hn:0≤now∧now≤1099511627776) (B w:World) (I:Im) (As:List X8) (hS:Sat B w I As) :
  Calls Tryz.prog 115 [.agg (ps.map I64).toArray,.agg (X7 r).toArray,I64 now].toArray w (Ret fun v w'=>v=.bool (X6f ps r now)∧Sat B w' I As):=by
 refine calls Tryz.func115 rfl Tryz.ntmps115 rfl (.seq (.region (.boxA (cs:=ps.map I64) hS (.of rfl) rfl ?_)))
 clear hS; intro b3 w hS
 refine .boxA (cs:=[_,_,_,_,_,_,_,_,_,_]) hS (.of rfl) rfl ?_
 clear hS; intro b4 w hS
 refine .q 1 rfl (.nil (.seq (.seq (.region ?_))))
 refine WL.val (.fieldAddr 0 (.of rfl) X15 rfl rfl Qs3 rfl) rfl (.val (.ld (.of rfl) hS (k:=0) rfl Qg3 rfl) rfl (.q 2 rfl ?_))
 refine WL.gval rfl rfl (fun hg1=>(by exact .fieldAddr 0 (.of rfl) X15 rfl rfl Qs3 rfl)) rfl ?_
 refine .gval rfl rfl (fun hg1=>(.ld (.gd hg1 rfl) hS (k:=0) rfl Qg3 rfl)) rfl (.gval rfl rfl (fun hg1=>(.gtr (.gd hg1 rfl) (.of rfl))) rfl (.val (.por (.of rfl) (.of rfl) (.of rfl)) rfl (.nil ?_)))
 refine WC.cond rfl (fun hb14=>?_) (fun hb14=>?_)
 ·
  have hc14:=hb14; try simp only [Y6] at hc14
  refine .seq (.q 1 rfl (.ret (X9 Tryz.results115 rfl ?_)))
  refine ⟨_,rfl,congrArg Value.bool ?_,(hS.drop (k:=0) rfl).drop (k:=0) rfl⟩
  have:(decide (1≤r.kind) && decide (r.kind≤6))=false:=by
   rcases hc14 with e | e
   ·rw [decide_eq_false (by omega)]; rfl
   ·rw [decide_eq_false (p:=r.kind≤6) (by omega),Y4q]
  rw [X6f,this]; rfl
 have hc14:=hb14; try simp only [Y6] at hc14
 refine .skip (.seq ?_)
 have hk1:1≤r.kind∧r.kind≤6:=by omega
 refine .quiet (by kernel_rfl) (by kernel_rfl) hS (.val (fun w hS=>(.move (.of rfl))) rfl ?_)
 refine WQ.val (fun w hS=>(by exact .fieldAddr 6 (.of rfl) X15 rfl rfl Qs3 rfl)) rfl ?_
 refine .val (fun w hS=>(.ld (.of rfl) hS (k:=0) rfl Qg3 rfl)) rfl (.val (fun w hS=>(.sub (.of rfl) (.of rfl) ⟨by omega,by omega⟩)) rfl ?_)
 refine WQ.val (fun w hS=>(by exact .fieldAddr 0 (.of rfl) X15 rfl rfl Qs3 rfl)) rfl ?_
 refine .val (fun w hS=>(.ld (.of rfl) hS (k:=0) rfl Qg3 rfl)) rfl (WQ.val (fun w hS=>(by exact .fieldAddr 0 (.of rfl) Xcf rfl rfl Xco rfl)) rfl ?_)
 refine .val (fun w hS=>(Ex.arrAddrO (i:=r.kind) (.of rfl) (.of rfl) (by omega) (by omega) Xcb Qs3)) rfl (.val (fun w hS=>(.ld (.of rfl) hS (k:=1) rfl Qg3 (X38 hps (o:=0+0+r.kind.toNat*1) (k:=r.kind.toNat) (by omega) (by omega)))) rfl (.call Xp3 rfl (X0 (.of rfl) (X0 (.of rfl) X4)) rfl (fun w hS=>X20 (X9b _ _ w) hS) (.val (fun w hS=>(.move (.of rfl))) rfl (.gval rfl rfl rfl (fun hg1 w hS=>(.move (.of rfl))) rfl ?_))))
 refine WQ.gval rfl rfl rfl (fun hg1 w hS=>(by exact .fieldAddr 7 (.of rfl) X15 rfl rfl Qs3 rfl)) rfl ?_
 refine .gval rfl rfl rfl (fun hg1 w hS=>(.ld (.gd hg1 rfl) hS (k:=0) rfl Qg3 rfl)) rfl (.gval rfl rfl rfl (fun hg1 w hS=>(.sub (.gd hg1 rfl) (.gd hg1 rfl) ⟨by omega,by omega⟩)) rfl ?_)
 refine WQ.gval rfl rfl rfl (fun hg1 w hS=>(by exact .fieldAddr 0 (.of rfl) X15 rfl rfl Qs3 rfl)) rfl ?_
 refine .gval rfl rfl rfl (fun hg1 w hS=>(.ld (.gd hg1 rfl) hS (k:=0) rfl Qg3 rfl)) rfl (WQ.gval rfl rfl rfl (fun hg1 w hS=>(by exact .fieldAddr 7 (.of rfl) Xcf rfl rfl Xco rfl)) rfl ?_)
 refine .gval rfl rfl rfl (fun hg1 w hS=>(Ex.arrAddrO (i:=r.kind) (.gd hg1 rfl) (.gd hg1 rfl) (by omega) (by omega) Xcb Qs3)) rfl (.gval rfl rfl rfl (fun hg1 w hS=>(.ld (.gd hg1 rfl) hS (k:=1) rfl Qg3 (X38 hps (o:=0+7+r.kind.toNat*1) (k:=7+r.kind.toNat) (by omega) (by omega)))) rfl (.gcall rfl rfl rfl Xp3 rfl (fun hg1=>(X0 (.gd hg1 rfl) (X0 (.gd hg1 rfl) X4))) rfl (fun hg1 w hS=>X20 (X9b _ _ w) hS) (.val (fun w hS=>(.pand (.of rfl) (.of rfl) (.of rfl))) rfl (.val (fun w hS=>(.move (.of rfl))) rfl ?_))))
 refine WQ.gval rfl rfl rfl (fun hg1 w hS=>(by exact .fieldAddr 8 (.of rfl) X15 rfl rfl Qs3 rfl)) rfl ?_
 refine .gval rfl rfl rfl (fun hg1 w hS=>(.ld (.gd hg1 rfl) hS (k:=0) rfl Qg3 rfl)) rfl (WQ.gval rfl rfl rfl (fun hg1 w hS=>(by exact .fieldAddr 0 (.of rfl) X15 rfl rfl Qs3 rfl)) rfl ?_)
 refine .gval rfl rfl rfl (fun hg1 w hS=>(.ld (.gd hg1 rfl) hS (k:=0) rfl Qg3 rfl)) rfl (WQ.gval rfl rfl rfl (fun hg1 w hS=>(by exact .fieldAddr 14 (.of rfl) Xcf rfl rfl Xco rfl)) rfl ?_)
 refine .gval rfl rfl rfl (fun hg1 w hS=>(Ex.arrAddrO (i:=r.kind) (.gd hg1 rfl) (.gd hg1 rfl) (by omega) (by omega) Xcb Qs3)) rfl (.gval rfl rfl rfl (fun hg1 w hS=>(.ld (.gd hg1 rfl) hS (k:=1) rfl Qg3 (X38 hps (o:=0+14+r.kind.toNat*1) (k:=14+r.kind.toNat) (by omega) (by omega)))) rfl (.gcall rfl rfl rfl Xp3 rfl (fun hg1=>(X0 (.gd hg1 rfl) (X0 (.gd hg1 rfl) X4))) rfl (fun hg1 w hS=>X20 (X9b _ _ w) hS) (.val (fun w hS=>(.pand (.of rfl) (.of rfl) (.of rfl))) rfl (.val (fun w hS=>(.assign (.of rfl))) rfl (.nil ?_)))))
 clear hS; intro w hS
 refine .ret (X9 Tryz.results115 rfl ?_)
 refine ⟨_,rfl,congrArg Value.bool ?_,(hS.drop (k:=0) rfl).drop (k:=0) rfl⟩
 rw [X6f,decide_eq_true hk1.1,decide_eq_true hk1.2]
 rfl
def Xm1 (ps:List Int) (name:List UInt8) (now:Int) (r:Rec):Bool:=((r.name == name) || Xgl r.kind) && !X6f ps r now
def X44 (ps:List Int) (l:List Rec) (name:List UInt8) (now:Int):Bool:=!(path l name).any (Xm1 ps name now) && decide (0<(path l name).length)
theorem Xdm (l:List Rec):∀ (f:Nat) (i:Int) (r:Rec),r∈X49 l f i→∃ j:Nat,l[j]?=some r
 | 0,_,r,h=>by simp [X49] at h
 | f+1,i,r,h=>by
  rw [X49] at h
  split at h
  ·simp at h
  ·split at h
   ·rename_i t ht
    rcases Y17.1 h with e | e
    ·subst e; exact ⟨_,ht⟩
    ·exact Xdm l f _ r e
   ·simp at h
theorem Xgb {l:List Rec} {name:List UInt8} {r:Rec} (h:r∈path l name):∃ j:Nat,l[j]?=some r:=Xdm l _ _ r h
theorem X5w {r:Rec} (h:Xr r=true):(0≤r.made∧r.made≤1099511627776)∧(0≤r.used∧r.used≤1099511627776)∧0≤r.uses∧r.uses≤255:=by
 unfold Xr at h
 simp only [Yq,decide_eq_true_eq] at h
 omega
theorem Xi6 (tb:Nat) (room:Int) (a:Option Addr) (c:Nat) (l:List Rec) (hl:l.length≤100000) (hwf:Wf l) (ps:List Int) (hps:ps.length=21) (name:List UInt8) (now:Int) (hn:0≤now∧now≤1099511627776) (B w:World) (I:Im) (As:List X8) (hS:Sat B w I (blk tb [I64 room,.slice a l.length c] 127::Vec 45 10 (.slice a l.length c) l.length (Xf l)::As)) :
  Calls Tryz.prog 65 [ptr tb 0,.agg (ps.map I64).toArray,S name,I64 now].toArray w (Ret fun v w'=>∃ J,Le I J∧v=.bool (X44 ps l name now)∧Sat B w' J (blk tb [I64 room,.slice a l.length c] 127::Vec 45 10 (.slice a l.length c) l.length (Xf l)::As)):=by
 refine calls Tryz.func65 rfl Tryz.ntmps65 rfl (.seq (.region (.boxA (cs:=ps.map I64) hS (.of rfl) rfl ?_)))
 clear hS; intro b5 w hS
 refine .q 1 rfl (.nil (.seq (.t 2 rfl (.call Tryz.func80 rfl (X0 (.of rfl) (X0 (.of rfl) X4)) rfl (Xnk tb room a c l hl hwf name B _ I _ ((hS.pick 2 rfl).pick 2 rfl)) ?_))))
 clear hS
 rintro _ w ⟨J,pa,pc,rfl,hJ,hpc,hRS,hS⟩
 have hpl:=Xcj hwf name
 refine .q 1 rfl (.nil (.seq (.seq (.region (.run 3 rfl ⟨⟨_,X1p⟩,trivial⟩ (.nil (.block (.loop (σ:=Nat) (fun i=>[(0,ptr tb 0),(2,S name),(3,I64 now),(5,ptr b5 0),(9,.slice pa (path l name).length pc),(17,.slice pa (path l name).length pc),(18,I64 ((path l name).length:Nat)),(19,I64 (i:Nat))]) (fun i w=>i≤(path l name).length∧(∀ (j:Nat) r,j<i→(path l name)[j]?=some r→Xm1 ps name now r=false)∧Sat B w J (blk tb [I64 room,.slice a l.length c] 127::Vec 45 10 (.slice a l.length c) l.length (Xf l)::blk b5 (ps.map I64) 31::As)) (fun i=>(path l name).length - i) 0 ⟨rfl,rfl,rfl,rfl,rfl,rfl,rfl,rfl,trivial⟩ ⟨Yp _,fun _ _ h=>absurd h (by omega),hS⟩ ?_))))))))
 rintro i w ⟨hi,hno,hS⟩
 refine .seq (.q 1 rfl (.seq ?_))
 refine WC.cond rfl (fun hb20=>?_) (fun hb20=>?_)
 ·
  have hc20:=hb20; try simp only [Y6] at hc20
  refine .skip (.seq (.block (.seq ?_)))
  obtain ⟨r,hr⟩:∃ r,(path l name)[i]?=some r:=⟨_,Y4 (by omega)⟩
  obtain ⟨q,hq⟩:=Xgb (Ym hr)
  have hgd:getD l r.name=r:=by rw [getD,hwf.get_ hq]; rfl
  obtain ⟨ht1,ht2,_⟩:=X5w (hwf.right r (Ym hq))
  obtain ⟨p,rfl,hA⟩:=hRS.2 (by omega)
  have hnm:((path l name).map fun r=>S r.name)[i]?=some (S r.name):=by rw [Yy,hr]; rfl
  refine .region (WL.val (.indexAddrI (.of rfl) (.of rfl) (by omega) (by omega) X1p Qs9) rfl ?_)
  refine WL.val (ldC (.of rfl) (by have h9:=X2o hS hA hnm; simpa using h9) Qg9) rfl ?_
  refine .q 1 rfl (.nil (.seq (.t 2 rfl (.call Qf17 rfl (X0 (.of rfl) (X0 (.of rfl) X4)) rfl (Xfi tb room _ c l hl r.name B _ J _ hS) ?_))))
  clear hS
  rintro _ w ⟨rfl,hS⟩
  rw [hgd]
  refine .q 3 rfl (.allocA (cs:=[_,_,_,_,_,_,_,_,_,_]) hS X5q rfl ?_)
  clear hS; intro b12 w hS
  refine WL.stA hS (k:=0) rfl (.of rfl) (.of rfl) rfl Xw rfl (by simp) ?_
  clear hS; intro w hS
  try simp only [Yl,Yf,Yc,Y9,Yj,Yo,Yd] at hS
  refine .q 1 rfl (.nil (.seq (.t 4 rfl ?_)))
  refine WL.gval rfl rfl (fun hg1=>(by exact .fieldAddr 0 (.of rfl) X15 rfl rfl Qs3 rfl)) rfl ?_
  refine WL.gval rfl rfl (fun hg1=>(by exact (.ld (.gd hg1 rfl) hS (k:=0) rfl Qg3 rfl))) rfl ?_
  refine .gcall (T:=fun w=>Sat B w J (blk b12 [I64 r.kind,S r.name,S r.parent,S r.user,S r.service,S r.url,I64 r.made,I64 r.used,I64 r.uses,.bool r.fresh] 45::blk tb [I64 room,.slice a l.length c] 127::Vec 45 10 (.slice a l.length c) l.length (Xf l)::blk b5 (ps.map I64) 31::As)) rfl rfl rfl Tryz.func114 rfl (fun hg1=>(X0 (.gd hg1 rfl) X4)) rfl (fun hg1=>X20 (Xl5 _ w) hS) hS ?_
  clear hS; rintro w hS
  refine .val (.por (.of rfl) (.of rfl) (.of rfl)) rfl (.q 1 rfl ?_)
  refine WL.gval rfl rfl (fun hg1=>(.lds (vs:=ps.map I64) (.of rfl) hS (k:=3) rfl Xqn Xim (by rw [Yz]; exact hps) (fun j v hj=>by rw [Yd]; exact hj))) rfl ?_
  refine WL.gval rfl rfl (fun hg1=>(by exact (.ldsW (cs:=[_,_,_,_,_,_,_,_,_,_]) (.of rfl) hS (k:=0) rfl X36 Xw rfl))) rfl ?_
  refine .gval rfl rfl (fun hg1=>(.move (.of rfl))) rfl (.gcall (T:=fun w=>Sat B w J (blk b12 [I64 r.kind,S r.name,S r.parent,S r.user,S r.service,S r.url,I64 r.made,I64 r.used,I64 r.uses,.bool r.fresh] 45::blk tb [I64 room,.slice a l.length c] 127::Vec 45 10 (.slice a l.length c) l.length (Xf l)::blk b5 (ps.map I64) 31::As)) rfl rfl rfl Tryz.func115 rfl (fun hg1=>(X0 (.gd hg1 rfl) (X0 (.gd hg1 rfl) (X0 (.gd hg1 rfl) X4)))) rfl (fun hg1=>Xnp ps hps r now ht1 ht2 hn B _ J _ hS) hS ?_)
  clear hS; rintro w hS
  refine .gval rfl rfl (fun hg1=>(.not (.gd hg1 rfl))) rfl (.val (.pand (.of rfl) (.of rfl) (.of rfl)) rfl (.nil ?_))
  refine WC.cond rfl (fun hb43=>?_) (fun hb43=>?_)
  ·
   refine .seq (.q 1 rfl (.ret (X9 Tryz.results65 rfl ?_)))
   refine ⟨_,rfl,J,hJ,congrArg Value.bool ?_,(hS.drop (k:=0) rfl).drop (k:=2) rfl⟩
   have:(path l name).any (Xm1 ps name now)=true:=Y2l.2 ⟨r,Ym hr,hb43⟩
   rw [X44,this]; rfl
  have hc43:=hb43; try simp only [Y6] at hc43
  refine .skip (.region (.run 2 rfl ⟨⟨by omega,by omega⟩,trivial⟩ (.nil ?_)))
  refine ⟨i+1,⟨rfl,rfl,rfl,rfl,rfl,rfl,rfl,rfl,trivial⟩,⟨by (try dsimp only); omega,fun j t hj ht=>?_,hS.drop (k:=0) rfl⟩,by (try dsimp only); omega⟩
  rcases Yr j i with h1 | h1
  ·exact hno j t h1 ht
  ·have e:j=i:=by omega
   subst e
   rw [hr] at ht; cases ht
   exact hb43
 have hc20:=hb20; try simp only [Y6] at hc20
 refine .exit (.seq (.region (.run 4 rfl ⟨⟨_,X1p⟩,trivial⟩ (.nil (.ret (X9 Tryz.results65 rfl ?_))))))
 refine ⟨_,rfl,J,hJ,congrArg Value.bool ?_,hS.drop (k:=2) rfl⟩
 have:(path l name).any (Xm1 ps name now)=false:=by
  rw [Y3e]
  intro r hr
  obtain ⟨j,hj,hjr⟩:=Y32 hr
  rw [hno j r (by omega) (by rw [Y4 hj,hjr])]
  decide
 rw [X44,this]
 simp
def letC (c:UInt8):Bool:=(decide ((97:Int)≤(c.toNat:Int)) && decide ((c.toNat:Int)≤122)) || (decide ((65:Int)≤(c.toNat:Int)) && decide ((c.toNat:Int)≤90))
def X5z (s:List UInt8) (lo least most:Int):Bool:=(s.all fun c=>!(decide ((c.toNat:Int)<lo) || decide ((126:Int)<(c.toNat:Int)))) && (decide (least≤(s.length:Int)) && decide ((s.length:Int)≤most))
theorem Xh0 (c:UInt8) (w:World) :
  Calls Tryz.prog 202 [U8 c.toNat].toArray w (Ret fun v w'=>v=.bool (letC c)∧w=w'):=by
 refine calls Tryz.func202 rfl Tryz.ntmps202 rfl (.seq (.q 1 rfl (.seq (.t 3 rfl (.gval rfl rfl (fun hg1=>(.move (.of rfl))) rfl (.gval rfl rfl (fun hg1=>(.leq (.gd hg1 rfl) (.of rfl))) rfl (.val (.pand (.of rfl) (.of rfl) (.of rfl)) rfl (.q 1 rfl (.gval rfl rfl (fun hg1=>(.move (.of rfl))) rfl (.gval rfl rfl (fun hg1=>(.geq (.gd hg1 rfl) (.of rfl))) rfl (.gval rfl rfl (fun hg1=>(.move (.gd hg1 rfl))) rfl (.gval2 rfl rfl rfl (fun hg1 hg2=>(.move (.of rfl))) rfl (.gval2 rfl rfl rfl (fun hg1 hg2=>(.leq (.gd2 hg1 hg2 rfl) (.of rfl))) rfl (.gval rfl rfl (fun hg1=>(.pand (.gd hg1 rfl) (.gd hg1 rfl) (.of rfl))) rfl (.val (.por (.of rfl) (.of rfl) (.of rfl)) rfl (.q 1 rfl (.nil (.ret (X9 Tryz.results202 rfl ?_)))))))))))))))))))
 exact ⟨_,rfl,rfl,rfl⟩
theorem Xaz (s:List UInt8) (lo least most:Int) (hs:s.length≤9223372036854775807) (B w:World) (I:Im) (As:List X8) (hS:Sat B w I As) :
  Calls Tryz.prog 176 [S s,.int .u8 lo,I64 least,I64 most].toArray w (Ret fun v w'=>v=.bool (X5z s lo least most)∧Sat B w' I As):=by
 refine calls Tryz.func176 rfl Tryz.ntmps176 rfl (.seq (.q 1 rfl (.seq (.seq (.region (.run 3 rfl ⟨Qu9,trivial⟩ (.nil (.block (.loop (σ:=Nat) (fun i=>[(0,S s),(1,.int .u8 lo),(2,I64 least),(3,I64 most),(11,I64 (s.length:Nat)),(12,I64 (i:Nat))]) (fun i w=>i≤s.length∧(∀ (j:Nat) c,j<i→s[j]?=some c→(decide ((c.toNat:Int)<lo) || decide ((126:Int)<(c.toNat:Int)))=false)∧Sat B w I As) (fun i=>s.length - i) 0 ⟨rfl,rfl,rfl,rfl,rfl,rfl,trivial⟩ ⟨Yp _,fun _ _ h=>absurd h (by omega),hS⟩ ?_)))))))))
 rintro i w ⟨hi,hno,hS⟩
 refine .seq (.q 1 rfl (.seq ?_))
 refine WC.cond rfl (fun hb13=>?_) (fun hb13=>?_)
 ·
  have hc13:=hb13; try simp only [Y6] at hc13
  refine .skip (.seq (.block (.seq (.q 2 rfl (.seq (.region (.run 6 rfl ⟨⟨⟨by omega,by omega⟩,Qu9⟩,trivial⟩ (.gval rfl rfl (fun hg1=>(.move (.of rfl))) rfl (.gval rfl rfl (fun hg1=>(.move (.of rfl))) rfl ?_)))))))))
  refine WL.gval rfl rfl (fun hg1=>(.index (.gd hg1 rfl) (.gd hg1 rfl) (by (try simp only [Y6] at hg1); omega) (by (try simp only [Y6] at hg1); omega) Qu9)) rfl ?_
  refine .gval rfl rfl (fun hg1=>(.gtr (.gd hg1 rfl) (.of rfl))) rfl (.val (.por (.of rfl) (.of rfl) (.of rfl)) rfl (.nil ?_))
  refine WC.cond rfl (fun hb25=>?_) (fun hb25=>?_)
  ·
   have hc25:=hb25; try simp only [Y6] at hc25
   refine .seq (.q 1 rfl (.ret (X9 Tryz.results176 rfl ?_)))
   refine ⟨_,rfl,congrArg Value.bool ?_,hS⟩
   have:(s.all fun c=>!(decide ((c.toNat:Int)<lo) || decide ((126:Int)<(c.toNat:Int))))=false:=by
    rw [Y2j]
    exact ⟨_,Ym (Xz (show i<s.length by omega)),by rw [hb25]; decide⟩
   rw [X5z,this]; rfl
  have hc25:=hb25; try simp only [Y6] at hc25
  refine .skip (.region (.run 2 rfl ⟨⟨by omega,by omega⟩,trivial⟩ (.nil ?_)))
  refine ⟨i+1,⟨rfl,rfl,rfl,rfl,rfl,rfl,trivial⟩,⟨by (try dsimp only); omega,fun j c hj hc=>?_,hS⟩,by (try dsimp only); omega⟩
  rcases Yr j i with h1 | h1
  ·exact hno j c h1 hc
  ·have e:j=i:=by omega
   subst e
   rw [Xz (show j<s.length by omega)] at hc; cases hc
   exact hb25
 have hc13:=hb13; try simp only [Y6] at hc13
 refine .exit (.seq (.region (.run 5 rfl ⟨Qu9,trivial⟩ (.gval rfl rfl (fun hg1=>(.move (.of rfl))) rfl (.gval rfl rfl (fun hg1=>(.len (.gd hg1 rfl) Qu9)) rfl (.gval rfl rfl (fun hg1=>(.move (.of rfl))) rfl (.gval rfl rfl (fun hg1=>(.leq (.gd hg1 rfl) (.gd hg1 rfl))) rfl (.val (.pand (.of rfl) (.of rfl) (.of rfl)) rfl (.q 1 rfl (.nil (.ret (X9 Tryz.results176 rfl ?_))))))))))))
 refine ⟨_,rfl,congrArg Value.bool ?_,hS⟩
 have:(s.all fun c=>!(decide ((c.toNat:Int)<lo) || decide ((126:Int)<(c.toNat:Int))))=true:=by
  rw [Y1a]
  intro c hc
  obtain ⟨j,hj,hjr⟩:=Y32 hc
  rw [hno j c (by omega) (by rw [Y4 hj,hjr])]
  rfl
 rw [X5z,this]
 rfl
end Go.Proofs.YtadhiihnnkcagaaGreatDoor
namespace Tr
open Tk
inductive Und (l:List Rec) (k:List UInt8):List UInt8→Prop
 | self:Und l k k
 | step {i:Nat} {r:Rec} (hr:l[i]?=some r) (h:Und l k r.parent):Und l k r.name
theorem Und.trans {l:List Rec} {a b c:List UInt8} (h:Und l a b) (k:Und l b c):Und l a c:=by
 induction k with
 | self=>exact h
 | step hr _ ih=>exact .step hr ih
theorem X8e {l:List Rec} {name x:List UInt8} (h:x∈X2h l name):name≠[]∧∃ (i:Nat) (r:Rec),l[i]?=some r∧r.parent=name∧r.name=x:=by
 unfold X2h Xh9 at h
 obtain ⟨r,hr,hx⟩:=Y26.1 h
 obtain ⟨h1,h2⟩:=Y4g.1 hr
 simp only [Yq,decide_eq_true_eq] at h2
 obtain ⟨i,hi,he⟩:=Y32 h1
 exact ⟨h2.1,i,r,by rw [Y4 hi,he],h2.2,hx⟩
theorem Xcp {l:List Rec} (hw:Wf l) {name k:List UInt8} (h:k∈X2h l name):at0 l name<at0 l k∧0≤at0 l k∧0≤at0 l name:=by
 obtain ⟨h0,i,r,hr,hp,hn⟩:=X8e h
 have h1:=(hw.up i r hr)
 have h2:=hw.at_ hr
 subst hp; subst hn
 rcases h1.1 with e | e
 ·exact absurd e h0
 ·rw [h2]; exact ⟨h1.2,by omega,e⟩
theorem X6p {l:List Rec}:∀ (n:Nat) (name x:List UInt8),x∈Xl l n name→Und l name x
 | 0,_,_,h=>by simp [Xl] at h
 | n+1,name,x,h=>by
  rw [Xl,Y17] at h
  rcases h with e | h
  ·subst e; exact .self
  ·obtain ⟨k,hk,hx⟩:=Y3l.1 h
   obtain ⟨_,i,r,hr,hp,hn⟩:=X8e hk
   subst hp; subst hn
   exact (Und.step hr .self).trans (X6p n _ _ hx)
theorem Xpn {l:List Rec} (hw:Wf l) {k x:List UInt8} (h:Und l k x):k=x∨at0 l k<at0 l x:=by
 induction h with
 | self=>exact .inl rfl
 | step hr _ ih =>
  have h1:=(hw.up _ _ hr).2
  rw [hw.at_ hr]
  rcases ih with e | e
  ·rw [← e] at h1; exact .inr h1
  ·exact .inr (by omega)
theorem Xrq {l:List Rec} (hw:Wf l) {a b x:List UInt8} (h:Und l a x):Und l b x→Und l a b∨Und l b a:=by
 induction h with
 | self=>exact fun k=>.inr k
 | @step i r hr h ih =>
  intro k
  generalize hy:r.name=y at k
  cases k with
  | self=>rw [← hy]; exact .inl (.step hr h)
  | step hs hp =>
   have e:=hw.one _ _ _ _ hr hs hy
   subst e
   rw [hr] at hs
   cases hs
   exact ih hp
theorem Xig {l:List Rec} (hw:Wf l) (name:List UInt8):(X2h l name).Nodup:=by
 unfold X2h Xh9
 have h1:(l.map Rec.name).Nodup:=by
  rw [List.Nodup,Y2v]
  intro i j hi hj hij e
  simp only [Yz] at hi hj
  simp only [Y35] at e
  have:=hw.one i j l[i] l[j] (Y4 hi) (Y4 hj) e
  omega
 exact h1.sublist ((Y4h (l:=l)).map Rec.name)
theorem X4o {l:List Rec} (hw:Wf l):∀ (n:Nat) (name:List UInt8),(Xl l n name).Nodup
 | 0,_=>by simp [Xl]
 | n+1,name=>by
  rw [Xl,Y2w]
  constructor
  ·intro h
   obtain ⟨k,hk,hx⟩:=Y3l.1 h
   have h1:=Xcp hw hk
   rcases Xpn hw (X6p n k name hx) with e | e
   ·rw [e] at h1; omega
   ·omega
  ·rw [List.Nodup,List.pairwise_flatMap]
   refine ⟨fun k _=>X4o hw n k,?_⟩
   refine List.Pairwise.imp_of_mem ?_ (Xig hw name)
   intro a b ha hb hne x hx y hy e
   subst e
   have key:∀ {p q:List UInt8},p∈X2h l name→q∈X2h l name→p≠q→Und l p q→False:=by
    intro p q hp hq hpq hu
    cases hu with
    | self=>exact hpq rfl
    | step hr h =>
     rename_i r
     obtain ⟨_,i,s,hs,hsp,hsn⟩:=X8e hq
     have e:=hw.one _ _ _ _ hr hs hsn.symm
     subst e
     rw [hr] at hs
     cases hs
     rw [hsp] at h
     have h1:=Xcp hw hp
     rcases Xpn hw h with e | e
     ·rw [e] at h1; omega
     ·omega
   rcases Xrq hw (X6p n a x hx) (X6p n b x hy) with h | h
   ·exact key ha hb hne h
   ·exact key hb ha (Ne.symm hne) h
theorem X74 {l:List Rec}:∀ (n:Nat) (name x:List UInt8),x∈Xl l n name→x=name∨∃ r∈l,r.name=x
 | 0,_,_,h=>by simp [Xl] at h
 | n+1,name,x,h=>by
  rw [Xl,Y17] at h
  rcases h with e | h
  ·exact .inl e
  ·obtain ⟨k,hk,hx⟩:=Y3l.1 h
   obtain ⟨_,i,r,hr,hp,hn⟩:=X8e hk
   rcases X74 n k x hx with e | e
   ·exact .inr ⟨r,Ym hr,by rw [hn,e]⟩
   ·exact .inr e
theorem X8k {α:Type} [DecidableEq α]:∀ (a b:List α),a.Nodup→(∀ x∈a,x∈b)→a.length≤b.length
 | [],_,_,_=>Yp _
 | x::a,b,hn,hs=>by
  rw [Y2w] at hn
  have hx:x∈b:=hs x (by simp)
  have h1:=X8k a (b.erase x) hn.2 (fun y hy=>(List.mem_erase_of_ne (by intro e; subst e; exact hn.1 hy)).2 (hs y (by simp [hy])))
  rw [Y4v hx] at h1
  have:=Y52 hx
  rw [Y8]; omega
theorem Xd5 {l:List Rec} (hw:Wf l) (n:Nat) (name:List UInt8):(Xl l n name).length≤l.length+1:=by
 have h:=X8k (Xl l n name) (name::l.map Rec.name) (X4o hw n name) (fun x hx=>by
  rcases X74 n name x hx with e | ⟨r,hr,e⟩
  ·simp [e]
  ·exact Y2f _ (Y26.2 ⟨r,hr,e⟩))
 simpa using h
theorem X8o {l:List Rec} (hw:Wf l):∀ (n m:Nat) (name:List UInt8),0≤at0 l name→(l.length:Int) - at0 l name≤n→(l.length:Int) - at0 l name≤m→Xl l n name=Xl l m name
 | 0,_,name,_,h,_=>by have:=Xck l name; omega
 | _+1,0,name,_,_,h=>by have:=Xck l name; omega
 | n+1,m+1,name,h0,hn,hm=>by
  rw [Xl,Xl]
  congr 1
  rw [List.flatMap_def,List.flatMap_def]
  congr 1
  refine List.map_congr_left fun k hk=>?_
  have:=Xcp hw hk
  exact X8o hw n m k this.2.1 (by omega) (by omega)
theorem Xgn {l:List Rec} (hw:Wf l) (name:List UInt8):(below l name).length≤l.length:=by
 unfold below
 split
 ·rename_i h0
  have h:=X8k (Xl l l.length name) (l.map Rec.name) (X4o hw _ name) (fun x hx=>by
   rcases X74 _ name x hx with e | ⟨r,hr,e⟩
   ·rcases X2r l name with ⟨h1,_⟩ | ⟨j,r,_,h2,h3,_⟩
    ·omega
    ·exact Y26.2 ⟨r,Ym h2,by rw [h3,e]⟩
   ·exact Y26.2 ⟨r,hr,e⟩)
  simpa using h
 ·simp
theorem Xat {l:List Rec} {i:Nat} {r:Rec} (hr:l[i]?=some r) (h0:r.parent≠[]):∀ (n:Nat) (name:List UInt8),r.parent∈Xl l n name→r.name∈Xl l (n+1) name
 | 0,_,h=>by simp [Xl] at h
 | n+1,name,h=>by
  rw [Xl,Y17] at h ⊢
  refine .inr (Y3l.2 ?_)
  rcases h with e | h
  ·refine ⟨r.name,?_,by rw [Xl]; simp⟩
   unfold X2h Xh9
   exact Y26.2 ⟨r,Y4g.2 ⟨Ym hr,by simp [← e,h0]⟩,rfl⟩
  ·obtain ⟨k,hk,hx⟩:=Y3l.1 h
   exact ⟨k,hk,Xat hr h0 n k hx⟩
theorem Xnv {l:List Rec} (hw:Wf l) {name:List UInt8} {i:Nat} {r:Rec} (hr:l[i]?=some r) (h0:r.parent≠[]) (h:r.parent∈below l name):r.name∈below l name:=by
 unfold below at h ⊢
 split at h
 ·rename_i h1
  rw [if_pos h1,X8o hw l.length (l.length+1) name h1 (by omega) (by omega)]
  exact Xat hr h0 _ _ h
 ·simp at h
theorem Wf.names {l:List Rec} (hw:Wf l):(l.map Rec.name).Nodup:=by
 rw [List.Nodup,Y2v]
 intro i j hi hj hij e
 simp only [Yz] at hi hj
 simp only [Y35] at e
 have:=hw.one i j l[i] l[j] (Y4 hi) (Y4 hj) e
 omega
theorem Wf.split {l:List Rec} (hw:Wf l) {xs ys:List Rec} {r:Rec} (h:l=xs ++ r::ys):r.parent=[]∨∃ t∈xs,t.name=r.parent:=by
 have hr:l[xs.length]?=some r:=by rw [h]; simp
 obtain ⟨h1,h2⟩:=hw.up _ _ hr
 rcases h1 with e | e
 ·exact .inl e
 ·rcases X2r l r.parent with ⟨h3,_⟩ | ⟨j,t,h3,h4,h5,_⟩
  ·omega
  ·refine .inr ⟨t,?_,h5⟩
   rw [h,Yg (by omega)] at h4
   exact Ym h4
theorem Wf.of {l:List Rec} (h1:∀ r∈l,Xr r=true) (h2:(l.map Rec.name).Nodup) (h3:∀ xs r ys,l=xs ++ r::ys→r.parent=[]∨∃ t∈xs,t.name=r.parent):Wf l:=by
 refine ⟨h1,fun i j r s hr hs e=>?_,fun i r hr=>?_⟩
 ·rw [List.Nodup,Y2v] at h2
  obtain ⟨hi,e1⟩:=Y5.1 hr
  obtain ⟨hj,e2⟩:=Y5.1 hs
  rcases Nat.lt_trichotomy i j with h | h | h
  ·exact absurd (by rw [Y35,Y35,e1,e2,e]) (h2 i j (by simpa using hi) (by simpa using hj) h)
  ·exact h
  ·exact absurd (by rw [Y35,Y35,e1,e2,e]) (h2 j i (by simpa using hj) (by simpa using hi) h)
 ·obtain ⟨hi,e1⟩:=Y5.1 hr
  have hsp:l=l.take i ++ r::l.drop (i+1):=by
   rw [← e1,← Y1d hi]; exact (Y10 i l).symm
  rcases h3 _ _ _ hsp with e | ⟨t,ht,e⟩
  ·refine ⟨.inl e,?_⟩
   rcases X2r l r.parent with ⟨h4,_⟩ | ⟨j,t,h4,h5,h6,_⟩
   ·omega
   ·exact absurd (h6.trans e) (X6z (h1 t (Ym h5)))
  ·obtain ⟨j,hj,e2⟩:=Y32 ht
   rw [Yu] at hj
   have h7:l[j]?=some t:=by rw [← e2,List.getElem_take]; exact Y4 (by omega)
   rcases X2r l r.parent with ⟨_,h5⟩ | ⟨q,u,h4,h5,h6,h8⟩
   ·exact absurd e (h5 t (Ym h7))
   ·have:q≤j:=Nat.le_of_not_lt fun hh=>h8 j t hh h7 e
    exact ⟨.inr (by omega),by omega⟩
theorem Wf.drop {l:List Rec} (hw:Wf l) (name:List UInt8):Wf (drop l name):=by
 refine Wf.of (fun r hr=>hw.right r (Y4g.1 hr).1) (hw.names.sublist (Y4h.map Rec.name)) fun xs r ys h=>?_
 obtain ⟨l1,l2,e1,e2,e3⟩:=List.filter_eq_append_iff.1 h
 obtain ⟨m1,m2,e4,e5,e6,_⟩:=List.filter_eq_cons_iff.1 e3
 have hsp:l=(l1 ++ m1) ++ r::m2:=by rw [e1,e4,Ye]
 have hr:l[(l1 ++ m1).length]?=some r:=by rw [hsp]; simp
 rcases hw.split hsp with e | ⟨t,ht,e⟩
 ·exact .inl e
 ·by_cases h0:r.parent=[]
  ·exact .inl h0
  ·refine .inr ⟨t,?_,e⟩
   have hk:((below l name).contains t.name)=false:=by
    cases hc:(below l name).contains t.name with
    | false=>rfl
    | true =>
     have h1:=Xnv hw hr h0 (by rw [← e]; simpa using hc)
     have h2:(below l name).contains r.name=true:=by simpa using h1
     rw [h2] at e6; cases e6
   rcases Y12.1 ht with h1 | h1
   ·rw [← e2]; exact Y4g.2 ⟨h1,by rw [hk]; rfl⟩
   ·exact absurd (by rw [hk]; rfl) (e5 t h1)
theorem Xo6 (l:List Rec) (name:List UInt8):(drop l name).Sublist l:=Y4h
end Tr
namespace Go.Proofs.YtadhiihnnkcagaaGreatDoor
open Gk Ul Pc Tk Tr
theorem Xih (tb:Nat) (room:Int) (a:Option Addr) (c:Nat) (l:List Rec) (hl:l.length≤100000) (hwf:Wf l) (ob tx wx:Nat) (As:List X8):∀ (n:Nat) (name:List UInt8) (out:List (List UInt8)) (v:Value) (B w:World) (I:Im) (h0:0≤at0 l name) (hn:(l.length:Int) - at0 l name≤n) (hob:out.length+(Xl l n name).length≤1000000) (hS:Sat B w I (blk ob [v] 41::Vec 9 1 (v) (out).length ((out).map S)::blk tx [ptr tb 0] 47::blk wx [.func (.func 139) #[] [ptr ob 0,ptr tx 0,ptr wx 0].toArray] 200::blk tb [I64 room,.slice a l.length c] 127::Vec 45 10 (.slice a l.length c) l.length (Xf l)::As)),
  Calls Tryz.prog 139 [S name,ptr ob 0,ptr tx 0,ptr wx 0].toArray w (Ret fun _ w'=>∃ J v',Le I J∧Sat B w' J (blk ob [v'] 41::Vec 9 1 (v') ((out ++ Xl l n name)).length (((out ++ Xl l n name)).map S)::blk tx [ptr tb 0] 47::blk wx [.func (.func 139) #[] [ptr ob 0,ptr tx 0,ptr wx 0].toArray] 200::blk tb [I64 room,.slice a l.length c] 127::Vec 45 10 (.slice a l.length c) l.length (Xf l)::As)):=by
 intro n
 induction n with
 | zero=>intro name out v B w I h0 hn; have:=Xck l name; omega
 | succ n ih =>
  intro name out v B w I h0 hn hob hS
  have hob2:=hob
  rw [Xl,Y8] at hob2
  refine calls Tryz.func139 rfl Tryz.ntmps139 rfl (.seq (.region ?_))
  refine WL.val (.ld (.of rfl) hS (k:=0) rfl Xio rfl) rfl (.q 1 rfl (.buildSlice (cs:=[_]) hS (X5 (.of rfl) X6) X1p Qs9 Qz9 rfl rfl rfl rfl ?_))
  clear hS; intro b9 w hS
  refine WL.append (size:=1) (bytes:=16) hS (.of rfl) (.of rfl) (k:=1) rfl X1p X1o rfl rfl rfl rfl rfl rfl rfl ⟨by omega,by unfold maxLen; omega⟩ rfl ?_
  clear hS; intro v10 w hS
  obtain ⟨a10,c10,rfl,hcap10,_⟩:=hS.vecSlice (k:=1) (v:=v10) rfl
  refine WL.st1 hS (k:=0) rfl (.of rfl) (.of rfl) rfl Xha (by simp) ?_
  clear hS; intro w hS
  refine .nil (.seq (.region ?_))
  refine WL.val (.ld (.of rfl) hS (k:=2) rfl Xip rfl) rfl (.q 1 rfl (.call Tryz.func140 rfl (X0 (.of rfl) (X0 (.of rfl) X4)) rfl (Xmc tb room a c l hl name B _ I _ ((hS.pick 5 rfl).pick 5 rfl)) ?_))
  clear hS
  rintro _ w ⟨J,ra,rc,rfl,hJ,hrc,hRS,hS⟩
  have hkl:=Xbd l name
  replace hS:=(((hS.pick 5 rfl).pick 5 rfl).pick 5 rfl).pick 5 rfl
  try dsimp only [List.eraseIdx] at hS
  refine .run 2 rfl ⟨⟨_,X1p⟩,trivial⟩ (.nil (.block (.loop (σ:=Nat×Value×Im) (fun ⟨i,v,J2⟩=>[(1,ptr ob 0),(2,ptr tx 0),(3,ptr wx 0),(13,.slice ra (X2h l name).length rc),(14,I64 ((X2h l name).length:Nat)),(15,I64 (i:Nat))]) (fun ⟨i,v,J2⟩ w=>i≤(X2h l name).length∧Le J J2∧Sat B w J2 (blk ob [v] 41::Vec 9 1 (v) ((out ++ name::((X2h l name).take i).flatMap (Xl l n))).length (((out ++ name::((X2h l name).take i).flatMap (Xl l n))).map S)::blk tx [ptr tb 0] 47::blk wx [.func (.func 139) #[] [ptr ob 0,ptr tx 0,ptr wx 0].toArray] 200::blk tb [I64 room,.slice a l.length c] 127::Vec 45 10 (.slice a l.length c) l.length (Xf l)::As)) (fun ⟨i,v,J2⟩=>(X2h l name).length - i) (0,_,J) ⟨rfl,rfl,rfl,rfl,rfl,rfl,trivial⟩ ⟨Yp _,Le.refl _,by simpa using hS⟩ ?_)))
  rintro ⟨i,v,J2⟩ w ⟨hi,hJ2,hS⟩
  refine .seq (.q 1 rfl (.seq ?_))
  refine WC.cond rfl (fun hb16=>?_) (fun hb16=>?_)
  ·
   have hc16:=hb16; try simp only [Y6] at hc16
   refine .skip (.seq (.block (.seq ?_)))
   obtain ⟨k,hk⟩:∃ k,(X2h l name)[i]?=some k:=⟨_,Y4 (by omega)⟩
   have hkm:=Xcp hwf (Ym hk)
   have hnm:((X2h l name).map S)[i]?=some (S k):=by rw [Yy,hk]; rfl
   have hfl:(((X2h l name).take i).flatMap (Xl l n)).length+(Xl l n k).length≤((X2h l name).flatMap (Xl l n)).length:=by
    have e:=Y10 i (X2h l name)
    have e2:=Y1d (l:=X2h l name) (i:=i) (by omega)
    rw [(Y5.1 hk).2] at e2
    rw [e2] at e
    have e3:=congrArg (fun x=>(List.flatMap (Xl l n) x).length) e
    simp only [Y1p,Y2c,Y0] at e3
    omega
   obtain ⟨p,rfl,hA⟩:=hRS.2 (by omega)
   refine .region (WL.val (.indexAddrI (.of rfl) (.of rfl) (by omega) (by omega) X1p Qs9) rfl ?_)
   refine WL.val (ldC (.of rfl) (by have h9:=X2o hS (hA.mono hJ2) hnm; simpa using h9) Qg9) rfl ?_
   refine .q 1 rfl (.nil (.region ?_))
   refine WL.val (.ld (.of rfl) hS (k:=3) rfl Tryz.isAgg200 rfl) rfl (.q 1 rfl (WL.vcall (cap:=[ptr ob 0,ptr tx 0,ptr wx 0]) Tryz.func139 rfl (.of rfl) (X0 (.of rfl) X4) rfl (ih k (out ++ name::((X2h l name).take i).flatMap (Xl l n)) v B w J2 hkm.2.1 (by omega) (by simp only [Y0,Y8,Xl] at hob ⊢; omega) hS) ?_))
   clear hS
   rintro _ w ⟨J3,v3,hJ3,hS⟩
   refine .nil (.region (.run 2 rfl ⟨⟨by omega,by omega⟩,trivial⟩ (.nil ?_)))
   refine ⟨(i+1,v3,J3),⟨rfl,rfl,rfl,rfl,rfl,rfl,trivial⟩,⟨by (try dsimp only); omega,hJ2.trans hJ3,?_⟩,by (try dsimp only); omega⟩
   rw [Y15,hk,Y20,Y1p,Y2c,List.flatMap_nil,Yc,← Ys,← Ye]
   exact hS
  have hc16:=hb16; try simp only [Y6] at hc16
  refine .exit (X8g Tryz.results139 ?_)
  have hin:i=(X2h l name).length:=by omega
  subst hin
  rw [Y1b] at hS
  exact ⟨_,rfl,J2,v,hJ.trans hJ2,hS⟩
theorem Xk7 (tb:Nat) (room:Int) (a:Option Addr) (c:Nat) (l:List Rec) (hl:l.length≤100000) (hwf:Wf l) (name:List UInt8) (B w:World) (I:Im) (As:List X8) (hS:Sat B w I (blk tb [I64 room,.slice a l.length c] 127::Vec 45 10 (.slice a l.length c) l.length (Xf l)::As)) :
  Calls Tryz.prog 100 [ptr tb 0,S name].toArray w (Ret fun v w'=>∃ J ra rc,v=.slice ra (below l name).length rc∧Le I J∧(below l name).length≤rc∧RS J ra 1 (below l name).length ((below l name).map S)∧Sat B w' J (blk tb [I64 room,.slice a l.length c] 127::Vec 45 10 (.slice a l.length c) l.length (Xf l)::As)):=by
 refine calls Tryz.func100 rfl Tryz.ntmps100 rfl (.seq (.region (.box1 hS (.of rfl) rfl rfl ?_)))
 clear hS; intro b2 w hS
 refine .q 1 rfl (.nil (.seq (.region (.alloc1 hS Qz41 rfl rfl ?_))))
 clear hS; intro b5 w hS
 refine .nil (.seq (.region (.alloc1 hS Tryz.zeroValue200 rfl rfl ?_)))
 clear hS; intro b6 w hS
 refine .nil (.seq (.region (.val (.makeFunc (X0 (.of rfl) (X0 (.of rfl) (X0 (.of rfl) X4)))) rfl ?_)))
 refine WL.st1 hS (k:=0) rfl (.of rfl) (.of rfl) rfl Tryz.sizeOf200 (by simp) ?_
 clear hS; intro w hS
 refine .nil (.seq (.seq (.region ?_)))
 refine WL.val (.ld (.of rfl) hS (k:=2) rfl Xip rfl) rfl (.q 1 rfl (.call Xpl rfl (X0 (.of rfl) (X0 (.of rfl) X4)) rfl (X8r tb room a c l hl name B _ I _ ((hS.pick 4 rfl).pick 4 rfl)) ?_))
 clear hS
 rintro _ w ⟨rfl,hS⟩
 replace hS:=((hS.pick 4 rfl).pick 4 rfl).pick 4 rfl
 try dsimp only [List.eraseIdx] at hS
 refine .q 1 rfl (.nil ?_)
 refine WC.cond rfl (fun hb11=>?_) (fun hb11=>?_)
 ·
  have hc11:=hb11; try simp only [Y6] at hc11
  replace hS:=(((hS.vecNil 9 1).pick 1 rfl).pick 3 rfl)
  try dsimp only [List.eraseIdx] at hS
  have hS9:=(hS.pick 2 rfl).pick 3 rfl
  try dsimp only [List.eraseIdx] at hS9
  clear hS
  have hS:=hS9
  clear hS9
  refine .region (WL.val (.ld (.of rfl) hS (k:=3) rfl Tryz.isAgg200 rfl) rfl (.q 1 rfl ?_))
  refine WL.vcall (cap:=[ptr b5 0,ptr b2 0,ptr b6 0]) Tryz.func139 rfl (.of rfl) (X0 (.of rfl) X4) rfl (Xih tb room a c l hl hwf b5 b2 b6 As l.length name [] _ B w I (by simpa using hb11) (by omega) (by have:=Xd5 hwf l.length name; simp only [Yk]; omega) hS) ?_
  clear hS
  rintro _ w ⟨J,v2,hJ,hS⟩
  refine .nil (.seq (.region ?_))
  refine WL.val (.ld (.of rfl) hS (k:=0) rfl Xio rfl) rfl (.q 1 rfl (.nil (.ret (X9 Tryz.results100 rfl ?_))))
  rw [Yf] at hS
  have hbe:below l name=Xl l l.length name:=if_pos (by simpa using hb11)
  rw [hbe]
  obtain ⟨ka,kc,rfl,hkc,_⟩:=hS.vecSlice (k:=1) rfl
  obtain ⟨J2,hJ2,hRS,hS⟩:=hS.freezeVec (k:=1) rfl
  exact ⟨_,rfl,J2,ka,kc,rfl,hJ.trans hJ2,hkc,hRS,((hS.drop (k:=0) rfl).drop (k:=0) rfl).drop (k:=0) rfl⟩
 refine .skip (.seq (.region ?_))
 refine WL.val (.ld (.of rfl) hS (k:=1) rfl Xio rfl) rfl (.q 1 rfl (.nil (.ret (X9 Tryz.results100 rfl ?_))))
 have hbe:below l name=[]:=if_neg (by simpa using hb11)
 rw [hbe]
 exact ⟨_,rfl,I,none,0,rfl,Le.refl _,Yt _,⟨rfl,fun h=>absurd h (by simp)⟩,((hS.drop (k:=0) rfl).drop (k:=0) rfl).drop (k:=0) rfl⟩
theorem Xga (p:List UInt8):∀ (l:List (List UInt8)) (i:Nat),decide (0≤Xfu p l i)=l.contains p
 | [],i=>rfl
 | x::l,i=>by
  rw [Xfu,List.contains_cons]
  split
  ·rename_i h
   subst h
   rw [beq_self_eq_true,Bool.true_or,decide_eq_true_eq]; omega
  ·rename_i h
   rw [beq_eq_false_iff_ne.2 h,Y4x,Xga p l (i+1)]
theorem Xdu (a:Option Addr) (c:Nat) (l:List (List UInt8)) (hll:l.length≤100000) (p:List UInt8) (B w:World) (I:Im) (hA:RS I a 1 l.length (l.map S)) (As:List X8) (hS:Sat B w I As) :
  Calls Tryz.prog 103 [.slice a l.length c,S p].toArray w (Ret fun v w'=>v=.bool (l.contains p)∧Sat B w' I As):=by
 refine calls Tryz.func103 rfl Tryz.ntmps103 rfl (.seq (.q 1 rfl (.seq (.t 2 rfl (.call Xoc rfl (X0 (.of rfl) (X0 (.of rfl) X4)) rfl (X76 a c l hll p B _ I hA As hS) ?_)))))
 clear hS
 rintro _ w ⟨rfl,hS⟩
 refine .q 2 rfl (.nil (.ret (X9 Tryz.results103 rfl ?_)))
 exact ⟨_,rfl,by rw [← Xga p l 0],hS⟩
theorem Xjw (gb:Nat) (ga:Option Addr) (gc:Nat) (gn:List (List UInt8)) (hgl:gn.length≤100000) (r:Rec) (B w:World) (I:Im) (hA:RS I ga 1 gn.length (gn.map S)) (As:List X8) (hS:Sat B w I (blk gb [.slice ga gn.length gc] 41::As)) :
  Calls Tryz.prog 102 [.agg (X7 r).toArray,ptr gb 0].toArray w (Ret fun v w'=>v=.bool (gn.contains r.name)∧Sat B w' I (blk gb [.slice ga gn.length gc] 41::As)):=by
 refine calls Tryz.func102 rfl Tryz.ntmps102 rfl (.seq (.region (.boxA (cs:=[_,_,_,_,_,_,_,_,_,_]) hS (.of rfl) rfl ?_)))
 clear hS; intro b2 w hS
 refine .q 1 rfl (.nil (.seq (.region ?_)))
 refine WL.val (.ld (.of rfl) hS (k:=1) rfl Xio rfl) rfl (WL.val (.fieldAddr 1 (.of rfl) X15 rfl rfl Qs9 rfl) rfl (WL.val (.ld (.of rfl) hS (k:=0) rfl Qg9 rfl) rfl (.call Tryz.func103 rfl (X0 (.of rfl) (X0 (.of rfl) X4)) rfl (Xdu ga gc gn hgl r.name B _ I hA _ hS) ?_)))
 clear hS
 rintro _ w ⟨rfl,hS⟩
 refine .q 1 rfl (.nil (.ret (X9 Tryz.results102 rfl ?_)))
 exact ⟨_,rfl,rfl,hS.drop (k:=0) rfl⟩
theorem WL.clear {P:Program} {n:Nat} {ops:Array Oper} {K:X3r} {rest:List Oper} {L:Env} {w B:World} {I:Im} {As:List X8} {k b o m cap s:Nat} {cs:List Value} {E e t ty:TypeId} {x:Operand} {z:Value} {pos:String} {af:Array Edge} (hS:Sat B w I As) (hk:As[k]?=some (blk b cs E)) (hx:Ev n L x (.slice (some (ad b o)) m cap)) (ht:P.underlying t=some (.slice e)) (hz:∀ w,(zeroValue e).run P w=.ok z w) (hs:z.cells.size=s) (h1:∀ v∈z.cells,v.oneCell'=true) (ho:o+m*s≤cs.length)
  (h:∀ w' cs',cs'.length=cs.length→cs'.take o=cs.take o→Sat B w' I (As.set k (blk b cs' E))→WL P n ops K rest L w'):WL P n ops K (⟨none,.call ⟨.builtin .clear,#[x],#[t]⟩,ty,pos,af,none⟩::rest) L w:=by
 subst hs
 have go:∀ w' v,(∀ a,Holds n L a→(execOp a.eval (⟨none,.call ⟨.builtin .clear,#[x],#[t]⟩,ty,pos,af,none⟩:Oper)).run P w=.ok (.value v) w')→WL P n ops K rest L w'→WL P n ops K (⟨none,.call ⟨.builtin .clear,#[x],#[t]⟩,ty,pos,af,none⟩::rest) L w:=by
  intro w' v hx h a ha
  refine wpList_plain rfl fun K' hK=>?_
  unfold Oper.wp
  rw [hx a ha]
  exact hK _ _ (h _ (ha.skip v))
 have hb:=hS.block hk
 have hzl:(Builtin.zeroCells z.cells m).toList.length=m*z.cells.size:=by rw [Y30,size_zeroCells]
 have hst:=run_storeCells_at P b o E (Builtin.zeroCells z.cells m).toList 0 cs.toArray w hb (by simp only [Y2h,hzl,Y3t]; exact ho) (fun v hv=>by
  rw [Array.mem_toList_iff] at hv
  unfold Builtin.zeroCells at hv
  obtain ⟨i,hi,rfl⟩:=Array.mem_map.1 hv
  have hi2:i<m*z.cells.size:=by simpa using hi
  have hp:0<z.cells.size:=Nat.pos_of_ne_zero fun e=>by rw [e] at hi2; omega
  have hlt:=Y36 i hp
  rw [getElem!_pos z.cells (i % z.cells.size) hlt]
  exact h1 _ (Array.getElem_mem hlt))
 simp only [Y2h] at hst
 cases m with
 | zero =>
  refine go w (.tuple #[]) (fun a ha=>?_) (h w cs rfl rfl ?_)
  ·simp [execOp,resolve,invoke,builtin,hx a ha,Builtin.clear_,run_underlying ht]
  ·have e:As.set k (blk b cs E)=As:=by
    apply Y25
    intro i
    rw [Y1z]
    split
    ·rename_i e; subst e
     split
     ·exact hk.symm
     ·rename_i hlt; rw [Y1x (by omega)]
    ·rfl
   rw [e]; exact hS
 | succ m =>
  refine go (w.setRow b _) (.tuple #[]) (fun a ha=>?_) (h _ _ ?_ ?_ (hS.write (o':=Xj (cs.take o ++ (Builtin.zeroCells z.cells (m+1)).toList ++ cs.drop (o+(Builtin.zeroCells z.cells (m+1)).toList.length)) E) hk rfl rfl rfl (setRow_heap w b _ _ E _ hb) fun c hc=>setRow_other w b c _ hc))
  ·simp [execOp,resolve,invoke,builtin,hx a ha,Builtin.clear_,run_underlying ht,hz,hst]
  ·simp only [Y0,Yu,Yn,hzl]; omega
  ·rw [Ye,Y1y (by rw [Yu]; omega),Y55,Nat.min_self]
theorem X63 {α:Type} (pr:α→Bool):∀ (l:List α) (i:Nat),(X24 pr l i=-1∧∀ r∈l,pr r=false)∨∃ (j:Nat) (r:α),X24 pr l i=((i+j:Nat):Int)∧l[j]?=some r∧pr r=true∧∀ t∈l.take j,pr t=false
 | [],i=>.inl ⟨rfl,fun r h=>by simp at h⟩
 | s::l,i=>by
  rw [X24]
  by_cases h:pr s=true
  ·rw [if_pos h]; exact .inr ⟨0,s,by simp,rfl,h,fun t ht=>by simp at ht⟩
  ·rw [if_neg h]
   have h':pr s=false:=by simpa using h
   rcases X63 pr l (i+1) with ⟨h1,h2⟩ | ⟨j,r,h1,h2,h3,h4⟩
   ·exact .inl ⟨h1,fun r hr=>(Y17.1 hr).elim (fun e=>e ▸ h') (h2 r)⟩
   ·refine .inr ⟨j+1,r,by rw [h1]; omega,by simpa using h2,h3,fun t ht=>?_⟩
    rw [Y1o] at ht
    rcases Y17.1 ht with e | ht
    ·exact e ▸ h'
    ·exact h4 t ht
theorem Xax:∀ (l:List Rec) (i:Nat),(Xf l).take (i*10)=Xf (l.take i)
 | [],i=>by simp [Xf]
 | r::l,0=>by simp [Xf]
 | r::l,i+1=>by
  have e:∀ l:List Rec,Xf (r::l)=X7 r ++ Xf l:=fun l=>rfl
  rw [Y1o,e,e,← Xax l i,show (i+1)*10=(X7 r).length+i*10 by show (i+1)*10=10+i*10; omega,Y4f]
theorem Xa5 (a:Option Addr) (c:Nat) (l:List Rec) (hl:l.length≤100000) (pr:Rec→Bool) (fid:FuncId) (fn:Func) (hfn:Tryz.prog.funcs[fid]?=some fn) (hcal:Xo fn=true) (capv:List Value) (Q:X8) (B w:World) (I:Im) (As:List X8) (hf:∀ (r:Rec) w (X:List X8),Sat B w I (Q::X)→Calls Tryz.prog fid ([Value.agg (X7 r).toArray] ++ capv).toArray w (Ret fun v w'=>v=.bool (pr r)∧Sat B w' I (Q::X))) (hS:Sat B w I (Q::Vec 45 10 (.slice a l.length c) l.length (Xf l)::As)) :
  Calls Tryz.prog 101 [.slice a l.length c,.func (.func fid) #[] capv.toArray].toArray w (Ret fun v w'=>v=.slice a (l.filter (fun x=>!pr x)).length c∧Sat B w' I (Q::Vec 45 10 (.slice a (l.filter (fun x=>!pr x)).length c) (l.filter (fun x=>!pr x)).length (Xf (l.filter (fun x=>!pr x)))::As)):=by
 refine calls Tryz.func101 rfl Tryz.ntmps101 rfl (.seq (.q 1 rfl (.seq (.t 2 rfl (.call Tryz.func109 rfl (X0 (.of rfl) (X0 (.of rfl) X4)) rfl (X5k a c l hl pr fid fn hfn hcal capv B _ I _ (fun w h=>X2s h (k:=1) rfl) (fun r w h=>hf r w _ h) hS) ?_)))))
 clear hS
 rintro _ w ⟨rfl,hS⟩
 refine .q 1 rfl (.nil (.seq (.seq (.q 2 rfl ?_))))
 refine WC.cond rfl (fun hb12=>?_) (fun hb12=>?_)
 ·
  refine .seq (.q 2 rfl (.ret (X9 Tryz.results101 rfl ?_)))
  refine ⟨_,rfl,?_⟩
  have e:l.filter (fun x=>!pr x)=l:=by
   rcases X63 pr l 0 with ⟨_,h2⟩ | ⟨j,r,h1,_⟩
   ·exact List.filter_eq_self.2 (fun t ht=>by rw [h2 t ht]; rfl)
   ·exfalso; rw [h1] at hb12; simp at hb12
  rw [e]
  exact ⟨rfl,hS⟩
 have hc12:=hb12; try simp only [Y6] at hc12
 refine .skip (.seq (.seq ?_))
 obtain ⟨k,rk,hk1,hk2,hk3,hk4⟩:∃ (j:Nat) (r:Rec),X24 pr l 0=(j:Int)∧l[j]?=some r∧pr r=true∧∀ t∈l.take j,pr t=false:=by
  rcases X63 pr l 0 with ⟨h1,_⟩ | ⟨j,r,h1,h2,h3,h4⟩
  ·exfalso; rw [h1] at hb12; simp at hb12
  ·exact ⟨j,r,by rw [h1]; simp,h2,h3,h4⟩
 have hkl:=(Y5.1 hk2).1
 rw [hk1]
 refine .region (.run 3 rfl ⟨⟨by omega,by omega⟩,trivial⟩ (.nil (.block ?_)))
 refine WC.loop (σ:=Nat×Nat×List Rec) (fun ⟨i,j,M⟩=>[(0,.slice a l.length c),(1,.func (.func fid) #[] capv.toArray),(5,I64 (i:Nat)),(6,I64 (j:Nat))]) (fun ⟨i,j,M⟩ w=>i<j∧j≤l.length∧M.length=l.length∧M.drop j=l.drop j∧M.take i=(l.take j).filter (fun x=>!pr x)∧Sat B w I (Q::Vec 45 10 (.slice a l.length c) l.length (Xf M)::As)) (fun ⟨i,j,M⟩=>l.length - j) (k,k+1,l) ⟨rfl,rfl,rfl,rfl,trivial⟩ ⟨by omega,by omega,rfl,rfl,by
  rw [Y15,hk2,Y20,Y3a,List.filter_eq_self.2 (fun t ht=>by rw [hk4 t ht]; rfl)]
  simp [hk3],hS⟩ ?_
 rintro ⟨i,j,M⟩ w ⟨hij,hj,hM,hdr,htk,hS⟩
 refine .seq (.seq (.region (.run 4 rfl ⟨⟨_,X29⟩,trivial⟩ (.nil ?_))))
 refine WC.cond rfl (fun hb19=>?_) (fun hb19=>?_)
 ·
  have hc19:=hb19; try simp only [Y6] at hc19
  refine .skip (.seq (.block (.seq ?_)))
  obtain ⟨r,hr⟩:∃ r,l[j]?=some r:=⟨_,Y4 (by omega)⟩
  have hMr:M[j]?=some r:=by
   have h9:=congrArg (fun x=>x[0]?) hdr
   simpa [hr] using h9
  have hS9:=hS
  rw [← hM] at hS9
  obtain ⟨p,hp9,hx⟩:=X2s hS9 (k:=1) rfl j r hMr
  subst hp9
  clear hS9
  have hfl:((l.take (j+1)).filter (fun x=>!pr x))=((l.take j).filter (fun x=>!pr x)) ++ [r].filter (fun x=>!pr x):=by rw [Y15,hr,Y20,Y3a]
  have hdr1:M.drop (j+1)=l.drop (j+1):=by rw [← Y1i,← Y1i,hdr]
  refine .t 2 rfl (WL.val (.indexAddrI (.of rfl) (.of rfl) (by omega) (by omega) X29 Xw) rfl (.val (ldsC (.of rfl) hx X36 Xw rfl) rfl (.allocA (cs:=[_,_,_,_,_,_,_,_,_,_]) hS X5q rfl ?_)))
  clear hS; intro b7 w hS
  refine WL.stA hS (k:=0) rfl (.of rfl) (.of rfl) rfl Xw rfl (by simp) ?_
  clear hS; intro w hS
  try simp only [Yl,Yf,Yc,Y9,Yj,Yo,Yd] at hS
  refine .nil (.seq (.t 1 rfl ?_))
  refine WL.val (.ldsW (cs:=[_,_,_,_,_,_,_,_,_,_]) (.of rfl) hS (k:=0) rfl X36 Xw rfl) rfl (.vcall (cap:=capv) hfn hcal (.of rfl) (X0 (.of rfl) X4) rfl (hf r w _ (hS.pick 1 rfl)) ?_)
  clear hS
  rintro _ w ⟨rfl,hS⟩
  replace hS:=hS.pick 1 rfl
  try dsimp only [List.eraseIdx] at hS
  refine .q 1 rfl (.nil ?_)
  refine WC.cond rfl (fun hb29=>?_) (fun hb29=>?_)
  ·
   have hc29:=hb29; try simp only [Y6] at hc29
   refine .seq ?_
   obtain ⟨gb,cap9,rest9,hv9,hc1,hc2,hl1,hl2,hS⟩:=hS.vecOpen (k:=2) rfl (by omega)
   injection hv9 with hv1 hv2 hv3
   (injection hv1 with hv1; subst hv1)
   subst hv3
   have hl3:=X8x M
   try dsimp only [List.set] at hS
   refine .t 2 rfl (WL.val (.ldsW (cs:=[_,_,_,_,_,_,_,_,_,_]) (.of rfl) hS (k:=0) rfl X36 Xw rfl) rfl (WL.val (.indexAddr (.of rfl) (.of rfl) (by omega) (by omega) X29 Xw) rfl (WL.stA hS (k:=2) rfl (.of rfl) (.of rfl) rfl Xw rfl (by simp only [Y0]; omega) ?_)))
   clear hS; intro w hS
   rw [Yd,Y1y (by omega),Y28 (by omega),← Ye] at hS
   replace hS:=hS.vecShut (n:=l.length) (size:=10) (k:=2) rfl hc1 hc2 (by simp only [Y0,Yu,Yn,Y8,Yk]; omega) (by simp only [Y0,Yu,Yn,Y8,Yk]; omega)
   try dsimp only [List.set] at hS
   have e9:(List.take (Int.toNat (i:Int)*10) (Xf M) ++ X7 r ++ List.drop (Int.toNat (i:Int)*10+10) (Xf M))=Xf (M.set i r):=by rw [Yi,X6c (by omega)]
   refine .nil (.region (.run 3 rfl ⟨⟨by omega,by omega⟩,trivial⟩ (.nil (.region (.run 3 rfl ⟨⟨by omega,by omega⟩,trivial⟩ (.nil ?_))))))
   refine ⟨(i+1,j+1,M.set i r),⟨rfl,rfl,rfl,rfl,trivial⟩,⟨by (try dsimp only); omega,by (try dsimp only); omega,by rw [Y24]; exact hM,?_,?_,?_⟩,by (try dsimp only); omega⟩
   ·show (M.set i r).drop (j+1)=_
    rw [List.drop_set_of_lt (by omega),hdr1]
   ·show (M.set i r).take (i+1)=_
    rw [Y15,List.take_set_of_le (Yt _),htk,List.getElem?_set_self (by omega),hfl,Y42,if_pos (by simpa using hb29)]
    rfl
   ·try dsimp only
    rw [← e9]
    exact hS.drop (k:=0) rfl
  have hc29:=hb29; try simp only [Y6] at hc29
  refine .skip (.region (.run 3 rfl ⟨⟨by omega,by omega⟩,trivial⟩ (.nil ?_)))
  refine ⟨(i,j+1,M),⟨rfl,rfl,rfl,rfl,trivial⟩,⟨by (try dsimp only); omega,by (try dsimp only); omega,hM,hdr1,?_,hS.drop (k:=0) rfl⟩,by (try dsimp only); omega⟩
  rw [htk,hfl,Y42,if_neg (by simpa using hb29)]
  simp
 have hc19:=hb19; try simp only [Y6] at hc19
 refine .exit (.seq ?_)
 have hjn:j=l.length:=by omega
 subst hjn
 replace hS:=hS.pick 1 rfl
 obtain ⟨gb,cap9,rest9,hv9,hc1,hc2,hl1,hl2,hS⟩:=hS.vecOpen (k:=0) rfl (by omega)
 injection hv9 with hv1 hv2 hv3
 subst hv1
 subst hv3
 have hl3:=X8x M
 refine .t 2 rfl (.val (.slcFrom (.of rfl) (.of rfl) (by omega) (by omega) X29 Xw) rfl ?_)
 have e8:sliced (some (ad gb 0)) ((i:Int)).toNat l.length c 10=.slice (some (ad gb (0+(i:Int).toNat*10))) (l.length - i) (c - i):=by
  simp only [sliced,Yi,Y3p,X19]
  rw [if_neg (by omega)]
 rw [show (⟨gb,0,none⟩:Addr)=ad gb 0 from rfl,e8]
 refine WL.clear (s:=10) hS (k:=0) rfl (.of rfl) X29 X5q rfl (by decide) (by rw [Y0]; omega) ?_
 clear hS; intro w cs9 hcs1 hcs2 hS
 refine .nil (.seq (.t 2 rfl (.val (.slcTo (.of rfl) (.of rfl) (by omega) (by omega) X29 Xw) rfl (.q 1 rfl (.nil (.ret (X9 Tryz.results101 rfl ?_)))))))
 rw [X9r]
 refine ⟨_,rfl,?_⟩
 have e1:(Xf M ++ rest9).take (i*10)=Xf (l.filter (fun x=>!pr x)):=by
  rw [Y1y (by omega),Xax,htk,Yx (by omega)]
 have e2:(l.filter (fun x=>!pr x)).length=i:=by
  have h9:=congrArg List.length htk
  rw [Yu,Yx (by omega)] at h9
  omega
 have e3:cs9=Xf (l.filter (fun x=>!pr x)) ++ cs9.drop (i*10):=by
  rw [← e1]
  rw [show 0+(i:Int).toNat*10=i*10 by omega] at hcs2
  rw [← hcs2]; exact (Y10 _ _).symm
 rw [e3] at hS
 have e4:=X8x (l.filter (fun x=>!pr x))
 have e5:=congrArg List.length e3
 rw [Y0] at e5
 rw [Y0] at hcs1
 replace hS:=hS.vecShut (n:=i) (size:=10) (k:=0) rfl (by omega) hc2 (by rw [e4,e2]) (by omega)
 rw [Yi,e2]
 exact ⟨rfl,hS.pick 1 rfl⟩
theorem Xbf (tb:Nat) (room:Int) (a:Option Addr) (c:Nat) (l:List Rec) (hl:l.length≤100000) (hwf:Wf l) (name:List UInt8) (B w:World) (I:Im) (As:List X8) (hS:Sat B w I (blk tb [I64 room,.slice a l.length c] 127::Vec 45 10 (.slice a l.length c) l.length (Xf l)::As)) :
  Calls Tryz.prog 50 [ptr tb 0,S name].toArray w (Ret fun v w'=>∃ J ra rc,v=.slice ra (below l name).length rc∧Le I J∧(below l name).length≤rc∧RS J ra 1 (below l name).length ((below l name).map S)∧∃ a c,Sat B w' J (blk tb [I64 room,.slice a (drop l name).length c] 127::Vec 45 10 (.slice a (drop l name).length c) (drop l name).length (Xf (drop l name))::As)):=by
 refine calls Qf50 rfl Tryz.ntmps50 rfl (.seq (.q 1 rfl (.seq (.t 2 rfl (.call Tryz.func100 rfl (X0 (.of rfl) (X0 (.of rfl) X4)) rfl (Xk7 tb room a c l hl hwf name B _ I _ hS) ?_)))))
 clear hS
 rintro _ w ⟨J,ga,gc,rfl,hJ,hgc,hRS,hS⟩
 refine .alloc1 hS Qz41 rfl rfl ?_
 clear hS; intro b5 w hS
 refine WL.st1 hS (k:=0) rfl (.of rfl) (.of rfl) rfl Xha (by simp) ?_
 clear hS; intro w hS
 refine .nil (.seq (.t 3 rfl ?_))
 refine WL.val (.fieldAddr 1 (.of rfl) X5s rfl rfl X3i rfl) rfl (WL.val (.ld (.of rfl) hS (k:=1) rfl X7l rfl) rfl (.call Tryz.func79 rfl (X0 (.of rfl) X4) rfl (Xb7 a c l hl B _ J _ ((hS.pick 1 rfl).pick 2 rfl)) ?_))
 clear hS
 rintro _ w ⟨v7,rfl,hS⟩
 replace hS:=hS.pick 2 rfl
 obtain ⟨va,vc,rfl,hvc,_⟩:=hS.vecSlice (k:=1) rfl
 refine .val (.makeFunc (X0 (.of rfl) X4)) rfl ?_
 refine WL.call Tryz.func101 rfl (X0 (.of rfl) (X0 (.of rfl) X4)) rfl (Xa5 va vc l hl (fun r=>(below l name).contains r.name) 102 _ Tryz.func102 rfl [ptr b5 0] (blk b5 [.slice ga (below l name).length gc] 41) B _ J _ (fun r w X h=>Xjw b5 ga gc (below l name) (by have:=Xgn hwf name; omega) r B w J hRS X h) (by
    have h9:=((hS.pick 1 rfl).pick 3 rfl)
    try dsimp only [List.eraseIdx] at h9
    exact h9)) ?_
 clear hS
 rintro _ w ⟨rfl,hS⟩
 rw [show l.filter (fun x=>!(below l name).contains x.name)=drop l name from rfl] at hS ⊢
 refine .q 1 rfl (WL.val (.fieldAddr 1 (.of rfl) X5s rfl rfl X3i rfl) rfl (WL.st1 hS (k:=2) rfl (.of rfl) (.of rfl) rfl X3i (by simp) ?_))
 clear hS; intro w hS
 refine .nil (.seq (.region ?_))
 refine WL.val (.ld (.of rfl) hS (k:=0) rfl Xio rfl) rfl (.q 1 rfl (.nil (.ret (X9 Tryz.results50 rfl ?_))))
 replace hS:=(hS.drop (k:=0) rfl).drop (k:=2) rfl
 exact ⟨_,rfl,J,ga,gc,rfl,hJ,hgc,hRS,va,vc,hS.pick 1 rfl⟩
end Go.Proofs.YtadhiihnnkcagaaGreatDoor
namespace Gk
open Go
structure KeyK {β:Type} (D:TypeDesc) (K:β→Value):Prop where
 is:∀ b,MapKept.IsKey D (K b)
 inj:∀ a b,K a=K b→a=b
theorem keyS:KeyK .string S:=⟨fun _=>trivial,fun a b h=>by injection h with h; injection h with h; injection h⟩
def Xpf {β:Type} (K:β→Value) (kv:List (β×Value)) (es:Array MapEntry):Prop:=es.toList.map (fun e=>(e.key,e.val))=kv.map fun p=>(K p.1,p.2)
def Xik {β:Type} (K:β→Value) (b:Nat) (kv:List (β×Value)):X8:=fun h=>∃ es clk,Xpf K kv es∧h=[(b,.map es clk)]
def MapI {β:Type} (I:Im) (K:β→Value) (b:Nat) (kv:List (β×Value)):Prop:=∃ es clk,Xpf K kv es∧I b=some (.map es clk)
theorem MapI.mono {β:Type} {I J:Im} {K:β→Value} {b:Nat} {kv:List (β×Value)} (h:MapI I K b kv) (hl:Le I J):MapI J K b kv:=by
 obtain ⟨es,clk,h1,h2⟩:=h
 exact ⟨es,clk,h1,hl _ _ h2⟩
section
variable {P:Program} {n:Nat} {K':X3r} {L:Env} {w B:World} {ops:Array Oper} {rest:List Oper} {I:Im} {As:List X8} {β:Type} {K:β→Value} {D:TypeDesc} {kv:List (β×Value)} {k b:Nat} {t kt et ty:TypeId} {x y z:Operand} {pos:String} {af:Array Edge} {d:Nat} {g:Option (Nat×Bool)}
theorem X7c [BEq β] [LawfulBEq β] (hK:KeyK D K) (key:β):∀ (kv:List (β×Value)) (es:List MapEntry) (i:Nat),es.map (fun e=>(e.key,e.val))=kv.map (fun p=>(K p.1,p.2)) →
  (kv.lookup key=none∧Instr.findNow D (K key) es i=some none)∨∃ j v,kv.lookup key=some v∧Instr.findNow D (K key) es i=some (some (j,v))
 | [],[],_,_=>.inl ⟨rfl,rfl⟩
 | [],e::es,_,h=>by simp at h
 | p::kv,[],_,h=>by simp at h
 | p::kv,e::es,i,h=>by
  simp only [Y1e,List.cons.injEq,Prod.mk.injEq] at h
  obtain ⟨⟨h1,h2⟩,h3⟩:=h
  have hk:MapKept.IsKey D e.key:=h1 ▸ hK.is _
  obtain ⟨r,hr,hi⟩:=MapKept.sameNow_of_keys (hK.is key) hk
  cases r with
  | true =>
   have e1:=hK.inj _ _ ((hi.1 rfl).trans h1)
   exact .inr ⟨i,p.2,by obtain ⟨p1,p2⟩:=p; simp only at e1; subst e1; simp [List.lookup,beq_self_eq_true],by simp [Instr.findNow,hr,h2]⟩
  | false =>
   have hne:key≠p.1:=fun q=>by have:=hi.2 (by rw [h1,q]); cases this
   have hl:(p::kv).lookup key=kv.lookup key:=by obtain ⟨p1,p2⟩:=p; simp only at hne; simp [List.lookup,beq_eq_false_iff_ne.2 hne]
   rcases X7c hK key kv es (i+1) h3 with ⟨e1,e2⟩ | ⟨j,v,e1,e2⟩
   ·exact .inl ⟨by rw [hl]; exact e1,by simp [Instr.findNow,hr,e2]⟩
   ·exact .inr ⟨j,v,by rw [hl]; exact e1,by simp [Instr.findNow,hr,e2]⟩
theorem Xew [BEq β] [LawfulBEq β] {ty:TypeId} {b:Nat} {es:Array MapEntry} {clk:Nat} {z:Value} (hK:KeyK D K) (hb:w.heap[b]?=some (.map es clk)) (he:Xpf K kv es) (key:β) (ht:P.underlying t=some (.map kt et)) (hk:P.underlying kt=some D) (hz:∀ w,(zeroValue et).run P w=.ok z w) (ok:Bool) :
  (Instr.lookup t (.map (some b)) (K key) ok).run P w=.ok (if ok then .tuple #[(kv.lookup key).getD z,.bool (kv.lookup key).isSome] else (kv.lookup key).getD z) w:=by
 have hc:(Instr.checkKey es.isEmpty 10000 kt (K key)).run P w=.ok () w:=MapKept.run_checkKey hk (hK.is key) _ 9999
 rcases X7c hK key kv es.toList 0 he with ⟨h1,h2⟩ | ⟨j,v,h1,h2⟩
 ·simp [Instr.lookup,run_underlying ht,MapKept.run_getObj_map hb,hc,MapKept.run_findKey hk h2,h1,hz,Result.andThen]
 ·simp [Instr.lookup,run_underlying ht,MapKept.run_getObj_map hb,hc,MapKept.run_findKey hk h2,h1,Result.andThen]
theorem Sat.mapNow (hS:Sat B w I As) (hk:As[k]?=some (Xik K b kv)):∃ es clk,Xpf K kv es∧w.heap[b]?=some (.map es clk):=by
 obtain ⟨g,hs,hg⟩:=hS
 obtain ⟨h1,h2,hp,⟨es,clk,he,rfl⟩,_⟩:=hs.at_ hk
 exact ⟨es,clk,he,(hg.perm hp).own b _ (by simp)⟩
theorem MapI.now (h:MapI I K b kv) (hS:Sat B w I As):∃ es clk,Xpf K kv es∧w.heap[b]?=some (.map es clk):=by
 obtain ⟨es,clk,h1,h2⟩:=h
 obtain ⟨g,hs,hg⟩:=hS
 exact ⟨es,clk,h1,hg.imm _ _ h2⟩
theorem Ex.look2 [BEq β] [LawfulBEq β] {d:Option Nat} {z:Value} {key:β} (hK:KeyK D K) (hm:∃ es clk,Xpf K kv es∧w.heap[b]?=some (.map es clk)) (hx:Ev n L x (.map (some b))) (hy:Ev n L y (K key)) (ht:P.underlying t=some (.map kt et)) (hk:P.underlying kt=some D) (hz:∀ w,(zeroValue et).run P w=.ok z w) :
  Ex P n L w ⟨d,.lookup t x y true,ty,pos,af,g⟩ (.tuple #[(kv.lookup key).getD z,.bool (kv.lookup key).isSome]) w:=fun a ha=>by
 obtain ⟨es,clk,he,hb⟩:=hm
 have h:=Xew (ty:=ty) hK hb he key ht hk hz true
 simp [execOp,hx a ha,hy a ha,h]
theorem WL.mkMap (K:β→Value) (hS:Sat B w I As) (hd:Nat.blt d n=true) (h:∀ b w',Sat B w' I (Xik K b []::As)→WL P n ops K' rest ((d,.map (some b))::L) w'):WL P n ops K' (⟨some d,.makeMap t none,ty,pos,af,none⟩::rest) L w:=by
 have h2:Sat B (w.alloc (.map #[] 0)) I (Xik K w.heap.size []::As):=(hS.alloc (.map #[] 0)).say (k:=0) rfl (A':=Xik K w.heap.size []) fun g hg=>⟨#[],0,rfl,hg⟩
 refine WL.val (v:=.map (some w.heap.size)) (fun a ha=>?_) hd (h _ _ h2)
 have hr:=run_makeMap_plain (P:=P) w t
 simp [execOp,hr]
theorem Xoz [BEq β] [LawfulBEq β] {val:Value} {key:β} (hK:KeyK D K) (hS:Sat B w I As) (hk:As[k]?=some (Xik K b kv)) (hno:kv.lookup key=none) (ht:P.underlying t=some (.map kt et)) (hkt:P.underlying kt=some D) :
  ∃ w',(Instr.mapUpdate t (.map (some b)) (K key) val).run P w=.ok () w'∧Sat B w' I (As.set k (Xik K b (kv ++ [(key,val)]))):=by
 obtain ⟨g,hs,hg⟩:=hS
 obtain ⟨h1,h2,hp,⟨es,clk,he,rfl⟩,hset,_⟩:=hs.at_ hk
 have hb:=(hg.perm hp).own b (.map es clk) (by simp)
 have hlt:b<w.heap.size:=(Y18.1 hb).1
 have hc:(Instr.checkKey false 10000 kt (K key)).run P w=.ok () w:=MapKept.run_checkKey hkt (hK.is key) _ 9999
 have hf:Instr.findNow D (K key) es.toList 0=some none:=by
  rcases X7c hK key kv es.toList 0 he with ⟨_,h⟩ | ⟨j,v,h,_⟩
  ·exact h
  ·rw [hno] at h; cases h
 refine ⟨{ w with heap:=w.heap.setIfInBounds b (.map (es.push { key:=K key,val:=val,born:=clk }) (clk+1)) },?_,?_⟩
 ·simp [Instr.mapUpdate,run_underlying ht,MapKept.run_getObj_map hb,hc,MapKept.run_findKey hkt hf,MapKept.run_setObj_map _ hb,Result.andThen]
 ·-- the block is written
  have hS0:Sat B w I (As.set k (own b (.map es clk))):=by
   obtain ⟨g',hs',hp'⟩:=hset (own b (.map es clk)) [(b,.map es clk)] rfl
   exact ⟨g',hs',hg.perm (hp.trans hp'.symm)⟩
  have hkl:k<As.length:=(Y5.1 hk).1
  have hw:=hS0.write (k:=k) (b:=b) (o:=.map es clk) (w':={ w with heap:=w.heap.setIfInBounds b (.map (es.push { key:=K key,val:=val,born:=clk }) (clk+1)) }) (o':=.map (es.push { key:=K key,val:=val,born:=clk }) (clk+1)) (by simp [hkl]) rfl rfl rfl (MapKept.heap_set hb).1 (fun c hc=>(MapKept.heap_set hb).2 c hc)
  have hf2:=hw.say (k:=k) (A:=own b (.map (es.push { key:=K key,val:=val,born:=clk }) (clk+1))) (A':=Xik K b (kv ++ [(key,val)])) (by simp [hkl]) fun g hg=>⟨_,_,by
   unfold Xpf at he ⊢
   rw [Array.toList_push,Yw,Yw,he]
   rfl,hg⟩
  simpa using hf2
theorem WL.mput [BEq β] [LawfulBEq β] {val:Value} {key:β} (hK:KeyK D K) (hS:Sat B w I As) (hk:As[k]?=some (Xik K b kv)) (hx:Ev n L x (.map (some b))) (hy:Ev n L y (K key)) (hz:Ev n L z val) (hno:kv.lookup key=none) (ht:P.underlying t=some (.map kt et)) (hkt:P.underlying kt=some D)
  (h:∀ w',Sat B w' I (As.set k (Xik K b (kv ++ [(key,val)])))→WL P n ops K' rest L w'):WL P n ops K' (⟨none,.mapUpdate t x y z,ty,pos,af,none⟩::rest) L w:=by
 obtain ⟨w',hr,hS'⟩:=Xoz (val:=val) hK hS hk hno ht hkt
 refine WL.st (w':=w') (fun a ha=>?_) (h _ hS')
 simp [execOp,hx a ha,hy a ha,hz a ha,hr]
theorem Sat.freezeMap (hS:Sat B w I As) (hk:As[k]?=some (Xik K b kv)):∃ J,Le I J∧MapI J K b kv∧Sat B w J (As.eraseIdx k):=by
 have hkl:k<As.length:=(Y5.1 hk).1
 obtain ⟨⟨⟨es,clk⟩,he⟩,hS2⟩:=hS.opened (X:={ x:Array MapEntry×Nat // Xpf K kv x.1 }) (T:=fun x=>own b (.map x.1.1 x.1.2)) hk fun g hg=>by
  obtain ⟨es,clk,he,rfl⟩:=hg
  exact ⟨⟨(es,clk),he⟩,rfl⟩
 obtain ⟨J,h1,h2,h3⟩:=hS2.freeze (k:=k) (b:=b) (o:=.map es clk) (by simp [hkl])
 rw [Y3f] at h3
 exact ⟨J,h1,⟨es,clk,he,h2⟩,h3⟩
end
def X1c {α:Type} (cells:α→List Value) (l:List α):List Value:=(l.map cells).flatten
theorem Xe6 {α:Type} {cells:α→List Value} {s:Nat} (hc:∀ x,(cells x).length=s) {l:List α} {i j:Nat} {r:α} {v:Value} (hr:l[i]?=some r) (hj:(cells r)[j]?=some v):(X1c cells l)[i*s+j]?=some v:=by
 have hjs:j<s:=by rw [← hc r]; exact (Y5.1 hj).1
 have h2:=X4u (l.map cells) (fun c h=>by obtain ⟨x,_,rfl⟩:=Y26.1 h; exact hc x) i j hjs
 rw [Yy,hr] at h2
 exact h2.trans hj
def Xbv {α:Type} (w:World) (cells:α→List Value) (s:Nat) (a:Option Addr) (l:List α):Prop:=∀ (i:Nat) (r:α),l[i]?=some r→∃ p,a=some p∧∀ (j:Nat) v,(cells r)[j]?=some v→w.cell? ((p.add (i*s)).add j)=some v
section
variable {P:Program} {n:Nat} {K:X3r} {L:Env} {w B:World} {ops:Array Oper} {rest:List Oper} {I:Im} {As:List X8} {k:Nat} {ty t t' E:TypeId} {x y:Operand} {pos:String} {af:Array Edge} {g:Option (Nat×Bool)} {v:Value}
theorem Xk2 {α:Type} {cells:α→List Value} {s:Nat} {a:Option Addr} {l:List α} (hc:∀ x,(cells x).length=s) (hS:Sat B w I As) (hR:RS I a s l.length (X1c cells l)):Xbv w cells s a l:=fun i r hr=>by
 obtain ⟨p,rfl,hA⟩:=hR.2 (by have:=(Y5.1 hr).1; omega)
 refine ⟨p,rfl,fun j v hj=>?_⟩
 rw [Addr.add_add]
 exact X2o hS hA (Xe6 hc hr hj)
theorem Xnd {α:Type} {cells:α→List Value} {s T cap:Nat} {a:Option Addr} {l:List α} (hc:∀ x,(cells x).length=s) (hS:Sat B w I As) (hk:As[k]?=some (Vec T s (.slice a l.length cap) l.length (X1c cells l))):Xbv w cells s a l:=fun i r hr=>by
 have hi:=(Y5.1 hr).1
 obtain ⟨g,cap',rest,hv,_,_,_,_,hS2⟩:=hS.vecOpen hk (by omega)
 injection hv with hv1 hv2 hv3
 have hlk:k<As.length:=(Y5.1 hk).1
 have hb:w.heap[g]?=some (Xj (X1c cells l ++ rest) T):=hS2.block (k:=k) (by simp [hlk,blk])
 refine ⟨⟨g,0,none⟩,hv1,fun j v hj=>?_⟩
 rw [Addr.add_add,show (⟨g,0,none⟩:Addr).add (i*s+j)=ad g (0+(i*s+j)) from X19 g 0 _,Yd]
 refine X16 hb ?_
 have h3:=Xe6 hc hr hj
 rw [Yg (Y5.1 h3).1]
 exact h3
theorem Ex.ldR {d:Option Nat} {p:Addr} {s:Nat} {vs:List Value} (hx:Ev n L x (.pointer (some p))) (hv:∀ (j:Nat) v,vs[j]?=some v→w.cell? (p.add j)=some v) (ht:∀ w,(isAgg t).run P w=.ok true w) (hs:∀ w,(Go.sizeOf t).run P w=.ok s w)
  (hl:vs.length=s):Ex P n L w ⟨d,.load t x,ty,pos,af,g⟩ (.agg vs.toArray) w:=fun a ha=>by
 have h:=run_loadCells_list (P:=P) w p vs hv
 rw [hl] at h
 simp [execOp,hx a ha,Instr.loadAt,Instr.sureAddr,loadVar,ht,hs,h]
theorem Ex.ld1 {d:Option Nat} {p:Addr} {v:Value} (hx:Ev n L x (.pointer (some p))) (hv:w.cell? p=some v) (ht:∀ w,(isAgg t).run P w=.ok false w):Ex P n L w ⟨d,.load t x,ty,pos,af,g⟩ v w:=fun a hh=>by
 simp [execOp,hx a hh,Instr.loadAt,Instr.sureAddr,loadVar,ht,load,Sem.run,hv]
theorem WL.appendF {d E size m c nn:Nat} {a:Option Addr} {v:Value} {xs ys:List Value} {i:TypeInfo} {z:Value} {bytes:Nat} (hS:Sat B w I As) (hx:Ev n L x v) (hy:Ev n L y (.slice a m c)) (hr:RS I a size m ys)
  (hk:As[k]?=some (Vec E size v nn xs)) (ht:P.underlying t=some (.slice E)) (hi:P.info? E=some i) (hz:i.zero=some z) (hsize:i.size=size) (hby:i.bytes=bytes) (hzs:z.cells.size=size)
  (h1:ys.all Value.oneCell'=true) (h63:(nn+m)*bytes≤140737488355328∧nn+m≤maxLen) (hd:Nat.blt d n=true)
  (h:∀ v' w',Sat B w' I (As.set k (Vec E size v' (nn+m) (xs ++ ys)))→WL P n ops K rest ((d,v')::L) w') :
  WL P n ops K (⟨some d,.call ⟨.builtin .append,#[x,y],#[t,t]⟩,ty,pos,af,none⟩::rest) L w:=by
 rcases Y1n m with h0 | h0
 ·subst h0
  have hy0:ys=[]:=Yh (by simpa using hr.1)
  subst hy0
  obtain ⟨a0,c0,rfl,hc0,_⟩:=hS.vecSlice hk
  have hr:(Builtin.append_ #[t,t] ty #[.slice a0 nn c0,.slice a 0 c]).run P w=.ok (.slice a0 nn c0) w:=by
   subst hsize
   cases a0 <;> cases a <;> simp [Builtin.append_,run_underlying ht,Go.sizeOf,typeInfo,hi,Builtin.lenOf,Builtin.firstCells,loadCells,loadCellsFrom,storeCells,hc0]
  have h2:=h (.slice a0 nn c0) w (by
   have hlk:k<As.length:=(Y5.1 hk).1
   have:As.set k (Vec E size (.slice a0 nn c0) (nn+0) (xs ++ []))=As:=by
    rw [Y2h,Yc]
    have:=(Y5.1 hk).2
    rw [← this,Y3y]
   rw [this]; exact hS)
  exact WL.val (w':=w) (fun a' ha=>by simp [execOp,resolve,invoke,builtin,hx a' ha,hy a' ha,hr]) hd h2
 ·obtain ⟨p,rfl,hA⟩:=hr.2 h0
  obtain ⟨v',w',hr',hS'⟩:=X2d (P:=P) (ty:=ty) hS ht hi hz hsize hby hzs hk (p:=p) (m:=m) (c:=c) hr.1 h0 (fun q u hu=>X2o hS hA hu) (Y1a.1 h1) h63.2 h63.1
  exact WL.val (w':=w') (fun a' ha=>by simp [execOp,resolve,invoke,builtin,hx a' ha,hy a' ha,hr']) hd (h _ _ hS')
theorem Ex.orI {d:Option Nat} {a b:Nat} (ha:a<9223372036854775808) (hb:b<9223372036854775808) (hx:Ev n L x (I64 a)) (hy:Ev n L y (I64 b)):Ex P n L w ⟨d,.binOp .or t x y t',ty,pos,af,g⟩ (I64 ((a ||| b:Nat):Int)) w :=
 X17 hx hy (Xg _ _ _ _) (by
  have h1:a ||| b<9223372036854775808:=Y4u (n:=63) ha hb
  have e:∀ c:Nat,c<9223372036854775808→(BitVec.ofInt 64 (c:Int)).toNat=c:=fun c hc=>by rw [BitVec.ofInt_natCast,BitVec.toNat_ofNat]; exact Y41 (by omega)
  have e2:(BitVec.ofInt IntKind.i64.bits (a:Int) ||| BitVec.ofInt IntKind.i64.bits (b:Int)).toNat=a ||| b:=by
   show (BitVec.ofInt 64 (a:Int) ||| BitVec.ofInt 64 (b:Int)).toNat=a ||| b
   rw [BitVec.toNat_or,e a ha,e b hb]
  have e3:IntKind.i64.wrap ((a ||| b:Nat):Int)=((a ||| b:Nat):Int):=by rw [IntKind.wrap_i64]; omega
  show (Op.intBits .or .i64 a b).run P w=_
  unfold Op.intBits
  simp only [e2,e3,Sem.run_pure])
theorem Ex.xorI {d:Option Nat} {a b:Nat} (ha:a<9223372036854775808) (hb:b<9223372036854775808) (hx:Ev n L x (I64 a)) (hy:Ev n L y (I64 b)):Ex P n L w ⟨d,.binOp .xor t x y t',ty,pos,af,g⟩ (I64 ((a ^^^ b:Nat):Int)) w :=
 X17 hx hy (Xg _ _ _ _) (by
  have h1:a ^^^ b<9223372036854775808:=Nat.xor_lt_two_pow (n:=63) ha hb
  have e:∀ c:Nat,c<9223372036854775808→(BitVec.ofInt 64 (c:Int)).toNat=c:=fun c hc=>by rw [BitVec.ofInt_natCast,BitVec.toNat_ofNat]; exact Y41 (by omega)
  have e2:(BitVec.ofInt IntKind.i64.bits (a:Int) ^^^ BitVec.ofInt IntKind.i64.bits (b:Int)).toNat=a ^^^ b:=by
   show (BitVec.ofInt 64 (a:Int) ^^^ BitVec.ofInt 64 (b:Int)).toNat=a ^^^ b
   rw [BitVec.toNat_xor,e a ha,e b hb]
  have e3:IntKind.i64.wrap ((a ^^^ b:Nat):Int)=((a ^^^ b:Nat):Int):=by rw [IntKind.wrap_i64]; omega
  show (Op.intBits .xor .i64 a b).run P w=_
  unfold Op.intBits
  simp only [e2,e3,Sem.run_pure])
theorem Ex.xor8 {d:Option Nat} {a b:UInt8} (hx:Ev n L x (U8 a.toNat)) (hy:Ev n L y (U8 b.toNat)):Ex P n L w ⟨d,.binOp .xor t x y t',ty,pos,af,g⟩ (U8 ((a ^^^ b).toNat:Int)) w :=
 X17 hx hy (Xg _ _ _ _) (by
  have e:∀ c:UInt8,(BitVec.ofInt 8 (c.toNat:Int)).toNat=c.toNat:=fun c=>by rw [BitVec.ofInt_natCast,BitVec.toNat_ofNat]; exact Y41 c.toNat_lt
  have e2:(BitVec.ofInt IntKind.u8.bits (a.toNat:Int) ^^^ BitVec.ofInt IntKind.u8.bits (b.toNat:Int)).toNat=(a ^^^ b).toNat:=by
   show (BitVec.ofInt 8 (a.toNat:Int) ^^^ BitVec.ofInt 8 (b.toNat:Int)).toNat=_
   rw [BitVec.toNat_xor,e a,e b,UInt8.toNat_xor]
  have h1:=(a ^^^ b).toNat_lt
  have e3:IntKind.u8.wrap ((a ^^^ b).toNat:Int)=((a ^^^ b).toNat:Int):=by rw [IntKind.wrap_u8]; omega
  show (Op.intBits .xor .u8 a.toNat b.toNat).run P w=_
  unfold Op.intBits
  simp only [e2,e3,Sem.run_pure])
end
end Gk
namespace Go.Proofs.YtadhiihnnkcagaaGreatDoor
open Gk Ul Pc Tk Tr
abbrev Pr:=List UInt8×List UInt8
def X1h (p:Pr):List Value:=[S p.1,S p.2]
theorem pr_one (l:List Pr):(X1c X1h l).all Value.oneCell'=true:=by
 unfold X1c
 induction l with
 | nil=>rfl
 | cons p l ih=>rw [Y1e,Y1s,List.all_append,ih]; rfl
structure Us where
 name:List UInt8
 pw:List UInt8
 attrs:List Pr
def X2p (u:Us) (a:Option Addr) (c:Nat):List Value:=[S u.name,S u.pw,.slice a u.attrs.length c]
def UsAt (I:Im) (u:Us) (l:List Value):Prop:=∃ a c,l=X2p u a c∧u.attrs.length≤c∧RS I a 2 u.attrs.length (X1c X1h u.attrs)
theorem UsAt.mono {I J:Im} {u:Us} {l:List Value} (h:UsAt I u l) (hl:Le I J):UsAt J u l:=by
 obtain ⟨a,c,e,h1,h2⟩:=h
 exact ⟨a,c,e,h1,h2.mono hl⟩
def badW (i:Nat) (c:UInt8):Bool:=!letC c && (((i:Int) == 0) || (((decide ((c.toNat:Int)<48) || decide ((57:Int)<(c.toNat:Int))) && ((c.toNat:Int) != 45)) && ((c.toNat:Int) != 95)))
def X8t:List UInt8→Nat→Bool
 | [],_=>true
 | c::r,i=>!badW i c && X8t r (i+1)
theorem X4g:∀ (s:List UInt8) (k:Nat),X8t s k=true ↔ ∀ (j:Nat) c,s[j]?=some c→badW (k+j) c=false
 | [],k=>by simp [X8t]
 | c::r,k=>by
  rw [X8t,Yq,X4g r (k+1)]
  constructor
  ·rintro ⟨h1,h2⟩ j d hd
   cases j with
   | zero=>simp at hd; subst hd; simpa using h1
   | succ j=>rw [show k+(j+1)=k+1+j by omega]; exact h2 j d (by simpa using hd)
  ·intro h
   refine ⟨by simpa using h 0 c rfl,fun j d hd=>?_⟩
   rw [show k+1+j=k+(j+1) by omega]
   exact h (j+1) d (by simpa using hd)
def Xah (s:List UInt8):Bool:=X8t s 0 && (!(s == []) && decide ((s.length:Int)≤60))
def Xlv (p:Pr):Bool:=!Xah p.1 || !X5z p.2 32 0 60
def X6s (u:Us):Bool:=X5z u.name 33 1 32 && decide ((1:Int)≤(u.pw.length:Int)) && decide ((u.pw.length:Int)≤60) && decide ((u.attrs.length:Int)≤8) && !u.attrs.any Xlv
def X1k (p:Pr):Prop:=p.1.length≤maxLen∧p.2.length≤maxLen
theorem Xoq (s:List UInt8) (hs:s.length≤9223372036854775807) (B w:World) (I:Im) (As:List X8) (hS:Sat B w I As) :
  Calls Tryz.prog 175 [S s].toArray w (Ret fun v w'=>v=.bool (Xah s)∧Sat B w' I As):=by
 refine calls Tryz.func175 rfl Tryz.ntmps175 rfl (.seq (.q 1 rfl (.seq (.seq (.region (.run 3 rfl ⟨Qu9,trivial⟩ (.nil (.block (.loop (σ:=Nat) (fun i=>[(0,S s),(6,I64 (s.length:Nat)),(7,I64 (i:Nat))]) (fun i w=>i≤s.length∧(∀ (j:Nat) c,j<i→s[j]?=some c→badW j c=false)∧Sat B w I As) (fun i=>s.length - i) 0 ⟨rfl,rfl,rfl,trivial⟩ ⟨Yp _,fun _ _ h=>absurd h (by omega),hS⟩ ?_)))))))))
 rintro i w ⟨hi,hno,hS⟩
 refine .seq (.q 1 rfl (.seq ?_))
 refine WC.cond rfl (fun hb8=>?_) (fun hb8=>?_)
 ·
  have hc8:=hb8; try simp only [Y6] at hc8
  refine .skip (.seq (.block (.seq (.q 2 rfl (.seq (.region (.run 4 rfl ⟨⟨⟨by omega,by omega⟩,Qu9⟩,trivial⟩ (.nil (.seq (.t 1 rfl (.call Tryz.func202 rfl (X0 (.of rfl) X4) rfl (Xh0 _ w) ?_)))))))))))
  rintro _ _ ⟨rfl,rfl⟩
  refine .q 2 rfl (.gval rfl rfl (fun hg1=>(.move (.of rfl))) rfl (.gval rfl rfl (fun hg1=>(.eql (.gd hg1 rfl) (.of rfl))) rfl (.gval rfl rfl (fun hg1=>(.move (.gd hg1 rfl))) rfl (.gval2 rfl rfl rfl (fun hg1 hg2=>(.move (.of rfl))) rfl (.gval2 rfl rfl rfl (fun hg1 hg2=>(.lss (.gd2 hg1 hg2 rfl) (.of rfl))) rfl (.gval2 rfl rfl rfl (fun hg1 hg2=>(.move (.gd2 hg1 hg2 rfl))) rfl (.gval3 rfl rfl rfl (fun hg1 hg2 hg3=>(.move (.of rfl))) rfl (.gval3 rfl rfl rfl (fun hg1 hg2 hg3=>(.gtr (.gd3 hg1 hg2 hg3 rfl) (.of rfl))) rfl (.gval2 rfl rfl rfl (fun hg1 hg2=>(.por (.gd2 hg1 hg2 rfl) (.of rfl) (.gd2 hg1 hg2 rfl))) rfl (.gval2 rfl rfl rfl (fun hg1 hg2=>(.move (.gd2 hg1 hg2 rfl))) rfl (.gval3 rfl rfl rfl (fun hg1 hg2 hg3=>(.move (.of rfl))) rfl (.gval3 rfl rfl rfl (fun hg1 hg2 hg3=>(.neq (.gd3 hg1 hg2 hg3 rfl) (.of rfl))) rfl (.gval2 rfl rfl rfl (fun hg1 hg2=>(.pand (.gd2 hg1 hg2 rfl) (.gd2 hg1 hg2 rfl) (.of rfl))) rfl (.gval2 rfl rfl rfl (fun hg1 hg2=>(.move (.gd2 hg1 hg2 rfl))) rfl (.gval3 rfl rfl rfl (fun hg1 hg2 hg3=>(.move (.of rfl))) rfl (.gval3 rfl rfl rfl (fun hg1 hg2 hg3=>(.neq (.gd3 hg1 hg2 hg3 rfl) (.of rfl))) rfl (.gval2 rfl rfl rfl (fun hg1 hg2=>(.pand (.gd2 hg1 hg2 rfl) (.gd2 hg1 hg2 rfl) (.of rfl))) rfl (.gval rfl rfl (fun hg1=>(.por (.gd hg1 rfl) (.of rfl) (.gd hg1 rfl))) rfl (.val (.pand (.of rfl) (.of rfl) (.of rfl)) rfl (.nil ?_))))))))))))))))))))
  refine WC.cond rfl (fun hb35=>?_) (fun hb35=>?_)
  ·
   have hc35:=hb35; try simp only [Y6] at hc35
   refine .seq (.q 1 rfl (.ret (X9 Tryz.results175 rfl ?_)))
   refine ⟨_,rfl,congrArg Value.bool ?_,hS⟩
   have:X8t s 0=false:=by
    cases h:X8t s 0 with
    | false=>rfl
    | true =>
     have h1:=(X4g s 0).1 h i _ (Xz (show i<s.length by omega))
     rw [Yd] at h1
     exact absurd (hb35.symm.trans h1) (by decide)
   rw [Xah,this]; rfl
  have hc35:=hb35; try simp only [Y6] at hc35
  refine .skip (.region (.run 2 rfl ⟨⟨by omega,by omega⟩,trivial⟩ (.nil ?_)))
  refine ⟨i+1,⟨rfl,rfl,rfl,trivial⟩,⟨by (try dsimp only); omega,fun j c hj hc=>?_,hS⟩,by (try dsimp only); omega⟩
  rcases Yr j i with h1 | h1
  ·exact hno j c h1 hc
  ·have e:j=i:=by omega
   subst e
   rw [Xz (show j<s.length by omega)] at hc; cases hc
   exact hb35
 have hc8:=hb8; try simp only [Y6] at hc8
 refine .exit (.seq (.t 3 rfl (.gval rfl rfl (fun hg1=>(.move (.of rfl))) rfl (.gval rfl rfl (fun hg1=>(.len (.gd hg1 rfl) Qu9)) rfl (.gval rfl rfl (fun hg1=>(.leq (.gd hg1 rfl) (.of rfl))) rfl (.val (.pand (.of rfl) (.of rfl) (.of rfl)) rfl (.q 1 rfl (.nil (.ret (X9 Tryz.results175 rfl ?_))))))))))
 refine ⟨_,rfl,congrArg Value.bool ?_,hS⟩
 have:X8t s 0=true:=(X4g s 0).2 fun j c hc=>by
  have:=(Y5.1 hc).1
  rw [Yd]; exact hno j c (by omega) hc
 rw [Xah,this]
 simp
theorem Xm7 (p:Pr) (hp:X1k p) (B w:World) (I:Im) (As:List X8) (hS:Sat B w I As) :
  Calls Tryz.prog 174 [.agg (X1h p).toArray].toArray w (Ret fun v w'=>v=.bool (Xlv p)∧Sat B w' I As):=by
 refine calls Tryz.func174 rfl Tryz.ntmps174 rfl (.seq (.region (.boxA (cs:=[_,_]) hS (.of rfl) rfl ?_)))
 clear hS; intro b1 w hS
 refine .q 1 rfl (.nil (.seq (.region ?_)))
 refine WL.val (.fieldAddr 0 (.of rfl) Xpi rfl rfl Qs9 rfl) rfl (WL.val (.ld (.of rfl) hS (k:=0) rfl Qg9 rfl) rfl (.call Tryz.func175 rfl (X0 (.of rfl) X4) rfl (Xoq p.1 hp.1 B _ I _ hS) ?_))
 clear hS
 rintro _ w ⟨rfl,hS⟩
 refine .q 2 rfl (WL.gval rfl rfl (fun hg1=>(by exact .fieldAddr 1 (.of rfl) Xpi rfl rfl Qs9 rfl)) rfl ?_)
 refine WL.gval rfl rfl (fun hg1=>(by exact (.ld (.gd hg1 rfl) hS (k:=0) rfl Qg9 rfl))) rfl ?_
 refine .gcall (T:=fun w=>Sat B w I (blk b1 [S p.1,S p.2] 69::As)) rfl rfl rfl Tryz.func176 rfl (fun hg1=>(X0 (.gd hg1 rfl) (X0 (.of rfl) (X0 (.of rfl) (X0 (.of rfl) X4))))) rfl (fun hg1=>Xaz p.2 32 0 60 hp.2 B _ I _ hS) hS ?_
 clear hS; rintro w hS
 refine .gval rfl rfl (fun hg1=>(.not (.gd hg1 rfl))) rfl (.val (.por (.of rfl) (.of rfl) (.of rfl)) rfl (.q 1 rfl (.nil (.ret (X9 Tryz.results174 rfl ?_)))))
 exact ⟨_,rfl,rfl,hS.drop (k:=0) rfl⟩
theorem Xa7 (a:Option Addr) (cap:Nat) (l:List (Pr)) (hln:l.length≤9223372036854775807) (pr:Pr→Bool) (fid:FuncId) (fn:Func) (hfn:Tryz.prog.funcs[fid]?=some fn) (hcal:Xo fn=true) (capv:List Value) (B w:World) (I:Im) (As:List X8) (hE:∀ w,Sat B w I As→Xbv w X1h 2 a l) (hf:∀ (r:Pr) (hr:r∈l) w,Sat B w I As→Calls Tryz.prog fid ([Value.agg (X1h r).toArray] ++ capv).toArray w (Ret fun v w'=>v=.bool (pr r)∧Sat B w' I As)) (hS:Sat B w I As) :
  Calls Tryz.prog 203 [.slice a l.length cap,.func (.func fid) #[] capv.toArray].toArray w (Ret fun v w'=>v=I64 (X24 pr l 0)∧Sat B w' I As):=by
 refine calls Tryz.func203 rfl Tryz.ntmps203 rfl (.seq (.q 1 rfl (.seq (.seq (.region (.run 3 rfl ⟨⟨_,Xgh⟩,trivial⟩ (.nil (.block (.loop (σ:=Nat) (fun i=>[(0,.slice a l.length cap),(1,.func (.func fid) #[] capv.toArray),(7,I64 (l.length:Nat)),(8,I64 (i:Nat))]) (fun i w=>i≤l.length∧(∀ (j:Nat) t,j<i→l[j]?=some t→pr t=false)∧Sat B w I As) (fun i=>l.length - i) 0 ⟨rfl,rfl,rfl,rfl,trivial⟩ ⟨Yp _,fun _ _ h=>absurd h (by omega),hS⟩ ?_)))))))))
 rintro i w ⟨hi,hno,hS⟩
 refine .seq (.q 1 rfl (.seq ?_))
 refine WC.cond rfl (fun hb9=>?_) (fun hb9=>?_)
 ·
  have hc9:=hb9; try simp only [Y6] at hc9
  refine .skip (.seq (.block (.seq ?_)))
  obtain ⟨r,hr⟩:∃ r,l[i]?=some r:=⟨_,Y4 (by omega)⟩
  obtain ⟨p,rfl,hx⟩:=hE w hS i r hr
  refine .q 2 rfl (.seq (.t 3 rfl ?_))
  refine WL.val (.indexAddrI (.of rfl) (.of rfl) (by omega) (by omega) Xgh Xps) rfl (.val (.ldR (.of rfl) hx Tryz.isAgg69 Xps rfl) rfl (.vcall (cap:=capv) hfn hcal (.of rfl) (X0 (.of rfl) X4) rfl (hf r (Ym hr) w hS) ?_))
  clear hS
  rintro _ w ⟨rfl,hS⟩
  refine .nil (WC.cond rfl (fun hb16=>?_) (fun hb16=>?_))
  ·
   refine .seq (.q 2 rfl (.ret (X9 Tryz.results203 rfl ?_)))
   exact ⟨_,rfl,by rw [X54 hno hr hb16],hS⟩
  have hc16:=hb16; try simp only [Y6] at hc16
  refine .skip (.region (.run 2 rfl ⟨⟨by omega,by omega⟩,trivial⟩ (.nil ?_)))
  refine ⟨i+1,⟨rfl,rfl,rfl,rfl,trivial⟩,⟨by (try dsimp only); omega,fun j t hj ht=>?_,hS⟩,by (try dsimp only); omega⟩
  rcases Yr j i with h1 | h1
  ·exact hno j t h1 ht
  ·have e:j=i:=by omega
   subst e
   rw [hr] at ht; cases ht
   exact hb16
 have hc9:=hb9; try simp only [Y6] at hc9
 refine .exit (.seq (.q 1 rfl (.ret (X9 Tryz.results203 rfl ?_))))
 exact ⟨_,rfl,by rw [X3o (fun j t ht=>hno j t (by have:=(Y5.1 ht).1; omega) ht)],hS⟩
theorem X70 (a:Option Addr) (cap:Nat) (l:List (Pr)) (hln:l.length≤9223372036854775807) (pr:Pr→Bool) (fid:FuncId) (fn:Func) (hfn:Tryz.prog.funcs[fid]?=some fn) (hcal:Xo fn=true) (capv:List Value) (B w:World) (I:Im) (As:List X8) (hE:∀ w,Sat B w I As→Xbv w X1h 2 a l) (hf:∀ (r:Pr) (hr:r∈l) w,Sat B w I As→Calls Tryz.prog fid ([Value.agg (X1h r).toArray] ++ capv).toArray w (Ret fun v w'=>v=.bool (pr r)∧Sat B w' I As)) (hS:Sat B w I As) :
  Calls Tryz.prog 177 [.slice a l.length cap,.func (.func fid) #[] capv.toArray].toArray w (Ret fun v w'=>v=.bool (l.any pr)∧Sat B w' I As):=by
 refine calls Tryz.func177 rfl Tryz.ntmps177 rfl (.seq (.q 1 rfl (.seq (.t 2 rfl (.call Tryz.func203 rfl (X0 (.of rfl) (X0 (.of rfl) X4)) rfl (Xa7 a cap l hln pr fid fn hfn hcal capv B _ I As hE hf hS) ?_)))))
 clear hS
 rintro _ w ⟨rfl,hS⟩
 refine .q 2 rfl (.nil (.ret (X9 Tryz.results177 rfl ?_)))
 exact ⟨_,rfl,by rw [← X71 pr l 0],hS⟩
theorem Xic (a:Option Addr) (c:Nat) (l:List (Pr)) (hl:l.length≤1000000) (B w:World) (I:Im) (hR:RS I a 2 l.length (X1c X1h l)) (As:List X8) (hS:Sat B w I As) :
  Calls Tryz.prog 133 [.slice a l.length c].toArray w (Ret fun v w'=>∃ J ra rc,v=.slice ra l.length rc∧Le I J∧l.length≤rc∧RS J ra 2 l.length (X1c X1h l)∧Sat B w' J As):=by
 refine calls Tryz.func133 rfl Tryz.ntmps133 rfl (.seq (.q 1 rfl (.seq (.seq (.t 1 rfl (.val (Ex.slNil (.of rfl) (.of rfl) Xgh) rfl (.nil ?_)))))))
 refine WC.cond rfl (fun hb4=>?_) (fun hb4=>?_)
 ·
  refine .seq (.q 1 rfl (.ret (X9 Tryz.results133 rfl ?_)))
  cases a with
  | some p=>simp at hb4
  | none =>
  have h0:l=[]:=by
   cases l with
   | nil=>rfl
   | cons x l=>obtain ⟨p,h,_⟩:=hR.2 (by simp); cases h
  subst h0
  exact ⟨_,rfl,I,none,0,rfl,Le.refl _,Yt _,⟨rfl,fun h=>absurd h (by simp)⟩,hS⟩
 refine .skip (.seq (.region (.buildSlice (cs:=[]) hS X6 Xgh Xps Tryz.zeroValue69 rfl rfl rfl rfl ?_)))
 clear hS; intro b5 w hS
 refine .q 1 rfl ?_
 replace hS:=hS.vecOf (k:=0) (E:=69) (size:=2) (n:=0) rfl rfl (Yp _)
 refine WL.appendF (size:=2) (bytes:=32) hS (.of rfl) (.of rfl) hR (k:=0) rfl Xgh (i:=Tryz.t69) (by kernel_rfl) rfl rfl rfl rfl (pr_one l) ⟨by omega,by unfold maxLen; omega⟩ rfl ?_
 clear hS; intro v7 w hS
 rw [Yd,Yf] at hS
 refine .q 1 rfl (.nil (.ret (X9 Tryz.results133 rfl ?_)))
 obtain ⟨ra,rc,rfl,hrc,_⟩:=hS.vecSlice (k:=0) rfl
 obtain ⟨J,hJ,hRS,hS⟩:=hS.freezeVec (k:=0) rfl
 exact ⟨_,rfl,J,ra,rc,rfl,hJ,hrc,hRS,hS⟩
theorem Xk4 (u:Us) (a:Option Addr) (c:Nat) (hn:u.name.length≤9223372036854775807) (hal:u.attrs.length≤9223372036854775807) (hA:∀ p∈u.attrs,X1k p) (B w:World) (I:Im) (hR:RS I a 2 u.attrs.length (X1c X1h u.attrs)) (As:List X8) (hS:Sat B w I As) :
  Calls Tryz.prog 132 [.agg (X2p u a c).toArray].toArray w (Ret fun v w'=>v=.bool (X6s u)∧Sat B w' I As):=by
 refine calls Tryz.func132 rfl Tryz.ntmps132 rfl (.seq (.region (.boxA (cs:=[_,_,_]) hS (.of rfl) rfl ?_)))
 clear hS; intro b1 w hS
 refine .q 1 rfl (.nil (.seq (.q 1 rfl (.seq (.region ?_)))))
 refine WL.val (.fieldAddr 0 (.of rfl) X66 rfl rfl Qs9 rfl) rfl (WL.val (.ld (.of rfl) hS (k:=0) rfl Qg9 rfl) rfl (.call Tryz.func176 rfl (X0 (.of rfl) (X0 (.of rfl) (X0 (.of rfl) (X0 (.of rfl) X4)))) rfl (Xaz u.name 33 1 32 hn B _ I _ hS) ?_))
 clear hS
 rintro _ w ⟨rfl,hS⟩
 refine .q 1 rfl (WL.gval rfl rfl (fun hg1=>(by exact .fieldAddr 1 (.of rfl) X66 rfl rfl Qs9 rfl)) rfl ?_)
 refine WL.gval rfl rfl (fun hg1=>(by exact (.ld (.gd hg1 rfl) hS (k:=0) rfl Qg9 rfl))) rfl ?_
 refine .gval rfl rfl (fun hg1=>(.len (.gd hg1 rfl) Qu9)) rfl (.gval rfl rfl (fun hg1=>(.geq (.gd hg1 rfl) (.of rfl))) rfl (.val (.pand (.of rfl) (.of rfl) (.of rfl)) rfl (.q 1 rfl ?_)))
 refine WL.gval rfl rfl (fun hg1=>(by exact .fieldAddr 1 (.of rfl) X66 rfl rfl Qs9 rfl)) rfl ?_
 refine WL.gval rfl rfl (fun hg1=>(by exact (.ld (.gd hg1 rfl) hS (k:=0) rfl Qg9 rfl))) rfl ?_
 refine .gval rfl rfl (fun hg1=>(.len (.gd hg1 rfl) Qu9)) rfl (.gval rfl rfl (fun hg1=>(.leq (.gd hg1 rfl) (.of rfl))) rfl (.val (.pand (.of rfl) (.of rfl) (.of rfl)) rfl (.q 1 rfl ?_)))
 refine WL.gval rfl rfl (fun hg1=>(by exact .fieldAddr 2 (.of rfl) X66 rfl rfl Xin rfl)) rfl ?_
 refine WL.gval rfl rfl (fun hg1=>(by exact (.ld (.gd hg1 rfl) hS (k:=0) rfl Xlx rfl))) rfl ?_
 refine .gval rfl rfl (fun hg1=>(.lenSlice (.gd hg1 rfl) Xgh)) rfl (.gval rfl rfl (fun hg1=>(.leq (.gd hg1 rfl) (.of rfl))) rfl (.val (.pand (.of rfl) (.of rfl) (.of rfl)) rfl (.q 1 rfl ?_)))
 refine WL.gval rfl rfl (fun hg1=>(by exact .fieldAddr 2 (.of rfl) X66 rfl rfl Xin rfl)) rfl ?_
 refine WL.gval rfl rfl (fun hg1=>(by exact (.ld (.gd hg1 rfl) hS (k:=0) rfl Xlx rfl))) rfl ?_
 refine .gval rfl rfl (fun hg1=>(.move (.of rfl))) rfl (.gcall (T:=fun w=>Sat B w I (blk b1 (X2p u a c) 67::As)) rfl rfl rfl Tryz.func177 rfl (fun hg1=>(X0 (.gd hg1 rfl) (X0 (.gd hg1 rfl) X4))) rfl (fun hg1=>X70 a c u.attrs (by omega) Xlv 174 _ Tryz.func174 rfl [] B _ I _ (fun w h=>Xk2 (fun _=>rfl) h hR) (fun p hp w h=>Xm7 p (hA p hp) B w I _ h) hS) hS ?_)
 clear hS; rintro w hS
 refine .gval rfl rfl (fun hg1=>(.not (.gd hg1 rfl))) rfl (.val (.pand (.of rfl) (.of rfl) (.of rfl)) rfl (.q 1 rfl (.nil (.ret (X9 Tryz.results132 rfl ?_)))))
 exact ⟨_,rfl,rfl,hS.drop (k:=0) rfl⟩
theorem Xjx:Bld Tryz.prog 179 [(0,1)] [.map none]:=X2l Xnm Tryz.zeroValue179 (fun w=>by simp [go_sem])
def UsrsAt (I:Im) (a:Option Addr) (l:List Us):Prop:=∀ (i:Nat) (u:Us),l[i]?=some u→∃ p ra rc,a=some p∧At I (p.add (i*3)) (X2p u ra rc)∧u.attrs.length≤rc∧RS I ra 2 u.attrs.length (X1c X1h u.attrs)
theorem UsrsAt.mono {I J:Im} {a:Option Addr} {l:List Us} (h:UsrsAt I a l) (hl:Le I J):UsrsAt J a l:=fun i u hu=>by
 obtain ⟨p,ra,rc,e,h1,h2,h3⟩:=h i u hu
 exact ⟨p,ra,rc,e,h1.mono hl,h2,h3.mono hl⟩
structure Us.fits (u:Us):Prop where
 name:u.name.length≤maxLen
 pw:u.pw.length≤maxLen
 attrs:u.attrs.length≤9223372036854775807∧∀ p∈u.attrs,X1k p
def X4i:List Us→Nat→List Us→Nat×Nat
 | [],_,_=>(0,0)
 | u::r,i,acc=>if 16≤i then (5,i) else if X6s u=false then (1,i) else if acc.any (fun t=>t.name == u.name) then (7,i) else X4i r (i+1) (acc ++ [u])
def KvOf (J:Im) (kv:List (List UInt8×Value)) (l:List Us):Prop:=kv.length=l.length∧∀ (i:Nat) (u:Us),l[i]?=some u→∃ cs,kv[i]?=some (u.name,.agg (List.toArray cs))∧UsAt J u cs
theorem KvOf.mono {I J:Im} {kv:List (List UInt8×Value)} {l:List Us} (h:KvOf I kv l) (hl:Le I J):KvOf J kv l:=⟨h.1,fun i u hu=>by
 obtain ⟨cs,h1,h2⟩:=h.2 i u hu
 exact ⟨cs,h1,h2.mono hl⟩⟩
theorem KvOf.snoc {J:Im} {kv:List (List UInt8×Value)} {l:List Us} {u:Us} {cs:List Value} (h:KvOf J kv l) (hu:UsAt J u cs):KvOf J (kv ++ [(u.name,.agg cs.toArray)]) (l ++ [u]):=⟨by simp [h.1],fun i t ht=>by
 rcases Yr i l.length with h1 | h1
 ·rw [Yg h1] at ht
  rw [Yg (by rw [h.1]; exact h1)]
  exact h.2 i t ht
 ·have h2:=(Y5.1 ht).1
  simp only [Y0,Y8,Yk] at h2
  have e:i=l.length:=by omega
  subst e
  simp at ht; subst ht
  exact ⟨cs,by rw [← h.1]; simp,hu⟩⟩
theorem Xee {J:Im} (name:List UInt8):∀ {kv:List (List UInt8×Value)} {l:List Us},KvOf J kv l→(l.find? (fun t=>t.name == name)=none∧kv.lookup name=none)∨∃ u cs,l.find? (fun t=>t.name == name)=some u∧kv.lookup name=some (.agg (List.toArray cs))∧UsAt J u cs
 | [],[],_=>.inl ⟨rfl,rfl⟩
 | [],u::l,h=>by have:=h.1; simp at this
 | p::kv,[],h=>by have:=h.1; simp at this
 | p::kv,u::l,h=>by
  obtain ⟨cs,h1,h2⟩:=h.2 0 u rfl
  simp at h1; subst h1
  have h3:KvOf J kv l:=⟨by simpa using h.1,fun i t ht=>by simpa using h.2 (i+1) t (by simpa using ht)⟩
  rw [Y2x]
  by_cases e:u.name=name
  ·subst e
   exact .inr ⟨u,cs,by simp,by simp [List.lookup],h2⟩
  ·have e1:(u.name == name)=false:=beq_eq_false_iff_ne.2 e
   have e2:(name == u.name)=false:=beq_eq_false_iff_ne.2 (Ne.symm e)
   simp only [e1,List.lookup,e2]
   exact Xee name h3
theorem Xm9 (l:List Us) (name:List UInt8):l.any (fun t=>t.name == name)=(l.find? (fun t=>t.name == name)).isSome:=by
 rw [Y2y,Y2l,List.find?_isSome]
def TabAt (J:Im) (tb:Nat) (l:List Us):Prop:=∃ mb kv,At J (ad tb 0) [.map (some mb)]∧MapI J S mb kv∧KvOf J kv l
theorem TabAt.mono {I J:Im} {tb:Nat} {l:List Us} (h:TabAt I tb l) (hl:Le I J):TabAt J tb l:=by
 obtain ⟨mb,kv,h1,h2,h3⟩:=h
 exact ⟨mb,kv,h1.mono hl,h2.mono hl,h3.mono hl⟩
theorem X6x {J:Im} {b:Nat} {cs:List Value} {E:TypeId} (h:J b=some (Xj cs E)):At J (ad b 0) cs:=⟨rfl,_,E,(0,0),h,fun j v hj=>by simpa [ad] using hj⟩
theorem X9c {u:Us} (h:X6s u=true):u.attrs.length≤8:=by
 unfold X6s at h
 simp only [Yq,decide_eq_true_eq] at h
 omega
set_option maxRecDepth 20000 in
theorem Xe4 (a:Option Addr) (cap:Nat) (l:List Us) (hln:l.length≤9223372036854775807) (hfit:∀ u∈l,u.fits) (B w:World) (I:Im) (hU:UsrsAt I a l) (As:List X8) (hS:Sat B w I As) :
  Calls Tryz.prog 90 [.slice a l.length cap].toArray w (Ret fun v w'=>∃ J,Le I J∧(((X4i l 0 []).1=0∧∃ tb,v=.tuple #[ptr tb 0,I64 0,I64 0]∧TabAt J tb l)∨((X4i l 0 []).1≠0∧v=.tuple #[.pointer none,I64 ((X4i l 0 []).1:Nat),I64 ((X4i l 0 []).2:Nat)]))∧Sat B w' J As):=by
 refine calls Tryz.func90 rfl Tryz.ntmps90 rfl (.seq (.q 3 rfl (.seq (.region (.mkMap S hS rfl ?_)))))
 clear hS; intro b10 w hS
 refine .val (.build (cs:=[_]) (X5 (.of rfl) X6) Xjx rfl) rfl (.boxA (cs:=[_]) hS (.of rfl) rfl ?_)
 clear hS; intro b12 w hS
 refine .q 1 rfl (.nil (.seq (.seq (.region (.run 3 rfl ⟨⟨_,Xbs⟩,trivial⟩ (.nil (.block (.loop (σ:=Nat×Im×List (List UInt8×Value)) (fun ⟨i,J,kv⟩=>[(0,.slice a l.length cap),(5,ptr b12 0),(13,.slice a l.length cap),(14,I64 (l.length:Nat)),(15,I64 (i:Nat))]) (fun ⟨i,J,kv⟩ w=>i≤l.length∧Le I J∧KvOf J kv (l.take i)∧X4i (l.drop i) i (l.take i)=X4i l 0 []∧Sat B w J (blk b12 [.map (some b10)] 179::Xik S b10 kv::As)) (fun ⟨i,J,kv⟩=>l.length - i) (0,I,[]) ⟨rfl,rfl,rfl,rfl,rfl,trivial⟩ ⟨Yp _,Le.refl _,⟨rfl,fun i u h=>by simp at h⟩,rfl,hS⟩ ?_))))))))
 rintro ⟨i,J,kv⟩ w ⟨hi,hJ,hkv,hq,hS⟩
 refine .seq (.q 1 rfl (.seq ?_))
 refine WC.cond rfl (fun hb16=>?_) (fun hb16=>?_)
 ·
  have hc16:=hb16; try simp only [Y6] at hc16
  refine .skip (.seq (.block (.seq ?_)))
  obtain ⟨u,hu⟩:∃ u,l[i]?=some u:=⟨_,Y4 (by omega)⟩
  obtain ⟨p,ra,rc,hap,hA0,hrc,hRR⟩:=hU i u hu
  have hfu:=hfit u (Ym hu)
  subst hap
  have hA:=hA0.mono hJ
  have hR:=hRR.mono hJ
  have hstep:X4i (l.drop i) i (l.take i)=if 16≤i then (5,i) else if X6s u=false then (1,i) else if (l.take i).any (fun t=>t.name == u.name) then (7,i) else X4i (l.drop (i+1)) (i+1) (l.take (i+1)):=by
   rw [Y1d (by omega),(Y5.1 hu).2,X4i]
   simp only [Y15,hu,Y20]
  rw [hq] at hstep
  have hlook:=Xee u.name hkv
  have hany:=Xm9 (l.take i) u.name
  refine .t 1 rfl (WL.val (.indexAddrI (.of rfl) (.of rfl) (by omega) (by omega) Xbs Xb4) rfl (.val (.ldR (vs:=X2p u ra rc) (.of rfl) (fun j v hj=>X2o hS hA hj) Qg67 Xb4 rfl) rfl ?_))
  unfold X2p
  refine .allocA (cs:=[_,_,_]) hS Xsl rfl ?_
  clear hS; intro b7 w hS
  refine .q 1 rfl (WL.stA hS (k:=0) rfl (.of rfl) (.of rfl) rfl Xb4 rfl (by simp) ?_)
  clear hS; intro w hS
  try simp only [Yl,Yf,Yc,Y9,Yj,Yo,Yd] at hS
  refine .nil (.seq ?_)
  obtain ⟨n9,p9,a9,k9,c9,hz9⟩:∃ n9 p9 a9 k9 c9,(kv.lookup u.name).getD (.agg [S [],S [],.slice none 0 0].toArray)=.agg [S n9,S p9,.slice a9 k9 c9].toArray:=by
   rcases hlook with ⟨_,e⟩ | ⟨t,cs,_,e,ta,tc,ht,_⟩
   ·rw [e]; exact ⟨_,_,_,_,_,rfl⟩
   ·rw [e,ht]; exact ⟨_,_,_,_,_,rfl⟩
  refine .drawn (fun w=>∃ R,Sat B w J (blk b7 [S u.name,S u.pw,.slice ra u.attrs.length rc] 67::blk b12 [.map (some b10)] 179::Xik S b10 kv::R)) (fun j=>!([].contains j)) (by kernel_rfl) ?_
  replace hS:=hS.drew; generalize w.drew=w at hS ⊢
  have hH:=(((hS.pick 2 rfl).pick 2 rfl).pick 2 rfl)
  refine .tp (i:=0) rfl (by kernel_rfl) (fun w=>(.move (.of rfl))) rfl (.tp (i:=1) rfl (by kernel_rfl) (fun w=>(.nilCheck (.of rfl))) rfl ?_)
  refine WD.tp (i:=2) rfl (by kernel_rfl) (fun w=>(.fieldAddr 0 (.of rfl) Xnm rfl rfl Tryz.sizeOf177 rfl)) rfl (WD.tk (i:=3) rfl (by kernel_rfl) ⟨_,hH⟩ (fun w ⟨R,hS⟩=>((.ld (.of rfl) hS (k:=1) rfl Tryz.isAgg177 rfl))) rfl (WD.tp (i:=4) rfl (by kernel_rfl) (fun w=>(.fieldAddr 0 (.of rfl) X66 rfl rfl Qs9 rfl)) rfl (WD.tk (i:=5) rfl (by kernel_rfl) ⟨_,hH⟩ (fun w ⟨R,hS⟩=>((.ld (.of rfl) hS (k:=0) rfl Qg9 rfl))) rfl ?_)))
  refine WD.tk (i:=6) rfl (by kernel_rfl) ⟨_,hH⟩ (v:=.tuple #[.agg [S n9,S p9,.slice a9 k9 c9].toArray,.bool (kv.lookup u.name).isSome]) (fun w ⟨R,hS⟩=>by rw [← hz9]; exact .look2 (key:=u.name) keyS (hS.mapNow (k:=2) rfl) (.of rfl) (.of rfl) Xrw Qu9 Xsl) rfl ?_
  refine .tp (i:=7) rfl (by kernel_rfl) (fun w=>(.move (.of rfl))) rfl (.tp (i:=8) rfl (by kernel_rfl) (fun w=>(.extract (.of rfl) rfl)) rfl (.tp (i:=9) rfl (by kernel_rfl) (fun w=>(.extract (.of rfl) rfl)) rfl ?_))
  refine WD.branch [10] (by kernel_rfl) rfl (WO.cons rfl ?_ (WO.nil))
  refine .allocA (cs:=[_,_,_]) hS Xsl rfl ?_
  clear hS; intro b8 w hS
  refine .nil ?_
  clear hH
  have hH:=(((hS.pick 3 rfl).pick 3 rfl).pick 3 rfl)
  refine And.intro (by intro _ _; exact ⟨_,hH⟩) ?_
  refine WD.branch [11] (by kernel_rfl) rfl (WO.cons rfl ?_ (WO.nil))
  refine WL.stA hS (k:=0) rfl (.of rfl) (.of rfl) rfl Xb4 rfl (by simp) ?_
  clear hS; intro w hS
  try simp only [Yl,Yf,Yc,Y9,Yj,Yo,Yd] at hS
  refine .nil ?_
  clear hH
  have hH:=(((hS.pick 3 rfl).pick 3 rfl).pick 3 rfl)
  refine And.intro (by intro _ _; exact ⟨_,hH⟩) ?_
  refine .tp (i:=12) rfl (by kernel_rfl) (fun w=>(.assign (.of rfl))) rfl (.done (by kernel_rfl) (.seq (.block (.seq (.q 3 rfl ?_)))))
  refine WC.cond rfl (fun hb30=>?_) (fun hb30=>?_)
  ·
   have hc30:=hb30; try simp only [Y6] at hc30
   refine .seq (.q 4 rfl (.ret (X6r Qr90 rfl rfl rfl ?_)))
   have hE:X4i l 0 []=(5,i):=by rw [hstep]; exact if_pos (by omega)
   rw [hE]
   exact ⟨_,rfl,J,hJ,.inr ⟨show (5:Nat)≠0 by decide,rfl⟩,(((hS.drop (k:=0) rfl).drop (k:=0) rfl).drop (k:=0) rfl).drop (k:=0) rfl⟩
  have hc30:=hb30; try simp only [Y6] at hc30
  refine .seq (.region ?_)
  refine WL.val (.ldsW (cs:=[_,_,_]) (.of rfl) hS (k:=1) rfl Qg67 Xb4 rfl) rfl (.call Tryz.func132 rfl (X0 (.of rfl) X4) rfl (Xk4 u ra rc hfu.name hfu.attrs.1 hfu.attrs.2 B _ J hR _ hS) ?_)
  clear hS
  rintro _ w ⟨rfl,hS⟩
  refine .q 2 rfl (.nil ?_)
  refine WC.cond rfl (fun hb34=>?_) (fun hb34=>?_)
  ·
   have hc34:=hb34; try simp only [Y6] at hc34
   refine .seq (.q 4 rfl (.ret (X6r Qr90 rfl rfl rfl ?_)))
   have hE:X4i l 0 []=(1,i):=by rw [hstep]; rw [if_neg (by omega)]; exact if_pos (by simpa using hb34)
   rw [hE]
   exact ⟨_,rfl,J,hJ,.inr ⟨show (1:Nat)≠0 by decide,rfl⟩,(((hS.drop (k:=0) rfl).drop (k:=0) rfl).drop (k:=0) rfl).drop (k:=0) rfl⟩
  have hc34:=hb34; try simp only [Y6] at hc34
  refine .seq (.q 2 rfl ?_)
  refine WC.cond rfl (fun hb39=>?_) (fun hb39=>?_)
  ·
   have hc39:=hb39; try simp only [Y6] at hc39
   refine .seq (.q 4 rfl (.ret (X6r Qr90 rfl rfl rfl ?_)))
   have hE:X4i l 0 []=(7,i):=by rw [hstep]; rw [if_neg (by omega)]; rw [if_neg (show ¬ X6s u=false by simpa using hb34)]; exact if_pos (by rw [hany]; rcases hlook with ⟨_,e⟩ | ⟨t,cs,e,_⟩ <;> simp_all)
   rw [hE]
   exact ⟨_,rfl,J,hJ,.inr ⟨show (7:Nat)≠0 by decide,rfl⟩,(((hS.drop (k:=0) rfl).drop (k:=0) rfl).drop (k:=0) rfl).drop (k:=0) rfl⟩
  have hc39:=hb39; try simp only [Y6] at hc39
  refine .skip (.seq ?_)
  have hur:X6s u=true:=by simpa using hb34
  have hal:=X9c hur
  refine .region (WL.val (.fieldAddr 2 (.of rfl) X66 rfl rfl Xin rfl) rfl (WL.val (.ld (.of rfl) hS (k:=1) rfl Xlx rfl) rfl (.call Tryz.func133 rfl (X0 (.of rfl) X4) rfl (Xic ra rc u.attrs (by omega) B _ J hR _ hS) ?_)))
  clear hS
  rintro _ w ⟨J2,ra2,rc2,rfl,hJ2,hrc2,hR2,hS⟩
  refine WL.val (.fieldAddr 2 (.of rfl) X66 rfl rfl Xin rfl) rfl (WL.st1 hS (k:=1) rfl (.of rfl) (.of rfl) rfl Xin (by simp) ?_)
  clear hS; intro w hS
  refine .nil (.tail 7 (by kernel_rfl) (by kernel_rfl) ?_)
  replace hS:=hS.drew; generalize w.drew=w at hS ⊢
  refine .val (.move (.of rfl)) rfl (.val (.nilCheck (.of rfl)) rfl ?_)
  refine WT.val (by exact .fieldAddr 0 (.of rfl) Xnm rfl rfl Tryz.sizeOf177 rfl) rfl ?_
  refine WT.val (by exact (.ld (.of rfl) hS (k:=2) rfl Tryz.isAgg177 rfl)) rfl ?_
  refine WT.val (by exact .fieldAddr 0 (.of rfl) X66 rfl rfl Qs9 rfl) rfl ?_
  refine WT.val (by exact (.ld (.of rfl) hS (k:=1) rfl Qg9 rfl)) rfl ?_
  refine WT.val (by exact (.ldsW (cs:=[_,_,_]) (.of rfl) hS (k:=1) rfl Qg67 Xb4 rfl)) rfl ?_
  refine .nil ?_
  show WL _ _ _ _ _ _ _
  have hno:kv.lookup u.name=none:=by
   cases h:kv.lookup u.name with
   | none=>rfl
   | some x=>rw [h] at hb39; cases hb39
  refine .mput keyS hS (k:=3) rfl (.of rfl) (.of rfl) (.of rfl) hno Xrw Qu9 ?_
  clear hS; intro w hS
  try dsimp only [List.set] at hS
  refine .nil (.region (.run 2 rfl ⟨⟨by omega,by omega⟩,trivial⟩ (.nil ?_)))
  refine ⟨(i+1,J2,kv ++ [(u.name,Value.agg #[S u.name,S u.pw,Value.slice ra2 u.attrs.length rc2])]),⟨rfl,rfl,rfl,rfl,rfl,trivial⟩,⟨by (try dsimp only); omega,hJ.trans hJ2,?_,?_,(hS.drop (k:=0) rfl).drop (k:=0) rfl⟩,by (try dsimp only); omega⟩
  ·show KvOf J2 _ (l.take (i+1))
   rw [Y15,hu]
   exact (hkv.mono hJ2).snoc ⟨ra2,rc2,rfl,hrc2,hR2⟩
  ·show X4i (l.drop (i+1)) (i+1) (l.take (i+1))=_
   rw [hstep,if_neg (by omega),if_neg (by rw [hur]; decide),if_neg]
   rw [hany]
   rcases hlook with ⟨e,_⟩ | ⟨t,cs,e,e2,_⟩
   ·rw [e]; decide
   ·rw [hno] at e2; cases e2
 have hc16:=hb16; try simp only [Y6] at hc16
 refine .exit (.seq (.q 4 rfl (.ret (X6r Qr90 rfl rfl rfl ?_))))
 have e:i=l.length:=by omega
 subst e
 have hE:X4i l 0 []=(0,0):=by rw [← hq,Y34]; rfl
 rw [Y1b] at hkv
 rw [hE]
 obtain ⟨J2,hJ2,hA2,hS⟩:=hS.freeze (k:=0) rfl
 obtain ⟨J3,hJ3,hM3,hS⟩:=hS.freezeMap (k:=0) rfl
 exact ⟨_,rfl,J3,(hJ.trans hJ2).trans hJ3,.inl ⟨rfl,b12,rfl,b10,kv,(X6x hA2).mono hJ3,hM3,(hkv.mono hJ2).mono hJ3⟩,hS⟩
theorem xor_zero {a b:UInt8}:(a ^^^ b).toNat=0 ↔ a=b:=by
 constructor
 ·intro h
  have h1:a ^^^ b=0:=Y16.1 (by simpa using h)
  have h2:a ^^^ b ^^^ b=0 ^^^ b:=by rw [h1]
  rw [UInt8.xor_assoc,UInt8.xor_self,UInt8.xor_zero,UInt8.zero_xor] at h2
  exact h2
 ·intro h; subst h; simp
theorem nxor_zero {a b:Nat}:a ^^^ b=0 ↔ a=b:=by
 constructor
 ·intro h
  have h2:a ^^^ b ^^^ b=0 ^^^ b:=by rw [h]
  rw [Nat.xor_assoc,Nat.xor_self,Nat.xor_zero,Nat.zero_xor] at h2
  exact h2
 ·intro h; subst h; simp
theorem Xnb {a b:List UInt8}:a=b ↔ a.length=b.length∧∀ j:Nat,j<min a.length b.length→at_ a (j:Int)=at_ b (j:Int):=by
 constructor
 ·intro h; subst h; exact ⟨rfl,fun _ _=>rfl⟩
 ·rintro ⟨h1,h2⟩
  refine List.ext_getElem h1 fun j hj hk=>?_
  have h3:=h2 j (by omega)
  simpa [at_,Y7,hj,hk] using h3
theorem Xou (a b:List UInt8) (ha:a.length≤9223372036854775807) (hb:b.length≤9223372036854775807) (B w:World) (I:Im) (As:List X8) (hS:Sat B w I As) :
  Calls Tryz.prog 127 [S a,S b].toArray w (Ret fun v w'=>v=.bool (a == b)∧Sat B w' I As):=by
 refine calls Tryz.func127 rfl Tryz.ntmps127 rfl (.seq (.q 1 rfl (.seq (.region (.run 4 rfl ⟨Qu9,Qu9,trivial⟩ (.val (.xorI (a:=a.length) (b:=b.length) (by omega) (by omega) (.of rfl) (.of rfl)) rfl (.q 1 rfl (.nil (.seq (.seq (.region (.run 4 rfl ⟨Qu9,Qu9,trivial⟩ (.val (.min2 (.of rfl) (.of rfl)) rfl (.q 1 rfl (.nil (.block (.loop (σ:=Nat×Nat) (fun ⟨i,D⟩=>[(0,S a),(1,S b),(5,I64 (D:Nat)),(16,I64 (min (a.length:Int) (b.length:Int))),(17,I64 (i:Nat))]) (fun ⟨i,D⟩ w=>(i:Int)≤min (a.length:Int) (b.length:Int)∧D<9223372036854775808∧(D=0 ↔ a.length=b.length∧∀ j:Nat,j<i→at_ a (j:Int)=at_ b (j:Int))∧Sat B w I As) (fun ⟨i,D⟩=>min a.length b.length - i) (0,a.length ^^^ b.length) ⟨rfl,rfl,rfl,rfl,rfl,trivial⟩ ⟨by omega,Nat.xor_lt_two_pow (n:=63) (by omega) (by omega),⟨fun h=>⟨nxor_zero.1 h,fun j h=>absurd h (by omega)⟩,fun h=>nxor_zero.2 h.1⟩,hS⟩ ?_)))))))))))))))))
 rintro ⟨i,D⟩ w ⟨hi,hD,hq,hS⟩
 refine .seq (.q 1 rfl (.seq ?_))
 refine WC.cond rfl (fun hb18=>?_) (fun hb18=>?_)
 ·
  have hc18:=hb18; try simp only [Y6] at hc18
  refine .skip (.seq (.block (.seq (.q 2 rfl ?_))))
  have hx8:=(at_ a (i:Int) ^^^ at_ b (i:Int)).toNat_lt
  refine .quiet (by kernel_rfl) (by kernel_rfl) hS (.val (fun w hS=>(.move (.of rfl))) rfl (.val (fun w hS=>(.move (.of rfl))) rfl (.val (fun w hS=>(.move (.of rfl))) rfl (.val (fun w hS=>(.index (.of rfl) (.of rfl) (by omega) (by omega) Qu9)) rfl (.val (fun w hS=>(.move (.of rfl))) rfl (.val (fun w hS=>(.move (.of rfl))) rfl (.val (fun w hS=>(.index (.of rfl) (.of rfl) (by omega) (by omega) Qu9)) rfl (.val (fun w hS=>.xor8 (.of rfl) (.of rfl)) rfl ?_))))))))
  refine WQ.val (fun w hS=>(.cvi (.of rfl) Qu5 Qu3 (by rw [IntKind.wrap_i64]; omega))) rfl (WQ.val (fun w hS=>.orI (a:=D) (b:=(at_ a (i:Int) ^^^ at_ b (i:Int)).toNat) (by omega) (by have:=(at_ a (i:Int) ^^^ at_ b (i:Int)).toNat_lt; omega) (.of rfl) (.of rfl)) rfl ?_)
  refine .val (fun w hS=>(.assign (.of rfl))) rfl (.nil ?_)
  clear hS; intro w hS
  refine .region (.run 2 rfl ⟨⟨by omega,by omega⟩,trivial⟩ (.nil ?_))
  refine ⟨(i+1,D ||| (at_ a (i:Int) ^^^ at_ b (i:Int)).toNat),⟨rfl,rfl,rfl,rfl,rfl,trivial⟩,⟨by (try dsimp only); omega,Y4u (n:=63) hD (by have:=(at_ a (i:Int) ^^^ at_ b (i:Int)).toNat_lt; omega),?_,hS⟩,by (try dsimp only); omega⟩
  show (D ||| (at_ a (i:Int) ^^^ at_ b (i:Int)).toNat)=0 ↔ _
  rw [Nat.or_eq_zero_iff,hq,xor_zero]
  constructor
  ·rintro ⟨⟨h1,h2⟩,h3⟩
   refine ⟨h1,fun j hj=>?_⟩
   rcases Yr j i with h | h
   ·exact h2 j h
   ·have e:j=i:=by omega
    subst e; exact h3
  ·rintro ⟨h1,h2⟩
   exact ⟨⟨h1,fun j hj=>h2 j (by omega)⟩,h2 i (by omega)⟩
 have hc18:=hb18; try simp only [Y6] at hc18
 refine .exit (.seq (.q 3 rfl (.ret (X9 Tryz.results127 rfl ?_))))
 refine ⟨_,rfl,congrArg Value.bool ?_,hS⟩
 have e:(i:Int)=min (a.length:Int) (b.length:Int):=by omega
 rw [Y2y,beq_iff_eq,beq_iff_eq,Xnb]
 constructor
 ·intro h
  obtain ⟨h1,h2⟩:=hq.1 (by omega)
  exact ⟨h1,fun j hj=>h2 j (by omega)⟩
 ·rintro ⟨h1,h2⟩
  have:=hq.2 ⟨h1,fun j hj=>h2 j (by omega)⟩
  omega
def X7w (l:List Us) (name pw:List UInt8):Bool:=match l.find? (fun t=>t.name == name) with
 | some u=>u.pw == pw
 | none=>false
def atU (l:List Us) (name:List UInt8):List Pr:=match l.find? (fun t=>t.name == name) with
 | some u=>u.attrs
 | none=>[]
theorem Xni {I:Im} {mb:Nat} {kv:List (List UInt8×Value)} {l:List Us} (hkv:KvOf I kv l) (hfit:∀ u∈l,u.fits) (name pw:List UInt8):∃ n9 p9 a9 c9,(kv.lookup name).getD (.agg #[S [],S [],.slice none 0 0])=.agg #[S n9,S p9,.slice a9 (atU l name).length c9]∧RS I a9 2 (atU l name).length (X1c X1h (atU l name))∧p9.length≤9223372036854775807∧((p9 == pw) && (kv.lookup name).isSome)=X7w l name pw:=by
 rcases Xee name hkv with ⟨e1,e2⟩ | ⟨u,cs,e1,e2,ua,uc,h1,h2,h3⟩
 ·refine ⟨[],[],none,0,?_,?_,by simp,?_⟩
  ·rw [e2,atU,e1]; rfl
  ·rw [atU,e1]; exact ⟨rfl,fun h=>absurd h (by simp)⟩
  ·rw [e2,X7w,e1]; simp
 ·refine ⟨u.name,u.pw,ua,uc,?_,?_,(hfit u (List.mem_of_find?_eq_some e1)).pw,?_⟩
  ·rw [e2,atU,e1,h1]; rfl
  ·rw [atU,e1]; exact h3
  ·rw [e2,X7w,e1]; simp
theorem Xhc (tb:Nat) (l:List Us) (hfit:∀ u∈l,u.fits) (name pw:List UInt8) (hpw:pw.length≤9223372036854775807) (B w:World) (I:Im) (hT:TabAt I tb l) (As:List X8) (hS:Sat B w I As) :
  Calls Tryz.prog 84 [ptr tb 0,S name,S pw].toArray w (Ret fun v w'=>v=.bool (X7w l name pw)∧Sat B w' I As):=by
 refine calls Tryz.func84 rfl Tryz.ntmps84 rfl (.seq ?_)
 obtain ⟨mb,kv,hTA,hM,hkv⟩:=hT
 obtain ⟨n9,p9,a9,c9,hz9,hR9,hp9,hck⟩:=Xni (mb:=mb) hkv hfit name pw
 refine .q 1 rfl (.seq (.t 2 rfl ?_))
 refine WL.val (.fieldAddr 0 (.of rfl) Xnm rfl rfl Tryz.sizeOf177 rfl) rfl (.val (.ldI (.of rfl) hS hTA Tryz.isAgg177 rfl) rfl (.q 1 rfl ?_))
 refine WL.val (v:=.tuple #[.agg [S n9,S p9,.slice a9 (atU l name).length c9].toArray,.bool (kv.lookup name).isSome]) (by rw [← hz9]; exact .look2 (key:=name) keyS (hM.now hS) (.of rfl) (.of rfl) Xrw Qu9 Xsl) rfl ?_
 refine .q 3 rfl (.allocA (cs:=[_,_,_]) hS Xsl rfl ?_)
 clear hS; intro b7 w hS
 refine .stA hS (k:=0) rfl (.of rfl) (.of rfl) rfl Xb4 rfl (by simp) ?_
 clear hS; intro w hS
 try simp only [Yl,Yf,Yc,Y9,Yj,Yo,Yd] at hS
 refine .q 1 rfl (.nil (.seq (.region ?_)))
 refine WL.val (.fieldAddr 1 (.of rfl) X66 rfl rfl Qs9 rfl) rfl (WL.val (.ld (.of rfl) hS (k:=0) rfl Qg9 rfl) rfl (.q 1 rfl (.call Tryz.func127 rfl (X0 (.of rfl) (X0 (.of rfl) X4)) rfl (Xou p9 pw hp9 hpw B _ I _ hS) ?_)))
 clear hS
 rintro _ w ⟨rfl,hS⟩
 refine .q 1 rfl (.gval rfl rfl (fun hg1=>(.move (.of rfl))) rfl (.val (.pand (.of rfl) (.of rfl) (.of rfl)) rfl (.q 1 rfl (.nil (.ret (X9 Tryz.results84 rfl ?_))))))
 exact ⟨_,rfl,congrArg Value.bool hck,hS.drop (k:=0) rfl⟩
end Go.Proofs.YtadhiihnnkcagaaGreatDoor
namespace Go.Proofs.YtadhiihnnkcagaaGreatDoor
open Gk Pat
def CompT (I:Im) (l:List UInt8) (po:Option Addr) (e a:Int):Prop:=match cmp l with
 | .error (e',a')=>po=none∧e=e'∧a=a'
 | .ok Q=>∃ p,po=some p∧e=0∧a=0∧PatI I p Q l.length
theorem CompT.mono {I J:Im} {l:List UInt8} {po:Option Addr} {e a:Int} (h:CompT I l po e a) (hl:Le I J):CompT J l po e a:=by
 unfold CompT at h ⊢
 cases hq:cmp l with
 | error x=>rw [hq] at h; exact h
 | ok Q=>rw [hq] at h; obtain ⟨p,h1,h2,h3,h4⟩:=h; exact ⟨p,h1,h2,h3,h4.mono hl⟩
theorem Xcq (l:List UInt8) (B w:World) (I:Im) (As:List X8) (hS:Sat B w I As) (hl:l.length≤9223372036854775807) :
  Calls Tryz.prog 169 [S l].toArray w (Ret fun v w'=>∃ po e a J,v=.tuple #[.pointer po,I64 e,I64 a]∧Le I J∧CompT J l po e a∧Sat B w' J As):=by
 refine (Xfk l B w I As hS hl).mono fun x w' ⟨v,hx,h⟩=>⟨v,hx,?_⟩
 rcases h with ⟨e,a,J,h1,h2,h3,h4⟩ | ⟨Q,p,J,h1,h2,h3,h4,h5⟩
 ·exact ⟨none,e,a,J,h2,h3,by rw [CompT,h1]; exact ⟨rfl,rfl,rfl⟩,h4⟩
 ·exact ⟨some p,0,0,J,h2,h3,by rw [CompT,h1]; exact ⟨p,rfl,rfl,rfl,h4⟩,h5⟩
theorem Xj3 {l:List UInt8} {Q:List Pl} (h:cmp l=.ok Q):WF Q∧0<Q.length∧Q.length≤201∧l.length≤200:=by
 obtain ⟨hl,p,h1,h2,h3,rfl⟩:=Xlf h
 obtain ⟨hW,hE⟩:=X8s h1.ok
 have h4:=X7y p
 have h5:=h1.len
 exact ⟨hW,hE.1,by unfold X1d at h4; omega,hl⟩
theorem Xjj {l:List UInt8} {Q:List Pl} (hq:cmp l=.ok Q) (p:Addr) (s:List UInt8) (hs:s.length≤1000000) (B w:World) (I:Im) (As:List X8) (hS:Sat B w I As) (hp:PatI I p Q l.length) :
  Calls Tryz.prog 87 [.pointer (some p),S s].toArray w (Ret fun v w'=>v=.bool (mat Q s)∧Sat B w' I As):=by
 have hf:=Xj3 hq
 refine calls Tryz.func87 rfl Tryz.ntmps87 rfl (.seq (.q 1 rfl (.seq (.t 2 rfl (.call Tryz.func128 rfl (X0 (.of rfl) (X0 (.of rfl) X4)) rfl (Xrt Q p l.length s hf.1 hf.2.1 (by omega) (by omega) hs B w I As hS hp) ?_)))))
 clear hS
 rintro _ w ⟨rfl,hS⟩
 refine .q 5 rfl (.nil (.seq (.q 2 rfl (.ret (X9 Tryz.results87 rfl ?_)))))
 exact ⟨_,rfl,rfl,hS⟩
theorem Xl1 {s:Sv} {Q:List Pl} (hq:cmp s.urls=.ok Q) (a:Option Addr) (c:Nat) (p q:Addr) (n:List UInt8) (hn:n.length≤1000000) (b:Nat) (B w:World) (I:Im) (hp:PatI I p Q s.urls.length) (As:List X8) (hS:Sat B w I (blk b [S n] 9::As)) :
  Calls Tryz.prog 86 [.agg [I64 s.id,F64 s.ord,S s.urls,.bool s.login,.bool s.proxy,.bool s.back,S s.calls,.slice a s.rel.length c,.pointer (some p),.pointer (some q)].toArray,ptr b 0].toArray w (Ret fun v w'=>v=.bool (mat Q n)∧Sat B w' I (blk b [S n] 9::As)):=by
 refine calls Tryz.func86 rfl Tryz.ntmps86 rfl (.seq (.region (.boxA (cs:=[_,_,_,_,_,_,_,_,_,_]) hS (.of rfl) rfl ?_)))
 clear hS; intro b2 w hS
 refine .q 1 rfl (.nil (.seq (.region (.val (.fieldAddr 8 (.of rfl) Xnn rfl rfl Tryz.sizeOf153 rfl) rfl (.val (.ld (.of rfl) hS (k:=0) rfl Tryz.isAgg153 rfl) rfl (.val (.ld (.of rfl) hS (k:=1) rfl Qg9 rfl) rfl (.call Tryz.func87 rfl (X0 (.of rfl) (X0 (.of rfl) X4)) rfl (Xjj hq p n hn B _ I _ hS hp) ?_)))))))
 clear hS
 rintro _ w ⟨rfl,hS⟩
 refine .q 1 rfl (.nil (.ret (X9 Tryz.results86 rfl ?_)))
 exact ⟨_,rfl,rfl,hS.drop (k:=0) rfl⟩
theorem Xls (s t:Sv) (a ta:Option Addr) (c tc:Nat) (p q:Addr) (b:Nat) (B w:World) (I:Im) (As:List X8) (hS:Sat B w I (blk b [I64 t.id,F64 t.ord,S t.urls,.bool t.login,.bool t.proxy,.bool t.back,S t.calls,.slice ta t.rel.length tc] 101::As)) :
  Calls Tryz.prog 168 [.agg [I64 s.id,F64 s.ord,S s.urls,.bool s.login,.bool s.proxy,.bool s.back,S s.calls,.slice a s.rel.length c,.pointer (some p),.pointer (some q)].toArray,ptr b 0].toArray w (Ret fun v w'=>v=.bool (s.id == t.id)∧Sat B w' I (blk b [I64 t.id,F64 t.ord,S t.urls,.bool t.login,.bool t.proxy,.bool t.back,S t.calls,.slice ta t.rel.length tc] 101::As)):=by
 refine calls Tryz.func168 rfl Tryz.ntmps168 rfl (.seq (.region (.boxA (cs:=[_,_,_,_,_,_,_,_,_,_]) hS (.of rfl) rfl ?_)))
 clear hS; intro b2 w hS
 refine .q 1 rfl (.nil (.seq (.region (.val (.fieldAddr 0 (.of rfl) Xnn rfl rfl Xy rfl) rfl (.val (.fieldAddr 0 (.of rfl) X1t rfl rfl Qs3 rfl) rfl (.val (.ld (.of rfl) hS (k:=0) rfl Qg3 rfl) rfl (.val (.fieldAddr 0 (.of rfl) X1t rfl rfl Qs3 rfl) rfl (.val (.ld (.of rfl) hS (k:=1) rfl Qg3 rfl) rfl (.q 2 rfl (.nil (.ret (X9 Tryz.results168 rfl ?_))))))))))))
 exact ⟨_,rfl,rfl,hS.drop (k:=0) rfl⟩
theorem X3d:Bld Tryz.prog 155 [(0,8),(8,1),(9,1)] [.int .i64 0,.float .f64 0,S [],.bool false,.bool false,.bool false,S [],.slice none 0 0,.pointer none,.pointer none]:=X2l Xnn Xii (fun w=>by simp [go_sem])
def Xmp (lo:List Sv) (s:Sv):Nat :=
 if 16≤lo.length then 5 else if (decide (s.id<0) || decide (8<(s.rel.length:Int)))=true then 1 else if lo.any (fun t=>t.id == s.id)=true then 7
 else if (((chk s.urls).1 != 0) || ((chk s.calls).1 != 0))=true then 8 else 0
theorem Xav (pr:Sv→Bool):∀ (l:List Sv) (i:Nat),decide (0≤X2k pr l i)=l.any pr
 | [],_=>rfl
 | s::r,i=>by
  rw [X2k,List.any_cons]
  cases pr s with
  | true=>simp
  | false=>simpa using Xav pr r (i+1)
theorem X55 {I:Im} {l:List UInt8} {po:Option Addr} {e a:Int} (h:CompT I l po e a):(e != 0)=((chk l).1 != 0)∧((chk l).1=0→∃ p Q,po=some p∧cmp l=.ok Q∧PatI I p Q l.length):=by
 have key:∀ e',cmp l=.error e'→(chk l).1=e'.1∧e'.1≠0:=fun e' hc=>by
  unfold cmp at hc
  unfold chk
  split at hc
  ·rename_i hl; rw [if_pos hl]; cases hc; exact ⟨rfl,by decide⟩
  ·rename_i hl
   rw [if_neg hl]
   have:=(X1i l.length l 0 [] [] [] (Yt _) rfl).1 e' hc
   rw [this.1]; exact ⟨rfl,this.2⟩
 have key2:∀ Q,cmp l=.ok Q→(chk l).1=0:=fun Q hc=>by
  unfold cmp at hc
  unfold chk
  split at hc
  ·cases hc
  ·rename_i hl
   rw [if_neg hl,(X1i l.length l 0 [] [] [] (Yt _) rfl).2 Q hc]
 unfold CompT at h
 cases hc:cmp l with
 | ok Q =>
  rw [hc] at h
  obtain ⟨p,rfl,rfl,rfl,hp⟩:=h
  rw [key2 Q hc]
  exact ⟨rfl,fun _=>⟨p,Q,rfl,rfl,hp⟩⟩
 | error x =>
  obtain ⟨e',a'⟩:=x
  rw [hc] at h
  obtain ⟨rfl,rfl,rfl⟩:=h
  obtain ⟨h1,h2⟩:=key _ hc
  rw [h1]
  exact ⟨rfl,fun h3=>absurd h3 h2⟩
theorem Xn8 (s:Sv) (sa:Option Addr) (sc:Nat) (hsc:s.rel.length≤sc) (hrl:s.rel.length≤1000000) (hu:s.urls.length≤9223372036854775807) (hcl:s.calls.length≤9223372036854775807) (a:Option Addr) (cap:Nat) (lo:List Sv) (hlo:lo.length≤100000) (B w:World) (I:Im) (hr:RS I sa 1 s.rel.length (s.rel.map S)) (As:List X8) (hE:∀ w,Sat B w I As→Xfh w I a lo) (hS:Sat B w I As) :
  Calls Tryz.prog 130 [.agg [I64 s.id,F64 s.ord,S s.urls,.bool s.login,.bool s.proxy,.bool s.back,S s.calls,.slice sa s.rel.length sc].toArray,.slice a lo.length cap].toArray w (Ret fun v w'=>∃ J cs code,Le I J∧v=.tuple #[.agg (List.toArray cs),I64 ((code:Nat):Int)]∧code=Xmp lo s∧cs.length=10∧cs.all Value.oneCell'=true∧(code=0→EntAt J s cs)∧Sat B w' J As):=by
 refine calls Tryz.func130 rfl Tryz.ntmps130 rfl (.seq (.region (.boxA (cs:=[_,_,_,_,_,_,_,_]) hS (.of rfl) rfl ?_)))
 clear hS; intro b2 w hS
 refine .allocA (cs:=[_,_,_,_,_,_,_,_,_,_]) hS Xii rfl ?_
 clear hS; intro b4 w hS
 refine .q 1 rfl (.nil (.seq (.block (.seq (.region (.run 4 rfl ⟨⟨_,X85⟩,trivial⟩ (.nil ?_)))))))
 refine WC.cond rfl (fun hb12=>?_) (fun hb12=>?_)
 ·
  refine .seq (.region (.val (.build (cs:=[_,_,_,_,_,_,_,_,_,_]) X6 X3d rfl) rfl (.stA hS (k:=0) rfl (.of rfl) (.of rfl) rfl X3e rfl (by simp) ?_)))
  clear hS; intro w hS
  try simp only [Yl,Yf,Yc,Y9,Yj,Yo,Yd] at hS
  refine .q 1 rfl (.nil (.ret (X1v (b:=_) (cs:=[_,_,_,_,_,_,_,_,_,_]) Xjn hS (k:=0) rfl Xdv X3e rfl rfl rfl ?_)))
  refine ⟨_,rfl,I,_,5,Le.refl _,rfl,?_,rfl,rfl,fun h=>(by cases h),((hS.drop (k:=0) rfl).drop (k:=0) rfl)⟩
  unfold Xmp
  rw [if_pos (by simp only [decide_eq_true_eq] at hb12; omega)]
 refine .seq (.region (.val (.fieldAddr 0 (.of rfl) X1t rfl rfl Qs3 rfl) rfl (.val (.ld (.of rfl) hS (k:=1) rfl Qg3 rfl) rfl (.q 2 rfl (.gval rfl rfl (fun hg1=>(.fieldAddr 7 (.of rfl) X1t rfl rfl Xha rfl)) rfl (.gval rfl rfl (fun hg1=>(.ld (.gd hg1 rfl) hS (k:=1) rfl Xio rfl)) rfl (.gval rfl rfl (fun hg1=>(.lenSlice (.gd hg1 rfl) X1p)) rfl (.gval rfl rfl (fun hg1=>(.gtr (.gd hg1 rfl) (.of rfl))) rfl (.val (.por (.of rfl) (.of rfl) (.of rfl)) rfl (.q 1 rfl (.nil ?_)))))))))))
 refine WC.cond rfl (fun hb17=>?_) (fun hb17=>?_)
 ·
  refine .seq (.region (.val (.build (cs:=[_,_,_,_,_,_,_,_,_,_]) X6 X3d rfl) rfl (.stA hS (k:=0) rfl (.of rfl) (.of rfl) rfl X3e rfl (by simp) ?_)))
  clear hS; intro w hS
  try simp only [Yl,Yf,Yc,Y9,Yj,Yo,Yd] at hS
  refine .q 1 rfl (.nil (.ret (X1v (b:=_) (cs:=[_,_,_,_,_,_,_,_,_,_]) Xjn hS (k:=0) rfl Xdv X3e rfl rfl rfl ?_)))
  refine ⟨_,rfl,I,_,1,Le.refl _,rfl,?_,rfl,rfl,fun h=>(by cases h),((hS.drop (k:=0) rfl).drop (k:=0) rfl)⟩
  unfold Xmp
  rw [if_neg (by simp only [decide_eq_false_iff_not] at hb12; omega),if_pos hb17]
 refine .seq ?_
 replace hS:=hS.pick 1 rfl
 refine .t 1 rfl (.val (.makeFunc (X0 (.of rfl) X4)) rfl ?_)
 refine WL.call Tryz.func167 rfl (X0 (.of rfl) (X0 (.of rfl) X4)) rfl (X86 a cap lo hlo (fun t=>t.id == s.id) 168 _ Tryz.func168 rfl [ptr b2 0] B _ I (blk b2 [I64 s.id,F64 s.ord,S s.urls,.bool s.login,.bool s.proxy,.bool s.back,S s.calls,.slice sa s.rel.length sc] 101::blk b4 [I64 0,F64 0,S [],.bool false,.bool false,.bool false,S [],.slice none 0 0,.pointer none,.pointer none] 155::As) (fun w h=>hE w ((h.drop (k:=0) rfl).drop (k:=0) rfl)) (fun t c ht w h=>by
  obtain ⟨ta,tc,tp,tq,_,_,rfl,_⟩:=ht
  exact Xls t s ta sa tc sc tp tq b2 B w I _ h) hS) ?_
 clear hS
 rintro _ w ⟨rfl,hS⟩
 rw [Xav]
 refine .q 1 rfl (.nil ?_)
 refine WC.cond rfl (fun hb28=>?_) (fun hb28=>?_)
 ·
  refine .seq (.region (.val (.build (cs:=[_,_,_,_,_,_,_,_,_,_]) X6 X3d rfl) rfl (.stA hS (k:=1) rfl (.of rfl) (.of rfl) rfl X3e rfl (by simp) ?_)))
  clear hS; intro w hS
  try simp only [Yl,Yf,Yc,Y9,Yj,Yo,Yd] at hS
  refine .q 1 rfl (.nil (.ret (X1v (b:=_) (cs:=[_,_,_,_,_,_,_,_,_,_]) Xjn hS (k:=1) rfl Xdv X3e rfl rfl rfl ?_)))
  refine ⟨_,rfl,I,_,7,Le.refl _,rfl,?_,rfl,rfl,fun h=>(by cases h),((hS.drop (k:=0) rfl).drop (k:=0) rfl)⟩
  unfold Xmp
  rw [if_neg (by simp only [decide_eq_false_iff_not] at hb12; omega),if_neg (by rw [hb17]; decide),if_pos hb28]
 refine .skip (.seq (.region (.val (.fieldAddr 2 (.of rfl) X1t rfl rfl Qs9 rfl) rfl (.val (.ld (.of rfl) hS (k:=0) rfl Qg9 rfl) rfl (.call Tryz.func169 rfl (X0 (.of rfl) X4) rfl (Xcq s.urls B _ I _ hS hu) ?_)))))
 clear hS
 rintro _ w ⟨po,e1,a1,J1,rfl,hJ1,hc1,hS⟩
 refine .q 7 rfl (.nil (.seq (.region (.val (.fieldAddr 6 (.of rfl) X1t rfl rfl Qs9 rfl) rfl (.val (.ld (.of rfl) hS (k:=0) rfl Qg9 rfl) rfl (.call Tryz.func169 rfl (X0 (.of rfl) X4) rfl (Xcq s.calls B _ J1 _ hS hcl) ?_))))))
 clear hS
 rintro _ w ⟨qo,e2,a2,J2,rfl,hJ2,hc2,hS⟩
 refine .q 7 rfl (.nil (.seq (.seq (.t 3 rfl (.gval rfl rfl (fun hg1=>(.move (.of rfl))) rfl (.gval rfl rfl (fun hg1=>(.neq (.gd hg1 rfl) (.of rfl))) rfl (.val (.por (.of rfl) (.of rfl) (.of rfl)) rfl (.nil ?_))))))))
 refine WC.cond rfl (fun hb52=>?_) (fun hb52=>?_)
 ·
  refine .seq (.region (.val (.build (cs:=[_,_,_,_,_,_,_,_,_,_]) X6 X3d rfl) rfl (.stA hS (k:=1) rfl (.of rfl) (.of rfl) rfl X3e rfl (by simp) ?_)))
  clear hS; intro w hS
  try simp only [Yl,Yf,Yc,Y9,Yj,Yo,Yd] at hS
  refine .q 1 rfl (.nil (.ret (X1v (b:=_) (cs:=[_,_,_,_,_,_,_,_,_,_]) Xjn hS (k:=1) rfl Xdv X3e rfl rfl rfl ?_)))
  refine ⟨_,rfl,J2,_,8,Le.trans hJ1 hJ2,rfl,?_,rfl,rfl,fun h=>(by cases h),((hS.drop (k:=0) rfl).drop (k:=0) rfl)⟩
  have hk:=hb52
  rw [(X55 hc1).1,(X55 hc2).1] at hk
  unfold Xmp
  rw [if_neg (by simp only [decide_eq_false_iff_not] at hb12; omega),if_neg (by rw [hb17]; decide),if_neg (by rw [hb28]; decide),if_pos hk]
 refine .skip (.seq (.region (.val (.fieldAddr 7 (.of rfl) X1t rfl rfl Xha rfl) rfl (.val (.ld (.of rfl) hS (k:=0) rfl Xio rfl) rfl (.call Tryz.func129 rfl (X0 (.of rfl) X4) rfl (Xde sa sc s.rel hrl B _ J2 ((hr.mono hJ1).mono hJ2) _ hS) ?_)))))
 clear hS
 rintro _ w ⟨J3,ra,rc,rfl,hJ3,hrc,hrr,hS⟩
 refine .val (.fieldAddr 7 (.of rfl) X1t rfl rfl Xha rfl) rfl (.st1 hS (k:=0) rfl (.of rfl) (.of rfl) rfl Xha (by simp) ?_)
 clear hS; intro w hS
 refine .nil (.seq (.region (.val (.ldsW (cs:=[_,_,_,_,_,_,_,_]) (.of rfl) hS (k:=0) rfl X5g Xy rfl) rfl (.q 2 rfl (.val (.build (cs:=[_,_,_,_,_,_,_,_,_,_]) (X5 (.of rfl) (X5 (.of rfl) (X5 (.of rfl) X6))) X3d rfl) rfl (.stA hS (k:=1) rfl (.of rfl) (.of rfl) rfl X3e rfl (by simp) ?_))))))
 clear hS; intro w hS
 try simp only [Yl,Yf,Yc,Y9,Yj,Yo,Yd] at hS
 refine .q 1 rfl (.nil (.ret (X1v (b:=_) (cs:=[_,_,_,_,_,_,_,_,_,_]) Xjn hS (k:=1) rfl Xdv X3e rfl rfl rfl ?_)))
 have hk:=hb52
 rw [(X55 hc1).1,(X55 hc2).1] at hk
 obtain ⟨k1,k2⟩:=Y1c.1 hk
 simp only [bne_eq_false_iff_eq] at k1 k2
 obtain ⟨p,Q,rfl,hq,hp⟩:=(X55 hc1).2 k1
 obtain ⟨q,T,rfl,hq2,hp2⟩:=(X55 hc2).2 k2
 refine ⟨_,rfl,J3,X1l s ra rc p q,0,Le.trans hJ1 (Le.trans hJ2 hJ3),rfl,?_,rfl,rfl,fun _=>⟨ra,rc,p,q,Q,T,rfl,hrc,hrr,hq,hp.mono (Le.trans hJ2 hJ3),hq2,hp2.mono hJ3⟩,((hS.drop (k:=0) rfl).drop (k:=0) rfl)⟩
 unfold Xmp
 rw [if_neg (by simp only [decide_eq_false_iff_not] at hb12; omega),if_neg (by rw [hb17]; decide),if_neg (by rw [hb28]; decide),if_neg (by rw [hk]; decide)]
end Go.Proofs.YtadhiihnnkcagaaGreatDoor
