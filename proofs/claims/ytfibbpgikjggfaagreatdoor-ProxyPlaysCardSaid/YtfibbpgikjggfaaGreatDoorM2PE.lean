/- Part 5 of what the proof stands on: W17g, W18o, W18p, W18q, W18r, W21c, W21d, W21e, W21h, W21i, W21j, Tbw, W21k, W21l, GkM, GkN, W21m, W21n, W18s, W18t, W18u. -/
import Derived.Test.YtfibbpgikjggfaaGreatDoorM2PD
import Derived.DataElems
import Derived.Lib.LazyBuf
import Derived.WideMake
set_option linter.unusedVariables false
set_option linter.unusedSimpArgs false
namespace Go.Proofs.YtfibbpgikjggfaaGreatDoor
open Gk Pat
theorem Xqu {l:List UInt8} {k:Nat} {d:Int} {out X:List Int} (h:(match l.drop (k+1) with | []=>out | _::r'=>barsGo r' ((k:Int)+2) d out)=X):barsGo (l.drop (k+2)) ((k:Int)+2) d out=X:=by
 cases hd:l.drop (k+1) with
 | nil =>
  rw [hd] at h;have e:l.drop (k+2)=[]:=by rw [List.drop_eq_nil_iff] at hd ⊢; omega
  rw [e,Xbz]; exact h
 | cons x r =>
  rw [hd] at h;have e:l.drop (k+2)=r:=by rw [show k+2=(k+1)+1 from rfl,← Y1m,hd]; rfl
  rw [e]; exact h
set_option maxHeartbeats 800000 in
theorem Xnx (l:List UInt8) (i:Nat) (hi:i<l.length) (hl:l.length≤1000000) (B w:World) (I:Im) (As:List X7) (hS:Sat B w I As) :
  Cz 162 [S l,I64 (i:Nat)] w fun v w'=>∃ J a c,Le I J∧v=.slice a (barsGo (l.drop i) i 0 []).length c∧RS J a 1 (barsGo (l.drop i) i 0 []).length ((barsGo (l.drop i) i 0 []).map I64)∧Sat B w' J As:=by
 refine calls Tryz.func162 rfl Tryz.ntmps162 rfl (.seq (.q 1 rfl (.seq (.region (.val (.ao rfl) rfl ?_)))));replace hS:=hS.vecNil 3 1;refine .nil (.seq (.q 1 rfl (.seq (.seq (.q 2 rfl (.block (.loop (σ:=Nat×Int×Value×List Int) (fun ⟨k,deep,v,out⟩=>[(0,S l),(5,v),(6,I64 deep),(7,I64 (k:Nat))]) (fun ⟨k,deep,v,out⟩ w=>k≤l.length+1∧-(k:Int)≤deep∧deep≤k∧out.length≤k∧barsGo (l.drop k) k deep out=barsGo (l.drop i) i 0 []∧Sat B w I (Vec 3 1 v out.length (out.map I64)::As)) (fun ⟨k,deep,v,out⟩=>l.length+1 - k) (i,0,.slice none 0 0,[]) ⟨rfl,rfl,rfl,rfl,trivial⟩ ⟨by omega,by omega,by omega,by simp,rfl,hS⟩ ?_)))))));rintro ⟨k,deep,v,out⟩ w ⟨hk,hd1,hd2,hol,hq,hS⟩;refine .seq (.seq (.region (.run 4 rfl ⟨Qu9,trivial⟩ (.nil ?_))));refine .cond rfl (fun hb12=>?_) fun hb12=>?_
 ·have hc12:=hb12; simp only [Y6] at hc12;refine .skip (.seq (.block (.seq (.region (.run 3 rfl ⟨⟨⟨by omega,by omega⟩,Qu9⟩,trivial⟩ (.nil (.block (.seq (.q 2 rfl ?_)))))))));refine .cond rfl (fun hb18=>?_) fun hb18=>?_
  ·have hc18:=hb18; simp only [Y6] at hc18;refine .region (.run 3 rfl ⟨⟨by omega,by omega⟩,trivial⟩ (.nil (.region (.run 3 rfl ⟨⟨by omega,by omega⟩,trivial⟩ (.nil ?_)))));have e9:=hq;rw [X8 l (by omega),Xj,if_pos (by omega)] at e9;have e9:=Xqu e9;refine ⟨(k+2,deep,v,out),⟨rfl,rfl,rfl,rfl,trivial⟩,⟨by omega,by omega,by omega,by (try simp only [Y0,Y1h]); omega,?_,?_⟩,by dsimp only; omega⟩
   ·exact e9
   ·exact hS
  have hc18:=hb18; simp only [Y6] at hc18;refine .seq (.q 2 rfl ?_);refine .cond rfl (fun hb22=>?_) fun hb22=>?_
  ·have hc22:=hb22; simp only [Y6] at hc22;refine .region (.run 3 rfl ⟨⟨by omega,by omega⟩,trivial⟩ (.nil (.region (.run 3 rfl ⟨⟨by omega,by omega⟩,trivial⟩ (.nil ?_)))));have e9:=hq;rw [X8 l (by omega),Xj,if_neg (by omega),if_pos (by omega)] at e9;refine ⟨(k+1,deep+1,v,out),⟨rfl,rfl,rfl,rfl,trivial⟩,⟨by omega,by omega,by omega,by (try simp only [Y0,Y1h]); omega,?_,?_⟩,by dsimp only; omega⟩
   ·exact e9
   ·exact hS
  have hc22:=hb22; simp only [Y6] at hc22;refine .seq (.q 2 rfl ?_);refine .cond rfl (fun hb26=>?_) fun hb26=>?_
  ·have hc26:=hb26; simp only [Y6] at hc26;refine .seq (.q 2 rfl ?_);refine .cond rfl (fun hb29=>?_) fun hb29=>?_
   ·have hc29:=hb29; simp only [Y6] at hc29;refine .t 2 rfl (.buildSlice (cs:=[_]) hS (pc9 rfl X4) Xd Qs3 Qz3 rfl rfl rfl rfl ?_);intro b32 w hS;refine .append (size:=1) (bytes:=8) hS (.of rfl) (.of rfl) (k:=0) rfl Xd X1c rfl rfl rfl rfl rfl rfl rfl ⟨by omega,by unfold maxLen; omega⟩ rfl ?_;intro v33 w hS;obtain ⟨a33,c33,rfl,hcap33,_⟩:=hS.vecSlice (k:=0) (v:=v33) rfl;refine .q 1 rfl (.nil (.region (.run 3 rfl ⟨⟨by omega,by omega⟩,trivial⟩ (.nil ?_))));have e9:=hq;rw [X8 l (by omega),Xj,if_neg (by omega),if_neg (by omega),if_pos (by omega),if_pos (by omega)] at e9;refine ⟨(k+1,deep,.slice a33 (out.length+1) c33,out ++ [(k:Int)]),⟨rfl,rfl,rfl,rfl,trivial⟩,⟨by omega,by omega,by omega,by (try simp only [Y0,Y1h]); omega,?_,?_⟩,by dsimp only; omega⟩
    ·exact e9
    ·rw [Y0,Yv]; exact hS
   have hc29:=hb29; simp only [Y6] at hc29;refine .skip (.region (.run 3 rfl ⟨⟨by omega,by omega⟩,trivial⟩ (.nil ?_)));have e9:=hq;rw [X8 l (by omega),Xj,if_neg (by omega),if_neg (by omega),if_pos (by omega),if_neg (by omega)] at e9;refine ⟨(k+1,deep,v,out),⟨rfl,rfl,rfl,rfl,trivial⟩,⟨by omega,by omega,by omega,by (try simp only [Y0,Y1h]); omega,?_,?_⟩,by dsimp only; omega⟩
   ·exact e9
   ·exact hS
  have hc26:=hb26; simp only [Y6] at hc26;refine .seq (.q 2 rfl ?_);refine .cond rfl (fun hb34=>?_) fun hb34=>?_
  ·have hc34:=hb34; simp only [Y6] at hc34;refine .seq (.region (.run 3 rfl ⟨⟨by omega,by omega⟩,trivial⟩ (.nil (.seq (.q 2 rfl ?_)))));refine .cond rfl (fun hb39=>?_) fun hb39=>?_
   ·have hc39:=hb39; simp only [Y6] at hc39;refine .seq (.t 2 rfl (.buildSlice (cs:=[_]) hS (pc9 rfl X4) Xd Qs3 Qz3 rfl rfl rfl rfl ?_));intro b42 w hS;refine .append (size:=1) (bytes:=8) hS (.of rfl) (.of rfl) (k:=0) rfl Xd X1c rfl rfl rfl rfl rfl rfl rfl ⟨by omega,by unfold maxLen; omega⟩ rfl ?_;intro v43 w hS;obtain ⟨a43,c43,rfl,hcap43,_⟩:=hS.vecSlice (k:=0) (v:=v43) rfl;refine .q 1 rfl (.nil (.ret (X9 Tryz.results162 rfl ?_)));have e9:=hq;rw [X8 l (by omega),Xj,if_neg (by omega),if_neg (by omega),if_neg (by omega),if_pos (by omega),if_pos (by omega)] at e9;rw [← e9];obtain ⟨J,hJ,hrs,hS⟩:=hS.freezeVec (k:=0) rfl;exact ⟨_,rfl,J,_,_,hJ,by rw [Y0]; rfl,by rw [Y0,Yv]; exact hrs,hS⟩
   have hc39:=hb39; simp only [Y6] at hc39;refine .skip (.region (.run 3 rfl ⟨⟨by omega,by omega⟩,trivial⟩ (.nil ?_)));have e9:=hq;rw [X8 l (by omega),Xj,if_neg (by omega),if_neg (by omega),if_neg (by omega),if_pos (by omega),if_neg (by omega)] at e9;refine ⟨(k+1,deep - 1,v,out),⟨rfl,rfl,rfl,rfl,trivial⟩,⟨by omega,by omega,by omega,by (try simp only [Y0,Y1h]); omega,?_,?_⟩,by dsimp only; omega⟩
   ·exact e9
   ·exact hS
  have hc34:=hb34; simp only [Y6] at hc34;refine .skip (.region (.run 3 rfl ⟨⟨by omega,by omega⟩,trivial⟩ (.nil ?_)));have e9:=hq;rw [X8 l (by omega),Xj,if_neg (by omega),if_neg (by omega),if_neg (by omega),if_neg (by omega)] at e9;refine ⟨(k+1,deep,v,out),⟨rfl,rfl,rfl,rfl,trivial⟩,⟨by omega,by omega,by omega,by (try simp only [Y0,Y1h]); omega,?_,?_⟩,by dsimp only; omega⟩
  ·exact e9
  ·exact hS
 have hc12:=hb12; simp only [Y6] at hc12;refine .exit (.seq (.q 2 rfl (.ret (X9 Tryz.results162 rfl ?_))));obtain ⟨va,vc,rfl,_,_⟩:=hS.vecSlice (k:=0) rfl;have e9:=hq;rw [Y17 (by omega),Xbz] at e9;rw [← e9];obtain ⟨J,hJ,hrs,hS⟩:=hS.freezeVec (k:=0) rfl;exact ⟨_,rfl,J,_,_,hJ,rfl,hrs,hS⟩
theorem Xen {s:List UInt8} {fr0 fr:List Bool} {D:Xdg} (hE:EndsAt s fr0 D fr) (p:Addr) (c:Nat) (kind:Int) (own:UInt8) (many:Bool) (k c0:Int) (hu:∀ x,takes kind own x=X1j k c0 x) (hm:many=true ↔ (k=2∨k=3)) (B w:World) (I:Im) (As:List X7) (hS:Sat B w I As) (hp:At I p (fr.map Value.bool)) (hb:s.length≤1000000) :
  Cz 161 [S s,.slice (some p) (s.length+1) c,I64 kind,U8 own.toNat,.bool many] w fun v w'=>∃ J q R,Le I J∧v=.slice (some q) (s.length+1) (s.length+1)∧At J q (R.map Value.bool)∧EndsAt s fr0 (cat D (Xir k c0)) R∧Sat B w' J As:=by
 have h:=Xox s fr p c kind own many B w I As hS hp hE.1 hb;rw [hE.1] at h;refine h.mono fun x w' ⟨v,hx,J,q,h1,h2,h3,h4⟩=>⟨v,hx,J,q,_,h1,h2,h3,hE.cat (Xkn hu hm),h4⟩
theorem Xpl {ps:List Int} {x:Int}:(ps ++ [x]).getD (((ps ++ [x]).length:Int) - 1).toNat 0=x:=by
 have e:(((ps ++ [x]).length:Int) - 1).toNat=ps.length:=by simp
 rw [e,Yc]; simp
set_option maxHeartbeats 1600000 in
theorem Xpu (s:List UInt8) (hs:s.length≤100000):∀ (n:Nat) (l:List UInt8) (p:Pt),l.length<n→Rep l p→p.flat→l.length≤100000→∀ (fr0:List Bool) (pa0:Addr) (c0:Nat) (B w:World) (I:Im) (As:List X7),Sat B w I As→At I pa0 (fr0.map Value.bool)→fr0.length=s.length+1 →
  Cz 119 [S l,S s,.slice (some pa0) (s.length+1) c0] w fun v w'=>∃ J q c R,Le I J∧v=.slice (some q) (s.length+1) c∧At J q (R.map Value.bool)∧EndsAt s fr0 (sem p).1 R∧Sat B w' J As:=by
 intro n
 induction n with
 | zero =>
  intro l p hn;omega
 | succ n ih =>
  intro l p hn hR0 hf0 hl fr0 pa0 c0 B w I As hS hA0 hfr0;refine calls Tryz.func119 rfl Tryz.ntmps119 rfl (.seq (.q 1 rfl (.seq (.seq (.q 1 rfl (.block (.loop (σ:=Nat×Pt×Xdg×List Bool×Addr×Nat×Im) (fun ⟨k,r,D,fr,pa,c1,J⟩=>[(0,S l),(1,S s),(2,.slice (some pa) (s.length+1) c1),(7,I64 (k:Nat))]) (fun ⟨k,r,D,fr,pa,c1,J⟩ w=>k≤l.length∧Rep (l.drop k) r∧r.flat∧(∀ u,(sem p).1 u ↔ cat D (sem r).1 u)∧EndsAt s fr0 D fr∧At J pa (fr.map Value.bool)∧Le I J∧Sat B w J As) (fun ⟨k,r,D,fr,pa,c1,J⟩=>l.length - k) (0,p,(fun u=>u=[]),fr0,pa0,c0,I) ⟨rfl,rfl,rfl,rfl,trivial⟩ ⟨Yo _,hR0,hf0,fun u=>(Xde _ u).symm,EndsAt.nil hfr0,hA0,Le.refl I,hS⟩ ?_)))))));rintro ⟨k,r,D,fr,pa,c1,J⟩ w ⟨hk,hR,hfl,hsem,hE,hA,hJ,hS⟩;refine .seq (.seq (.region (.run 4 rfl ⟨Qu9,trivial⟩ (.nil ?_))));refine .cond rfl (fun hb17=>?_) fun hb17=>?_
  ·have hc17:=hb17; simp only [Y6] at hc17;refine .skip (.seq (.block (.seq (.region (.run 3 rfl ⟨⟨⟨by omega,by omega⟩,Qu9⟩,trivial⟩ (.nil (.block (.seq (.q 2 rfl ?_)))))))));refine .cond rfl (fun hb29=>?_) fun hb29=>?_
   ·have hc29:=hb29; simp only [Y6] at hc29;refine .t 2 rfl ?_;obtain ⟨r',hr,hr2⟩:=Xtl hR (by omega) (by omega);subst hr;refine .call Xk6 rfl (ec9 rfl (ec9 rfl (ec9 rfl (ec9 rfl (ec9 rfl X0))))) rfl (Xen hE pa c1 1 0 false 1 0 (fun x=>by simp [takes,X1j] <;> exact BEq.comm) (by decide) B w J As hS hA (by omega)) ?_;rintro _ w ⟨J2,q,R2,hJ2,rfl,hA2,hE2,hS⟩;refine .q 1 rfl (.nil (.region (.run 3 rfl ⟨⟨by omega,by omega⟩,trivial⟩ (.nil ?_))));refine ⟨(k+1,r',_,R2,q,s.length+1,J2),⟨rfl,rfl,rfl,rfl,trivial⟩,⟨by omega,hr2,hfl,fun u=>(hsem u).trans (X1u _ _ _ u).symm,hE2,hA2,hJ.trans hJ2,hS⟩,by dsimp only; omega⟩
   have hc29:=hb29; simp only [Y6] at hc29;refine .seq (.q 2 rfl ?_);refine .cond rfl (fun hb34=>?_) fun hb34=>?_
   ·have hc34:=hb34; simp only [Y6] at hc34;refine .seq (.region (.run 6 rfl ⟨⟨by omega,by omega⟩,Qu9,trivial⟩ (.gm rfl rfl rfl rfl (.gm rfl rfl rfl rfl (.gval rfl rfl (fun hg1=>(.add (.gd hg1 rfl) (.of rfl) ⟨by omega,by omega⟩)) rfl ?_)))));refine .gval rfl rfl (fun hg1=>(.index (.gd hg1 rfl) (.gd hg1 rfl) (by (try simp only [Y6] at hg1); omega) (by (try simp only [Y6] at hg1); omega) Qu9)) rfl ?_;refine .gval rfl rfl (fun hg1=>(.eql (.gd hg1 rfl) (.of rfl))) rfl (.val (.pa rfl rfl rfl) rfl (.nil ?_));refine .cond rfl (fun hb47=>?_) fun hb47=>?_
    ·have hc47:=hb47; simp only [Y6] at hc47;refine .seq (.region (.run 3 rfl ⟨⟨by omega,by omega⟩,trivial⟩ (.nil (.t 2 rfl ?_))));obtain ⟨r',hr,hr2⟩:=Xtz hR (by omega) (by omega) (by omega);subst hr;refine .call Xk6 rfl (ec9 rfl (ec9 rfl (ec9 rfl (ec9 rfl (ec9 rfl X0))))) rfl (Xen hE pa c1 2 0 true 2 0 (fun x=>by simp [takes,X1j] <;> exact BEq.comm) (by decide) B w J As hS hA (by omega)) ?_;rintro _ w ⟨J2,q,R2,hJ2,rfl,hA2,hE2,hS⟩;refine .q 1 rfl (.nil (.region (.run 3 rfl ⟨⟨by omega,by omega⟩,trivial⟩ (.nil ?_))));refine ⟨(k+2,r',_,R2,q,s.length+1,J2),⟨rfl,rfl,rfl,rfl,trivial⟩,⟨by omega,hr2,hfl,fun u=>(hsem u).trans (X1u _ _ _ u).symm,hE2,hA2,hJ.trans hJ2,hS⟩,by dsimp only; omega⟩
    have hc47:=hb47; simp only [Y6] at hc47;refine .t 2 rfl ?_;obtain ⟨r',hr,hr2⟩:=Xsd hR (by omega) (by omega) (by omega);subst hr;refine .call Xk6 rfl (ec9 rfl (ec9 rfl (ec9 rfl (ec9 rfl (ec9 rfl X0))))) rfl (Xen hE pa c1 1 0 true 3 0 (fun x=>by simp [takes,X1j] <;> exact BEq.comm) (by decide) B w J As hS hA (by omega)) ?_;rintro _ w ⟨J2,q,R2,hJ2,rfl,hA2,hE2,hS⟩;refine .q 1 rfl (.nil (.region (.run 3 rfl ⟨⟨by omega,by omega⟩,trivial⟩ (.nil ?_))));refine ⟨(k+1,r',_,R2,q,s.length+1,J2),⟨rfl,rfl,rfl,rfl,trivial⟩,⟨by omega,hr2,hfl,fun u=>(hsem u).trans (X1u _ _ _ u).symm,hE2,hA2,hJ.trans hJ2,hS⟩,by dsimp only; omega⟩
   have hc34:=hb34; simp only [Y6] at hc34;refine .seq (.q 2 rfl ?_);refine .cond rfl (fun hb56=>?_) fun hb56=>?_
   ·have hc56:=hb56; simp only [Y6] at hc56;refine .seq ?_;have hesc:=(Xkz hR (by omega) (by omega)).1;refine .region (.run 3 rfl ⟨⟨by omega,by omega⟩,trivial⟩ (.nil (.region (.run 5 rfl ⟨⟨⟨by omega,by omega⟩,Qu9⟩,trivial⟩ ?_))));obtain ⟨_,r',hr,hr2⟩:=Xkz hR (by omega) (by omega);subst hr;refine .call Xk6 rfl (ec9 rfl (ec9 rfl (ec9 rfl (ec9 rfl (ec9 rfl X0))))) rfl (Xen hE pa c1 0 (at_ l ((k:Int)+1)) false 0 ((at_ l ((k:Int)+1)).toNat:Int) (fun x=>by simp [takes,X1j] <;> exact BEq.comm) (by decide) B w J As hS hA (by omega)) ?_;rintro _ w ⟨J2,q,R2,hJ2,rfl,hA2,hE2,hS⟩;refine .q 1 rfl (.nil (.region (.run 3 rfl ⟨⟨by omega,by omega⟩,trivial⟩ (.nil ?_))));refine ⟨(k+2,r',_,R2,q,s.length+1,J2),⟨rfl,rfl,rfl,rfl,trivial⟩,⟨by omega,hr2,hfl,fun u=>(hsem u).trans (X1u _ _ _ u).symm,hE2,hA2,hJ.trans hJ2,hS⟩,by dsimp only; omega⟩
   have hc56:=hb56; simp only [Y6] at hc56;refine .seq (.q 2 rfl ?_);refine .cond rfl (fun hb66=>?_) fun hb66=>?_
   ·have hc66:=hb66; simp only [Y6] at hc66;refine .seq (.t 2 rfl ?_);obtain ⟨t1,t2,b,r',hd0,hr,hr1,hr2,hd1,hk2,hk3⟩:=Xtt hR (by omega) (by omega);subst hr;obtain ⟨ps,halts,hbars⟩:=Xpd hr1 t2 (k:Int);rw [← hd0] at hbars;refine .call Tryz.func162 rfl (ec9 rfl (ec9 rfl X0)) rfl (Xnx l k (by omega) (by omega) B w J As hS) ?_;rintro _ w ⟨J2,la,lc,hJ2,rfl,hla,hS⟩;generalize hallE0:barsGo (l.drop k) k 0 []=all at hla hbars ⊢;have hallE:=hbars;obtain ⟨lp,rfl,hlA⟩:=hla.2 (by rw [hbars]; simp);have hps:=Xqp halts;have hal:all.length=ps.length+1:=by rw [hallE]; simp
    have hlast:all.getD ((all.length:Int) - 1).toNat 0=(k:Int)+1+t1.length:=by rw [hallE]; exact Xpl
    have ht1:t1.length≤l.length:=by omega
    refine .q 1 rfl (.nil (.seq (.region (.run 3 rfl ⟨Qu9,⟨by omega,by omega⟩,trivial⟩ ?_))));refine .make (l:=s.length+1) hS (.of rfl) (.of rfl) X30 X3q rfl (by simp [Tryz.t4] <;> omega) (by omega) rfl rfl rfl ?_;intro b74 w hS;refine .q 1 rfl (.nil (.seq (.region (.run 3 rfl ⟨⟨by omega,by omega⟩,trivial⟩ (.nil (.seq (.seq (.q 1 rfl (.block ?_)))))))));refine .loop (σ:=Nat×Nat×Xdg×List Bool×Im) (fun ⟨m,at0,Dg,S1,J4⟩=>[(0,S l),(1,S s),(2,.slice (some pa) (s.length+1) c1),(8,.slice (some lp) all.length lc),(9,.slice (some (ad b74 0)) (s.length+1) (s.length+1)),(10,I64 (at0:Nat)),(11,I64 (m:Nat))]) (fun ⟨m,at0,Dg,S1,J4⟩ w=>m≤all.length∧EndsAt s fr Dg S1∧Xls l t2 b all ((k:Int)+1+t1.length) m at0 Dg∧Le J2 J4∧Sat B w J4 (blk b74 ((S1).map Value.bool ++ []) 4::As)) (fun ⟨m,at0,Dg,S1,J4⟩=>all.length - m) (0,k+1,(fun _=>False),List.replicate (s.length+1) false,J2) ⟨rfl,rfl,rfl,rfl,rfl,rfl,rfl,trivial⟩ ⟨Yo _,EndsAt.none s fr,⟨fun _=>⟨t1,b,ps,by rw [hallE]; rfl,by simpa using halts,hd1,by simp,fun u=>by simp⟩,fun h=>by rw [hallE] at h; simp at h⟩,Le.refl _,by rw [Y2y,Y9]; exact hS⟩ ?_;rintro ⟨m,at0,Dg,S1,J4⟩ w ⟨hm,hES,hAlt,hJ4,hS⟩;refine .seq (.seq (.region (.run 4 rfl ⟨⟨_,Xd⟩,trivial⟩ (.nil ?_))));refine .cond rfl (fun hb80=>?_) fun hb80=>?_
    ·have hc80:=hb80; simp only [Y6] at hc80;refine .skip (.seq (.block (.seq ?_)));have hA4:=hA.mono (hJ2.trans hJ4);obtain ⟨q,b1,hq1,hq2,hq3,hq4,hb1,hb1f,hAlt2⟩:=Xow hAlt (by omega);have hlA4:=hlA.mono hJ4;have hqd:all.getD ((m:Int)).toNat 0=(q:Int):=by rw [Ym,Yc,hq1]; rfl
     refine .t 4 rfl (.val (.ii rfl rfl (by omega) (by omega) Xd Qs3) rfl (.val (.ldEI I64 all 0 (.of rfl) hS hlA4 rfl Qg3 (by omega) (by omega)) rfl ?_));rw [hqd];refine .val (.sub3 (.of rfl) (.of rfl) (.of rfl) (by omega) (by omega) (by omega) Qu9) rfl ?_;rw [Ym,Ym];refine .q 2 rfl (.call Tryz.func119 rfl (ec9 rfl (ec9 rfl (ec9 rfl X0))) rfl (ih ((l.drop at0).take (q - at0)) b1 (by simp; omega) hb1 hb1f (by simp; omega) fr pa c1 B w J4 _ hS hA4 hE.1) ?_);rintro _ w ⟨J6,qa,qc,R6,hJ6,rfl,hA6,hE6,hS⟩;refine .q 1 rfl (.nil (.seq (.seq (.q 1 rfl (.block (.loop (σ:=Nat) (fun j=>[(0,S l),(1,S s),(2,.slice (some pa) (s.length+1) c1),(8,.slice (some lp) all.length lc),(9,.slice (some (ad b74 0)) (s.length+1) (s.length+1)),(11,I64 (m:Nat)),(12,.slice (some qa) (s.length+1) qc),(13,I64 (j:Nat))]) (fun j w=>j≤s.length+1∧Sat B w J6 (blk b74 ((iter (Xr4 R6) S1 j).map Value.bool ++ []) 4::As)) (fun j=>s.length+1 - j) 0 ⟨rfl,rfl,rfl,rfl,rfl,rfl,rfl,rfl,trivial⟩ ⟨Yo _,hS⟩ ?_))))));rintro j w ⟨hj,hS⟩;have ho:=(X9h R6 S1 j).1;have hS1l:=hES.1;have hR6l:=hE6.1;obtain ⟨oj,hoj⟩:∃ oj,oj=iter (Xr4 R6) S1 j:=⟨_,rfl⟩
     rw [← hoj] at hS ho;refine .seq (.seq (.region (.run 4 rfl ⟨Qu9,trivial⟩ (.nil ?_))));refine .cond rfl (fun hb96=>?_) fun hb96=>?_
     ·have hc96:=hb96; simp only [Y6] at hc96;refine .skip (.seq (.block (.t 4 rfl (.val (.io rfl rfl (by omega) (by omega) X30 Qs4) rfl (.val (.ldE .bool oj false [] (.of rfl) hS (k:=0) rfl rfl Qg4 (by omega) (by omega)) rfl (.q 1 rfl (.gm rfl rfl rfl rfl (.gm rfl rfl rfl rfl ?_))))))));refine .gval rfl rfl (fun hg1=>(.indexAddrI (.gd hg1 rfl) (.gd hg1 rfl) (by (try simp only [Y6] at hg1); omega) (by (try simp only [Y6] at hg1); omega) X30 Qs4)) rfl ?_;refine .gval rfl rfl (fun hg1=>.ldEI .bool R6 false (.gd hg1 rfl) hS hA6 rfl Qg4 (by omega) (by omega)) rfl (.val (.po rfl rfl rfl) rfl (.val (.io rfl rfl (by omega) (by omega) X30 Qs4) rfl (.stE .bool oj [] (u:=oj.getD ((j:Int)).toNat false || R6.getD ((j:Int)).toNat false) hS (k:=0) rfl (.of rfl) (.of rfl) rfl rfl Qs4 (by omega) (by omega) ?_)));intro w hS; dsimp only [List.set] at hS;refine .nil (.region (.run 3 rfl ⟨⟨by omega,by omega⟩,trivial⟩ (.nil ?_)));refine ⟨j+1,⟨rfl,rfl,rfl,rfl,rfl,rfl,rfl,rfl,trivial⟩,⟨by omega,?_⟩,by omega⟩;rw [iter,← hoj]; unfold Xr4; simp only [Ym] at hS; exact hS
     have hc96:=hb96; simp only [Y6] at hc96;refine .exit ?_;have hlA6:=hlA4.mono hJ6;refine .t 2 rfl (.val (.ii rfl rfl (by omega) (by omega) Xd Qs3) rfl (.val (.ldEI I64 all 0 (.of rfl) hS hlA6 rfl Qg3 (by omega) (by omega)) rfl ?_));rw [hqd];refine .run 2 rfl ⟨⟨by omega,by omega⟩,trivial⟩ (.nil (.region (.run 3 rfl ⟨⟨by omega,by omega⟩,trivial⟩ (.nil ?_))));obtain rfl:j=s.length+1:=by omega
     refine ⟨(m+1,q+1,_,iter (Xr4 R6) S1 (s.length+1),J6),⟨rfl,rfl,rfl,rfl,rfl,rfl,rfl,trivial⟩,⟨by omega,hES.or hE6,hAlt2,hJ4.trans hJ6,by rw [hoj] at hS; exact hS⟩,by dsimp only; omega⟩
    have hc80:=hb80; simp only [Y6] at hc80;refine .exit (.seq (.q 2 rfl ?_));have hlA7:=hlA.mono hJ4;have hm9:m=all.length:=by omega
    refine .region (.run 4 rfl ⟨⟨_,Xd⟩,⟨by omega,by omega⟩,trivial⟩ (.val (.ii rfl rfl (by omega) (by omega) Xd Qs3) rfl (.val (.ldEI I64 all 0 (.of rfl) hS hlA7 rfl Qg3 (by omega) (by omega)) rfl ?_)));rw [hlast];refine .q 1 rfl (.nil (.region (.run 3 rfl ⟨⟨by omega,by omega⟩,trivial⟩ (.nil ?_))));obtain rfl:m=all.length:=by omega
    obtain ⟨J5,hJ5,hb5,hS⟩:=hS.freeze (k:=0) rfl;refine ⟨(k+1+t1.length+1,r',_,S1,ad b74 0,s.length+1,J5),⟨rfl,rfl,rfl,rfl,trivial⟩,⟨by omega,by rw [hk2]; exact hr2,hfl,fun u=>(hsem u).trans (X1u _ _ _ u).symm,hE.cat (hES.congr fun u=>(hAlt.2 rfl u).symm),⟨rfl,_,_,_,hb5,fun j v hj=>by simpa using hj⟩,((hJ.trans hJ2).trans hJ4).trans hJ5,hS⟩,by dsimp only; omega⟩
   have hc66:=hb66; simp only [Y6] at hc66;refine .region (.run 5 rfl ⟨⟨⟨by omega,by omega⟩,Qu9⟩,trivial⟩ ?_);obtain ⟨r',hr,hr2⟩:=Xol hR hfl (by omega) (by omega) (by omega) (by omega) (by omega);subst hr;refine .call Xk6 rfl (ec9 rfl (ec9 rfl (ec9 rfl (ec9 rfl (ec9 rfl X0))))) rfl (Xen hE pa c1 0 (at_ l (k:Int)) false 0 ((at_ l (k:Int)).toNat:Int) (fun x=>by simp [takes,X1j] <;> exact BEq.comm) (by decide) B w J As hS hA (by omega)) ?_;rintro _ w ⟨J2,q,R2,hJ2,rfl,hA2,hE2,hS⟩;refine .q 1 rfl (.nil (.region (.run 3 rfl ⟨⟨by omega,by omega⟩,trivial⟩ (.nil ?_))));refine ⟨(k+1,r',_,R2,q,s.length+1,J2),⟨rfl,rfl,rfl,rfl,trivial⟩,⟨by omega,hr2,hfl,fun u=>(hsem u).trans (X1u _ _ _ u).symm,hE2,hA2,hJ.trans hJ2,hS⟩,by dsimp only; omega⟩
  have hc17:=hb17; simp only [Y6] at hc17;refine .exit (.seq (.q 2 rfl (.ret (X9 Tryz.results119 rfl ?_))));refine ⟨_,rfl,J,pa,c1,fr,hJ,rfl,hA,hE.congr fun u=>?_,hS⟩;rw [Y17 (by omega)] at hR;obtain rfl:=Xrr hR;exact ((hsem u).trans (Xlu _ u)).symm
theorem Xel {l:List UInt8} {p:Pt} (hr:Rep l p) (hf:p.flat) (s:List UInt8) (hl:l.length≤1000) (hs:s.length≤1000) (B w:World) (I:Im) (As:List X7) (hS:Sat B w I As) :
  Cz 57 [S l,S s] w fun v w'=>∃ b,v=.bool b∧(b=true ↔ (sem p).1 s)∧∃ J,Le I J∧Sat B w' J As:=by
 refine calls Tryz.func57 rfl Tryz.ntmps57 rfl (.seq (.q 1 rfl (.seq (.region (.run 3 rfl ⟨Qu9,⟨by omega,by omega⟩,trivial⟩ ?_)))));refine .make (l:=s.length+1) hS (.of rfl) (.of rfl) X30 X3q rfl (by simp [Tryz.t4] <;> omega) (by omega) rfl rfl rfl ?_;intro b9 w hS;refine .q 1 rfl (.nil (.seq (.t 1 rfl (.val (.io rfl rfl (by omega) (by omega) X30 Qs4) rfl ?_))));replace hS:Sat B w I (blk b9 ((List.replicate (s.length+1) false).map Value.bool ++ []) 4::As):=by rw [Y2y,Y9]; exact hS
 refine .stE .bool (List.replicate (s.length+1) false) [] (u:=true) hS (k:=0) rfl (.of rfl) (.of rfl) rfl rfl Qs4 (by omega) (by simp) ?_;intro w hS; dsimp only [List.set] at hS;obtain ⟨J,hJ,hb,hS⟩:=hS.freeze (k:=0) rfl;have hA:At J (ad b9 0) (((List.replicate (s.length+1) false).set 0 true).map Value.bool):=⟨rfl,_,_,_,hb,fun j v hj=>by simpa using hj⟩
 refine .nil (.seq (.t 3 rfl (.call Tryz.func119 rfl (ec9 rfl (ec9 rfl (ec9 rfl X0))) rfl (Xpu s (by omega) (l.length+1) l p (by omega) hr hf (by omega) _ (ad b9 0) _ B w J As hS hA (by simp)) ?_)));rintro _ w ⟨J2,q,qc,R2,hJ2,rfl,hA2,hE2,hS⟩;refine .run 2 rfl ⟨Qu9,trivial⟩ (.val (.ii rfl rfl (by omega) (by omega) X30 Qs4) rfl ?_);have hR2:=hE2.1;refine .val (.ldEI .bool R2 false (.of rfl) hS hA2 rfl Qg4 (by omega) (by omega)) rfl (.q 1 rfl (.nil (.ret (X9 Tryz.results57 rfl ?_))));refine ⟨_,rfl,_,rfl,?_,J2,hJ.trans hJ2,hS⟩;rw [Ym,hE2.2 s.length (Yu _)];constructor
 ·rintro ⟨i,h1,h2,h3⟩;rcases Pat.getD_set_true _ _ _ h2 with h4 | h4
  ·rw [X5a] at h4; cases h4
  ·subst h4; simpa [seg] using h3
 ·intro h; exact ⟨0,Yo _,X7h (by simp),by simpa [seg] using h⟩
theorem X3f:Bld Tryz.prog 59 [(0,1),(1,1),(2,1),(3,1),(4,1),(5,1),(6,1),(7,1)] [.int .i64 0,.float .f64 0,S [],.bool false,.bool false,.bool false,S [],.slice none 0 0]:=X2n X5r Xj3 (fun w=>by simp [go_sem])
theorem Xbt {l:List UInt8} (h:(chk l).1=0):∃ Q,cmp l=.ok Q:=by
 unfold chk at h;split at h
 ·cases h
 ·rename_i hl
  cases hc:cmp l with
  | ok Q=>exact ⟨Q,rfl⟩
  | error e =>
   unfold cmp at hc;rw [if_neg hl] at hc
   have:=(X1g l.length l 0 [] [] [] (Yu _) rfl).1 e hc
   rw [this.1] at h;exact absurd h this.2
theorem Xbo (l s:List UInt8) (hQ:∃ Q,cmp l=.ok Q) (hs:s.length≤1000) (B w:World) (I:Im) (As:List X7) (hS:Sat B w I As) :
  Cz 57 [S l,S s] w fun v w'=>∃ J,v=.bool (X8q l s).1∧Le I J∧Sat B w' J As:=by
 obtain ⟨Q,hQ⟩:=hQ;have hm:(X8q l s).2=true:=by unfold X8q; rw [hQ]
 obtain ⟨p,hr,hf,_,hl,ht⟩:=mt_ok hm;refine (Xel hr hf s (by omega) hs B w I As hS).mono fun e w' he=>?_
 obtain ⟨v,rfl,b,rfl,hb,J,hJ,hS'⟩:=he;refine ⟨_,rfl,J,?_,hJ,hS'⟩
 congr 1
 exact Y35.2 (hb.trans (ht s).2.symm)
def z0:Sv:=⟨0,0,[],false,false,false,[],[]⟩
def Xg6 (l:List Sv) (D:List Int) (s:List UInt8):Sv×List UInt8×Nat :=
 if (Ul.nU s).2≠0 then (z0,[],(Ul.nU s).2) else if 100<(Ul.nU s).1.length then (z0,[],2)
 else match D.find? (fun d=>(X8q (l.getD d.toNat z0).urls (Ul.nU s).1).1) with
  | none=>(z0,[],31)
  | some d=>(l.getD d.toNat z0,(Ul.nU s).1,0)
def right (l:List Sv):Prop:=∀ s∈l,(∃ Q,cmp s.urls=.ok Q)∧∃ Q,cmp s.calls=.ok Q
theorem Xkq {α:Type} {p:α→Bool}:∀ {D:List α} {j:Nat} {d:α},(∀ (q:Nat) e,q<j→D[q]?=some e→p e=false)→D[j]?=some d→p d=true→D.find? p=some d
 | [],_,_,_,h,_=>by simp at h
 | a::D,0,d,_,h,hp=>by simp at h; subst h; rw [Y3v,hp]
 | a::D,j+1,d,hn,h,hp=>by
  have h0:=hn 0 a (by omega) rfl;rw [Y3v,h0];exact Xkq (j:=j) (fun q e hq he=>hn (q+1) e (by omega) (by simpa using he)) (by simpa using h) hp
theorem Xtw {α:Type} {p:α→Bool} {D:List α} (h:∀ (q:Nat) e,D[q]?=some e→p e=false):D.find? p=none:=by
 rw [Y4r];intro x hx;obtain ⟨q,hq⟩:=Yx.1 hx;rw [h q x hq]; decide
theorem pick8 {I:Im} {a:Option Addr} {L:List (List Value)} {l:List Sv} (h:SvsIn I a L l) {D:List Int} (hD:∀ d∈D,0≤d∧d<l.length):∀ c∈X4j L D,c.length=8:=fun c hc=>by
 obtain ⟨d,hd,rfl⟩:=Y28.1 hc;obtain ⟨h0,h1⟩:=hD d hd;obtain ⟨p,c,_,h2,_,ra,rc,rfl,_⟩:=h.2 d.toNat _ (Y4 (by omega));rw [Yc,h2];rfl
theorem Xgo (a:Option Addr) (cap:Nat) (L:List (List Value)) (l:List Sv) (hln:l.length≤100000) (hsm:∀ v∈ords l,v<18446744073709551616) (hright:right l) (s:List UInt8) (hs:s.length≤1000000) (B w:World) (I:Im) (hl:SvsIn I a L l) (As:List X7) (hS:Sat B w I As) :
  Cz 16 [.slice a l.length cap,S s] w fun v w'=>∃ J u c n e,Le I J∧v=.tuple #[.agg (List.toArray c),S n,I64 ((e:Nat):Int)]∧SvAt J u c∧(∀ D,Srt.Ord (kx (ords l)) l.length D→Xg6 l D s=(u,n,e))∧Sat B w' J As:=by
 refine calls Qf16 rfl Tryz.ntmps16 rfl (.seq (.region (.allocA (cs:=[_,_,_,_,_,_,_,_]) hS Xj3 rfl ?_)));clear hS; intro b4 w hS;refine .q 2 rfl (.nil (.seq (.t 1 rfl (.call Tryz.func55 rfl (ec9 rfl X0) rfl (X6a s hs B _ I _ hS) ?_))));clear hS;rintro _ w ⟨rfl,hS⟩;refine .q 5 rfl (.nil (.seq (.seq (.q 2 rfl ?_))));refine .cond rfl (fun hb18=>?_) fun hb18=>?_
 ·have hc18:=hb18; simp only [Y6] at hc18;refine .seq (.region (.val (.build (cs:=[_,_,_,_,_,_,_,_]) X4 X3f rfl) rfl (.q 1 rfl (.so hS (k:=0) rfl rfl rfl rfl X2b rfl (by simp) ?_))));clear hS; intro w hS;try simp only [Yh,Ye,Y9,Y7,Yg,Yn,Yd] at hS
  refine .q 2 rfl (.nil (.ret (Xes (b:=_) (cs:=[_,_,_,_,_,_,_,_]) Qr16 hS (k:=0) rfl Xfm X2b rfl rfl rfl rfl ?_)));exact ⟨_,rfl,I,z0,_,_,_,Le.refl _,rfl,⟨none,0,rfl,Yu _,RS.nil _ _⟩,fun D2 hD2=>by rw [Xg6,if_pos (by omega)]; try rfl,(hS.drop (k:=0) rfl)⟩
 have hc18:=hb18; simp only [Y6] at hc18;refine .skip (.seq (.seq (.region (.run 3 rfl ⟨Qu9,trivial⟩ (.nil ?_)))));refine .cond rfl (fun hb23=>?_) fun hb23=>?_
 ·have hc23:=hb23; simp only [Y6] at hc23;refine .seq (.region (.val (.build (cs:=[_,_,_,_,_,_,_,_]) X4 X3f rfl) rfl (.so hS (k:=0) rfl rfl rfl rfl X2b rfl (by simp) ?_)));clear hS; intro w hS;try simp only [Yh,Ye,Y9,Y7,Yg,Yn,Yd] at hS
  refine .q 2 rfl (.nil (.ret (Xes (b:=_) (cs:=[_,_,_,_,_,_,_,_]) Qr16 hS (k:=0) rfl Xfm X2b rfl rfl rfl rfl ?_)));exact ⟨_,rfl,I,z0,_,_,_,Le.refl _,rfl,⟨none,0,rfl,Yu _,RS.nil _ _⟩,fun D2 hD2=>by rw [Xg6,if_neg (by omega),if_pos (by omega)]; try rfl,(hS.drop (k:=0) rfl)⟩
 have hc23:=hb23; simp only [Y6] at hc23;refine .skip (.seq (.t 1 rfl (.call Tryz.func56 rfl (ec9 rfl X0) rfl (Xrq a cap L l hln hsm B _ I hl _ hS) ?_)));clear hS;rintro _ w ⟨J,D,hJ,hD,hS⟩;refine .q 1 rfl (.nil (.seq (.seq ?_)));obtain ⟨va,vc,rfl,hvc,_⟩:=hS.vecSlice (k:=0) rfl;obtain ⟨J2,hJ2,hAR,hS2⟩:=hS.freezeVec (k:=0) rfl;clear hS;have hS:=hS2;clear hS2;try dsimp only [List.eraseIdx] at hS
 replace hJ:=Le.trans hJ hJ2;have hDl:=hD.len;have hDm:∀ d∈D,0≤d∧d<l.length:=fun d hd=>Srt.upto_mem.1 (hD.2.mem_iff.1 hd)
 have h8:=pick8 hl hDm;refine .q 1 rfl (.block (.loop (σ:=Nat×Im) (fun ⟨j,J3⟩=>[(4,ptr b4 0),(7,S (Ul.nU s).1),(9,.slice va l.length vc),(10,I64 (j:Nat))]) (fun ⟨j,J3⟩ w=>j≤l.length∧(∀ (q:Nat) e,q<j→D[q]?=some e→(X8q (l.getD e.toNat z0).urls (Ul.nU s).1).1=false)∧Le J2 J3∧Sat B w J3 (blk b4 [I64 0,F64 0,S [],.bool false,.bool false,.bool false,S [],.slice none 0 0] 59::As)) (fun ⟨j,J3⟩=>l.length - j) (0,J2) ⟨rfl,rfl,rfl,rfl,trivial⟩ ⟨Yo _,fun _ _ h=>absurd h (by omega),Le.refl _,hS⟩ ?_));rintro ⟨j,J3⟩ w ⟨hj,hno,hJ3,hS⟩;refine .seq (.seq (.region (.run 4 rfl ⟨⟨_,X7d⟩,trivial⟩ (.nil ?_))));refine .cond rfl (fun hb30=>?_) fun hb30=>?_
 ·have hc30:=hb30; simp only [Y6] at hc30;refine .skip (.seq (.block (.seq ?_)));obtain ⟨d,hd⟩:∃ d,D[j]?=some d:=⟨_,Y4 (by omega)⟩
  have hdr:=hDm d (Yi hd);obtain ⟨u,hu⟩:∃ u,l[d.toNat]?=some u:=⟨_,Y4 (by omega)⟩
  obtain ⟨_,c,_,hc,_,ra,rc,rfl,hrc,hr⟩:=hl.2 d.toNat u hu;obtain ⟨p,rfl,hp⟩:=hAR.2 (by omega);have hpk:(X4j L D)[j]?=some (X16 u ra rc):=by unfold X4j; rw [Yy,hd]; simp [Yc,hc]
  have hx:=X3m ((hp.mono hJ3).add (j*8)) 8;rw [X1s _ h8 j _ hpk] at hx;unfold X16 at hx;have hgu:l.getD d.toNat z0=u:=by rw [Yc,hu]; rfl
  obtain ⟨hru,hrc2⟩:=hright u (Yi hu);refine .t 2 rfl (.val (.ii rfl rfl (by omega) (by omega) X7d X2b) rfl (.val (.fi 2 rfl X5r rfl rfl Qs9 rfl) rfl (.val (.ldI (.of rfl) hS (At.add hx _) Qg9 rfl) rfl (.q 1 rfl (.call Tryz.func57 rfl (ec9 rfl (ec9 rfl X0)) rfl (Xbo u.urls _ hru (by omega) B _ J3 _ hS) ?_)))));clear hS;rintro _ w ⟨J4,rfl,hJ4,hS⟩;replace hx:=hx.mono hJ4;refine .q 1 rfl (.nil (.seq (.q 1 rfl ?_)));refine .cond rfl (fun hb40=>?_) fun hb40=>?_
  ·refine .seq (.t 2 rfl (.val (.ii rfl rfl (by omega) (by omega) X7d X2b) rfl (.val (.ldsI (.of rfl) hS hx Xfm X2b rfl (fun _ _ h=>h)) rfl (.q 1 rfl (.so hS (k:=0) rfl rfl rfl rfl X2b rfl (by simp) ?_)))));clear hS; intro w hS;try simp only [Yh,Ye,Y9,Y7,Yg,Yn,Yd] at hS
   refine .q 2 rfl (.nil (.ret (Xes (b:=_) (cs:=[_,_,_,_,_,_,_,_]) Qr16 hS (k:=0) rfl Xfm X2b rfl rfl rfl rfl ?_)));exact ⟨_,rfl,J4,u,_,_,_,Le.trans hJ (Le.trans hJ3 hJ4),rfl,⟨ra,rc,rfl,hrc,hr.mono (Le.trans hJ (Le.trans hJ3 hJ4))⟩,fun D2 hD2=>by rw [← hD.unique hD2,Xg6,if_neg (by omega),if_neg (by omega),Xkq hno hd (by rw [hgu]; exact hb40)]; simp only; rw [hgu]; try rfl,(hS.drop (k:=0) rfl)⟩
  refine .skip (.region (.run 3 rfl ⟨⟨by omega,by omega⟩,trivial⟩ (.nil ?_)));refine ⟨(j+1,J4),⟨rfl,rfl,rfl,rfl,trivial⟩,⟨by (try dsimp only); omega,fun q e hq he=>?_,Le.trans hJ3 hJ4,hS⟩,by (try dsimp only); omega⟩;rcases Yr q j with h1 | h1
  ·exact hno q e h1 he
  ·have e2:q=j:=by (try dsimp only at hq); omega
   subst e2;rw [hd] at he; cases he;rw [hgu]; exact hb40
 have hc30:=hb30; simp only [Y6] at hc30;refine .exit (.seq (.region (.val (.build (cs:=[_,_,_,_,_,_,_,_]) X4 X3f rfl) rfl (.so hS (k:=0) rfl rfl rfl rfl X2b rfl (by simp) ?_))));clear hS; intro w hS;try simp only [Yh,Ye,Y9,Y7,Yg,Yn,Yd] at hS
 refine .q 2 rfl (.nil (.ret (Xes (b:=_) (cs:=[_,_,_,_,_,_,_,_]) Qr16 hS (k:=0) rfl Xfm X2b rfl rfl rfl rfl ?_)));exact ⟨_,rfl,J3,z0,_,_,_,Le.trans hJ hJ3,rfl,⟨none,0,rfl,Yu _,RS.nil _ _⟩,fun D2 hD2=>by rw [← hD.unique hD2,Xg6,if_neg (by omega),if_neg (by omega),Xtw (fun q e he=>hno q e (by have:=(Y5.1 he).1; omega) he)]; try rfl,(hS.drop (k:=0) rfl)⟩
theorem Xil (sch host:List UInt8) (port:Nat) (r:List UInt8) (h:(Ul.tailU sch host port r).2=0):(Ul.tailU sch host port r).1.sch=sch:=by
 unfold Ul.tailU at h ⊢;split
 ·rename_i e; rw [e] at h; cases h
 ·rename_i p e
  rw [e] at h;simp only at h ⊢
  split
  ·rename_i e2; rw [e2] at h; cases h
  ·rfl
theorem Xri (s:List UInt8) (h:(Ul.pU s).2=0):(Ul.pU s).1.sch=Ul.http∨(Ul.pU s).1.sch=Ul.https:=by
 unfold Ul.pU at h ⊢
 by_cases h1:2000<s.length
 ·rw [if_pos h1] at h; cases h
 ·rw [if_neg h1] at h ⊢;cases hs:Ul.schemeOf s with
  | none=>rw [hs] at h; cases h
  | some x =>
   obtain ⟨sch,r⟩:=x;rw [hs] at h;have hsch:sch=Ul.http∨sch=Ul.https:=by
    unfold Ul.schemeOf at hs;split at hs
    ·injection hs with hs; injection hs with e1 _; exact .inl e1.symm
    ·split at hs
     ·injection hs with hs; injection hs with e1 _; exact .inr e1.symm
     ·cases hs
   simp only at h ⊢
   by_cases hh:Ul.hostOk (Ul.hostOf r)=true
   ·rw [if_pos hh] at h ⊢;unfold Ul.behind at h ⊢;split
    ·rename_i ht
     rw [if_pos ht] at h;split
     ·rename_i hp
      rw [if_pos hp] at h;rw [Xil _ _ _ _ h]; exact hsch
     ·rename_i hp
      rw [if_neg hp] at h; cases h
    ·rename_i ht
     rw [if_neg ht] at h;rw [Xil _ _ _ _ h]; exact hsch
   ·rw [if_neg hh] at h; cases h
theorem nU_ok {s:List UInt8} (h:(Ul.nU s).2=0):(Ul.pU s).2=0∧(Ul.nU s).1=Ul.strU (Ul.pU s).1:=by
 unfold Ul.nU at h ⊢
 by_cases h1:(Ul.pU s).2=0
 ·rw [if_pos h1]; exact ⟨h1,rfl⟩
 ·rw [if_neg h1] at h; exact absurd h h1
theorem Xlj {s:List UInt8} (h:(Ul.nU s).2=0):7≤(Ul.nU s).1.length:=by
 obtain ⟨h1,h2⟩:=nU_ok h;rw [h2,Ul.strU,Ul.origin];rcases Xri s h1 with e | e <;> rw [e] <;> simp only [Y0,Y8,Yj,Ul.http,Ul.https] <;> omega
theorem len5 {s:List UInt8} (h:((((Ul.nU s).2:Nat):Int) != 0 || decide (100<((Ul.nU s).1.length:Int)))=false):(5:Int)≤((Ul.nU s).1.length:Int):=by
 simp only [Y15,bne_eq_false_iff_eq] at h
 have:=Xlj (s:=s) (by omega)
 omega
def Xfq (l:List Sv) (id:Int) (s:List UInt8):List UInt8×Bool :=
 if (((((Ul.nU s).2:Int) != 0) || decide (100<((Ul.nU s).1.length:Int))) || !((Ul.nU s).1.take 5 == Ul.https))=true then ([],false)
 else if l.any (fun t=>t.id == id && (X8q t.calls (Ul.nU s).1).1)=true then ((Ul.nU s).1,true) else ([],false)
theorem Xem (a:Option Addr) (cap:Nat) (L:List (List Value)) (l:List Sv) (hln:l.length≤100000) (hright:right l) (id:Int) (s:List UInt8) (hs:s.length≤1000000) (B w:World) (I:Im) (hl:SvsIn I a L l) (As:List X7) (hS:Sat B w I As) :
  Cz 72 [.slice a l.length cap,I64 id,S s] w fun v w'=>∃ J,Le I J∧v=.tuple #[S (Xfq l id s).1,.bool (Xfq l id s).2]∧Sat B w' J As:=by
 refine calls Tryz.func72 rfl Tryz.ntmps72 rfl (.seq (.q 2 rfl (.seq (.t 1 rfl (.call Tryz.func55 rfl (ec9 rfl X0) rfl (X6a s hs B _ I _ hS) ?_)))));clear hS;rintro _ w ⟨rfl,hS⟩;refine .q 5 rfl (.nil (.seq (.seq ?_)));have hnl:=fun h=>Xlj (s:=s) h
 refine .t 3 rfl (.gm rfl rfl rfl rfl (.gval rfl rfl (fun hg1=>(.len (.gd hg1 rfl) Qu9)) rfl (.gval rfl rfl (fun hg1=>(.gtr (.gd hg1 rfl) (.of rfl))) rfl (.val (.po rfl rfl rfl) rfl (.q 1 rfl (.gm rfl rfl rfl rfl (.gval rfl rfl (fun hg1=>.subTo (.gd hg1 rfl) (.of rfl) (by omega) (len5 hg1) Qu9) rfl (.gval rfl rfl (fun hg1=>(.nes (.gd hg1 rfl) (.of rfl))) rfl (.val (.po rfl rfl rfl) rfl (.nil ?_))))))))));refine .cond rfl (fun hb28=>?_) fun hb28=>?_
 ·refine .seq (.q 2 rfl (.ret (X1e Tryz.results72 rfl rfl ?_)));exact ⟨_,rfl,I,Le.refl _,by rw [Xfq,if_pos (by simpa [Ul.https] using hb28)],hS⟩
 have hc28:=hb28; try simp only [Y6] at hc28
 refine .skip (.seq (.seq (.q 1 rfl (.block (.loop (σ:=Nat×Im) (fun ⟨i,J⟩=>[(0,.slice a l.length cap),(1,I64 id),(8,S (Ul.nU s).1),(10,I64 (i:Nat))]) (fun ⟨i,J⟩ w=>i≤l.length∧(∀ (q:Nat) t,q<i→l[q]?=some t→(t.id == id && (X8q t.calls (Ul.nU s).1).1)=false)∧Le I J∧Sat B w J As) (fun ⟨i,J⟩=>l.length - i) (0,I) ⟨rfl,rfl,rfl,rfl,trivial⟩ ⟨Yo _,fun _ _ h=>absurd h (by omega),Le.refl _,hS⟩ ?_)))));rintro ⟨i,J⟩ w ⟨hi,hno,hJ,hS⟩;refine .seq (.seq (.region (.run 4 rfl ⟨⟨_,X7d⟩,trivial⟩ (.nil ?_))));refine .cond rfl (fun hb32=>?_) fun hb32=>?_
 ·have hc32:=hb32; try simp only [Y6] at hc32
  refine .skip (.seq (.block (.seq ?_)));obtain ⟨u,hu⟩:∃ u,l[i]?=some u:=⟨_,Y4 (by omega)⟩
  obtain ⟨p,ra,rc,rfl,hx,hrc,hr⟩:=hl.svs i u hu;replace hx:=hx.mono hJ;unfold X16 at hx;obtain ⟨_,hrc2⟩:=hright u (Yi hu);refine .t 2 rfl (.val (.ii rfl rfl (by omega) (by omega) X7d X2b) rfl (.val (.fi 0 rfl X5r rfl rfl Qs3 rfl) rfl (.val (.ldI (.of rfl) hS (At.add hx _) Qg3 rfl) rfl (.q 2 rfl (.nil ?_)))));refine .cond rfl (fun hb41=>?_) fun hb41=>?_
  ·have hc41:=hb41; try simp only [Y6] at hc41
   refine .seq (.t 2 rfl ?_);refine .val (.ii rfl rfl (by omega) (by omega) X7d X2b) rfl (.val (.fi 6 rfl X5r rfl rfl Qs9 rfl) rfl (.val (.ldI (.of rfl) hS (At.add hx _) Qg9 rfl) rfl (.q 1 rfl ?_)));refine .call Tryz.func57 rfl (ec9 rfl (ec9 rfl X0)) rfl (Xbo u.calls _ hrc2 (by have:=hc28; omega) B _ J _ hS) ?_;clear hS;rintro _ w ⟨J2,rfl,hJ2,hS⟩;refine .q 1 rfl (.nil (.seq (.q 1 rfl ?_)));refine .cond rfl (fun hb49=>?_) fun hb49=>?_
   ·refine .seq (.q 3 rfl (.ret (X1e Tryz.results72 rfl rfl ?_)));refine ⟨_,rfl,J2,Le.trans hJ hJ2,?_,hS⟩;rw [Xfq,if_neg (by rw [Y1g]; simpa [Ul.https] using hb28),if_pos];rw [Y1w];exact ⟨u,Yi hu,by rw [hb49,Y4z]; exact hb41⟩
   have hc49:=hb49; try simp only [Y6] at hc49
   refine .skip (.region (.run 3 rfl ⟨⟨by omega,by omega⟩,trivial⟩ (.nil ?_)));refine ⟨(i+1,J2),⟨rfl,rfl,rfl,rfl,trivial⟩,⟨by (try dsimp only); omega,fun q t hq ht=>?_,Le.trans hJ hJ2,hS⟩,by (try dsimp only); omega⟩;rcases Yr q i with h1 | h1
   ·exact hno q t h1 ht
   ·have e2:q=i:=by (try dsimp only at hq); omega
    subst e2;rw [hu] at ht; cases ht;rw [hb49,Y3n]
  have hc41:=hb41; try simp only [Y6] at hc41
  refine .skip (.region (.run 3 rfl ⟨⟨by omega,by omega⟩,trivial⟩ (.nil ?_)));refine ⟨(i+1,J),⟨rfl,rfl,rfl,rfl,trivial⟩,⟨by (try dsimp only); omega,fun q t hq ht=>?_,hJ,hS⟩,by (try dsimp only); omega⟩;rcases Yr q i with h1 | h1
  ·exact hno q t h1 ht
  ·have e2:q=i:=by (try dsimp only at hq); omega
   subst e2;rw [hu] at ht; cases ht;rw [show (u.id == id)=false from hb41]; rfl
 have hc32:=hb32; try simp only [Y6] at hc32
 refine .exit (.seq (.q 2 rfl (.ret (X1e Tryz.results72 rfl rfl ?_))));refine ⟨_,rfl,J,hJ,?_,hS⟩;rw [Xfq,if_neg (by rw [Y1g]; simpa [Ul.https] using hb28),if_neg];rw [Y1g,Y2i];intro t ht;obtain ⟨q,hq⟩:=Yx.1 ht;rw [hno q t (by have:=(Y5.1 hq).1; omega) hq];decide
theorem Xe1 (a:Option Addr) (c:Nat) (l:List (List UInt8)) (hl:l.length≤1000000) (B w:World) (I:Im) (hr:RS I a 1 l.length (l.map S)) (As:List X7) (hS:Sat B w I As) :
  Cz 157 [.slice a l.length c] w fun v w'=>∃ J ra rc,v=.slice ra l.length rc∧Le I J∧l.length≤rc∧RS J ra 1 l.length (l.map S)∧Sat B w' J As:=by
 have fin:∀ (v:Value) (w':World) (n:Nat) (xs:List Value),n=l.length→xs=l.map S→Go.RowKit.Below w.heap.size w w'→w'.ownsRow w.heap.size 9 1 v n xs→∃ J ra rc,v=.slice ra l.length rc∧Le I J∧l.length≤rc∧RS J ra 1 l.length (l.map S)∧Sat B w' J As:=by
  intro v w' n xs hn hx hb ho;subst hn; subst hx;have h2:=hS.grownRow hb ho;obtain ⟨ra,rc,rfl,h3,_⟩:=h2.vecSlice (k:=0) rfl;obtain ⟨J,hJ,hRS,hS2⟩:=h2.freezeVec (k:=0) rfl;exact ⟨J,ra,rc,rfl,hJ,h3,hRS,hS2⟩
 cases a with
 | none =>
  have h0:l=[]:=by
   rcases Y1r l.length with h | h
   ·exact Yl h
   ·obtain ⟨p,hp,_⟩:=hr.2 h; cases hp
  subst h0;refine (Tryz.slices_Clone_string_nil 0 c w).mono fun e w' he=>?_
  obtain ⟨rfl,rfl⟩:=he;exact ⟨_,rfl,I,none,0,rfl,Le.refl _,Yu _,RS.nil _ _,hS⟩
 | some p =>
  rcases Y1r l.length with h | h
  ·have h0:=Yl h;subst h0;refine (Tryz.slices_Clone_string_zero p c w).mono fun e w' he=>?_
   obtain ⟨v',rfl,ho,_,hb⟩:=he;exact ⟨_,rfl,fin v' w' 0 [] rfl rfl hb ho⟩
  ·obtain ⟨q,hq,hA⟩:=hr.2 h;injection hq with hq
   subst hq;obtain ⟨b,off,sp⟩:=p;have hsp:sp=none:=hA.1;subst hsp;refine (Tryz.slices_Clone_string b off l.length c (l.map fun x=>⟨x.toArray⟩) w (by rw [Y10]; exact Yu _) (by omega) (fun j hj=>?_)).mono fun e w' he=>?_
   ·rw [Y10] at hj;have h2:=X2c hS hA (j:=j) (v:=S (l[j])) (by rw [Yy,Y4 hj]; rfl);rw [show (⟨b,off,none⟩:Addr).add j=⟨b,off+j,none⟩ from X13 b off j] at h2;rw [h2,Yc,Yy,Y4 hj];rfl
   ·obtain ⟨v',rfl,ho,_,hb⟩:=he;refine ⟨_,rfl,fin v' w' l.length _ rfl ?_ hb ho⟩;rw [Yz (by rw [Y10]; exact Yu _),List.map_map];rfl
theorem Xsc (s:Sv) (a:Option Addr) (c:Nat) (hrl:s.rel.length≤1000000) (B w:World) (I:Im) (hr:RS I a 1 s.rel.length (s.rel.map S)) (As:List X7) (hS:Sat B w I As) :
  Cz 112 [.agg [I64 s.id,F64 s.ord,S s.urls,.bool s.login,.bool s.proxy,.bool s.back,S s.calls,.slice a s.rel.length c].toArray] w fun v w'=>∃ J cs,Le I J∧v=.agg (List.toArray cs)∧SvAt J s cs∧Sat B w' J As:=by
 refine calls Tryz.func112 rfl Tryz.ntmps112 rfl (.seq (.region (.boxA (cs:=[_,_,_,_,_,_,_,_]) hS (.of rfl) rfl ?_)));intro b1 w hS;refine .allocA (cs:=[_,_,_,_,_,_,_,_]) hS Xj3 rfl ?_;intro b2 w hS;refine .nil (.seq (.region (.val (.fo 7 rfl X5r rfl rfl Xk0 rfl) rfl (.val (.lo rfl hS (k:=1) rfl Xkb rfl) rfl (.call Tryz.func157 rfl (ec9 rfl X0) rfl (Xe1 a c s.rel hrl B _ I hr _ hS) ?_)))));rintro _ w ⟨J,ra,rc,rfl,hJ,hrc,hrr,hS⟩;refine .val (.fo 7 rfl X5r rfl rfl Xk0 rfl) rfl (.s1 hS (k:=1) rfl rfl rfl rfl Xk0 (by simp) ?_);intro w hS;refine .nil (.seq (.region (.val (.ldsW (cs:=[_,_,_,_,_,_,_,_]) (.of rfl) hS (k:=1) rfl Xfm X2b rfl) rfl (.so hS (k:=0) rfl rfl rfl rfl X2b rfl (by simp) ?_))));intro w hS;try simp only [Yh,Ye,Y9,Y7,Yg,Yn,Yd] at hS
 refine .nil (.ret (Xjt (b:=_) (cs:=[_,_,_,_,_,_,_,_]) Tryz.results112 hS (k:=0) rfl Xfm X2b rfl rfl ?_));exact ⟨_,rfl,J,[I64 s.id,F64 s.ord,S s.urls,.bool s.login,.bool s.proxy,.bool s.back,S s.calls,.slice ra s.rel.length rc],hJ,rfl,⟨ra,rc,rfl,hrc,hrr⟩,(hS.drop (k:=0) rfl).drop (k:=0) rfl⟩
def X1l (s:Sv) (a:Option Addr) (c:Nat) (p q:Addr):List Value:=[I64 s.id,F64 s.ord,S s.urls,.bool s.login,.bool s.proxy,.bool s.back,S s.calls,.slice a s.rel.length c,.pointer (some p),.pointer (some q)]
def EntAt (I:Im) (s:Sv) (l:List Value):Prop:=∃ a c p q Q R,l=X1l s a c p q∧s.rel.length≤c∧RS I a 1 s.rel.length (s.rel.map S)∧cmp s.urls=.ok Q∧PatI I p Q s.urls.length∧cmp s.calls=.ok R∧PatI I q R s.calls.length
def EntsIn (I:Im) (a:Option Addr) (E:List (List Value)) (l:List Sv):Prop:=E.length=l.length∧∀ (i:Nat) (s:Sv),l[i]?=some s→∃ p c,a=some p∧E[i]?=some c∧At I (p.add (i*10)) c∧EntAt I s c
def Xgh (w:World) (I:Im) (a:Option Addr) (l:List Sv):Prop:=∀ (i:Nat) (s:Sv),l[i]?=some s→∃ p c,a=some p∧(∀ (j:Nat) v,c[j]?=some v→w.cell? ((p.add (i*10)).add j)=some v)∧EntAt I s c
theorem EntsIn.now {B w:World} {I:Im} {As:List X7} {a:Option Addr} {E:List (List Value)} {l:List Sv} (h:EntsIn I a E l) (hS:Sat B w I As):Xgh w I a l:=fun i s hs=>by
 obtain ⟨p,c,e,_,h1,h2⟩:=h.2 i s hs;exact ⟨p,c,e,fun j v hj=>X2c hS h1 hj,h2⟩
theorem Xo9 {B w:World} {I:Im} {As:List X7} {k T cap:Nat} {a:Option Addr} {E:List (List Value)} {l:List Sv} (hS:Sat B w I As) (hk:As[k]?=some (Vec T 10 (.slice a l.length cap) l.length E.flatten)) (h10:∀ c∈E,c.length=10)
  (hE:∀ (i:Nat) (s:Sv),l[i]?=some s→∃ c,E[i]?=some c∧EntAt I s c):Xgh w I a l:=fun i s hs=>by
 obtain ⟨c,hc,he⟩:=hE i s hs;have hi:=(Y5.1 hs).1;obtain ⟨g,cap',rest,hv,_,_,_,_,hS2⟩:=hS.vecOpen hk (by omega);injection hv with hv1 hv2 hv3
 have hlk:k<As.length:=(Y5.1 hk).1;have hb:w.heap[g]?=some (Xi (E.flatten ++ rest) T):=hS2.block (k:=k) (by simp [hlk,blk]);refine ⟨⟨g,0,none⟩,c,hv1,fun j v hj=>?_,he⟩;have hjl:j<10:=by
  have h1:=(Y5.1 hj).1;rw [h10 c (Yi hc)] at h1;exact h1
 rw [Addr.add_add,show (⟨g,0,none⟩:Addr).add (i*10+j)=ad g (0+(i*10+j)) from X13 g 0 _,Yd];refine Xy hb ?_;have h2:=X52 E h10 i j hjl;rw [hc] at h2;have h3:E.flatten[i*10+j]?=some v:=h2.trans hj;rw [Yk (Y5.1 h3).1];exact h3
theorem ldsC {P:Program} {n:Nat} {L:Env} {w:World} {ty:TypeId} {pos:String} {af:Array Edge} {g:Option (Nat×Bool)} {t:TypeId} {x:Operand} {d:Option Nat} {p:Addr} {s:Nat} {vs:List Value} (hx:Ev n L x (.pointer (some p))) (hv:∀ (j:Nat) v,vs[j]?=some v→w.cell? (p.add j)=some v) (ht:∀ w,(isAgg t).run P w=.ok true w) (hs:∀ w,(Go.sizeOf t).run P w=.ok s w)
  (hl:vs.length=s):Ex P n L w ⟨d,.load t x,ty,pos,af,g⟩ (.agg vs.toArray) w:=fun a ha=>by
 have h:=run_loadCells_list (P:=P) w p vs hv;rw [hl] at h;simp [execOp,hx a ha,Instr.loadAt,Instr.sureAddr,loadVar,ht,hs,h]
def X2a (pr:Sv→Bool):List Sv→Nat→Int
 | [],_=>-1
 | s::r,i=>if pr s then (i:Int) else X2a pr r (i+1)
theorem X6i (pr:Sv→Bool):∀ (n:Nat) (r:List Sv) (i:Nat),(∀ (j:Nat) s,j<n→r[j]?=some s→pr s=false)→X2a pr r i=X2a pr (r.drop n) (i+min n r.length)
 | 0,r,i,_=>by simp
 | n+1,[],i,_=>by simp [X2a]
 | n+1,s::r,i,h=>by
  rw [X2a,if_neg (by rw [h 0 s (by omega) rfl]; decide),X6i pr n r (i+1) (fun j t hj ht=>h (j+1) t (by omega) (by simpa using ht)),Y7,Y8]
  congr 1
  omega
theorem Xiq {pr:Sv→Bool} {l:List Sv} {i:Nat} {s:Sv} (h:∀ (j:Nat) t,j<i→l[j]?=some t→pr t=false) (hs:l[i]?=some s) (hp:pr s=true):X2a pr l 0=(i:Int):=by
 have hi:=(Y5.1 hs).1;rw [X6i pr i l 0 h,Yd,Y3h (by omega),Y1f hi,(Y5.1 hs).2,X2a,if_pos hp]
theorem Xgx {pr:Sv→Bool} {l:List Sv} (h:∀ (j:Nat) t,l[j]?=some t→pr t=false):X2a pr l 0=-1:=by
 rw [X6i pr l.length l 0 (fun j t _ ht=>h j t ht),Y3a];rfl
theorem X44 (a:Option Addr) (cap:Nat) (l:List Sv) (hln:l.length≤100000) (pr:Sv→Bool) (fid:FuncId) (fn:Func) (hfn:Tryz.prog.funcs[fid]?=some fn) (hcal:Xh fn=true) (capv:List Value) (B w:World) (I:Im) (As:List X7) (hE:∀ w,Sat B w I As→Xgh w I a l) (hf:∀ (s:Sv) (c:List Value),EntAt I s c→∀ w,Sat B w I As→Calls Tryz.prog fid ([Value.agg c.toArray] ++ capv).toArray w (Ret fun v w'=>v=.bool (pr s)∧Sat B w' I As)) (hS:Sat B w I As) :
  Cz 109 [.slice a l.length cap,.func (.func fid) #[] capv.toArray] w fun v w'=>v=I64 (X2a pr l 0)∧Sat B w' I As:=by
 refine calls Xov rfl Tryz.ntmps109 rfl (.seq (.q 1 rfl (.seq (.seq (.region (.run 3 rfl ⟨⟨_,X81⟩,trivial⟩ (.nil (.block (.loop (σ:=Nat) (fun i=>[(0,.slice a l.length cap),(1,.func (.func fid) #[] capv.toArray),(7,I64 (l.length:Nat)),(8,I64 (i:Nat))]) (fun i w=>i≤l.length∧(∀ (j:Nat) t,j<i→l[j]?=some t→pr t=false)∧Sat B w I As) (fun i=>l.length - i) 0 ⟨rfl,rfl,rfl,rfl,trivial⟩ ⟨Yo _,fun _ _ h=>absurd h (by omega),hS⟩ ?_)))))))));rintro i w ⟨hi,hno,hS⟩;refine .seq (.q 1 rfl (.seq ?_));refine .cond rfl (fun hb9=>?_) fun hb9=>?_
 ·have hc9:=hb9; try simp only [Y6] at hc9
  refine .skip (.seq (.block (.seq ?_)));obtain ⟨s,hs⟩:∃ s,l[i]?=some s:=⟨_,Y4 (by omega)⟩
  obtain ⟨p,c,rfl,hx,he⟩:=hE w hS i s hs;have he2:=he;obtain ⟨ra,rc,pp,qq,Q,R,rfl,_⟩:=he2;unfold X1l at hx he;refine .q 2 rfl (.seq (.t 3 rfl (.val (.ii rfl rfl (by omega) (by omega) X81 X3j) rfl (.val (ldsC (.of rfl) hx Xeu X3j rfl) rfl (.vcall (cap:=capv) hfn hcal (.of rfl) (ec9 rfl X0) rfl (hf s _ he w hS) ?_)))));clear hS;rintro _ w ⟨rfl,hS⟩;refine .nil (.cond rfl (fun hb16=>?_) fun hb16=>?_)
  ·refine .seq (.q 2 rfl (.ret (X9 Tryz.results109 rfl ?_)));exact ⟨_,rfl,by rw [Xiq hno hs hb16],hS⟩
  have hc16:=hb16; try simp only [Y6] at hc16
  refine .skip (.region (.run 2 rfl ⟨⟨by omega,by omega⟩,trivial⟩ (.nil ?_)));refine ⟨i+1,⟨rfl,rfl,rfl,rfl,trivial⟩,⟨by omega,fun j t hj ht=>?_,hS⟩,by omega⟩;rcases Yr j i with h1 | h1
  ·exact hno j t h1 ht
  ·have e:j=i:=by omega
   subst e;rw [hs] at ht; cases ht;exact hb16
 have hc9:=hb9; try simp only [Y6] at hc9
 refine .exit (.seq (.q 1 rfl (.ret (X9 Tryz.results109 rfl ?_))));exact ⟨_,rfl,by rw [Xgx (fun j t ht=>hno j t (by have:=(Y5.1 ht).1; omega) ht)],hS⟩
theorem X8w (a:Option Addr) (cap:Nat) (l:List Sv) (hln:l.length≤100000) (pr:Sv→Bool) (fid:FuncId) (fn:Func) (hfn:Tryz.prog.funcs[fid]?=some fn) (hcal:Xh fn=true) (capv:List Value) (B w:World) (I:Im) (As:List X7) (hE:∀ w,Sat B w I As→Xgh w I a l) (hf:∀ (s:Sv) (c:List Value),EntAt I s c→∀ w,Sat B w I As→Calls Tryz.prog fid ([Value.agg c.toArray] ++ capv).toArray w (Ret fun v w'=>v=.bool (pr s)∧Sat B w' I As)) (hS:Sat B w I As) :
  Cz 187 [.slice a l.length cap,.func (.func fid) #[] capv.toArray] w fun v w'=>v=.bool (decide (0≤X2a pr l 0))∧Sat B w' I As:=by
 refine calls Tryz.func187 rfl Tryz.ntmps187 rfl (.seq (.q 1 rfl (.seq (.t 2 rfl (.call Xov rfl (ec9 rfl (ec9 rfl X0)) rfl (X44 a cap l hln pr fid fn hfn hcal capv B _ I As hE hf hS) ?_)))));rintro _ w ⟨rfl,hS⟩;refine .q 2 rfl (.nil (.ret (X9 Tryz.results187 rfl ?_)));exact ⟨_,rfl,rfl,hS⟩
end Go.Proofs.YtfibbpgikjggfaaGreatDoor
namespace Go.Proofs.YtfibbpgikjggfaaGreatDoor
open Gk Ul Pc Tk Tr
def Xe (l:List Rec):List Value:=(l.map X5).flatten
theorem X9r (l:List Rec):(Xe l).length=l.length*10:=by
 unfold Xe
 induction l with
 | nil=>rfl
 | cons r l ih=>rw [Y1d,Y1v,Y0,ih,Y8,show (X5 r).length=10 from rfl]; omega
def RecsW (w:World) (a:Option Addr) (l:List Rec):Prop:=∀ (i:Nat) (r:Rec),l[i]?=some r→∃ p,a=some p∧(∀ (j:Nat) v,(X5 r)[j]?=some v→w.cell? ((p.add (i*10)).add j)=some v)
theorem Xlw {l:List Rec} {i j:Nat} {r:Rec} {v:Value} (hr:l[i]?=some r) (hj:(X5 r)[j]?=some v):(Xe l)[i*10+j]?=some v:=by
 have h2:=X52 (l.map X5) (fun c hc=>by obtain ⟨x,_,rfl⟩:=Y28.1 hc; rfl) i j (show j<10 from (Y5.1 hj).1);rw [Yy,hr] at h2;exact h2.trans hj
theorem X2t {B w:World} {I:Im} {As:List X7} {k T cap:Nat} {a:Option Addr} {l:List Rec} (hS:Sat B w I As) (hk:As[k]?=some (Vec T 10 (.slice a l.length cap) l.length (Xe l))):RecsW w a l:=fun i r hr=>by
 have hi:=(Y5.1 hr).1;obtain ⟨g,cap',rest,hv,_,_,_,_,hS2⟩:=hS.vecOpen hk (by omega);injection hv with hv1 hv2 hv3
 have hlk:k<As.length:=(Y5.1 hk).1;have hb:w.heap[g]?=some (Xi (Xe l ++ rest) T):=hS2.block (k:=k) (by simp [hlk,blk]);refine ⟨⟨g,0,none⟩,hv1,fun j v hj=>?_⟩;rw [Addr.add_add,show (⟨g,0,none⟩:Addr).add (i*10+j)=ad g (0+(i*10+j)) from X13 g 0 _,Yd];refine Xy hb ?_;have h3:=Xlw hr hj;rw [Yk (Y5.1 h3).1];exact h3
theorem ldC {P:Program} {n:Nat} {L:Env} {w:World} {ty:TypeId} {pos:String} {af:Array Edge} {g:Option (Nat×Bool)} {t:TypeId} {x:Operand} {d:Option Nat} {p:Addr} {v:Value} (hx:Ev n L x (.pointer (some p))) (hv:w.cell? p=some v) (ht:∀ w,(isAgg t).run P w=.ok false w):Ex P n L w ⟨d,.load t x,ty,pos,af,g⟩ v w:=fun a hh=>by
 simp [execOp,hx a hh,Instr.loadAt,Instr.sureAddr,loadVar,ht,load,Sem.run,hv]
theorem Ex.slNil {P:Program} {n:Nat} {L:Env} {w:World} {ty t':TypeId} {pos:String} {af:Array Edge} {g:Option (Nat×Bool)} {t e:TypeId} {x y:Operand} {d:Option Nat} {a:Option Addr} {m c:Nat} (hx:Ev n L x (.slice a m c)) (hy:Ev n L y (.slice none 0 0)) (hT:P.underlying t=some (.slice e)):Ex P n L w ⟨d,.binOp .eql t x y t',ty,pos,af,g⟩ (.bool a.isNone) w :=
 X1a hx hy (fun _ _=>by unfold eqGuard; split <;> simp) (run_eql_slice_nil w t e a m c hT)
theorem SepAll.app:∀ {Xs As:List X7} {h:Xb9},SepAll (Xs ++ As) h ↔ ∃ h1 h2,h=h1 ++ h2∧SepAll Xs h1∧SepAll As h2
 | [],As,h=>⟨fun hs=>⟨[],h,rfl,rfl,hs⟩,fun ⟨h1,h2,e,h3,h4⟩=>by
   have h3:h1=[]:=h3;subst h3; subst e; exact h4⟩
 | X::Xs,As,h=>by
  constructor
  ·rintro ⟨h1,h2,rfl,hx,hs⟩;obtain ⟨h3,h4,rfl,h5,h6⟩:=(SepAll.app (Xs:=Xs)).1 hs;exact ⟨h1 ++ h3,h4,by rw [Yf],⟨h1,h3,rfl,hx,h5⟩,h6⟩
  ·rintro ⟨h1,h2,rfl,⟨h3,h4,rfl,hx,h5⟩,h6⟩;exact ⟨h3,h4 ++ h2,by rw [Yf],hx,(SepAll.app (Xs:=Xs)).2 ⟨h4,h2,rfl,h5,h6⟩⟩
def Box {X:Type} (T:X→List X7):X7:=fun h=>∃ x,SepAll (T x) h
theorem Sat.unbox {X:Type} {T:X→List X7} {B w:World} {I:Im} {As:List X7} (hS:Sat B w I (Box T::As)):∃ x,Sat B w I (T x ++ As):=by
 obtain ⟨h,⟨h1,h2,rfl,⟨x,hx⟩,h3⟩,hg⟩:=hS;exact ⟨x,h1 ++ h2,SepAll.app.2 ⟨h1,h2,rfl,hx,h3⟩,hg⟩
theorem Sat.box {X:Type} {T:X→List X7} {B w:World} {I:Im} {As:List X7} (x:X) (hS:Sat B w I (T x ++ As)):Sat B w I (Box T::As):=by
 obtain ⟨h,hs,hg⟩:=hS;obtain ⟨h1,h2,rfl,h3,h4⟩:=SepAll.app.1 hs;exact ⟨h1 ++ h2,⟨h1,h2,rfl,⟨x,h3⟩,h4⟩,hg⟩
theorem X63 (a:Option Addr) (cap:Nat) (l:List Rec) (hln:l.length≤100000) (pr:Rec→Bool) (fid:FuncId) (fn:Func) (hfn:Tryz.prog.funcs[fid]?=some fn) (hcal:Xh fn=true) (capv:List Value) (B w:World) (I:Im) (As:List X7) (hE:∀ w,Sat B w I As→RecsW w a l) (hf:∀ (r:Rec) w,Sat B w I As→Calls Tryz.prog fid ([Value.agg (X5 r).toArray] ++ capv).toArray w (Ret fun v w'=>v=.bool (pr r)∧Sat B w' I As)) (hS:Sat B w I As) :
  Cz 116 [.slice a l.length cap,.func (.func fid) #[] capv.toArray] w fun v w'=>v=I64 (X24 pr l 0)∧Sat B w' I As:=by
 refine calls Tryz.func116 rfl Tryz.ntmps116 rfl (.seq (.q 1 rfl (.seq (.seq (.region (.run 3 rfl ⟨⟨_,X1p⟩,trivial⟩ (.nil (.block (.loop (σ:=Nat) (fun i=>[(0,.slice a l.length cap),(1,.func (.func fid) #[] capv.toArray),(7,I64 (l.length:Nat)),(8,I64 (i:Nat))]) (fun i w=>i≤l.length∧(∀ (j:Nat) t,j<i→l[j]?=some t→pr t=false)∧Sat B w I As) (fun i=>l.length - i) 0 ⟨rfl,rfl,rfl,rfl,trivial⟩ ⟨Yo _,fun _ _ h=>absurd h (by omega),hS⟩ ?_)))))))));rintro i w ⟨hi,hno,hS⟩;refine .seq (.q 1 rfl (.seq ?_));refine .cond rfl (fun hb9=>?_) fun hb9=>?_
 ·have hc9:=hb9; try simp only [Y6] at hc9
  refine .skip (.seq (.block (.seq ?_)));obtain ⟨r,hr⟩:∃ r,l[i]?=some r:=⟨_,Y4 (by omega)⟩
  obtain ⟨p,rfl,hx⟩:=hE w hS i r hr;refine .q 2 rfl (.seq (.t 3 rfl ?_));refine .val (.ii rfl rfl (by omega) (by omega) X1p Xu) rfl (.val (ldsC (.of rfl) hx X3e Xu rfl) rfl (.vcall (cap:=capv) hfn hcal (.of rfl) (ec9 rfl X0) rfl (hf r w hS) ?_));clear hS;rintro _ w ⟨rfl,hS⟩;refine .nil (.cond rfl (fun hb16=>?_) fun hb16=>?_)
  ·refine .seq (.q 2 rfl (.ret (X9 Tryz.results116 rfl ?_)));exact ⟨_,rfl,by rw [X5f hno hr hb16],hS⟩
  have hc16:=hb16; try simp only [Y6] at hc16
  refine .skip (.region (.run 2 rfl ⟨⟨by omega,by omega⟩,trivial⟩ (.nil ?_)));refine ⟨i+1,⟨rfl,rfl,rfl,rfl,trivial⟩,⟨by omega,fun j t hj ht=>?_,hS⟩,by omega⟩;rcases Yr j i with h1 | h1
  ·exact hno j t h1 ht
  ·have e:j=i:=by omega
   subst e;rw [hr] at ht; cases ht;exact hb16
 have hc9:=hb9; try simp only [Y6] at hc9
 refine .exit (.seq (.q 1 rfl (.ret (X9 Tryz.results116 rfl ?_))));exact ⟨_,rfl,by rw [X3z (fun j t ht=>hno j t (by have:=(Y5.1 ht).1; omega) ht)],hS⟩
theorem Xtm (r:Rec) (name:List UInt8) (b:Nat) (B w:World) (I:Im) (As:List X7) (hS:Sat B w I (blk b [S name] 9::As)) :
  Cz 117 [.agg (X5 r).toArray,ptr b 0] w fun v w'=>v=.bool (decide (r.name=name))∧Sat B w' I (blk b [S name] 9::As):=by
 refine calls Tryz.func117 rfl Tryz.ntmps117 rfl (.seq (.region (.boxA (cs:=[_,_,_,_,_,_,_,_,_,_]) hS (.of rfl) rfl ?_)));intro b2 w hS;refine .q 1 rfl (.nil (.seq (.region ?_)));refine .val (.fo 1 rfl Xr rfl rfl Qs9 rfl) rfl (.val (.lo rfl hS (k:=0) rfl Qg9 rfl) rfl (.val (.lo rfl hS (k:=1) rfl Qg9 rfl) rfl (.q 2 rfl (.nil (.ret (X9 Tryz.results117 rfl ?_))))));exact ⟨_,rfl,congrArg Value.bool (by rw [Y35]; simp),hS.drop (k:=0) rfl⟩
theorem X9p (tb:Nat) (room:Int) (a:Option Addr) (c:Nat) (l:List Rec) (hl:l.length≤100000) (name:List UInt8) (B w:World) (I:Im) (As:List X7) (hS:Sat B w I (blk tb [I64 room,.slice a l.length c] 114::Vec 54 10 (.slice a l.length c) l.length (Xe l)::As)) :
  Cz 54 [ptr tb 0,S name] w fun v w'=>v=I64 (at0 l name)∧Sat B w' I (blk tb [I64 room,.slice a l.length c] 114::Vec 54 10 (.slice a l.length c) l.length (Xe l)::As):=by
 refine calls Xrm rfl Tryz.ntmps54 rfl (.seq (.region (.box1 hS (.of rfl) rfl rfl ?_)));intro b3 w hS;refine .q 1 rfl (.nil (.seq (.t 2 rfl ?_)));refine .val (.fo 1 rfl X6j rfl rfl X2y rfl) rfl (.val (.lo rfl hS (k:=1) rfl X5v rfl) rfl (.val (.makeFunc (ec9 rfl X0)) rfl (.call Tryz.func116 rfl (ec9 rfl (ec9 rfl X0)) rfl (X63 a c l hl (fun r=>decide (r.name=name)) 117 _ Tryz.func117 rfl [ptr b3 0] B _ I (blk b3 [S name] 9::(blk tb [I64 room,.slice a l.length c] 114::Vec 54 10 (.slice a l.length c) l.length (Xe l)::As)) (fun w h=>X2t h (k:=2) rfl) (fun r w h=>Xtm r name b3 B w I _ h) hS) ?_)));rintro _ w ⟨rfl,hS⟩;refine .q 1 rfl (.nil (.ret (X9 Tryz.results54 rfl ?_)));exact ⟨_,rfl,by rw [X8x]; rfl,hS.drop (k:=0) rfl⟩
theorem X1v:Bld Tryz.prog 54 [(0,1),(1,1),(2,1),(3,1),(4,1),(5,1),(6,1),(7,1),(8,1),(9,1)] [.int .i64 0,S [],S [],S [],S [],S [],.int .i64 0,.int .i64 0,.int .i64 0,.bool false]:=X2n Xr X5t (fun w=>by simp [go_sem])
theorem X7q (tb:Nat) (room:Int) (a:Option Addr) (c:Nat) (l:List Rec) (hl:l.length≤100000) (name:List UInt8) (B w:World) (I:Im) (As:List X7) (hS:Sat B w I (blk tb [I64 room,.slice a l.length c] 114::Vec 54 10 (.slice a l.length c) l.length (Xe l)::As)) :
  Cz 15 [ptr tb 0,S name] w fun v w'=>v=.tuple #[.agg (X5 (getD l name)).toArray,.bool (get l name).isSome]∧Sat B w' I (blk tb [I64 room,.slice a l.length c] 114::Vec 54 10 (.slice a l.length c) l.length (Xe l)::As):=by
 refine calls Xu6 rfl Tryz.ntmps15 rfl (.seq (.region (.allocA (cs:=[_,_,_,_,_,_,_,_,_,_]) hS X5t rfl ?_)));intro b4 w hS;refine .q 1 rfl (.nil (.seq (.seq (.t 2 rfl (.call Xrm rfl (ec9 rfl (ec9 rfl X0)) rfl (X9p tb room a c l hl name B _ I _ ((hS.pick 2 rfl).pick 2 rfl)) ?_)))));rintro _ w ⟨rfl,hS⟩;replace hS:=hS.pick 2 rfl;refine .q 1 rfl (.nil (.seq (.q 2 rfl ?_)));refine .cond rfl (fun hb11=>?_) fun hb11=>?_
 ·refine .seq ?_;have hq:0≤at0 l name:=by simpa using hb11
  obtain ⟨j,r,hj,hr,hn⟩:∃ (j:Nat) (r:Rec),at0 l name=(j:Int)∧l[j]?=some r∧get l name=some r:=by
   rcases Tr.get_at l name with ⟨h1,_⟩ | ⟨j,r,h1,h2,_,h3⟩
   ·omega
   ·exact ⟨j,r,h1,h2,h3⟩
  have hjl:=(Y5.1 hr).1;obtain ⟨p,rfl,hx⟩:=X2t hS (k:=2) rfl j r hr;rw [hj];refine .t 2 rfl (.val (.fo 1 rfl X6j rfl rfl X2y rfl) rfl (.val (.lo rfl hS (k:=1) rfl X5v rfl) rfl (.q 1 rfl (.val (.ii rfl rfl (by omega) (by omega) X1p Xu) rfl (.val (ldsC (.of rfl) hx X3e Xu rfl) rfl (.so hS (k:=0) rfl rfl rfl rfl Xu rfl (by simp) ?_))))));intro w hS;try simp only [Yh,Ye,Y9,Y7,Yg,Yn,Yd] at hS
  refine .q 1 rfl (.nil (.ret ?_));refine X1i (b:=_) (cs:=[_,_,_,_,_,_,_,_,_,_]) Tryz.results15 hS (k:=0) rfl X3e Xu rfl rfl rfl ?_;exact ⟨_,rfl,by rw [getD,hn]; rfl,hS.drop (k:=0) rfl⟩
 refine .skip (.seq (.region (.val (.build (cs:=[_,_,_,_,_,_,_,_,_,_]) X4 X1v rfl) rfl ?_)));refine .so hS (k:=0) rfl rfl rfl rfl Xu rfl (by simp) ?_;intro w hS;try simp only [Yh,Ye,Y9,Y7,Yg,Yn,Yd] at hS
 refine .q 1 rfl (.nil (.ret ?_));refine X1i (b:=_) (cs:=[_,_,_,_,_,_,_,_,_,_]) Tryz.results15 hS (k:=0) rfl X3e Xu rfl rfl rfl (⟨_,rfl,?_,hS.drop (k:=0) rfl⟩);rcases Tr.get_at l name with ⟨h1,h2⟩ | ⟨j,r,h1,_⟩
 ·rw [getD,h2]; rfl
 ·exfalso; rw [h1] at hb11; simp at hb11
theorem X77 {l:List Rec} {i:Nat} {r:Rec} (hr:l[i]?=some r) (name:List UInt8):X1y (l.take (i+1)) name=X1y (l.take i) name ++ (if name≠[]∧r.parent=name then [r.name] else []):=by
 unfold X1y Xj8;rw [Y12,hr,Y1k,Y2n,Yv]
 congr 1
 by_cases h1:name=[]
 ·simp [h1]
 ·by_cases h2:r.parent=name
  ·simp [h1,h2]
  ·simp [h1,h2]
theorem X9j (l:List Rec) (name:List UInt8):(X1y l name).length≤l.length:=by
 unfold X1y Xj8;rw [Y10];exact Y2z _ _
theorem Xhm (tb:Nat) (room:Int) (a:Option Addr) (c:Nat) (l:List Rec) (hl:l.length≤100000) (name:List UInt8) (B w:World) (I:Im) (As:List X7) (hS:Sat B w I (blk tb [I64 room,.slice a l.length c] 114::Vec 54 10 (.slice a l.length c) l.length (Xe l)::As)) :
  Cz 124 [ptr tb 0,S name] w fun v w'=>∃ J ra rc,v=.slice ra (X1y l name).length rc∧Le I J∧(X1y l name).length≤rc∧RS J ra 1 (X1y l name).length ((X1y l name).map S)∧Sat B w' J (blk tb [I64 room,.slice a l.length c] 114::Vec 54 10 (.slice a l.length c) l.length (Xe l)::As):=by
 refine calls Tryz.func124 rfl Tryz.ntmps124 rfl (.seq (.q 1 rfl (.seq (.q 1 rfl (.seq (.seq ?_))))));replace hS:=hS.vecNil 9 1;refine .t 2 rfl (.val (.fo 1 rfl X6j rfl rfl X2y rfl) rfl (.val (.lo rfl hS (k:=1) rfl X5v rfl) rfl (.run 2 rfl ⟨⟨_,X1p⟩,trivial⟩ (.nil (.block (.loop (σ:=Value×Nat) (fun ⟨kv,i⟩=>[(0,ptr tb 0),(1,S name),(5,kv),(11,.slice a l.length c),(12,I64 (l.length:Nat)),(13,I64 (i:Nat))]) (fun ⟨kv,i⟩ w=>i≤l.length∧Sat B w I (Vec 9 1 kv (X1y (l.take i) name).length ((X1y (l.take i) name).map S)::blk tb [I64 room,.slice a l.length c] 114::Vec 54 10 (.slice a l.length c) l.length (Xe l)::As)) (fun ⟨kv,i⟩=>l.length - i) (.slice none 0 0,0) ⟨rfl,rfl,rfl,rfl,rfl,rfl,trivial⟩ ⟨Yo _,hS⟩ ?_))))));rintro ⟨kv,i⟩ w ⟨hi,hS⟩;refine .seq (.q 1 rfl (.seq ?_));refine .cond rfl (fun hb14=>?_) fun hb14=>?_
 ·have hc14:=hb14; simp only [Y6] at hc14;refine .skip (.seq (.block (.seq ?_)));obtain ⟨r,hr⟩:∃ r,l[i]?=some r:=⟨_,Y4 (by omega)⟩
  obtain ⟨p,rfl,hx⟩:=X2t hS (k:=2) rfl i r hr;have hkl:=X9j (l.take i) name;rw [Yt] at hkl;refine .region (.val (.ii rfl rfl (by omega) (by omega) X1p Xu) rfl (.val (ldsC (.of rfl) hx X3e Xu rfl) rfl (.allocA (cs:=[_,_,_,_,_,_,_,_,_,_]) hS X5t rfl ?_)));intro b7 w hS;refine .so hS (k:=0) rfl rfl rfl rfl Xu rfl (by simp) ?_;intro w hS;try simp only [Yh,Ye,Y9,Y7,Yg,Yn,Yd] at hS
  refine .nil (.seq (.t 3 rfl ?_));refine .gval rfl rfl (fun hg1=>(by exact .fo 2 rfl Xr rfl rfl Qs9 rfl)) rfl ?_;refine .gval rfl rfl (fun hg1=>(by exact (.ld (.gd hg1 rfl) hS (k:=0) rfl Qg9 rfl))) rfl ?_;refine .gm rfl rfl rfl rfl (.gval rfl rfl (fun hg1=>(.eqs (.gd hg1 rfl) (.gd hg1 rfl))) rfl (.val (.pa rfl rfl rfl) rfl (.nil ?_)));refine .cond rfl (fun hb24=>?_) fun hb24=>?_
  ·have hc24:=hb24; simp only [Y6] at hc24;refine .t 1 rfl (.val (.fo 1 rfl Xr rfl rfl Qs9 rfl) rfl (.val (.lo rfl hS (k:=0) rfl Qg9 rfl) rfl (.buildSlice (cs:=[_]) hS (pc9 rfl X4) X19 Qs9 Qz9 rfl rfl rfl rfl ?_)));intro b28 w hS;refine .append (size:=1) (bytes:=16) hS (.of rfl) (.of rfl) (k:=1) rfl X19 X1m rfl rfl rfl rfl rfl rfl rfl ⟨by omega,by unfold maxLen; omega⟩ rfl ?_;intro v29 w hS;obtain ⟨a29,c29,rfl,hcap29,_⟩:=hS.vecSlice (k:=1) (v:=v29) rfl;refine .q 1 rfl (.nil (.region (.run 2 rfl ⟨⟨by omega,by omega⟩,trivial⟩ (.nil ?_))));have e:=X77 hr name;rw [if_pos (by simpa using hb24)] at e;refine ⟨(.slice a29 ((X1y (l.take i) name).length+1) c29,i+1),⟨rfl,rfl,rfl,rfl,rfl,rfl,trivial⟩,⟨by (try dsimp only); omega,?_⟩,by (try dsimp only); omega⟩;rw [e,Y0,Yv];exact hS.drop (k:=0) rfl
  have hc24:=hb24; simp only [Y6] at hc24;refine .skip (.region (.run 2 rfl ⟨⟨by omega,by omega⟩,trivial⟩ (.nil ?_)));have e:=X77 hr name;rw [if_neg (by simpa using hb24),Y9] at e;refine ⟨(kv,i+1),⟨rfl,rfl,rfl,rfl,rfl,rfl,trivial⟩,⟨by (try dsimp only); omega,?_⟩,by (try dsimp only); omega⟩;rw [e];exact hS.drop (k:=0) rfl
 have hc14:=hb14; simp only [Y6] at hc14;refine .exit (.seq (.q 2 rfl (.ret (X9 Tryz.results124 rfl ?_))));have hin:i=l.length:=by omega
 subst hin;rw [Y13] at hS;obtain ⟨ka,kc,rfl,hkc,_⟩:=hS.vecSlice (k:=0) rfl;obtain ⟨J,hJ,hRS,hS⟩:=hS.freezeVec (k:=0) rfl;exact ⟨_,rfl,J,ka,kc,rfl,hJ,hkc,hRS,hS⟩
theorem Xib (l:List Rec):∀ (f:Nat) (i:Int),(X4l l f i).length≤f
 | 0,_=>by simp [X4l]
 | f+1,i=>by
  rw [X4l];split
  ·simp
  ·cases l[i.toNat]? with
   | none=>simp
   | some r =>
    have h:=Xib l f (at0 l r.parent);simp only [Y8]; omega
theorem Xdh {l:List Rec} (h:Wf l) (name:List UInt8):(path l name).length≤l.length:=by
 unfold path Xf2;rcases X2o l name with ⟨h1,_⟩ | ⟨j,r,h1,h2,_⟩
 ·rw [h1,X3t l _ (by omega)]; simp
 ·have h3:=(Y5.1 h2).1;have h4:=Xib l ((at0 l name).toNat+1) (at0 l name);rw [h1] at h4 ⊢;omega
theorem Xqs (tb:Nat) (room:Int) (a:Option Addr) (c:Nat) (l:List Rec) (hl:l.length≤100000) (hwf:Wf l) (name:List UInt8) (B w:World) (I:Im) (As:List X7) (hS:Sat B w I (blk tb [I64 room,.slice a l.length c] 114::Vec 54 10 (.slice a l.length c) l.length (Xe l)::As)) :
  Cz 121 [ptr tb 0,S name] w fun v w'=>∃ J ra rc,v=.slice ra (path l name).length rc∧Le I J∧(path l name).length≤rc∧RS J ra 1 (path l name).length ((path l name).map fun r=>S r.name)∧Sat B w' J (blk tb [I64 room,.slice a l.length c] 114::Vec 54 10 (.slice a l.length c) l.length (Xe l)::As):=by
 refine calls Tryz.func121 rfl Tryz.ntmps121 rfl (.seq (.q 1 rfl (.seq (.q 1 rfl (.seq (.seq (.t 2 rfl (.call Xrm rfl (ec9 rfl (ec9 rfl X0)) rfl (X9p tb room a c l hl name B _ I _ hS) ?_))))))));rintro _ w ⟨rfl,hS⟩;replace hS:=hS.vecNil 9 1;refine .q 1 rfl (.nil (.block (.loop (σ:=Value×Int×List Rec) (fun ⟨kv,i,D⟩=>[(0,ptr tb 0),(1,S name),(5,kv),(6,I64 i)]) (fun ⟨kv,i,D⟩ w=>path l name=D ++ Xf2 l i∧-1≤i∧i<l.length∧Sat B w I (Vec 9 1 kv D.length (D.map fun r=>S r.name)::blk tb [I64 room,.slice a l.length c] 114::Vec 54 10 (.slice a l.length c) l.length (Xe l)::As)) (fun ⟨kv,i,D⟩=>(i+1).toNat) (.slice none 0 0,at0 l name,[]) ⟨rfl,rfl,rfl,rfl,trivial⟩ ⟨rfl,Xkl l name,Xdd l name,hS⟩ ?_)));rintro ⟨kv,i,D⟩ w ⟨hp2,hi1,hi2,hS⟩;refine .seq (.seq (.q 2 rfl ?_));refine .cond rfl (fun hb11=>?_) fun hb11=>?_
 ·refine .skip (.seq (.block ?_));obtain ⟨q,rfl⟩:∃ q:Nat,i=(q:Int):=⟨i.toNat,by simp at hb11; omega⟩
  obtain ⟨r,hr⟩:∃ r,l[q]?=some r:=⟨_,Y4 (by omega)⟩
  obtain ⟨p,rfl,hx⟩:=X2t hS (k:=2) rfl q r hr;have hql:q<l.length:=by omega
  have hup:=(hwf.up q r hr).2;have hDl:D.length≤l.length:=by have h1:=Xdh hwf name; rw [hp2,Y0] at h1; omega
  refine .t 3 rfl (.val (.fo 1 rfl X6j rfl rfl X2y rfl) rfl (.val (.lo rfl hS (k:=1) rfl X5v rfl) rfl (.q 1 rfl (.val (.ii rfl rfl (by omega) (by omega) X1p Xu) rfl (.val (.fi 1 rfl Xr rfl rfl Qs9 rfl) rfl (.val (ldC (.of rfl) (hx 1 _ rfl) Qg9) rfl (.buildSlice (cs:=[_]) hS (pc9 rfl X4) X19 Qs9 Qz9 rfl rfl rfl rfl ?_)))))));intro b31 w hS;refine .append (size:=1) (bytes:=16) hS (.of rfl) (.of rfl) (k:=0) rfl X19 X1m rfl rfl rfl rfl rfl rfl rfl ⟨by omega,by unfold maxLen; omega⟩ rfl ?_;intro v32 w hS;obtain ⟨a32,c32,rfl,hcap32,_⟩:=hS.vecSlice (k:=0) (v:=v32) rfl;refine .q 1 rfl (.nil ?_);obtain ⟨p9,hp9,hx⟩:=X2t hS (k:=2) rfl q r hr;cases hp9
  refine .t 3 rfl (.val (.fo 1 rfl X6j rfl rfl X2y rfl) rfl (.val (.lo rfl hS (k:=1) rfl X5v rfl) rfl (.q 1 rfl (.val (.ii rfl rfl (by omega) (by omega) X1p Xu) rfl (.val (.fi 2 rfl Xr rfl rfl Qs9 rfl) rfl (.val (ldC (.of rfl) (hx 2 _ rfl) Qg9) rfl (.call Xrm rfl (ec9 rfl (ec9 rfl X0)) rfl (X9p tb room (some p) c l hl r.parent B _ I _ ((hS.pick 2 rfl).pick 2 rfl)) ?_)))))));rintro _ w ⟨rfl,hS⟩;refine .q 1 rfl (.nil ?_);refine ⟨(.slice a32 (D.length+1) c32,at0 l r.parent,D ++ [r]),⟨rfl,rfl,rfl,rfl,trivial⟩,⟨by (try dsimp only); rw [hp2,Xcj hwf hr,Yf]; rfl,Xkl l _,Xdd l _,?_⟩,by (try dsimp only); omega⟩;rw [Y0,Yv];exact (hS.pick 2 rfl)
 refine .exit (.seq (.q 2 rfl (.ret (X9 Tryz.results121 rfl ?_))));have hin:i<0:=by simp at hb11; omega
 rw [X7e l hin,Y9] at hp2;subst hp2;obtain ⟨ka,kc,rfl,hkc,_⟩:=hS.vecSlice (k:=0) rfl;obtain ⟨J,hJ,hRS,hS⟩:=hS.freezeVec (k:=0) rfl;exact ⟨_,rfl,J,ka,kc,rfl,hJ,hkc,hRS,hS⟩
theorem X3r:Tryz.prog.info? 54=some Tryz.t54:=by kernel_rfl
theorem Xjc:Bld Tryz.prog 114 [(0,1),(1,1)] [.int .i64 0,.slice none 0 0]:=X2n X6j Tryz.zeroValue114 (fun w=>by simp [go_sem])
theorem X3p (l:List Rec) (r:Rec):Xe (l ++ [r])=Xe l ++ X5 r:=by unfold Xe; simp
theorem X7l {r:Rec}:∀ {l:List Rec} {j:Nat},j<l.length→Xe (l.set j r)=(Xe l).take (j*10) ++ X5 r ++ (Xe l).drop (j*10+10)
 | [],j,h=>absurd h (by simp)
 | t::l,0,h=>by
  unfold Xe;rw [Y4q,Y1d,Y1v,Y1d,Y1v,Y25 (by exact Yu 10)];rfl
 | t::l,j+1,h=>by
  have h1:=X7l (r:=r) (l:=l) (j:=j) (by simpa using h);have e:∀ l:List Rec,Xe (t::l)=X5 t ++ Xe l:=fun l=>rfl
  rw [Y3f,e,e,h1,show (j+1)*10=(X5 t).length+j*10 by show (j+1)*10=10+j*10; omega,Y4i,Y3j,List.drop_length_add_append];simp only [Yf]
theorem Xrw (r:Rec):(X5 r).all Value.oneCell'=true:=rfl
theorem X5p:∀ (l:List Rec),(Xe l).all Value.oneCell'=true
 | []=>rfl
 | r::l=>by
  show (X5 r ++ Xe l).all Value.oneCell'=true
  rw [List.all_append,Xrw,X5p l]; rfl
theorem Xby (l:List Rec) (r:Rec):(put l r).length=l.length:=by
 unfold put;split
 ·rw [Y2a]
 ·rfl
def Xnb (n:Int):Int:=max 0 (min n 64)
theorem Xfu (n:Int) (B w:World) (I:Im) (As:List X7) (hS:Sat B w I As) :
  Cz 105 [I64 n] w fun v w'=>∃ tb,v=ptr tb 0∧Sat B w' I (blk tb [I64 (Xnb n),.slice none (([]:List Rec)).length 0] 114::Vec 54 10 (.slice none (([]:List Rec)).length 0) (([]:List Rec)).length (Xe (([]:List Rec)))::As):=by
 refine calls Tryz.func105 rfl Tryz.ntmps105 rfl (.seq (.q 1 rfl (.seq (.t 1 rfl (.val (.min2 (.of rfl) (.of rfl)) rfl (.val (.max2 (.of rfl) (.of rfl)) rfl (.val (.build (cs:=[_,_]) (pc9 rfl X4) Xjc rfl) rfl (.boxA (cs:=[_,_]) hS (.of rfl) rfl ?_))))))));intro b7 w hS;refine .q 1 rfl (.nil (.ret (X9 Tryz.results105 rfl ?_)));refine ⟨_,rfl,_,rfl,?_⟩;exact (hS.vecNil 54 10).pick 1 rfl
theorem Xt1 (tb:Nat) (room:Int) (a:Option Addr) (c:Nat) (l:List Rec) (hl:l.length≤100000) (r:Rec) (hn:r.name.length≤1000000) (hp:r.parent.length≤1000000) (B w:World) (I:Im) (hK:Known I) (hP:PreAt I) (As:List X7) (hS:Sat B w I (blk tb [I64 room,.slice a l.length c] 114::Vec 54 10 (.slice a l.length c) l.length (Xe l)::As)) :
  Cz 64 [ptr tb 0,.agg (X5 r).toArray] w fun v w'=>v=I64 (Xb5 l r:Nat)∧Sat B w' I (blk tb [I64 room,.slice a (put l r).length c] 114::Vec 54 10 (.slice a (put l r).length c) (put l r).length (Xe (put l r))::As):=by
 refine calls Tryz.func64 rfl Tryz.ntmps64 rfl (.seq (.region (.boxA (cs:=[_,_,_,_,_,_,_,_,_,_]) hS (.of rfl) rfl ?_)));intro b3 w hS;refine .q 1 rfl (.nil (.seq (.seq (.region ?_))));refine .val (.ldsW (cs:=[_,_,_,_,_,_,_,_,_,_]) (.of rfl) hS (k:=0) rfl X3e Xu rfl) rfl (.call Tryz.func107 rfl (ec9 rfl X0) rfl (Xf6 r hn hp B _ I hK hP _ hS) ?_);rintro _ w ⟨rfl,hS⟩;refine .q 1 rfl (.nil ?_);refine .cond rfl (fun hb8=>?_) fun hb8=>?_
 ·refine .seq (.q 1 rfl (.ret (X9 Qr64 rfl ?_)));have h1:Xm r=false:=by simpa using hb8
  have hE:Xb5 l r=1:=by rw [Xb5,if_pos h1]
  have hQ:put l r=l:=by rw [put,if_neg (by rw [hE]; decide)]
  rw [hE,hQ];exact ⟨_,rfl,rfl,hS.drop (k:=0) rfl⟩
 refine .skip (.seq (.t 1 rfl ?_));refine .val (.fo 1 rfl Xr rfl rfl Qs9 rfl) rfl (.val (.lo rfl hS (k:=0) rfl Qg9 rfl) rfl (.call Xrm rfl (ec9 rfl (ec9 rfl X0)) rfl (X9p tb room a c l hl r.name B _ I _ ((hS.pick 2 rfl).pick 2 rfl)) ?_));rintro _ w ⟨rfl,hS⟩;replace hS:=hS.pick 2 rfl;refine .q 1 rfl (.nil (.seq (.block (.seq (.q 3 rfl ?_)))));refine .cond rfl (fun hb13=>?_) fun hb13=>?_
 ·refine .seq (.q 1 rfl (.ret (X9 Qr64 rfl ?_)));have h1:¬ Xm r=false:=by simpa using hb8
  have h2:get l r.name=none:=by
   rcases Tr.get_at l r.name with ⟨_,h2⟩ | ⟨j,t,h2,_⟩
   ·exact h2
   ·exfalso; rw [h2] at hb13; have:=of_decide_eq_true hb13; omega
  have hE:Xb5 l r=6:=by rw [Xb5,if_neg h1,h2]
  have hQ:put l r=l:=by rw [put,if_neg (by rw [hE]; decide)]
  rw [hE,hQ];exact ⟨_,rfl,rfl,hS.drop (k:=0) rfl⟩
 refine .seq ?_;obtain ⟨j,t,hj,ht,hn2⟩:∃ (j:Nat) (t:Rec),at0 l r.name=(j:Int)∧l[j]?=some t∧get l r.name=some t:=by
  rcases Tr.get_at l r.name with ⟨h1,_⟩ | ⟨j,t,h1,h2,_,h3⟩
  ·exfalso; rw [h1] at hb13; simp at hb13
  ·exact ⟨j,t,h1,h2,h3⟩
 have hjl:=(Y5.1 ht).1;obtain ⟨p,rfl,_⟩:=X2t hS (k:=2) rfl j t ht;rw [hj];refine .quiet (by kernel_rfl) (by kernel_rfl) hS (.val (fun w hS=>(.mo rfl)) rfl (.val (fun w hS=>(.no rfl)) rfl ?_));refine .val (fun w hS=>(by exact .fo 1 rfl X6j rfl rfl X2y rfl)) rfl ?_;refine .val (fun w hS=>(by exact (.lo rfl hS (k:=1) rfl X5v rfl))) rfl ?_;refine .val (fun w hS=>(.mo rfl)) rfl (.val (fun w hS=>(by exact .ii rfl rfl (by omega) (by omega) X1p Xu)) rfl ?_);refine .val (fun w hS=>(by exact .fi 2 rfl Xr rfl rfl Qs9 rfl)) rfl ?_;refine .val (fun w hS=>ldC (.of rfl) (by obtain ⟨p9,hp9,hx⟩:=X2t hS (k:=2) rfl j t ht; cases hp9; exact hx 2 _ rfl) Qg9) rfl ?_;refine .val (fun w hS=>(by exact .fo 2 rfl Xr rfl rfl Qs9 rfl)) rfl ?_;refine .val (fun w hS=>(by exact (.lo rfl hS (k:=0) rfl Qg9 rfl))) rfl ?_;refine .val (fun w hS=>(.nes (.of rfl) (.of rfl))) rfl (.val (fun w hS=>(.ao rfl)) rfl (.nil ?_));intro w hS;refine .cond rfl (fun hb16=>?_) fun hb16=>?_
 ·refine .seq (.q 1 rfl (.ret (X9 Qr64 rfl ?_)));have h1:¬ Xm r=false:=by simpa using hb8
  have h2:t.parent≠r.parent:=by simpa using hb16
  have hE:Xb5 l r=8:=by rw [Xb5,if_neg h1,hn2]; exact if_pos h2
  have hQ:put l r=l:=by rw [put,if_neg (by rw [hE]; decide)]
  rw [hE,hQ];exact ⟨_,rfl,rfl,hS.drop (k:=0) rfl⟩
 refine .skip (.seq ?_);obtain ⟨gb,cap9,rest9,hv9,hc1,hc2,hl1,hl2,hS⟩:=hS.vecOpen (k:=2) rfl (by omega);injection hv9 with hv1 hv2 hv3
 injection hv1 with hv1
 subst hv1;subst hv3;refine .drawn (fun w=>∃ R,Sat B w I (blk b3 [I64 r.kind,S r.name,S r.parent,S r.user,S r.service,S r.url,I64 r.made,I64 r.used,I64 r.uses,.bool r.fresh] 54::blk tb [I64 room,.slice (some ⟨gb,0,none⟩) l.length c] 114::blk gb (Xe l ++ rest9) 54::R)) (fun j=>!([7].contains j)) (by kernel_rfl) ?_;replace hS:=hS.drew; generalize w.drew=w at hS ⊢;have hH:=(((hS.pick 2 rfl).pick 2 rfl).pick 2 rfl)
 refine .tp (i:=0) rfl (by kernel_rfl) (fun w=>(.mo rfl)) rfl (.tp (i:=1) rfl (by kernel_rfl) (fun w=>(.no rfl)) rfl ?_);refine .tp (i:=2) rfl (by kernel_rfl) (fun w=>(.fo 1 rfl X6j rfl rfl X2y rfl)) rfl (.tk (i:=3) rfl (by kernel_rfl) ⟨_,hH⟩ (fun w ⟨R,hS⟩=>((.lo rfl hS (k:=1) rfl X5v rfl))) rfl (.tp (i:=4) rfl (by kernel_rfl) (fun w=>(.mo rfl)) rfl (.tk (i:=5) rfl (by kernel_rfl) ⟨_,hH⟩ (fun w ⟨R,hS⟩=>((.ldsW (cs:=[_,_,_,_,_,_,_,_,_,_]) (.of rfl) hS (k:=0) rfl X3e Xu rfl))) rfl (.tp (i:=6) rfl (by kernel_rfl) (fun w=>(.io rfl rfl (by omega) (by omega) X1p Xu)) rfl (.b1 7 (by kernel_rfl) rfl (.so hS (k:=2) rfl rfl rfl rfl Xu rfl (by simp only [Y0]; omega) ?_))))));intro w hS;rw [Yd,Y24 (by omega),Y25 (by omega),← Yf] at hS;replace hS:=hS.drop (k:=0) rfl;replace hS:=hS.vecShut (n:=l.length) (size:=10) (k:=1) rfl hc1 hc2 (by simp only [Y0,Yt,Yp,Y8,Yj]; omega) (by simp only [Y0,Yt,Yp,Y8,Yj]; omega);refine .nil ?_;refine And.intro (by intro h; cases h) ?_;refine .done (by kernel_rfl) (.seq (.q 1 rfl (.ret (X9 Qr64 rfl ?_))));have h1:¬ Xm r=false:=by simpa using hb8
 have h2:¬ t.parent≠r.parent:=by simpa using hb16
 have hE:Xb5 l r=0:=by rw [Xb5,if_neg h1,hn2]; exact if_neg h2
 have hQ:put l r=l.set j r:=by rw [put,if_pos hE,hj,Ym]
 rw [hE,Xby,hQ,X7l hjl];exact ⟨_,rfl,rfl,hS⟩
theorem Xmv (tb:Nat) (room:Int) (a:Option Addr) (c:Nat) (l:List Rec) (hl:l.length≤100000) (r:Rec) (hn:r.name.length≤1000000) (hp:r.parent.length≤1000000) (B w:World) (I:Im) (hK:Known I) (hP:PreAt I) (As:List X7) (hS:Sat B w I (blk tb [I64 room,.slice a l.length c] 114::Vec 54 10 (.slice a l.length c) l.length (Xe l)::As)) :
  Cz 48 [ptr tb 0,.agg (X5 r).toArray] w fun v w'=>v=I64 (X5j room l r:Nat)∧∃ a c,Sat B w' I (blk tb [I64 room,.slice a (add room l r).length c] 114::Vec 54 10 (.slice a (add room l r).length c) (add room l r).length (Xe (add room l r))::As):=by
 refine calls Tryz.func48 rfl Tryz.ntmps48 rfl (.seq (.region (.boxA (cs:=[_,_,_,_,_,_,_,_,_,_]) hS (.of rfl) rfl ?_)));intro b3 w hS;refine .q 1 rfl (.nil (.seq (.block (.seq (.region ?_)))));refine .val (.ldsW (cs:=[_,_,_,_,_,_,_,_,_,_]) (.of rfl) hS (k:=0) rfl X3e Xu rfl) rfl (.call Tryz.func107 rfl (ec9 rfl X0) rfl (Xf6 r hn hp B _ I hK hP _ hS) ?_);rintro _ w ⟨rfl,hS⟩;refine .q 2 rfl (.nil ?_);refine .cond rfl (fun hb5=>?_) fun hb5=>?_
 ·refine .seq (.q 1 rfl (.ret (X9 Qr48 rfl ?_)));have hE:X5j room l r=1:=by rw [X5j,if_pos (by simpa using hb5)]
  have hQ:add room l r=l:=by rw [add,if_neg (by rw [hE]; decide)]
  rw [hE,hQ];exact ⟨_,rfl,rfl,a,c,hS.drop (k:=0) rfl⟩
 have hc5:=hb5; simp only [Y6] at hc5;refine .seq (.t 1 rfl ?_);refine .val (.fo 1 rfl Xr rfl rfl Qs9 rfl) rfl (.val (.lo rfl hS (k:=0) rfl Qg9 rfl) rfl (.call Xrm rfl (ec9 rfl (ec9 rfl X0)) rfl (X9p tb room a c l hl r.name B _ I _ ((hS.pick 2 rfl).pick 2 rfl)) ?_));rintro _ w ⟨rfl,hS⟩;refine .q 2 rfl (.nil ?_);refine .cond rfl (fun hb9=>?_) fun hb9=>?_
 ·refine .seq (.q 1 rfl (.ret (X9 Qr48 rfl ?_)));have h1:¬ Xm r=false:=by simpa using hb5
  have hE:X5j room l r=7:=by rw [X5j,if_neg h1,if_pos (by simpa using hb9)]
  have hQ:add room l r=l:=by rw [add,if_neg (by rw [hE]; decide)]
  rw [hE,hQ];exact ⟨_,rfl,rfl,a,c,hS.drop (k:=2) rfl⟩
 have hc9:=hb9; simp only [Y6] at hc9;refine .seq (.region ?_);refine .val (.fo 2 rfl Xr rfl rfl Qs9 rfl) rfl (.val (.lo rfl hS (k:=2) rfl Qg9 rfl) rfl (.q 2 rfl (.gm rfl rfl rfl rfl ?_)));refine .gval rfl rfl (fun hg1=>(by exact .fo 2 rfl Xr rfl rfl Qs9 rfl)) rfl ?_;refine .gval rfl rfl (fun hg1=>(by exact (.ld (.gd hg1 rfl) hS (k:=2) rfl Qg9 rfl))) rfl ?_;refine .gcall (T:=fun w=>Sat B w I (blk tb [I64 room,.slice a l.length c] 114::Vec 54 10 (.slice a l.length c) l.length (Xe l)::blk b3 [I64 r.kind,S r.name,S r.parent,S r.user,S r.service,S r.url,I64 r.made,I64 r.used,I64 r.uses,.bool r.fresh] 54::As)) rfl rfl rfl Xrm rfl (fun hg1=>(X6 (.gd hg1 rfl) (X6 (.gd hg1 rfl) X0))) rfl (fun hg1=>X9p tb room a c l hl r.parent B _ I _ hS) hS ?_;rintro w hS;refine .gval rfl rfl (fun hg1=>(.lss (.gd hg1 rfl) (.of rfl))) rfl (.val (.pa rfl rfl rfl) rfl (.q 1 rfl (.nil ?_)));refine .cond rfl (fun hb15=>?_) fun hb15=>?_
 ·refine .seq (.q 1 rfl (.ret (X9 Qr48 rfl ?_)));have h1:¬ Xm r=false:=by simpa using hb5
  have h2:¬ 0≤at0 l r.name:=by simpa using hb9
  have hE:X5j room l r=6:=by rw [X5j,if_neg h1,if_neg h2,if_pos (by simpa using hb15)]
  have hQ:add room l r=l:=by rw [add,if_neg (by rw [hE]; decide)]
  rw [hE,hQ];exact ⟨_,rfl,rfl,a,c,hS.drop (k:=2) rfl⟩
 have hc15:=hb15; simp only [Y6] at hc15;refine .seq (.quiet (by kernel_rfl) (by kernel_rfl) hS (.val (fun w hS=>(.mo rfl)) rfl (.val (fun w hS=>(.no rfl)) rfl ?_)));refine .val (fun w hS=>(by exact .fo 1 rfl X6j rfl rfl X2y rfl)) rfl ?_;refine .val (fun w hS=>(by exact (.lo rfl hS (k:=0) rfl X5v rfl))) rfl ?_;refine .val (fun w hS=>(.lenSlice (.of rfl) X1p)) rfl (.val (fun w hS=>(.mo rfl)) rfl (.val (fun w hS=>(.no rfl)) rfl ?_));refine .val (fun w hS=>(by exact .fo 0 rfl X6j rfl rfl Qs3 rfl)) rfl ?_;refine .val (fun w hS=>(by exact (.lo rfl hS (k:=0) rfl Qg3 rfl))) rfl ?_;refine .val (fun w hS=>(.geq (.of rfl) (.of rfl))) rfl (.val (fun w hS=>(.ao rfl)) rfl (.nil ?_));intro w hS;refine .cond rfl (fun hb26=>?_) fun hb26=>?_
 ·have hc26:=hb26; simp only [Y6] at hc26;refine .seq (.q 1 rfl (.ret (X9 Qr48 rfl ?_)));have h1:¬ Xm r=false:=by simpa using hb5
  have h2:¬ 0≤at0 l r.name:=by simpa using hb9
  have h3:¬ (r.parent≠[]∧at0 l r.parent<0):=fun h=>by
   rcases hc15 with e | e
   ·exact h.1 e
   ·omega
  have hE:X5j room l r=5:=by rw [X5j,if_neg h1,if_neg h2,if_neg h3,if_pos (by simpa using hb26)]
  have hQ:add room l r=l:=by rw [add,if_neg (by rw [hE]; decide)]
  rw [hE,hQ];exact ⟨_,rfl,rfl,a,c,hS.drop (k:=2) rfl⟩
 have hc26:=hb26; simp only [Y6] at hc26;refine .skip (.seq (.drawn (fun w=>∃ R,Sat B w I (blk b3 [I64 r.kind,S r.name,S r.parent,S r.user,S r.service,S r.url,I64 r.made,I64 r.used,I64 r.uses,.bool r.fresh] 54::blk tb [I64 room,.slice a l.length c] 114::R)) (fun j=>!([10].contains j)) (by kernel_rfl) ?_));replace hS:=hS.drew; generalize w.drew=w at hS ⊢;have hH:=((hS.pick 0 rfl).pick 2 rfl)
 refine .tp (i:=0) rfl (by kernel_rfl) (fun w=>(.mo rfl)) rfl (.tp (i:=1) rfl (by kernel_rfl) (fun w=>(.mo rfl)) rfl (.tp (i:=2) rfl (by kernel_rfl) (fun w=>(.no rfl)) rfl ?_));refine .tp (i:=3) rfl (by kernel_rfl) (fun w=>(.fo 1 rfl X6j rfl rfl X2y rfl)) rfl (.tk (i:=4) rfl (by kernel_rfl) ⟨_,hH⟩ (fun w ⟨R,hS⟩=>((.lo rfl hS (k:=1) rfl X5v rfl))) rfl (.tk (i:=5) rfl (by kernel_rfl) ⟨_,hH⟩ (fun w ⟨R,hS⟩=>((.ldsW (cs:=[_,_,_,_,_,_,_,_,_,_]) (.of rfl) hS (k:=0) rfl X3e Xu rfl))) rfl (.b1 6 (by kernel_rfl) rfl (.buildSlice (cs:=[_,_,_,_,_,_,_,_,_,_]) hS (pc9 rfl X4) X1p Xu X5t rfl rfl rfl rfl ?_))));intro b43 w hS;refine .nil ?_;clear hH;have hH:=((hS.pick 1 rfl).pick 3 rfl)
 refine ⟨fun _ _=>⟨_,hH⟩,?_⟩;refine .b1 7 (by kernel_rfl) rfl (.append (size:=10) (bytes:=120) hS (.of rfl) (.of rfl) (k:=1) rfl X1p X3r rfl rfl rfl rfl rfl rfl rfl ⟨by omega,by unfold maxLen; omega⟩ rfl ?_);intro v44 w hS;obtain ⟨a44,c44,rfl,hcap44,_⟩:=hS.vecSlice (k:=1) (v:=v44) rfl;refine .nil ?_;clear hH;have hH:=((hS.pick 0 rfl).pick 2 rfl)
 refine ⟨fun _ _=>⟨_,hH⟩,?_⟩;refine .tp (i:=8) rfl (by kernel_rfl) (fun w=>(.no rfl)) rfl (.tp (i:=9) rfl (by kernel_rfl) (fun w=>(.fo 1 rfl X6j rfl rfl X2y rfl)) rfl (.b1 10 (by kernel_rfl) rfl (.s1 hS (k:=0) rfl rfl rfl rfl X2y (by simp) ?_)));intro w hS;refine .nil ?_;refine And.intro (by intro h; cases h) ?_;refine .done (by kernel_rfl) (.seq (.q 1 rfl (.ret (X9 Qr48 rfl ?_))));have h1:¬ Xm r=false:=by simpa using hb5
 have h2:¬ 0≤at0 l r.name:=by simpa using hb9
 have h3:¬ (r.parent≠[]∧at0 l r.parent<0):=fun h=>by
  rcases hc15 with e | e
  ·exact h.1 e
  ·omega
 have hE:X5j room l r=0:=by rw [X5j,if_neg h1,if_neg h2,if_neg h3,if_neg (by simpa using hb26)]
 have hQ:add room l r=l ++ [r]:=by rw [add,if_pos hE]
 rw [hE,hQ];refine ⟨_,rfl,rfl,a44,c44,?_⟩;rw [X3p,Y0];exact hS.drop (k:=2) rfl
theorem Xbq (a:Option Addr) (c:Nat) (l:List Rec) (hl:l.length≤100000) (B w:World) (I:Im) (As:List X7) (hS:Sat B w I (Vec 54 10 (.slice a l.length c) l.length (Xe l)::As)) :
  Cz 49 [.slice a l.length c] w fun v w'=>∃ v',v=v'∧Sat B w' I (Vec 54 10 v' l.length (Xe l)::Vec 54 10 (.slice a l.length c) l.length (Xe l)::As):=by
 refine calls Tryz.func49 rfl Tryz.ntmps49 rfl (.seq (.q 1 rfl (.seq (.seq (.t 1 rfl (.val (Ex.slNil (.of rfl) (.of rfl) X1p) rfl (.nil ?_)))))));refine .cond rfl (fun hb4=>?_) fun hb4=>?_
 ·refine .seq (.q 1 rfl (.ret (X9 Tryz.results49 rfl ?_)));cases a with
  | some p=>simp at hb4
  | none =>
  have h0:l=[]:=hS.pure_ (k:=0) rfl fun _ ⟨_,hh⟩=>by
   rcases hh with ⟨_,h,_⟩ | ⟨b,cap,r,hv,_⟩
   ·exact Yl h
   ·cases hv
  subst h0;exact ⟨_,rfl,.slice none 0 0,rfl,hS.vecNil 54 10⟩
 refine .skip (.seq (.region (.buildSlice (cs:=[]) hS X4 X1p Xu X5t rfl rfl rfl rfl ?_)));intro b5 w hS;refine .q 1 rfl ?_;replace hS:=hS.vecOf (k:=0) (E:=54) (size:=10) (n:=0) rfl rfl (Yo _);refine .appendV (size:=10) (bytes:=120) hS (.of rfl) (.of rfl) (k:=0) (j:=1) rfl rfl X1p (i:=Tryz.t54) (by kernel_rfl) rfl rfl rfl rfl (X5p l) ⟨by omega,by unfold maxLen; omega⟩ rfl ?_;intro v7 w hS;rw [Yd,Ye] at hS;refine .q 1 rfl (.nil (.ret (X9 Tryz.results49 rfl ?_)));exact ⟨_,rfl,v7,rfl,hS⟩
theorem Xa0 (tb:Nat) (room:Int) (a:Option Addr) (c:Nat) (l:List Rec) (hl:l.length≤100000) (B w:World) (I:Im) (As:List X7) (hS:Sat B w I (blk tb [I64 room,.slice a l.length c] 114::Vec 54 10 (.slice a l.length c) l.length (Xe l)::As)) :
  Cz 12 [ptr tb 0] w fun v w'=>∃ J ra rc,v=.slice ra l.length rc∧Le I J∧l.length≤rc∧RS J ra 10 l.length (Xe l)∧Sat B w' J (blk tb [I64 room,.slice a l.length c] 114::Vec 54 10 (.slice a l.length c) l.length (Xe l)::As):=by
 refine calls Tryz.func12 rfl Tryz.ntmps12 rfl (.seq (.q 1 rfl (.seq (.t 2 rfl ?_))));refine .val (.fo 1 rfl X6j rfl rfl X2y rfl) rfl (.val (.lo rfl hS (k:=0) rfl X5v rfl) rfl (.call Tryz.func49 rfl (ec9 rfl X0) rfl (Xbq a c l hl B _ I _ (hS.pick 1 rfl)) ?_));rintro _ w ⟨v7,rfl,hS⟩;refine .q 1 rfl (.nil (.ret (X9 Tryz.results12 rfl ?_)));obtain ⟨ra,rc,rfl,hrc,_⟩:=hS.vecSlice (k:=0) rfl;obtain ⟨J,hJ,hRS,hS⟩:=hS.freezeVec (k:=0) rfl;exact ⟨_,rfl,J,ra,rc,rfl,hJ,hrc,hRS,hS.pick 1 rfl⟩
def X4o (n limit:Int):Bool:=limit == 0 || decide (n<limit)
def Xi8 (kind:Int):Bool:=kind == 1 || kind == 4
def X7f (ps:List Int) (r:Rec) (now:Int):Bool:=decide (1≤r.kind) && decide (r.kind≤6) && (X4o (now - r.made) (ps.getD r.kind.toNat 0) && X4o (now - r.used) (ps.getD (7+r.kind.toNat) 0) && X4o r.uses (ps.getD (14+r.kind.toNat) 0))
def X4i (r:Rec) (now:Int):Rec:={ r with uses:=min (r.uses+1) 255,used:=max r.used now }
theorem X9t (n limit:Int) (w:World) :
  Cz 165 [I64 n,I64 limit] w fun v w'=>v=.bool (X4o n limit)∧w=w':=by
 refine calls Xou rfl Tryz.ntmps165 rfl (.seq (.q 1 rfl (.seq (.t 3 rfl (.gm rfl rfl rfl rfl (.gm rfl rfl rfl rfl (.gval rfl rfl (fun hg1=>(.lss (.gd hg1 rfl) (.gd hg1 rfl))) rfl (.val (.po rfl rfl rfl) rfl (.q 1 rfl (.nil (.ret (X9 Tryz.results165 rfl ?_))))))))))));exact ⟨_,rfl,rfl,rfl⟩
theorem Xnk (kind:Int) (w:World) :
  Cz 122 [I64 kind] w fun v w'=>v=.bool (Xi8 kind)∧w=w':=by
 refine calls Tryz.func122 rfl Tryz.ntmps122 rfl (.seq (.q 1 rfl (.seq (.t 3 rfl (.gm rfl rfl rfl rfl (.gval rfl rfl (fun hg1=>(.eql (.gd hg1 rfl) (.of rfl))) rfl (.val (.po rfl rfl rfl) rfl (.q 1 rfl (.nil (.ret (X9 Tryz.results122 rfl ?_)))))))))));exact ⟨_,rfl,rfl,rfl⟩
theorem Xlf (r:Rec) (now:Int) (hu:0≤r.uses) (hu2:r.uses≤255) (B w:World) (I:Im) (As:List X7) (hS:Sat B w I As) :
  Cz 65 [.agg (X5 r).toArray,I64 now] w fun v w'=>v=.agg (X5 (X4i r now)).toArray∧Sat B w' I As:=by
 refine calls Tryz.func65 rfl Tryz.ntmps65 rfl (.seq (.region (.boxA (cs:=[_,_,_,_,_,_,_,_,_,_]) hS (.of rfl) rfl ?_)));intro b2 w hS;refine .allocA (cs:=[_,_,_,_,_,_,_,_,_,_]) hS X5t rfl ?_;intro b4 w hS;refine .nil (.seq (.region ?_));refine .val (.fo 8 rfl Xr rfl rfl Qs3 rfl) rfl (.val (.lo rfl hS (k:=1) rfl Qg3 rfl) rfl (.run 1 rfl ⟨⟨by omega,by omega⟩,trivial⟩ (.val (.min2 (.of rfl) (.of rfl)) rfl ?_)));refine .val (.fo 8 rfl Xr rfl rfl Qs3 rfl) rfl (.s1 hS (k:=1) rfl rfl rfl rfl Qs3 (by simp) ?_);intro w hS;refine .nil (.seq (.region ?_));refine .val (.fo 7 rfl Xr rfl rfl Qs3 rfl) rfl (.val (.lo rfl hS (k:=1) rfl Qg3 rfl) rfl (.q 1 rfl (.val (.max2 (.of rfl) (.of rfl)) rfl ?_)));refine .val (.fo 7 rfl Xr rfl rfl Qs3 rfl) rfl (.s1 hS (k:=1) rfl rfl rfl rfl Qs3 (by simp) ?_);intro w hS;refine .nil (.seq (.region ?_));refine .val (.ldsW (cs:=[_,_,_,_,_,_,_,_,_,_]) (.of rfl) hS (k:=1) rfl X3e Xu rfl) rfl (.so hS (k:=0) rfl rfl rfl rfl Xu rfl (by simp) ?_);intro w hS;try simp only [Yh,Ye,Y9,Y7,Yg,Yn,Yd] at hS
 refine .nil (.ret ?_);refine Xjt (b:=_) (cs:=[_,_,_,_,_,_,_,_,_,_]) Tryz.results65 hS (k:=0) rfl X3e Xu rfl rfl ?_;exact ⟨_,rfl,rfl,(hS.drop (k:=0) rfl).drop (k:=0) rfl⟩
theorem Ex.arrAddrO {P:Program} {n:Nat} {L:Env} {w:World} {ty t:TypeId} {pos:String} {af:Array Edge} {g:Option (Nat×Bool)} {x y:Operand} {d:Option Nat} {b o:Nat} {m s:Nat} {e:TypeId} {i:Int} {q:IntKind} (hx:Ev n L x (ptr b o)) (hy:Ev n L y (.int q i)) (hi:0≤i) (hl:i<(m:Int)) (ht:P.underlying t=some (.array m e)) (hs:∀ w,(Go.sizeOf e).run P w=.ok s w) :
  Ex P n L w ⟨d,.indexAddr t x y,ty,pos,af,g⟩ (ptr b (o+i.toNat*s)) w:=by
 have h:=Ex.arrAddrI (P:=P) (w:=w) (d:=d) (ty:=ty) (pos:=pos) (af:=af) (g:=g) hx hy hi hl ht hs;rw [show (⟨b,o,none⟩:Addr).add (i.toNat*s)=⟨b,o+i.toNat*s,none⟩ from X13 b o _] at h;exact h
theorem X3k {ps:List Int} (hps:ps.length=21) {o k:Nat} (e:o=k) (h:k<21):(ps.map I64)[o]?=some (I64 (ps.getD k 0)):=by
 subst e;rw [Yy,Yc,Y4 (by omega)];rfl
theorem Xoc (ps:List Int) (hps:ps.length=21) (r:Rec) (now:Int) (hm:0≤r.made∧r.made≤1099511627776) (hu:0≤r.used∧r.used≤1099511627776) (hn:0≤now∧now≤1099511627776) (B w:World) (I:Im) (As:List X7) (hS:Sat B w I As) :
  Cz 123 [.agg (ps.map I64).toArray,.agg (X5 r).toArray,I64 now] w fun v w'=>v=.bool (X7f ps r now)∧Sat B w' I As:=by
 refine calls Tryz.func123 rfl Tryz.ntmps123 rfl (.seq (.region (.boxA (cs:=ps.map I64) hS (.of rfl) rfl ?_)));intro b3 w hS;refine .boxA (cs:=[_,_,_,_,_,_,_,_,_,_]) hS (.of rfl) rfl ?_;intro b4 w hS;refine .q 1 rfl (.nil (.seq (.seq (.region ?_))));refine .val (.fo 0 rfl Xr rfl rfl Qs3 rfl) rfl (.val (.lo rfl hS (k:=0) rfl Qg3 rfl) rfl (.q 2 rfl ?_));refine .gval rfl rfl (fun hg1=>(by exact .fo 0 rfl Xr rfl rfl Qs3 rfl)) rfl ?_;refine .gval rfl rfl (fun hg1=>(.ld (.gd hg1 rfl) hS (k:=0) rfl Qg3 rfl)) rfl (.gval rfl rfl (fun hg1=>(.gtr (.gd hg1 rfl) (.of rfl))) rfl (.val (.po rfl rfl rfl) rfl (.nil ?_)));refine .cond rfl (fun hb14=>?_) fun hb14=>?_
 ·have hc14:=hb14; simp only [Y6] at hc14;refine .seq (.q 1 rfl (.ret (X9 Tryz.results123 rfl ?_)));refine ⟨_,rfl,congrArg Value.bool ?_,(hS.drop (k:=0) rfl).drop (k:=0) rfl⟩
  have:(decide (1≤r.kind) && decide (r.kind≤6))=false:=by
   rcases hc14 with e | e
   ·rw [decide_eq_false (by omega)]; rfl
   ·rw [decide_eq_false (p:=r.kind≤6) (by omega),Y3n]
  rw [X7f,this]; rfl
 have hc14:=hb14; simp only [Y6] at hc14;refine .skip (.seq ?_);have hk1:1≤r.kind∧r.kind≤6:=by omega
 refine .quiet (by kernel_rfl) (by kernel_rfl) hS (.val (fun w hS=>(.mo rfl)) rfl ?_);refine .val (fun w hS=>(by exact .fo 6 rfl Xr rfl rfl Qs3 rfl)) rfl ?_;refine .val (fun w hS=>(.lo rfl hS (k:=0) rfl Qg3 rfl)) rfl (.val (fun w hS=>(.sub (.of rfl) (.of rfl) ⟨by omega,by omega⟩)) rfl ?_);refine .val (fun w hS=>(by exact .fo 0 rfl Xr rfl rfl Qs3 rfl)) rfl ?_;refine .val (fun w hS=>(.lo rfl hS (k:=0) rfl Qg3 rfl)) rfl (.val (fun w hS=>(by exact .fo 0 rfl Xca rfl rfl Xdu rfl)) rfl ?_);refine .val (fun w hS=>(Ex.arrAddrO (i:=r.kind) (.of rfl) (.of rfl) (by omega) (by omega) Xdf Qs3)) rfl (.val (fun w hS=>(.lo rfl hS (k:=1) rfl Qg3 (X3k hps (o:=0+0+r.kind.toNat*1) (k:=r.kind.toNat) (by omega) (by omega)))) rfl (.call Xou rfl (ec9 rfl (ec9 rfl X0)) rfl (fun w hS=>X1q (X9t _ _ w) hS) (.val (fun w hS=>(.mo rfl)) rfl (.gval rfl rfl rfl (fun hg1 w hS=>(.mo rfl)) rfl ?_))));refine .gval rfl rfl rfl (fun hg1 w hS=>(by exact .fo 7 rfl Xr rfl rfl Qs3 rfl)) rfl ?_;refine .gval rfl rfl rfl (fun hg1 w hS=>(.ld (.gd hg1 rfl) hS (k:=0) rfl Qg3 rfl)) rfl (.gval rfl rfl rfl (fun hg1 w hS=>(.sub (.gd hg1 rfl) (.gd hg1 rfl) ⟨by omega,by omega⟩)) rfl ?_);refine .gval rfl rfl rfl (fun hg1 w hS=>(by exact .fo 0 rfl Xr rfl rfl Qs3 rfl)) rfl ?_;refine .gval rfl rfl rfl (fun hg1 w hS=>(.ld (.gd hg1 rfl) hS (k:=0) rfl Qg3 rfl)) rfl (.gval rfl rfl rfl (fun hg1 w hS=>(by exact .fo 7 rfl Xca rfl rfl Xdu rfl)) rfl ?_);refine .gval rfl rfl rfl (fun hg1 w hS=>(Ex.arrAddrO (i:=r.kind) (.gd hg1 rfl) (.gd hg1 rfl) (by omega) (by omega) Xdf Qs3)) rfl (.gval rfl rfl rfl (fun hg1 w hS=>(.ld (.gd hg1 rfl) hS (k:=1) rfl Qg3 (X3k hps (o:=0+7+r.kind.toNat*1) (k:=7+r.kind.toNat) (by omega) (by omega)))) rfl (.gcall rfl rfl rfl Xou rfl (fun hg1=>(X6 (.gd hg1 rfl) (X6 (.gd hg1 rfl) X0))) rfl (fun hg1 w hS=>X1q (X9t _ _ w) hS) (.val (fun w hS=>(.pa rfl rfl rfl)) rfl (.val (fun w hS=>(.mo rfl)) rfl ?_))));refine .gval rfl rfl rfl (fun hg1 w hS=>(by exact .fo 8 rfl Xr rfl rfl Qs3 rfl)) rfl ?_;refine .gval rfl rfl rfl (fun hg1 w hS=>(.ld (.gd hg1 rfl) hS (k:=0) rfl Qg3 rfl)) rfl (.gval rfl rfl rfl (fun hg1 w hS=>(by exact .fo 0 rfl Xr rfl rfl Qs3 rfl)) rfl ?_);refine .gval rfl rfl rfl (fun hg1 w hS=>(.ld (.gd hg1 rfl) hS (k:=0) rfl Qg3 rfl)) rfl (.gval rfl rfl rfl (fun hg1 w hS=>(by exact .fo 14 rfl Xca rfl rfl Xdu rfl)) rfl ?_);refine .gval rfl rfl rfl (fun hg1 w hS=>(Ex.arrAddrO (i:=r.kind) (.gd hg1 rfl) (.gd hg1 rfl) (by omega) (by omega) Xdf Qs3)) rfl (.gval rfl rfl rfl (fun hg1 w hS=>(.ld (.gd hg1 rfl) hS (k:=1) rfl Qg3 (X3k hps (o:=0+14+r.kind.toNat*1) (k:=14+r.kind.toNat) (by omega) (by omega)))) rfl (.gcall rfl rfl rfl Xou rfl (fun hg1=>(X6 (.gd hg1 rfl) (X6 (.gd hg1 rfl) X0))) rfl (fun hg1 w hS=>X1q (X9t _ _ w) hS) (.val (fun w hS=>(.pa rfl rfl rfl)) rfl (.val (fun w hS=>(.ao rfl)) rfl (.nil ?_)))));intro w hS;refine .ret (X9 Tryz.results123 rfl ?_);refine ⟨_,rfl,congrArg Value.bool ?_,(hS.drop (k:=0) rfl).drop (k:=0) rfl⟩;rw [X7f,decide_eq_true hk1.1,decide_eq_true hk1.2];rfl
def Xnm (ps:List Int) (name:List UInt8) (now:Int) (r:Rec):Bool:=((r.name == name) || Xi8 r.kind) && !X7f ps r now
def X4h (ps:List Int) (l:List Rec) (name:List UInt8) (now:Int):Bool:=!(path l name).any (Xnm ps name now) && decide (0<(path l name).length)
theorem Xe9 (l:List Rec):∀ (f:Nat) (i:Int) (r:Rec),r∈X4l l f i→∃ j:Nat,l[j]?=some r
 | 0,_,r,h=>by simp [X4l] at h
 | f+1,i,r,h=>by
  rw [X4l] at h;split at h
  ·simp at h
  ·split at h
   ·rename_i t ht
    rcases Y18.1 h with e | e
    ·subst e; exact ⟨_,ht⟩
    ·exact Xe9 l f _ r e
   ·simp at h
theorem Xio {l:List Rec} {name:List UInt8} {r:Rec} (h:r∈path l name):∃ j:Nat,l[j]?=some r:=Xe9 l _ _ r h
theorem X6q {r:Rec} (h:Xm r=true):(0≤r.made∧r.made≤1099511627776)∧(0≤r.used∧r.used≤1099511627776)∧0≤r.uses∧r.uses≤255:=by
 unfold Xm at h;simp only [Yq,decide_eq_true_eq] at h
 omega
theorem Xj0 (tb:Nat) (room:Int) (a:Option Addr) (c:Nat) (l:List Rec) (hl:l.length≤100000) (hwf:Wf l) (ps:List Int) (hps:ps.length=21) (name:List UInt8) (now:Int) (hn:0≤now∧now≤1099511627776) (B w:World) (I:Im) (As:List X7) (hS:Sat B w I (blk tb [I64 room,.slice a l.length c] 114::Vec 54 10 (.slice a l.length c) l.length (Xe l)::As)) :
  Cz 62 [ptr tb 0,.agg (ps.map I64).toArray,S name,I64 now] w fun v w'=>∃ J,Le I J∧v=.bool (X4h ps l name now)∧Sat B w' J (blk tb [I64 room,.slice a l.length c] 114::Vec 54 10 (.slice a l.length c) l.length (Xe l)::As):=by
 refine calls Tryz.func62 rfl Tryz.ntmps62 rfl (.seq (.region (.boxA (cs:=ps.map I64) hS (.of rfl) rfl ?_)));intro b5 w hS;refine .q 1 rfl (.nil (.seq (.t 2 rfl (.call Tryz.func121 rfl (ec9 rfl (ec9 rfl X0)) rfl (Xqs tb room a c l hl hwf name B _ I _ ((hS.pick 2 rfl).pick 2 rfl)) ?_))));rintro _ w ⟨J,pa,pc,rfl,hJ,hpc,hRS,hS⟩;have hpl:=Xdh hwf name;refine .q 1 rfl (.nil (.seq (.seq (.region (.run 3 rfl ⟨⟨_,X19⟩,trivial⟩ (.nil (.block (.loop (σ:=Nat) (fun i=>[(0,ptr tb 0),(2,S name),(3,I64 now),(5,ptr b5 0),(9,.slice pa (path l name).length pc),(17,.slice pa (path l name).length pc),(18,I64 ((path l name).length:Nat)),(19,I64 (i:Nat))]) (fun i w=>i≤(path l name).length∧(∀ (j:Nat) r,j<i→(path l name)[j]?=some r→Xnm ps name now r=false)∧Sat B w J (blk tb [I64 room,.slice a l.length c] 114::Vec 54 10 (.slice a l.length c) l.length (Xe l)::blk b5 (ps.map I64) 26::As)) (fun i=>(path l name).length - i) 0 ⟨rfl,rfl,rfl,rfl,rfl,rfl,rfl,rfl,trivial⟩ ⟨Yo _,fun _ _ h=>absurd h (by omega),hS⟩ ?_))))))));rintro i w ⟨hi,hno,hS⟩;refine .seq (.q 1 rfl (.seq ?_));refine .cond rfl (fun hb20=>?_) fun hb20=>?_
 ·have hc20:=hb20; simp only [Y6] at hc20;refine .skip (.seq (.block (.seq ?_)));obtain ⟨r,hr⟩:∃ r,(path l name)[i]?=some r:=⟨_,Y4 (by omega)⟩
  obtain ⟨q,hq⟩:=Xio (Yi hr);have hgd:getD l r.name=r:=by rw [getD,hwf.get_ hq]; rfl
  obtain ⟨ht1,ht2,_⟩:=X6q (hwf.right r (Yi hq));obtain ⟨p,rfl,hA⟩:=hRS.2 (by omega);have hnm:((path l name).map fun r=>S r.name)[i]?=some (S r.name):=by rw [Yy,hr]; rfl
  refine .region (.val (.ii rfl rfl (by omega) (by omega) X19 Qs9) rfl ?_);refine .val (ldC (.of rfl) (by have h9:=X2c hS hA hnm; simpa using h9) Qg9) rfl ?_;refine .q 1 rfl (.nil (.seq (.t 2 rfl (.call Xu6 rfl (ec9 rfl (ec9 rfl X0)) rfl (X7q tb room _ c l hl r.name B _ J _ hS) ?_))));rintro _ w ⟨rfl,hS⟩;rw [hgd];refine .q 3 rfl (.allocA (cs:=[_,_,_,_,_,_,_,_,_,_]) hS X5t rfl ?_);intro b12 w hS;refine .so hS (k:=0) rfl rfl rfl rfl Xu rfl (by simp) ?_;intro w hS;try simp only [Yh,Ye,Y9,Y7,Yg,Yn,Yd] at hS
  refine .q 1 rfl (.nil (.seq (.t 4 rfl ?_)));refine .gval rfl rfl (fun hg1=>(by exact .fo 0 rfl Xr rfl rfl Qs3 rfl)) rfl ?_;refine .gval rfl rfl (fun hg1=>(by exact (.ld (.gd hg1 rfl) hS (k:=0) rfl Qg3 rfl))) rfl ?_;refine .gcall (T:=fun w=>Sat B w J (blk b12 [I64 r.kind,S r.name,S r.parent,S r.user,S r.service,S r.url,I64 r.made,I64 r.used,I64 r.uses,.bool r.fresh] 54::blk tb [I64 room,.slice a l.length c] 114::Vec 54 10 (.slice a l.length c) l.length (Xe l)::blk b5 (ps.map I64) 26::As)) rfl rfl rfl Tryz.func122 rfl (fun hg1=>(X6 (.gd hg1 rfl) X0)) rfl (fun hg1=>X1q (Xnk _ w) hS) hS ?_;rintro w hS;refine .val (.po rfl rfl rfl) rfl (.q 1 rfl ?_);refine .gval rfl rfl (fun hg1=>(.lds (vs:=ps.map I64) (.of rfl) hS (k:=3) rfl Xth Xka (by rw [Y10]; exact hps) (fun j v hj=>by rw [Yd]; exact hj))) rfl ?_;refine .gval rfl rfl (fun hg1=>(by exact (.ldsW (cs:=[_,_,_,_,_,_,_,_,_,_]) (.of rfl) hS (k:=0) rfl X3e Xu rfl))) rfl ?_;refine .gm rfl rfl rfl rfl (.gcall (T:=fun w=>Sat B w J (blk b12 [I64 r.kind,S r.name,S r.parent,S r.user,S r.service,S r.url,I64 r.made,I64 r.used,I64 r.uses,.bool r.fresh] 54::blk tb [I64 room,.slice a l.length c] 114::Vec 54 10 (.slice a l.length c) l.length (Xe l)::blk b5 (ps.map I64) 26::As)) rfl rfl rfl Tryz.func123 rfl (fun hg1=>(X6 (.gd hg1 rfl) (X6 (.gd hg1 rfl) (X6 (.gd hg1 rfl) X0)))) rfl (fun hg1=>Xoc ps hps r now ht1 ht2 hn B _ J _ hS) hS ?_);rintro w hS;refine .gval rfl rfl (fun hg1=>(.not (.gd hg1 rfl))) rfl (.val (.pa rfl rfl rfl) rfl (.nil ?_));refine .cond rfl (fun hb43=>?_) fun hb43=>?_
  ·refine .seq (.q 1 rfl (.ret (X9 Tryz.results62 rfl ?_)));refine ⟨_,rfl,J,hJ,congrArg Value.bool ?_,(hS.drop (k:=0) rfl).drop (k:=2) rfl⟩
   have:(path l name).any (Xnm ps name now)=true:=Y1w.2 ⟨r,Yi hr,hb43⟩
   rw [X4h,this]; rfl
  have hc43:=hb43; simp only [Y6] at hc43;refine .skip (.region (.run 2 rfl ⟨⟨by omega,by omega⟩,trivial⟩ (.nil ?_)));refine ⟨i+1,⟨rfl,rfl,rfl,rfl,rfl,rfl,rfl,rfl,trivial⟩,⟨by (try dsimp only); omega,fun j t hj ht=>?_,hS.drop (k:=0) rfl⟩,by (try dsimp only); omega⟩;rcases Yr j i with h1 | h1
  ·exact hno j t h1 ht
  ·have e:j=i:=by omega
   subst e;rw [hr] at ht; cases ht;exact hb43
 have hc20:=hb20; simp only [Y6] at hc20;refine .exit (.seq (.region (.run 4 rfl ⟨⟨_,X19⟩,trivial⟩ (.nil (.ret (X9 Tryz.results62 rfl ?_))))));refine ⟨_,rfl,J,hJ,congrArg Value.bool ?_,hS.drop (k:=2) rfl⟩
 have:(path l name).any (Xnm ps name now)=false:=by
  rw [Y2i];intro r hr;obtain ⟨j,hj,hjr⟩:=Y39 hr;rw [hno j r (by omega) (by rw [Y4 hj,hjr])];decide
 rw [X4h,this]
 simp
def letC (c:UInt8):Bool:=(decide ((97:Int)≤(c.toNat:Int)) && decide ((c.toNat:Int)≤122)) || (decide ((65:Int)≤(c.toNat:Int)) && decide ((c.toNat:Int)≤90))
def X6b (s:List UInt8) (lo least most:Int):Bool:=(s.all fun c=>!(decide ((c.toNat:Int)<lo) || decide ((126:Int)<(c.toNat:Int)))) && (decide (least≤(s.length:Int)) && decide ((s.length:Int)≤most))
theorem Xk1 (c:UInt8) (w:World) :
  Cz 229 [U8 c.toNat] w fun v w'=>v=.bool (letC c)∧w=w':=by
 refine calls Tryz.func229 rfl Tryz.ntmps229 rfl (.seq (.q 1 rfl (.seq (.t 3 rfl (.gm rfl rfl rfl rfl (.gval rfl rfl (fun hg1=>(.leq (.gd hg1 rfl) (.of rfl))) rfl (.val (.pa rfl rfl rfl) rfl (.q 1 rfl (.gm rfl rfl rfl rfl (.gval rfl rfl (fun hg1=>(.geq (.gd hg1 rfl) (.of rfl))) rfl (.gval rfl rfl (fun hg1=>(.move (.gd hg1 rfl))) rfl (.gval2 rfl rfl rfl (fun hg1 hg2=>(.mo rfl)) rfl (.gval2 rfl rfl rfl (fun hg1 hg2=>(.leq (.gd2 hg1 hg2 rfl) (.of rfl))) rfl (.gval rfl rfl (fun hg1=>(.pand (.gd hg1 rfl) (.gd hg1 rfl) (.of rfl))) rfl (.val (.po rfl rfl rfl) rfl (.q 1 rfl (.nil (.ret (X9 Tryz.results229 rfl ?_)))))))))))))))))));exact ⟨_,rfl,rfl,rfl⟩
theorem Xc9 (s:List UInt8) (lo least most:Int) (hs:s.length≤9223372036854775807) (B w:World) (I:Im) (As:List X7) (hS:Sat B w I As) :
  Cz 196 [S s,.int .u8 lo,I64 least,I64 most] w fun v w'=>v=.bool (X6b s lo least most)∧Sat B w' I As:=by
 refine calls Tryz.func196 rfl Tryz.ntmps196 rfl (.seq (.q 1 rfl (.seq (.seq (.region (.run 3 rfl ⟨Qu9,trivial⟩ (.nil (.block (.loop (σ:=Nat) (fun i=>[(0,S s),(1,.int .u8 lo),(2,I64 least),(3,I64 most),(11,I64 (s.length:Nat)),(12,I64 (i:Nat))]) (fun i w=>i≤s.length∧(∀ (j:Nat) c,j<i→s[j]?=some c→(decide ((c.toNat:Int)<lo) || decide ((126:Int)<(c.toNat:Int)))=false)∧Sat B w I As) (fun i=>s.length - i) 0 ⟨rfl,rfl,rfl,rfl,rfl,rfl,trivial⟩ ⟨Yo _,fun _ _ h=>absurd h (by omega),hS⟩ ?_)))))))));rintro i w ⟨hi,hno,hS⟩;refine .seq (.q 1 rfl (.seq ?_));refine .cond rfl (fun hb13=>?_) fun hb13=>?_
 ·have hc13:=hb13; simp only [Y6] at hc13;refine .skip (.seq (.block (.seq (.q 2 rfl (.seq (.region (.run 6 rfl ⟨⟨⟨by omega,by omega⟩,Qu9⟩,trivial⟩ (.gm rfl rfl rfl rfl (.gm rfl rfl rfl rfl ?_)))))))));refine .gval rfl rfl (fun hg1=>(.index (.gd hg1 rfl) (.gd hg1 rfl) (by (try simp only [Y6] at hg1); omega) (by (try simp only [Y6] at hg1); omega) Qu9)) rfl ?_;refine .gval rfl rfl (fun hg1=>(.gtr (.gd hg1 rfl) (.of rfl))) rfl (.val (.po rfl rfl rfl) rfl (.nil ?_));refine .cond rfl (fun hb25=>?_) fun hb25=>?_
  ·have hc25:=hb25; simp only [Y6] at hc25;refine .seq (.q 1 rfl (.ret (X9 Tryz.results196 rfl ?_)));refine ⟨_,rfl,congrArg Value.bool ?_,hS⟩
   have:(s.all fun c=>!(decide ((c.toNat:Int)<lo) || decide ((126:Int)<(c.toNat:Int))))=false:=by
    rw [Y2e];exact ⟨_,Yi (Xx (show i<s.length by omega)),by rw [hb25]; decide⟩
   rw [X6b,this]; rfl
  have hc25:=hb25; simp only [Y6] at hc25;refine .skip (.region (.run 2 rfl ⟨⟨by omega,by omega⟩,trivial⟩ (.nil ?_)));refine ⟨i+1,⟨rfl,rfl,rfl,rfl,rfl,rfl,trivial⟩,⟨by (try dsimp only); omega,fun j c hj hc=>?_,hS⟩,by (try dsimp only); omega⟩;rcases Yr j i with h1 | h1
  ·exact hno j c h1 hc
  ·have e:j=i:=by omega
   subst e;rw [Xx (show j<s.length by omega)] at hc; cases hc;exact hb25
 have hc13:=hb13; simp only [Y6] at hc13;refine .exit (.seq (.region (.run 5 rfl ⟨Qu9,trivial⟩ (.gm rfl rfl rfl rfl (.gval rfl rfl (fun hg1=>(.len (.gd hg1 rfl) Qu9)) rfl (.gm rfl rfl rfl rfl (.gval rfl rfl (fun hg1=>(.leq (.gd hg1 rfl) (.gd hg1 rfl))) rfl (.val (.pa rfl rfl rfl) rfl (.q 1 rfl (.nil (.ret (X9 Tryz.results196 rfl ?_))))))))))));refine ⟨_,rfl,congrArg Value.bool ?_,hS⟩
 have:(s.all fun c=>!(decide ((c.toNat:Int)<lo) || decide ((126:Int)<(c.toNat:Int))))=true:=by
  rw [Y1b];intro c hc;obtain ⟨j,hj,hjr⟩:=Y39 hc;rw [hno j c (by omega) (by rw [Y4 hj,hjr])];rfl
 rw [X6b,this];rfl
end Go.Proofs.YtfibbpgikjggfaaGreatDoor
namespace Tr
open Tk
inductive Und (l:List Rec) (k:List UInt8):List UInt8→Prop
 | self:Und l k k
 | step {i:Nat} {r:Rec} (hr:l[i]?=some r) (h:Und l k r.parent):Und l k r.name
theorem Und.trans {l:List Rec} {a b c:List UInt8} (h:Und l a b) (k:Und l b c):Und l a c:=by
 induction k with
 | self=>exact h
 | step hr _ ih=>exact .step hr ih
theorem X6u {l:List Rec} {name x:List UInt8} (h:x∈X1y l name):name≠[]∧∃ (i:Nat) (r:Rec),l[i]?=some r∧r.parent=name∧r.name=x:=by
 unfold X1y Xj8 at h;obtain ⟨r,hr,hx⟩:=Y28.1 h;obtain ⟨h1,h2⟩:=Y3w.1 hr;simp only [Yq,decide_eq_true_eq] at h2
 obtain ⟨i,hi,he⟩:=Y39 h1;exact ⟨h2.1,i,r,by rw [Y4 hi,he],h2.2,hx⟩
theorem Xfa {l:List Rec} (hw:Wf l) {name k:List UInt8} (h:k∈X1y l name):at0 l name<at0 l k∧0≤at0 l k∧0≤at0 l name:=by
 obtain ⟨h0,i,r,hr,hp,hn⟩:=X6u h;have h1:=(hw.up i r hr)
 have h2:=hw.at_ hr;subst hp; subst hn;rcases h1.1 with e | e
 ·exact absurd e h0
 ·rw [h2]; exact ⟨h1.2,by omega,e⟩
theorem X71 {l:List Rec}:∀ (n:Nat) (name x:List UInt8),x∈Xk l n name→Und l name x
 | 0,_,_,h=>by simp [Xk] at h
 | n+1,name,x,h=>by
  rw [Xk,Y18] at h;rcases h with e | h
  ·subst e; exact .self
  ·obtain ⟨k,hk,hx⟩:=Y3r.1 h;obtain ⟨_,i,r,hr,hp,hn⟩:=X6u hk;subst hp; subst hn;exact (Und.step hr .self).trans (X71 n _ _ hx)
theorem Xr5 {l:List Rec} (hw:Wf l) {k x:List UInt8} (h:Und l k x):k=x∨at0 l k<at0 l x:=by
 induction h with
 | self=>exact .inl rfl
 | step hr _ ih =>
  have h1:=(hw.up _ _ hr).2;rw [hw.at_ hr];rcases ih with e | e
  ·rw [← e] at h1; exact .inr h1
  ·exact .inr (by omega)
theorem Xtb {l:List Rec} (hw:Wf l) {a b x:List UInt8} (h:Und l a x):Und l b x→Und l a b∨Und l b a:=by
 induction h with
 | self=>exact fun k=>.inr k
 | @step i r hr h ih =>
  intro k;generalize hy:r.name=y at k;cases k with
  | self=>rw [← hy]; exact .inl (.step hr h)
  | step hs hp =>
   have e:=hw.one _ _ _ _ hr hs hy;subst e;rw [hr] at hs;cases hs
   exact ih hp
theorem Xjs {l:List Rec} (hw:Wf l) (name:List UInt8):(X1y l name).Nodup:=by
 unfold X1y Xj8;have h1:(l.map Rec.name).Nodup:=by
  rw [List.Nodup,Y31];intro i j hi hj hij e;simp only [Y10] at hi hj
  simp only [Y3b] at e
  have:=hw.one i j l[i] l[j] (Y4 hi) (Y4 hj) e
  omega
 exact h1.sublist ((Y4j (l:=l)).map Rec.name)
theorem X57 {l:List Rec} (hw:Wf l):∀ (n:Nat) (name:List UInt8),(Xk l n name).Nodup
 | 0,_=>by simp [Xk]
 | n+1,name=>by
  rw [Xk,Y32];constructor
  ·intro h;obtain ⟨k,hk,hx⟩:=Y3r.1 h;have h1:=Xfa hw hk;rcases Xr5 hw (X71 n k name hx) with e | e
   ·rw [e] at h1; omega
   ·omega
  ·rw [List.Nodup,List.pairwise_flatMap];refine ⟨fun k _=>X57 hw n k,?_⟩;refine List.Pairwise.imp_of_mem ?_ (Xjs hw name);intro a b ha hb hne x hx y hy e;subst e;have key:∀ {p q:List UInt8},p∈X1y l name→q∈X1y l name→p≠q→Und l p q→False:=by
    intro p q hp hq hpq hu;cases hu with
    | self=>exact hpq rfl
    | step hr h =>
     rename_i r
     obtain ⟨_,i,s,hs,hsp,hsn⟩:=X6u hq;have e:=hw.one _ _ _ _ hr hs hsn.symm;subst e;rw [hr] at hs;cases hs
     rw [hsp] at h;have h1:=Xfa hw hp;rcases Xr5 hw h with e | e
     ·rw [e] at h1; omega
     ·omega
   rcases Xtb hw (X71 n a x hx) (X71 n b x hy) with h | h
   ·exact key ha hb hne h
   ·exact key hb ha (Ne.symm hne) h
theorem X7w {l:List Rec}:∀ (n:Nat) (name x:List UInt8),x∈Xk l n name→x=name∨∃ r∈l,r.name=x
 | 0,_,_,h=>by simp [Xk] at h
 | n+1,name,x,h=>by
  rw [Xk,Y18] at h;rcases h with e | h
  ·exact .inl e
  ·obtain ⟨k,hk,hx⟩:=Y3r.1 h;obtain ⟨_,i,r,hr,hp,hn⟩:=X6u hk;rcases X7w n k x hx with e | e
   ·exact .inr ⟨r,Yi hr,by rw [hn,e]⟩
   ·exact .inr e
theorem X9g {α:Type} [DecidableEq α]:∀ (a b:List α),a.Nodup→(∀ x∈a,x∈b)→a.length≤b.length
 | [],_,_,_=>Yo _
 | x::a,b,hn,hs=>by
  rw [Y32] at hn;have hx:x∈b:=hs x (by simp);have h1:=X9g a (b.erase x) hn.2 (fun y hy=>(List.mem_erase_of_ne (by intro e; subst e; exact hn.1 hy)).2 (hs y (by simp [hy])));rw [Y4w hx] at h1
  have:=Y54 hx
  rw [Y8]; omega
theorem Xez {l:List Rec} (hw:Wf l) (n:Nat) (name:List UInt8):(Xk l n name).length≤l.length+1:=by
 have h:=X9g (Xk l n name) (name::l.map Rec.name) (X57 hw n name) (fun x hx=>by
  rcases X7w n name x hx with e | ⟨r,hr,e⟩
  ·simp [e]
  ·exact Y2k _ (Y28.2 ⟨r,hr,e⟩))
 simpa using h
theorem X9d {l:List Rec} (hw:Wf l):∀ (n m:Nat) (name:List UInt8),0≤at0 l name→(l.length:Int) - at0 l name≤n→(l.length:Int) - at0 l name≤m→Xk l n name=Xk l m name
 | 0,_,name,_,h,_=>by have:=Xdd l name; omega
 | _+1,0,name,_,_,h=>by have:=Xdd l name; omega
 | n+1,m+1,name,h0,hn,hm=>by
  rw [Xk,Xk]
  congr 1
  rw [List.flatMap_def,List.flatMap_def]
  congr 1
  refine List.map_congr_left fun k hk=>?_
  have:=Xfa hw hk
  exact X9d hw n m k this.2.1 (by omega) (by omega)
theorem Xhl {l:List Rec} (hw:Wf l) (name:List UInt8):(below l name).length≤l.length:=by
 unfold below;split
 ·rename_i h0
  have h:=X9g (Xk l l.length name) (l.map Rec.name) (X57 hw _ name) (fun x hx=>by
   rcases X7w _ name x hx with e | ⟨r,hr,e⟩
   ·rcases X2o l name with ⟨h1,_⟩ | ⟨j,r,_,h2,h3,_⟩
    ·omega
    ·exact Y28.2 ⟨r,Yi h2,by rw [h3,e]⟩
   ·exact Y28.2 ⟨r,hr,e⟩)
  simpa using h
 ·simp
theorem Xbe {l:List Rec} {i:Nat} {r:Rec} (hr:l[i]?=some r) (h0:r.parent≠[]):∀ (n:Nat) (name:List UInt8),r.parent∈Xk l n name→r.name∈Xk l (n+1) name
 | 0,_,h=>by simp [Xk] at h
 | n+1,name,h=>by
  rw [Xk,Y18] at h ⊢;refine .inr (Y3r.2 ?_);rcases h with e | h
  ·refine ⟨r.name,?_,by rw [Xk]; simp⟩;unfold X1y Xj8;exact Y28.2 ⟨r,Y3w.2 ⟨Yi hr,by simp [← e,h0]⟩,rfl⟩
  ·obtain ⟨k,hk,hx⟩:=Y3r.1 h;exact ⟨k,hk,Xbe hr h0 n k hx⟩
theorem Xpy {l:List Rec} (hw:Wf l) {name:List UInt8} {i:Nat} {r:Rec} (hr:l[i]?=some r) (h0:r.parent≠[]) (h:r.parent∈below l name):r.name∈below l name:=by
 unfold below at h ⊢;split at h
 ·rename_i h1
  rw [if_pos h1,X9d hw l.length (l.length+1) name h1 (by omega) (by omega)];exact Xbe hr h0 _ _ h
 ·simp at h
theorem Wf.names {l:List Rec} (hw:Wf l):(l.map Rec.name).Nodup:=by
 rw [List.Nodup,Y31];intro i j hi hj hij e;simp only [Y10] at hi hj
 simp only [Y3b] at e
 have:=hw.one i j l[i] l[j] (Y4 hi) (Y4 hj) e
 omega
theorem Wf.split {l:List Rec} (hw:Wf l) {xs ys:List Rec} {r:Rec} (h:l=xs ++ r::ys):r.parent=[]∨∃ t∈xs,t.name=r.parent:=by
 have hr:l[xs.length]?=some r:=by rw [h]; simp
 obtain ⟨h1,h2⟩:=hw.up _ _ hr;rcases h1 with e | e
 ·exact .inl e
 ·rcases X2o l r.parent with ⟨h3,_⟩ | ⟨j,t,h3,h4,h5,_⟩
  ·omega
  ·refine .inr ⟨t,?_,h5⟩;rw [h,Yk (by omega)] at h4;exact Yi h4
theorem Wf.of {l:List Rec} (h1:∀ r∈l,Xm r=true) (h2:(l.map Rec.name).Nodup) (h3:∀ xs r ys,l=xs ++ r::ys→r.parent=[]∨∃ t∈xs,t.name=r.parent):Wf l:=by
 refine ⟨h1,fun i j r s hr hs e=>?_,fun i r hr=>?_⟩
 ·rw [List.Nodup,Y31] at h2;obtain ⟨hi,e1⟩:=Y5.1 hr;obtain ⟨hj,e2⟩:=Y5.1 hs;rcases Y4v i j with h | h | h
  ·exact absurd (by rw [Y3b,Y3b,e1,e2,e]) (h2 i j (by simpa using hi) (by simpa using hj) h)
  ·exact h
  ·exact absurd (by rw [Y3b,Y3b,e1,e2,e]) (h2 j i (by simpa using hj) (by simpa using hi) h)
 ·obtain ⟨hi,e1⟩:=Y5.1 hr;have hsp:l=l.take i ++ r::l.drop (i+1):=by
   rw [← e1,← Y1f hi]; exact (Y11 i l).symm
  rcases h3 _ _ _ hsp with e | ⟨t,ht,e⟩
  ·refine ⟨.inl e,?_⟩;rcases X2o l r.parent with ⟨h4,_⟩ | ⟨j,t,h4,h5,h6,_⟩
   ·omega
   ·exact absurd (h6.trans e) (X8b (h1 t (Yi h5)))
  ·obtain ⟨j,hj,e2⟩:=Y39 ht;rw [Yt] at hj;have h7:l[j]?=some t:=by rw [← e2,List.getElem_take]; exact Y4 (by omega)
   rcases X2o l r.parent with ⟨_,h5⟩ | ⟨q,u,h4,h5,h6,h8⟩
   ·exact absurd e (h5 t (Yi h7))
   ·have:q≤j:=Nat.le_of_not_lt fun hh=>h8 j t hh h7 e
    exact ⟨.inr (by omega),by omega⟩
theorem Wf.drop {l:List Rec} (hw:Wf l) (name:List UInt8):Wf (drop l name):=by
 refine Wf.of (fun r hr=>hw.right r (Y3w.1 hr).1) (hw.names.sublist (Y4j.map Rec.name)) fun xs r ys h=>?_
 obtain ⟨l1,l2,e1,e2,e3⟩:=List.filter_eq_append_iff.1 h;obtain ⟨m1,m2,e4,e5,e6,_⟩:=List.filter_eq_cons_iff.1 e3;have hsp:l=(l1 ++ m1) ++ r::m2:=by rw [e1,e4,Yf]
 have hr:l[(l1 ++ m1).length]?=some r:=by rw [hsp]; simp
 rcases hw.split hsp with e | ⟨t,ht,e⟩
 ·exact .inl e
 ·by_cases h0:r.parent=[]
  ·exact .inl h0
  ·refine .inr ⟨t,?_,e⟩;have hk:((below l name).contains t.name)=false:=by
    cases hc:(below l name).contains t.name with
    | false=>rfl
    | true =>
     have h1:=Xpy hw hr h0 (by rw [← e]; simpa using hc);have h2:(below l name).contains r.name=true:=by simpa using h1
     rw [h2] at e6; cases e6
   rcases Y16.1 ht with h1 | h1
   ·rw [← e2]; exact Y3w.2 ⟨h1,by rw [hk]; rfl⟩
   ·exact absurd (by rw [hk]; rfl) (e5 t h1)
theorem Xp3 (l:List Rec) (name:List UInt8):(drop l name).Sublist l:=Y4j
end Tr
namespace Go.Proofs.YtfibbpgikjggfaaGreatDoor
open Gk Ul Pc Tk Tr
theorem Xk8 (tb:Nat) (room:Int) (a:Option Addr) (c:Nat) (l:List Rec) (hl:l.length≤100000) (hwf:Wf l) (ob tx wx:Nat) (As:List X7):∀ (n:Nat) (name:List UInt8) (out:List (List UInt8)) (v:Value) (B w:World) (I:Im) (h0:0≤at0 l name) (hn:(l.length:Int) - at0 l name≤n) (hob:out.length+(Xk l n name).length≤1000000) (hS:Sat B w I (blk ob [v] 57::Vec 9 1 (v) (out).length ((out).map S)::blk tx [ptr tb 0] 39::blk wx [.func (.func 133) #[] [ptr ob 0,ptr tx 0,ptr wx 0].toArray] 181::blk tb [I64 room,.slice a l.length c] 114::Vec 54 10 (.slice a l.length c) l.length (Xe l)::As)),
  Calls Tryz.prog 133 [S name,ptr ob 0,ptr tx 0,ptr wx 0].toArray w (Ret fun _ w'=>∃ J v',Le I J∧Sat B w' J (blk ob [v'] 57::Vec 9 1 (v') ((out ++ Xk l n name)).length (((out ++ Xk l n name)).map S)::blk tx [ptr tb 0] 39::blk wx [.func (.func 133) #[] [ptr ob 0,ptr tx 0,ptr wx 0].toArray] 181::blk tb [I64 room,.slice a l.length c] 114::Vec 54 10 (.slice a l.length c) l.length (Xe l)::As)):=by
 intro n
 induction n with
 | zero=>intro name out v B w I h0 hn; have:=Xdd l name; omega
 | succ n ih =>
  intro name out v B w I h0 hn hob hS;have hob2:=hob;rw [Xk,Y8] at hob2;refine calls Tryz.func133 rfl Tryz.ntmps133 rfl (.seq (.region ?_));refine .val (.lo rfl hS (k:=0) rfl Xkb rfl) rfl (.q 1 rfl (.buildSlice (cs:=[_]) hS (pc9 rfl X4) X19 Qs9 Qz9 rfl rfl rfl rfl ?_));intro b9 w hS;refine .append (size:=1) (bytes:=16) hS (.of rfl) (.of rfl) (k:=1) rfl X19 X1m rfl rfl rfl rfl rfl rfl rfl ⟨by omega,by unfold maxLen; omega⟩ rfl ?_;intro v10 w hS;obtain ⟨a10,c10,rfl,hcap10,_⟩:=hS.vecSlice (k:=1) (v:=v10) rfl;refine .s1 hS (k:=0) rfl rfl rfl rfl Xk0 (by simp) ?_;intro w hS;refine .nil (.seq (.region ?_));refine .val (.lo rfl hS (k:=2) rfl Xdt rfl) rfl (.q 1 rfl (.call Tryz.func124 rfl (ec9 rfl (ec9 rfl X0)) rfl (Xhm tb room a c l hl name B _ I _ ((hS.pick 5 rfl).pick 5 rfl)) ?_));rintro _ w ⟨J,ra,rc,rfl,hJ,hrc,hRS,hS⟩;have hkl:=X9j l name;replace hS:=(((hS.pick 5 rfl).pick 5 rfl).pick 5 rfl).pick 5 rfl;try dsimp only [List.eraseIdx] at hS
  refine .run 2 rfl ⟨⟨_,X19⟩,trivial⟩ (.nil (.block (.loop (σ:=Nat×Value×Im) (fun ⟨i,v,J2⟩=>[(1,ptr ob 0),(2,ptr tx 0),(3,ptr wx 0),(13,.slice ra (X1y l name).length rc),(14,I64 ((X1y l name).length:Nat)),(15,I64 (i:Nat))]) (fun ⟨i,v,J2⟩ w=>i≤(X1y l name).length∧Le J J2∧Sat B w J2 (blk ob [v] 57::Vec 9 1 (v) ((out ++ name::((X1y l name).take i).flatMap (Xk l n))).length (((out ++ name::((X1y l name).take i).flatMap (Xk l n))).map S)::blk tx [ptr tb 0] 39::blk wx [.func (.func 133) #[] [ptr ob 0,ptr tx 0,ptr wx 0].toArray] 181::blk tb [I64 room,.slice a l.length c] 114::Vec 54 10 (.slice a l.length c) l.length (Xe l)::As)) (fun ⟨i,v,J2⟩=>(X1y l name).length - i) (0,_,J) ⟨rfl,rfl,rfl,rfl,rfl,rfl,trivial⟩ ⟨Yo _,Le.refl _,by simpa using hS⟩ ?_)));rintro ⟨i,v,J2⟩ w ⟨hi,hJ2,hS⟩;refine .seq (.q 1 rfl (.seq ?_));refine .cond rfl (fun hb16=>?_) fun hb16=>?_
  ·have hc16:=hb16; simp only [Y6] at hc16;refine .skip (.seq (.block (.seq ?_)));obtain ⟨k,hk⟩:∃ k,(X1y l name)[i]?=some k:=⟨_,Y4 (by omega)⟩
   have hkm:=Xfa hwf (Yi hk);have hnm:((X1y l name).map S)[i]?=some (S k):=by rw [Yy,hk]; rfl
   have hfl:(((X1y l name).take i).flatMap (Xk l n)).length+(Xk l n k).length≤((X1y l name).flatMap (Xk l n)).length:=by
    have e:=Y11 i (X1y l name);have e2:=Y1f (l:=X1y l name) (i:=i) (by omega);rw [(Y5.1 hk).2] at e2;rw [e2] at e;have e3:=congrArg (fun x=>(List.flatMap (Xk l n) x).length) e;simp only [Y1o,Y2h,Y0] at e3
    omega
   obtain ⟨p,rfl,hA⟩:=hRS.2 (by omega);refine .region (.val (.ii rfl rfl (by omega) (by omega) X19 Qs9) rfl ?_);refine .val (ldC (.of rfl) (by have h9:=X2c hS (hA.mono hJ2) hnm; simpa using h9) Qg9) rfl ?_;refine .q 1 rfl (.nil (.region ?_));refine .val (.lo rfl hS (k:=3) rfl Tryz.isAgg181 rfl) rfl (.q 1 rfl (.vcall (cap:=[ptr ob 0,ptr tx 0,ptr wx 0]) Tryz.func133 rfl (.of rfl) (ec9 rfl X0) rfl (ih k (out ++ name::((X1y l name).take i).flatMap (Xk l n)) v B w J2 hkm.2.1 (by omega) (by simp only [Y0,Y8,Xk] at hob ⊢; omega) hS) ?_));rintro _ w ⟨J3,v3,hJ3,hS⟩;refine .nil (.region (.run 2 rfl ⟨⟨by omega,by omega⟩,trivial⟩ (.nil ?_)));refine ⟨(i+1,v3,J3),⟨rfl,rfl,rfl,rfl,rfl,rfl,trivial⟩,⟨by (try dsimp only); omega,hJ2.trans hJ3,?_⟩,by (try dsimp only); omega⟩;rw [Y12,hk,Y1k,Y1o,Y2h,List.flatMap_nil,Y9,← Ys,← Yf];exact hS
  have hc16:=hb16; simp only [Y6] at hc16;refine .exit (X7n Tryz.results133 ?_);have hin:i=(X1y l name).length:=by omega
  subst hin;rw [Y13] at hS;exact ⟨_,rfl,J2,v,hJ.trans hJ2,hS⟩
theorem Xlq (tb:Nat) (room:Int) (a:Option Addr) (c:Nat) (l:List Rec) (hl:l.length≤100000) (hwf:Wf l) (name:List UInt8) (B w:World) (I:Im) (As:List X7) (hS:Sat B w I (blk tb [I64 room,.slice a l.length c] 114::Vec 54 10 (.slice a l.length c) l.length (Xe l)::As)) :
  Cz 81 [ptr tb 0,S name] w fun v w'=>∃ J ra rc,v=.slice ra (below l name).length rc∧Le I J∧(below l name).length≤rc∧RS J ra 1 (below l name).length ((below l name).map S)∧Sat B w' J (blk tb [I64 room,.slice a l.length c] 114::Vec 54 10 (.slice a l.length c) l.length (Xe l)::As):=by
 refine calls Tryz.func81 rfl Tryz.ntmps81 rfl (.seq (.region (.box1 hS (.of rfl) rfl rfl ?_)));intro b2 w hS;refine .q 1 rfl (.nil (.seq (.region (.alloc1 hS Qz57 rfl rfl ?_))));intro b5 w hS;refine .nil (.seq (.region (.alloc1 hS Tryz.zeroValue181 rfl rfl ?_)));intro b6 w hS;refine .nil (.seq (.region (.val (.makeFunc (ec9 rfl (ec9 rfl (ec9 rfl X0)))) rfl ?_)));refine .s1 hS (k:=0) rfl rfl rfl rfl Tryz.sizeOf181 (by simp) ?_;intro w hS;refine .nil (.seq (.seq (.region ?_)));refine .val (.lo rfl hS (k:=2) rfl Xdt rfl) rfl (.q 1 rfl (.call Xrm rfl (ec9 rfl (ec9 rfl X0)) rfl (X9p tb room a c l hl name B _ I _ ((hS.pick 4 rfl).pick 4 rfl)) ?_));rintro _ w ⟨rfl,hS⟩;replace hS:=((hS.pick 4 rfl).pick 4 rfl).pick 4 rfl;try dsimp only [List.eraseIdx] at hS
 refine .q 1 rfl (.nil ?_);refine .cond rfl (fun hb11=>?_) fun hb11=>?_
 ·have hc11:=hb11; simp only [Y6] at hc11;replace hS:=(((hS.vecNil 9 1).pick 1 rfl).pick 3 rfl)
  try dsimp only [List.eraseIdx] at hS
  have hS9:=(hS.pick 2 rfl).pick 3 rfl;try dsimp only [List.eraseIdx] at hS9
  have hS:=hS9;clear hS9;refine .region (.val (.lo rfl hS (k:=3) rfl Tryz.isAgg181 rfl) rfl (.q 1 rfl ?_));refine .vcall (cap:=[ptr b5 0,ptr b2 0,ptr b6 0]) Tryz.func133 rfl (.of rfl) (ec9 rfl X0) rfl (Xk8 tb room a c l hl hwf b5 b2 b6 As l.length name [] _ B w I (by simpa using hb11) (by omega) (by have:=Xez hwf l.length name; simp only [Yj]; omega) hS) ?_;rintro _ w ⟨J,v2,hJ,hS⟩;refine .nil (.seq (.region ?_));refine .val (.lo rfl hS (k:=0) rfl Xkb rfl) rfl (.q 1 rfl (.nil (.ret (X9 Tryz.results81 rfl ?_))));rw [Ye] at hS;have hbe:below l name=Xk l l.length name:=if_pos (by simpa using hb11);rw [hbe];obtain ⟨ka,kc,rfl,hkc,_⟩:=hS.vecSlice (k:=1) rfl;obtain ⟨J2,hJ2,hRS,hS⟩:=hS.freezeVec (k:=1) rfl;exact ⟨_,rfl,J2,ka,kc,rfl,hJ.trans hJ2,hkc,hRS,((hS.drop (k:=0) rfl).drop (k:=0) rfl).drop (k:=0) rfl⟩
 refine .skip (.seq (.region ?_));refine .val (.lo rfl hS (k:=1) rfl Xkb rfl) rfl (.q 1 rfl (.nil (.ret (X9 Tryz.results81 rfl ?_))));have hbe:below l name=[]:=if_neg (by simpa using hb11);rw [hbe];exact ⟨_,rfl,I,none,0,rfl,Le.refl _,Yu _,⟨rfl,fun h=>absurd h (by simp)⟩,((hS.drop (k:=0) rfl).drop (k:=0) rfl).drop (k:=0) rfl⟩
theorem Xik (p:List UInt8):∀ (l:List (List UInt8)) (i:Nat),decide (0≤Xgr p l i)=l.contains p
 | [],i=>rfl
 | x::l,i=>by
  rw [Xgr,List.contains_cons];split
  ·rename_i h
   subst h;rw [beq_self_eq_true,Bool.true_or,decide_eq_true_eq]; omega
  ·rename_i h
   rw [beq_eq_false_iff_ne.2 h,Y38,Xik p l (i+1)]
theorem Xff (a:Option Addr) (c:Nat) (l:List (List UInt8)) (hll:l.length≤100000) (p:List UInt8) (B w:World) (I:Im) (hA:RS I a 1 l.length (l.map S)) (As:List X7) (hS:Sat B w I As) :
  Cz 84 [.slice a l.length c,S p] w fun v w'=>v=.bool (l.contains p)∧Sat B w' I As:=by
 refine calls Tryz.func84 rfl Tryz.ntmps84 rfl (.seq (.q 1 rfl (.seq (.t 2 rfl (.call Xqg rfl (ec9 rfl (ec9 rfl X0)) rfl (X87 a c l hll p B _ I hA As hS) ?_)))));rintro _ w ⟨rfl,hS⟩;refine .q 2 rfl (.nil (.ret (X9 Tryz.results84 rfl ?_)));exact ⟨_,rfl,by rw [← Xik p l 0],hS⟩
theorem Xm9 (gb:Nat) (ga:Option Addr) (gc:Nat) (gn:List (List UInt8)) (hgl:gn.length≤100000) (r:Rec) (B w:World) (I:Im) (hA:RS I ga 1 gn.length (gn.map S)) (As:List X7) (hS:Sat B w I (blk gb [.slice ga gn.length gc] 57::As)) :
  Cz 83 [.agg (X5 r).toArray,ptr gb 0] w fun v w'=>v=.bool (gn.contains r.name)∧Sat B w' I (blk gb [.slice ga gn.length gc] 57::As):=by
 refine calls Tryz.func83 rfl Tryz.ntmps83 rfl (.seq (.region (.boxA (cs:=[_,_,_,_,_,_,_,_,_,_]) hS (.of rfl) rfl ?_)));intro b2 w hS;refine .q 1 rfl (.nil (.seq (.region ?_)));refine .val (.lo rfl hS (k:=1) rfl Xkb rfl) rfl (.val (.fo 1 rfl Xr rfl rfl Qs9 rfl) rfl (.val (.lo rfl hS (k:=0) rfl Qg9 rfl) rfl (.call Tryz.func84 rfl (ec9 rfl (ec9 rfl X0)) rfl (Xff ga gc gn hgl r.name B _ I hA _ hS) ?_)));rintro _ w ⟨rfl,hS⟩;refine .q 1 rfl (.nil (.ret (X9 Tryz.results83 rfl ?_)));exact ⟨_,rfl,rfl,hS.drop (k:=0) rfl⟩
theorem WL.clear {P:Program} {n:Nat} {ops:Array Oper} {K:X36} {rest:List Oper} {L:Env} {w B:World} {I:Im} {As:List X7} {k b o m cap s:Nat} {cs:List Value} {E e t ty:TypeId} {x:Operand} {z:Value} {pos:String} {af:Array Edge} (hS:Sat B w I As) (hk:As[k]?=some (blk b cs E)) (hx:Ev n L x (.slice (some (ad b o)) m cap)) (ht:P.underlying t=some (.slice e)) (hz:∀ w,(zeroValue e).run P w=.ok z w) (hs:z.cells.size=s) (h1:∀ v∈z.cells,v.oneCell'=true) (ho:o+m*s≤cs.length)
  (h:∀ w' cs',cs'.length=cs.length→cs'.take o=cs.take o→Sat B w' I (As.set k (blk b cs' E))→WL P n ops K rest L w'):WL P n ops K (⟨none,.call ⟨.builtin .clear,#[x],#[t]⟩,ty,pos,af,none⟩::rest) L w:=by
 subst hs;have go:∀ w' v,(∀ a,Holds n L a→(execOp a.eval (⟨none,.call ⟨.builtin .clear,#[x],#[t]⟩,ty,pos,af,none⟩:Oper)).run P w=.ok (.value v) w')→WL P n ops K rest L w'→WL P n ops K (⟨none,.call ⟨.builtin .clear,#[x],#[t]⟩,ty,pos,af,none⟩::rest) L w:=by
  intro w' v hx h a ha;refine wpList_plain rfl fun K' hK=>?_
  unfold Oper.wp;rw [hx a ha];exact hK _ _ (h _ (ha.skip v))
 have hb:=hS.block hk;have hzl:(Builtin.zeroCells z.cells m).toList.length=m*z.cells.size:=by rw [Y37,size_zeroCells]
 have hst:=run_storeCells_at P b o E (Builtin.zeroCells z.cells m).toList 0 cs.toArray w hb (by simp only [Y2c,hzl,Y3z]; exact ho) (fun v hv=>by
  rw [Array.mem_toList_iff] at hv;unfold Builtin.zeroCells at hv;obtain ⟨i,hi,rfl⟩:=Array.mem_map.1 hv;have hi2:i<m*z.cells.size:=by simpa using hi
  have hp:0<z.cells.size:=Nat.pos_of_ne_zero fun e=>by rw [e] at hi2; omega
  have hlt:=Y3c i hp;rw [getElem!_pos z.cells (i % z.cells.size) hlt];exact h1 _ (Array.getElem_mem hlt))
 simp only [Y2c] at hst
 cases m with
 | zero =>
  refine go w (.tuple #[]) (fun a ha=>?_) (h w cs rfl rfl ?_)
  ·simp [execOp,resolve,invoke,builtin,hx a ha,Builtin.clear_,run_underlying ht]
  ·have e:As.set k (blk b cs E)=As:=by
    apply Y26
    intro i;rw [Y27];split
    ·rename_i e; subst e
     split
     ·exact hk.symm
     ·rename_i hlt; rw [Y1u (by omega)]
    ·rfl
   rw [e]; exact hS
 | succ m =>
  refine go (w.setRow b _) (.tuple #[]) (fun a ha=>?_) (h _ _ ?_ ?_ (hS.write (o':=Xi (cs.take o ++ (Builtin.zeroCells z.cells (m+1)).toList ++ cs.drop (o+(Builtin.zeroCells z.cells (m+1)).toList.length)) E) hk rfl rfl rfl (setRow_heap w b _ _ E _ hb) fun c hc=>setRow_other w b c _ hc))
  ·simp [execOp,resolve,invoke,builtin,hx a ha,Builtin.clear_,run_underlying ht,hz,hst]
  ·simp only [Y0,Yt,Yp,hzl]; omega
  ·rw [Yf,Y24 (by rw [Yt]; omega),Y56,Nat.min_self]
theorem X6d {α:Type} (pr:α→Bool):∀ (l:List α) (i:Nat),(X24 pr l i=-1∧∀ r∈l,pr r=false)∨∃ (j:Nat) (r:α),X24 pr l i=((i+j:Nat):Int)∧l[j]?=some r∧pr r=true∧∀ t∈l.take j,pr t=false
 | [],i=>.inl ⟨rfl,fun r h=>by simp at h⟩
 | s::l,i=>by
  rw [X24]
  by_cases h:pr s=true
  ·rw [if_pos h]; exact .inr ⟨0,s,by simp,rfl,h,fun t ht=>by simp at ht⟩
  ·rw [if_neg h];have h':pr s=false:=by simpa using h
   rcases X6d pr l (i+1) with ⟨h1,h2⟩ | ⟨j,r,h1,h2,h3,h4⟩
   ·exact .inl ⟨h1,fun r hr=>(Y18.1 hr).elim (fun e=>e ▸ h') (h2 r)⟩
   ·refine .inr ⟨j+1,r,by rw [h1]; omega,by simpa using h2,h3,fun t ht=>?_⟩;rw [Y1x] at ht;rcases Y18.1 ht with e | ht
    ·exact e ▸ h'
    ·exact h4 t ht
theorem Xc1:∀ (l:List Rec) (i:Nat),(Xe l).take (i*10)=Xe (l.take i)
 | [],i=>by simp [Xe]
 | r::l,0=>by simp [Xe]
 | r::l,i+1=>by
  have e:∀ l:List Rec,Xe (r::l)=X5 r ++ Xe l:=fun l=>rfl
  rw [Y1x,e,e,← Xc1 l i,show (i+1)*10=(X5 r).length+i*10 by show (i+1)*10=10+i*10; omega,Y4i]
theorem Xaw (a:Option Addr) (c:Nat) (l:List Rec) (hl:l.length≤100000) (pr:Rec→Bool) (fid:FuncId) (fn:Func) (hfn:Tryz.prog.funcs[fid]?=some fn) (hcal:Xh fn=true) (capv:List Value) (Q:X7) (B w:World) (I:Im) (As:List X7) (hf:∀ (r:Rec) w (X:List X7),Sat B w I (Q::X)→Calls Tryz.prog fid ([Value.agg (X5 r).toArray] ++ capv).toArray w (Ret fun v w'=>v=.bool (pr r)∧Sat B w' I (Q::X))) (hS:Sat B w I (Q::Vec 54 10 (.slice a l.length c) l.length (Xe l)::As)) :
  Cz 82 [.slice a l.length c,.func (.func fid) #[] capv.toArray] w fun v w'=>v=.slice a (l.filter (fun x=>!pr x)).length c∧Sat B w' I (Q::Vec 54 10 (.slice a (l.filter (fun x=>!pr x)).length c) (l.filter (fun x=>!pr x)).length (Xe (l.filter (fun x=>!pr x)))::As):=by
 refine calls Tryz.func82 rfl Tryz.ntmps82 rfl (.seq (.q 1 rfl (.seq (.t 2 rfl (.call Tryz.func116 rfl (ec9 rfl (ec9 rfl X0)) rfl (X63 a c l hl pr fid fn hfn hcal capv B _ I _ (fun w h=>X2t h (k:=1) rfl) (fun r w h=>hf r w _ h) hS) ?_)))));rintro _ w ⟨rfl,hS⟩;refine .q 1 rfl (.nil (.seq (.seq (.q 2 rfl ?_))));refine .cond rfl (fun hb12=>?_) fun hb12=>?_
 ·refine .seq (.q 2 rfl (.ret (X9 Tryz.results82 rfl ?_)));refine ⟨_,rfl,?_⟩;have e:l.filter (fun x=>!pr x)=l:=by
   rcases X6d pr l 0 with ⟨_,h2⟩ | ⟨j,r,h1,_⟩
   ·exact List.filter_eq_self.2 (fun t ht=>by rw [h2 t ht]; rfl)
   ·exfalso; rw [h1] at hb12; simp at hb12
  rw [e];exact ⟨rfl,hS⟩
 have hc12:=hb12; simp only [Y6] at hc12;refine .skip (.seq (.seq ?_));obtain ⟨k,rk,hk1,hk2,hk3,hk4⟩:∃ (j:Nat) (r:Rec),X24 pr l 0=(j:Int)∧l[j]?=some r∧pr r=true∧∀ t∈l.take j,pr t=false:=by
  rcases X6d pr l 0 with ⟨h1,_⟩ | ⟨j,r,h1,h2,h3,h4⟩
  ·exfalso; rw [h1] at hb12; simp at hb12
  ·exact ⟨j,r,by rw [h1]; simp,h2,h3,h4⟩
 have hkl:=(Y5.1 hk2).1;rw [hk1];refine .region (.run 3 rfl ⟨⟨by omega,by omega⟩,trivial⟩ (.nil (.block ?_)));refine .loop (σ:=Nat×Nat×List Rec) (fun ⟨i,j,M⟩=>[(0,.slice a l.length c),(1,.func (.func fid) #[] capv.toArray),(5,I64 (i:Nat)),(6,I64 (j:Nat))]) (fun ⟨i,j,M⟩ w=>i<j∧j≤l.length∧M.length=l.length∧M.drop j=l.drop j∧M.take i=(l.take j).filter (fun x=>!pr x)∧Sat B w I (Q::Vec 54 10 (.slice a l.length c) l.length (Xe M)::As)) (fun ⟨i,j,M⟩=>l.length - j) (k,k+1,l) ⟨rfl,rfl,rfl,rfl,trivial⟩ ⟨by omega,by omega,rfl,rfl,by
  rw [Y12,hk2,Y1k,Y2n,List.filter_eq_self.2 (fun t ht=>by rw [hk4 t ht]; rfl)];simp [hk3],hS⟩ ?_
 rintro ⟨i,j,M⟩ w ⟨hij,hj,hM,hdr,htk,hS⟩;refine .seq (.seq (.region (.run 4 rfl ⟨⟨_,X1p⟩,trivial⟩ (.nil ?_))));refine .cond rfl (fun hb19=>?_) fun hb19=>?_
 ·have hc19:=hb19; simp only [Y6] at hc19;refine .skip (.seq (.block (.seq ?_)));obtain ⟨r,hr⟩:∃ r,l[j]?=some r:=⟨_,Y4 (by omega)⟩
  have hMr:M[j]?=some r:=by
   have h9:=congrArg (fun x=>x[0]?) hdr;simpa [hr] using h9
  have hS9:=hS;rw [← hM] at hS9;obtain ⟨p,hp9,hx⟩:=X2t hS9 (k:=1) rfl j r hMr;subst hp9;clear hS9;have hfl:((l.take (j+1)).filter (fun x=>!pr x))=((l.take j).filter (fun x=>!pr x)) ++ [r].filter (fun x=>!pr x):=by rw [Y12,hr,Y1k,Y2n]
  have hdr1:M.drop (j+1)=l.drop (j+1):=by rw [← Y1m,← Y1m,hdr]
  refine .t 2 rfl (.val (.ii rfl rfl (by omega) (by omega) X1p Xu) rfl (.val (ldsC (.of rfl) hx X3e Xu rfl) rfl (.allocA (cs:=[_,_,_,_,_,_,_,_,_,_]) hS X5t rfl ?_)));intro b7 w hS;refine .so hS (k:=0) rfl rfl rfl rfl Xu rfl (by simp) ?_;intro w hS;try simp only [Yh,Ye,Y9,Y7,Yg,Yn,Yd] at hS
  refine .nil (.seq (.t 1 rfl ?_));refine .val (.ldsW (cs:=[_,_,_,_,_,_,_,_,_,_]) (.of rfl) hS (k:=0) rfl X3e Xu rfl) rfl (.vcall (cap:=capv) hfn hcal (.of rfl) (ec9 rfl X0) rfl (hf r w _ (hS.pick 1 rfl)) ?_);rintro _ w ⟨rfl,hS⟩;replace hS:=hS.pick 1 rfl;try dsimp only [List.eraseIdx] at hS
  refine .q 1 rfl (.nil ?_);refine .cond rfl (fun hb29=>?_) fun hb29=>?_
  ·have hc29:=hb29; simp only [Y6] at hc29;refine .seq ?_;obtain ⟨gb,cap9,rest9,hv9,hc1,hc2,hl1,hl2,hS⟩:=hS.vecOpen (k:=2) rfl (by omega);injection hv9 with hv1 hv2 hv3
   (injection hv1 with hv1; subst hv1)
   subst hv3;have hl3:=X9r M;try dsimp only [List.set] at hS
   refine .t 2 rfl (.val (.ldsW (cs:=[_,_,_,_,_,_,_,_,_,_]) (.of rfl) hS (k:=0) rfl X3e Xu rfl) rfl (.val (.io rfl rfl (by omega) (by omega) X1p Xu) rfl (.so hS (k:=2) rfl rfl rfl rfl Xu rfl (by simp only [Y0]; omega) ?_)));intro w hS;rw [Yd,Y24 (by omega),Y25 (by omega),← Yf] at hS;replace hS:=hS.vecShut (n:=l.length) (size:=10) (k:=2) rfl hc1 hc2 (by simp only [Y0,Yt,Yp,Y8,Yj]; omega) (by simp only [Y0,Yt,Yp,Y8,Yj]; omega);try dsimp only [List.set] at hS
   have e9:(List.take (Int.toNat (i:Int)*10) (Xe M) ++ X5 r ++ List.drop (Int.toNat (i:Int)*10+10) (Xe M))=Xe (M.set i r):=by rw [Ym,X7l (by omega)]
   refine .nil (.region (.run 3 rfl ⟨⟨by omega,by omega⟩,trivial⟩ (.nil (.region (.run 3 rfl ⟨⟨by omega,by omega⟩,trivial⟩ (.nil ?_))))));refine ⟨(i+1,j+1,M.set i r),⟨rfl,rfl,rfl,rfl,trivial⟩,⟨by (try dsimp only); omega,by (try dsimp only); omega,by rw [Y2a]; exact hM,?_,?_,?_⟩,by (try dsimp only); omega⟩
   ·show (M.set i r).drop (j+1)=_
    rw [List.drop_set_of_lt (by omega),hdr1]
   ·show (M.set i r).take (i+1)=_
    rw [Y12,List.take_set_of_le (Yu _),htk,List.getElem?_set_self (by omega),hfl,Y2p,if_pos (by simpa using hb29)];rfl
   ·try dsimp only
    rw [← e9];exact hS.drop (k:=0) rfl
  have hc29:=hb29; simp only [Y6] at hc29;refine .skip (.region (.run 3 rfl ⟨⟨by omega,by omega⟩,trivial⟩ (.nil ?_)));refine ⟨(i,j+1,M),⟨rfl,rfl,rfl,rfl,trivial⟩,⟨by (try dsimp only); omega,by (try dsimp only); omega,hM,hdr1,?_,hS.drop (k:=0) rfl⟩,by (try dsimp only); omega⟩;rw [htk,hfl,Y2p,if_neg (by simpa using hb29)]
  simp
 have hc19:=hb19; simp only [Y6] at hc19;refine .exit (.seq ?_);have hjn:j=l.length:=by omega
 subst hjn;replace hS:=hS.pick 1 rfl;obtain ⟨gb,cap9,rest9,hv9,hc1,hc2,hl1,hl2,hS⟩:=hS.vecOpen (k:=0) rfl (by omega);injection hv9 with hv1 hv2 hv3
 subst hv1;subst hv3;have hl3:=X9r M;refine .t 2 rfl (.val (.slcFrom (.of rfl) (.of rfl) (by omega) (by omega) X1p Xu) rfl ?_);have e8:sliced (some (ad gb 0)) ((i:Int)).toNat l.length c 10=.slice (some (ad gb (0+(i:Int).toNat*10))) (l.length - i) (c - i):=by
  simp only [sliced,Ym,Y3g,X13]
  rw [if_neg (by omega)]
 rw [show (⟨gb,0,none⟩:Addr)=ad gb 0 from rfl,e8];refine WL.clear (s:=10) hS (k:=0) rfl (.of rfl) X1p X5t rfl (by decide) (by rw [Y0]; omega) ?_;intro w cs9 hcs1 hcs2 hS;refine .nil (.seq (.t 2 rfl (.val (.slcTo (.of rfl) (.of rfl) (by omega) (by omega) X1p Xu) rfl (.q 1 rfl (.nil (.ret (X9 Tryz.results82 rfl ?_)))))));rw [Xaj];refine ⟨_,rfl,?_⟩;have e1:(Xe M ++ rest9).take (i*10)=Xe (l.filter (fun x=>!pr x)):=by
  rw [Y24 (by omega),Xc1,htk,Yz (by omega)]
 have e2:(l.filter (fun x=>!pr x)).length=i:=by
  have h9:=congrArg List.length htk;rw [Yt,Yz (by omega)] at h9;omega
 have e3:cs9=Xe (l.filter (fun x=>!pr x)) ++ cs9.drop (i*10):=by
  rw [← e1];rw [show 0+(i:Int).toNat*10=i*10 by omega] at hcs2;rw [← hcs2]; exact (Y11 _ _).symm
 rw [e3] at hS;have e4:=X9r (l.filter (fun x=>!pr x));have e5:=congrArg List.length e3;rw [Y0] at e5;rw [Y0] at hcs1;replace hS:=hS.vecShut (n:=i) (size:=10) (k:=0) rfl (by omega) hc2 (by rw [e4,e2]) (by omega);rw [Ym,e2];exact ⟨rfl,hS.pick 1 rfl⟩
theorem X92 (tb:Nat) (room:Int) (a:Option Addr) (c:Nat) (l:List Rec) (hl:l.length≤100000) (hwf:Wf l) (name:List UInt8) (B w:World) (I:Im) (As:List X7) (hS:Sat B w I (blk tb [I64 room,.slice a l.length c] 114::Vec 54 10 (.slice a l.length c) l.length (Xe l)::As)) :
  Cz 33 [ptr tb 0,S name] w fun v w'=>∃ J ra rc,v=.slice ra (below l name).length rc∧Le I J∧(below l name).length≤rc∧RS J ra 1 (below l name).length ((below l name).map S)∧∃ a c,Sat B w' J (blk tb [I64 room,.slice a (drop l name).length c] 114::Vec 54 10 (.slice a (drop l name).length c) (drop l name).length (Xe (drop l name))::As):=by
 refine calls Qf33 rfl Tryz.ntmps33 rfl (.seq (.q 1 rfl (.seq (.t 2 rfl (.call Tryz.func81 rfl (ec9 rfl (ec9 rfl X0)) rfl (Xlq tb room a c l hl hwf name B _ I _ hS) ?_)))));rintro _ w ⟨J,ga,gc,rfl,hJ,hgc,hRS,hS⟩;refine .alloc1 hS Qz57 rfl rfl ?_;intro b5 w hS;refine .s1 hS (k:=0) rfl rfl rfl rfl Xk0 (by simp) ?_;intro w hS;refine .nil (.seq (.t 3 rfl ?_));refine .val (.fo 1 rfl X6j rfl rfl X2y rfl) rfl (.val (.lo rfl hS (k:=1) rfl X5v rfl) rfl (.call Tryz.func49 rfl (ec9 rfl X0) rfl (Xbq a c l hl B _ J _ ((hS.pick 1 rfl).pick 2 rfl)) ?_));rintro _ w ⟨v7,rfl,hS⟩;replace hS:=hS.pick 2 rfl;obtain ⟨va,vc,rfl,hvc,_⟩:=hS.vecSlice (k:=1) rfl;refine .val (.makeFunc (ec9 rfl X0)) rfl ?_;refine .call Tryz.func82 rfl (ec9 rfl (ec9 rfl X0)) rfl (Xaw va vc l hl (fun r=>(below l name).contains r.name) 83 _ Tryz.func83 rfl [ptr b5 0] (blk b5 [.slice ga (below l name).length gc] 57) B _ J _ (fun r w X h=>Xm9 b5 ga gc (below l name) (by have:=Xhl hwf name; omega) r B w J hRS X h) (by
    have h9:=((hS.pick 1 rfl).pick 3 rfl)
    try dsimp only [List.eraseIdx] at h9
    exact h9)) ?_
 rintro _ w ⟨rfl,hS⟩;rw [show l.filter (fun x=>!(below l name).contains x.name)=drop l name from rfl] at hS ⊢;refine .q 1 rfl (.val (.fo 1 rfl X6j rfl rfl X2y rfl) rfl (.s1 hS (k:=2) rfl rfl rfl rfl X2y (by simp) ?_));intro w hS;refine .nil (.seq (.region ?_));refine .val (.lo rfl hS (k:=0) rfl Xkb rfl) rfl (.q 1 rfl (.nil (.ret (X9 Tryz.results33 rfl ?_))));replace hS:=(hS.drop (k:=0) rfl).drop (k:=2) rfl;exact ⟨_,rfl,J,ga,gc,rfl,hJ,hgc,hRS,va,vc,hS.pick 1 rfl⟩
end Go.Proofs.YtfibbpgikjggfaaGreatDoor
namespace Gk
open Go
structure KeyK {β:Type} (D:TypeDesc) (K:β→Value):Prop where
 is:∀ b,MapKept.IsKey D (K b)
 inj:∀ a b,K a=K b→a=b
theorem keyS:KeyK .string S:=⟨fun _=>trivial,fun a b h=>by injection h with h; injection h with h; injection h⟩
def Xr2 {β:Type} (K:β→Value) (kv:List (β×Value)) (es:Array MapEntry):Prop:=es.toList.map (fun e=>(e.key,e.val))=kv.map fun p=>(K p.1,p.2)
def Xkd {β:Type} (K:β→Value) (b:Nat) (kv:List (β×Value)):X7:=fun h=>∃ es clk,Xr2 K kv es∧h=[(b,.map es clk)]
def MapI {β:Type} (I:Im) (K:β→Value) (b:Nat) (kv:List (β×Value)):Prop:=∃ es clk,Xr2 K kv es∧I b=some (.map es clk)
theorem MapI.mono {β:Type} {I J:Im} {K:β→Value} {b:Nat} {kv:List (β×Value)} (h:MapI I K b kv) (hl:Le I J):MapI J K b kv:=by
 obtain ⟨es,clk,h1,h2⟩:=h;exact ⟨es,clk,h1,hl _ _ h2⟩
section
variable {P:Program} {n:Nat} {K':X36} {L:Env} {w B:World} {ops:Array Oper} {rest:List Oper} {I:Im} {As:List X7} {β:Type} {K:β→Value} {D:TypeDesc} {kv:List (β×Value)} {k b:Nat} {t kt et ty:TypeId} {x y z:Operand} {pos:String} {af:Array Edge} {d:Nat} {g:Option (Nat×Bool)}
theorem X7y [BEq β] [LawfulBEq β] (hK:KeyK D K) (key:β):∀ (kv:List (β×Value)) (es:List MapEntry) (i:Nat),es.map (fun e=>(e.key,e.val))=kv.map (fun p=>(K p.1,p.2)) →
  (kv.lookup key=none∧Instr.findNow D (K key) es i=some none)∨∃ j v,kv.lookup key=some v∧Instr.findNow D (K key) es i=some (some (j,v))
 | [],[],_,_=>.inl ⟨rfl,rfl⟩
 | [],e::es,_,h=>by simp at h
 | p::kv,[],_,h=>by simp at h
 | p::kv,e::es,i,h=>by
  simp only [Y1d,List.cons.injEq,Prod.mk.injEq] at h
  obtain ⟨⟨h1,h2⟩,h3⟩:=h;have hk:MapKept.IsKey D e.key:=h1 ▸ hK.is _;obtain ⟨r,hr,hi⟩:=MapKept.sameNow_of_keys (hK.is key) hk;cases r with
  | true =>
   have e1:=hK.inj _ _ ((hi.1 rfl).trans h1);exact .inr ⟨i,p.2,by obtain ⟨p1,p2⟩:=p; simp only at e1; subst e1; simp [List.lookup,beq_self_eq_true],by simp [Instr.findNow,hr,h2]⟩
  | false =>
   have hne:key≠p.1:=fun q=>by have:=hi.2 (by rw [h1,q]); cases this
   have hl:(p::kv).lookup key=kv.lookup key:=by obtain ⟨p1,p2⟩:=p; simp only at hne; simp [List.lookup,beq_eq_false_iff_ne.2 hne]
   rcases X7y hK key kv es (i+1) h3 with ⟨e1,e2⟩ | ⟨j,v,e1,e2⟩
   ·exact .inl ⟨by rw [hl]; exact e1,by simp [Instr.findNow,hr,e2]⟩
   ·exact .inr ⟨j,v,by rw [hl]; exact e1,by simp [Instr.findNow,hr,e2]⟩
theorem Xh1 [BEq β] [LawfulBEq β] {ty:TypeId} {b:Nat} {es:Array MapEntry} {clk:Nat} {z:Value} (hK:KeyK D K) (hb:w.heap[b]?=some (.map es clk)) (he:Xr2 K kv es) (key:β) (ht:P.underlying t=some (.map kt et)) (hk:P.underlying kt=some D) (hz:∀ w,(zeroValue et).run P w=.ok z w) (ok:Bool) :
  (Instr.lookup t (.map (some b)) (K key) ok).run P w=.ok (if ok then .tuple #[(kv.lookup key).getD z,.bool (kv.lookup key).isSome] else (kv.lookup key).getD z) w:=by
 have hc:(Instr.checkKey es.isEmpty 10000 kt (K key)).run P w=.ok () w:=MapKept.run_checkKey hk (hK.is key) _ 9999;rcases X7y hK key kv es.toList 0 he with ⟨h1,h2⟩ | ⟨j,v,h1,h2⟩
 ·simp [Instr.lookup,run_underlying ht,MapKept.run_getObj_map hb,hc,MapKept.run_findKey hk h2,h1,hz,Result.andThen]
 ·simp [Instr.lookup,run_underlying ht,MapKept.run_getObj_map hb,hc,MapKept.run_findKey hk h2,h1,Result.andThen]
theorem Sat.mapNow (hS:Sat B w I As) (hk:As[k]?=some (Xkd K b kv)):∃ es clk,Xr2 K kv es∧w.heap[b]?=some (.map es clk):=by
 obtain ⟨g,hs,hg⟩:=hS;obtain ⟨h1,h2,hp,⟨es,clk,he,rfl⟩,_⟩:=hs.at_ hk;exact ⟨es,clk,he,(hg.perm hp).own b _ (by simp)⟩
theorem MapI.now (h:MapI I K b kv) (hS:Sat B w I As):∃ es clk,Xr2 K kv es∧w.heap[b]?=some (.map es clk):=by
 obtain ⟨es,clk,h1,h2⟩:=h;obtain ⟨g,hs,hg⟩:=hS;exact ⟨es,clk,h1,hg.imm _ _ h2⟩
theorem Ex.look2 [BEq β] [LawfulBEq β] {d:Option Nat} {z:Value} {key:β} (hK:KeyK D K) (hm:∃ es clk,Xr2 K kv es∧w.heap[b]?=some (.map es clk)) (hx:Ev n L x (.map (some b))) (hy:Ev n L y (K key)) (ht:P.underlying t=some (.map kt et)) (hk:P.underlying kt=some D) (hz:∀ w,(zeroValue et).run P w=.ok z w) :
  Ex P n L w ⟨d,.lookup t x y true,ty,pos,af,g⟩ (.tuple #[(kv.lookup key).getD z,.bool (kv.lookup key).isSome]) w:=fun a ha=>by
 obtain ⟨es,clk,he,hb⟩:=hm;have h:=Xh1 (ty:=ty) hK hb he key ht hk hz true;simp [execOp,hx a ha,hy a ha,h]
theorem WL.mkMap (K:β→Value) (hS:Sat B w I As) (hd:Nat.blt d n=true) (h:∀ b w',Sat B w' I (Xkd K b []::As)→WL P n ops K' rest ((d,.map (some b))::L) w'):WL P n ops K' (⟨some d,.makeMap t none,ty,pos,af,none⟩::rest) L w:=by
 have h2:Sat B (w.alloc (.map #[] 0)) I (Xkd K w.heap.size []::As):=(hS.alloc (.map #[] 0)).say (k:=0) rfl (A':=Xkd K w.heap.size []) fun g hg=>⟨#[],0,rfl,hg⟩
 refine .val (v:=.map (some w.heap.size)) (fun a ha=>?_) hd (h _ _ h2);have hr:=run_makeMap_plain (P:=P) w t;simp [execOp,hr]
theorem Xqh [BEq β] [LawfulBEq β] {val:Value} {key:β} (hK:KeyK D K) (hS:Sat B w I As) (hk:As[k]?=some (Xkd K b kv)) (hno:kv.lookup key=none) (ht:P.underlying t=some (.map kt et)) (hkt:P.underlying kt=some D) :
  ∃ w',(Instr.mapUpdate t (.map (some b)) (K key) val).run P w=.ok () w'∧Sat B w' I (As.set k (Xkd K b (kv ++ [(key,val)]))):=by
 obtain ⟨g,hs,hg⟩:=hS;obtain ⟨h1,h2,hp,⟨es,clk,he,rfl⟩,hset,_⟩:=hs.at_ hk;have hb:=(hg.perm hp).own b (.map es clk) (by simp);have hlt:b<w.heap.size:=(Y1c.1 hb).1;have hc:(Instr.checkKey false 10000 kt (K key)).run P w=.ok () w:=MapKept.run_checkKey hkt (hK.is key) _ 9999;have hf:Instr.findNow D (K key) es.toList 0=some none:=by
  rcases X7y hK key kv es.toList 0 he with ⟨_,h⟩ | ⟨j,v,h,_⟩
  ·exact h
  ·rw [hno] at h; cases h
 refine ⟨{ w with heap:=w.heap.setIfInBounds b (.map (es.push { key:=K key,val:=val,born:=clk }) (clk+1)) },?_,?_⟩
 ·simp [Instr.mapUpdate,run_underlying ht,MapKept.run_getObj_map hb,hc,MapKept.run_findKey hkt hf,MapKept.run_setObj_map _ hb,Result.andThen]
 ·-- the block is written
  have hS0:Sat B w I (As.set k (own b (.map es clk))):=by
   obtain ⟨g',hs',hp'⟩:=hset (own b (.map es clk)) [(b,.map es clk)] rfl;exact ⟨g',hs',hg.perm (hp.trans hp'.symm)⟩
  have hkl:k<As.length:=(Y5.1 hk).1;have hw:=hS0.write (k:=k) (b:=b) (o:=.map es clk) (w':={ w with heap:=w.heap.setIfInBounds b (.map (es.push { key:=K key,val:=val,born:=clk }) (clk+1)) }) (o':=.map (es.push { key:=K key,val:=val,born:=clk }) (clk+1)) (by simp [hkl]) rfl rfl rfl (MapKept.heap_set hb).1 (fun c hc=>(MapKept.heap_set hb).2 c hc);have hf2:=hw.say (k:=k) (A:=own b (.map (es.push { key:=K key,val:=val,born:=clk }) (clk+1))) (A':=Xkd K b (kv ++ [(key,val)])) (by simp [hkl]) fun g hg=>⟨_,_,by
   unfold Xr2 at he ⊢;rw [Array.toList_push,Yv,Yv,he];rfl,hg⟩
  simpa using hf2
theorem WL.mput [BEq β] [LawfulBEq β] {val:Value} {key:β} (hK:KeyK D K) (hS:Sat B w I As) (hk:As[k]?=some (Xkd K b kv)) (hx:Ev n L x (.map (some b))) (hy:Ev n L y (K key)) (hz:Ev n L z val) (hno:kv.lookup key=none) (ht:P.underlying t=some (.map kt et)) (hkt:P.underlying kt=some D)
  (h:∀ w',Sat B w' I (As.set k (Xkd K b (kv ++ [(key,val)])))→WL P n ops K' rest L w'):WL P n ops K' (⟨none,.mapUpdate t x y z,ty,pos,af,none⟩::rest) L w:=by
 obtain ⟨w',hr,hS'⟩:=Xqh (val:=val) hK hS hk hno ht hkt;refine .st (w':=w') (fun a ha=>?_) (h _ hS');simp [execOp,hx a ha,hy a ha,hz a ha,hr]
theorem Sat.freezeMap (hS:Sat B w I As) (hk:As[k]?=some (Xkd K b kv)):∃ J,Le I J∧MapI J K b kv∧Sat B w J (As.eraseIdx k):=by
 have hkl:k<As.length:=(Y5.1 hk).1;obtain ⟨⟨⟨es,clk⟩,he⟩,hS2⟩:=hS.opened (X:={ x:Array MapEntry×Nat // Xr2 K kv x.1 }) (T:=fun x=>own b (.map x.1.1 x.1.2)) hk fun g hg=>by
  obtain ⟨es,clk,he,rfl⟩:=hg;exact ⟨⟨(es,clk),he⟩,rfl⟩
 obtain ⟨J,h1,h2,h3⟩:=hS2.freeze (k:=k) (b:=b) (o:=.map es clk) (by simp [hkl]);rw [Y3k] at h3;exact ⟨J,h1,⟨es,clk,he,h2⟩,h3⟩
end
def X12 {α:Type} (cells:α→List Value) (l:List α):List Value:=(l.map cells).flatten
theorem Xed {α:Type} {cells:α→List Value} {s:Nat} (hc:∀ x,(cells x).length=s) {l:List α} {i j:Nat} {r:α} {v:Value} (hr:l[i]?=some r) (hj:(cells r)[j]?=some v):(X12 cells l)[i*s+j]?=some v:=by
 have hjs:j<s:=by rw [← hc r]; exact (Y5.1 hj).1
 have h2:=X52 (l.map cells) (fun c h=>by obtain ⟨x,_,rfl⟩:=Y28.1 h; exact hc x) i j hjs;rw [Yy,hr] at h2;exact h2.trans hj
def Xb2 {α:Type} (w:World) (cells:α→List Value) (s:Nat) (a:Option Addr) (l:List α):Prop:=∀ (i:Nat) (r:α),l[i]?=some r→∃ p,a=some p∧∀ (j:Nat) v,(cells r)[j]?=some v→w.cell? ((p.add (i*s)).add j)=some v
section
variable {P:Program} {n:Nat} {K:X36} {L:Env} {w B:World} {ops:Array Oper} {rest:List Oper} {I:Im} {As:List X7} {k:Nat} {ty t t' E:TypeId} {x y:Operand} {pos:String} {af:Array Edge} {g:Option (Nat×Bool)} {v:Value}
theorem Xl9 {α:Type} {cells:α→List Value} {s:Nat} {a:Option Addr} {l:List α} (hc:∀ x,(cells x).length=s) (hS:Sat B w I As) (hR:RS I a s l.length (X12 cells l)):Xb2 w cells s a l:=fun i r hr=>by
 obtain ⟨p,rfl,hA⟩:=hR.2 (by have:=(Y5.1 hr).1; omega);refine ⟨p,rfl,fun j v hj=>?_⟩;rw [Addr.add_add];exact X2c hS hA (Xed hc hr hj)
theorem Xih {α:Type} {cells:α→List Value} {s T cap:Nat} {a:Option Addr} {l:List α} (hc:∀ x,(cells x).length=s) (hS:Sat B w I As) (hk:As[k]?=some (Vec T s (.slice a l.length cap) l.length (X12 cells l))):Xb2 w cells s a l:=fun i r hr=>by
 have hi:=(Y5.1 hr).1;obtain ⟨g,cap',rest,hv,_,_,_,_,hS2⟩:=hS.vecOpen hk (by omega);injection hv with hv1 hv2 hv3
 have hlk:k<As.length:=(Y5.1 hk).1;have hb:w.heap[g]?=some (Xi (X12 cells l ++ rest) T):=hS2.block (k:=k) (by simp [hlk,blk]);refine ⟨⟨g,0,none⟩,hv1,fun j v hj=>?_⟩;rw [Addr.add_add,show (⟨g,0,none⟩:Addr).add (i*s+j)=ad g (0+(i*s+j)) from X13 g 0 _,Yd];refine Xy hb ?_;have h3:=Xed hc hr hj;rw [Yk (Y5.1 h3).1];exact h3
theorem Ex.ldR {d:Option Nat} {p:Addr} {s:Nat} {vs:List Value} (hx:Ev n L x (.pointer (some p))) (hv:∀ (j:Nat) v,vs[j]?=some v→w.cell? (p.add j)=some v) (ht:∀ w,(isAgg t).run P w=.ok true w) (hs:∀ w,(Go.sizeOf t).run P w=.ok s w)
  (hl:vs.length=s):Ex P n L w ⟨d,.load t x,ty,pos,af,g⟩ (.agg vs.toArray) w:=fun a ha=>by
 have h:=run_loadCells_list (P:=P) w p vs hv;rw [hl] at h;simp [execOp,hx a ha,Instr.loadAt,Instr.sureAddr,loadVar,ht,hs,h]
theorem Ex.ld1 {d:Option Nat} {p:Addr} {v:Value} (hx:Ev n L x (.pointer (some p))) (hv:w.cell? p=some v) (ht:∀ w,(isAgg t).run P w=.ok false w):Ex P n L w ⟨d,.load t x,ty,pos,af,g⟩ v w:=fun a hh=>by
 simp [execOp,hx a hh,Instr.loadAt,Instr.sureAddr,loadVar,ht,load,Sem.run,hv]
theorem WL.appendF {d E size m c nn:Nat} {a:Option Addr} {v:Value} {xs ys:List Value} {i:TypeInfo} {z:Value} {bytes:Nat} (hS:Sat B w I As) (hx:Ev n L x v) (hy:Ev n L y (.slice a m c)) (hr:RS I a size m ys)
  (hk:As[k]?=some (Vec E size v nn xs)) (ht:P.underlying t=some (.slice E)) (hi:P.info? E=some i) (hz:i.zero=some z) (hsize:i.size=size) (hby:i.bytes=bytes) (hzs:z.cells.size=size)
  (h1:ys.all Value.oneCell'=true) (h63:(nn+m)*bytes≤140737488355328∧nn+m≤maxLen) (hd:Nat.blt d n=true)
  (h:∀ v' w',Sat B w' I (As.set k (Vec E size v' (nn+m) (xs ++ ys)))→WL P n ops K rest ((d,v')::L) w') :
  WL P n ops K (⟨some d,.call ⟨.builtin .append,#[x,y],#[t,t]⟩,ty,pos,af,none⟩::rest) L w:=by
 rcases Y1r m with h0 | h0
 ·subst h0;have hy0:ys=[]:=Yl (by simpa using hr.1);subst hy0;obtain ⟨a0,c0,rfl,hc0,_⟩:=hS.vecSlice hk;have hr:(Builtin.append_ #[t,t] ty #[.slice a0 nn c0,.slice a 0 c]).run P w=.ok (.slice a0 nn c0) w:=by
   subst hsize;cases a0 <;> cases a <;> simp [Builtin.append_,run_underlying ht,Go.sizeOf,typeInfo,hi,Builtin.lenOf,Builtin.firstCells,loadCells,loadCellsFrom,storeCells,hc0]
  have h2:=h (.slice a0 nn c0) w (by
   have hlk:k<As.length:=(Y5.1 hk).1
   have:As.set k (Vec E size (.slice a0 nn c0) (nn+0) (xs ++ []))=As:=by
    rw [Y2c,Y9]
    have:=(Y5.1 hk).2
    rw [← this,Y43]
   rw [this]; exact hS)
  exact WL.val (w':=w) (fun a' ha=>by simp [execOp,resolve,invoke,builtin,hx a' ha,hy a' ha,hr]) hd h2
 ·obtain ⟨p,rfl,hA⟩:=hr.2 h0;obtain ⟨v',w',hr',hS'⟩:=X2h (P:=P) (ty:=ty) hS ht hi hz hsize hby hzs hk (p:=p) (m:=m) (c:=c) hr.1 h0 (fun q u hu=>X2c hS hA hu) (Y1b.1 h1) h63.2 h63.1
  exact WL.val (w':=w') (fun a' ha=>by simp [execOp,resolve,invoke,builtin,hx a' ha,hy a' ha,hr']) hd (h _ _ hS')
end
end Gk
namespace Go.Proofs.YtfibbpgikjggfaaGreatDoor
open Gk Ul Pc Tk Tr
abbrev Pr:=List UInt8×List UInt8
def X1f (p:Pr):List Value:=[S p.1,S p.2]
theorem pr_one (l:List Pr):(X12 X1f l).all Value.oneCell'=true:=by
 unfold X12
 induction l with
 | nil=>rfl
 | cons p l ih=>rw [Y1d,Y1v,List.all_append,ih]; rfl
structure Us where
 name:List UInt8
 pw:List UInt8
 attrs:List Pr
def X3l (u:Us) (a:Option Addr) (c:Nat):List Value:=[S u.name,S u.pw,.slice a u.attrs.length c]
def UsAt (I:Im) (u:Us) (l:List Value):Prop:=∃ a c,l=X3l u a c∧u.attrs.length≤c∧RS I a 2 u.attrs.length (X12 X1f u.attrs)
theorem UsAt.mono {I J:Im} {u:Us} {l:List Value} (h:UsAt I u l) (hl:Le I J):UsAt J u l:=by
 obtain ⟨a,c,e,h1,h2⟩:=h;exact ⟨a,c,e,h1,h2.mono hl⟩
def badW (i:Nat) (c:UInt8):Bool:=!letC c && (((i:Int) == 0) || (((decide ((c.toNat:Int)<48) || decide ((57:Int)<(c.toNat:Int))) && ((c.toNat:Int) != 45)) && ((c.toNat:Int) != 95)))
def X96:List UInt8→Nat→Bool
 | [],_=>true
 | c::r,i=>!badW i c && X96 r (i+1)
theorem X4p:∀ (s:List UInt8) (k:Nat),X96 s k=true ↔ ∀ (j:Nat) c,s[j]?=some c→badW (k+j) c=false
 | [],k=>by simp [X96]
 | c::r,k=>by
  rw [X96,Yq,X4p r (k+1)];constructor
  ·rintro ⟨h1,h2⟩ j d hd;cases j with
   | zero=>simp at hd; subst hd; simpa using h1
   | succ j=>rw [show k+(j+1)=k+1+j by omega]; exact h2 j d (by simpa using hd)
  ·intro h;refine ⟨by simpa using h 0 c rfl,fun j d hd=>?_⟩;rw [show k+1+j=k+(j+1) by omega];exact h (j+1) d (by simpa using hd)
def Xaz (s:List UInt8):Bool:=X96 s 0 && (!(s == []) && decide ((s.length:Int)≤60))
def Xnl (p:Pr):Bool:=!Xaz p.1 || !X6b p.2 32 0 60
def X70 (u:Us):Bool:=X6b u.name 33 1 32 && decide ((1:Int)≤(u.pw.length:Int)) && decide ((u.pw.length:Int)≤60) && decide ((u.attrs.length:Int)≤8) && !u.attrs.any Xnl
def X1j (p:Pr):Prop:=p.1.length≤maxLen∧p.2.length≤maxLen
theorem Xnv (s:List UInt8) (hs:s.length≤9223372036854775807) (B w:World) (I:Im) (As:List X7) (hS:Sat B w I As) :
  Cz 195 [S s] w fun v w'=>v=.bool (Xaz s)∧Sat B w' I As:=by
 refine calls Tryz.func195 rfl Tryz.ntmps195 rfl (.seq (.q 1 rfl (.seq (.seq (.region (.run 3 rfl ⟨Qu9,trivial⟩ (.nil (.block (.loop (σ:=Nat) (fun i=>[(0,S s),(6,I64 (s.length:Nat)),(7,I64 (i:Nat))]) (fun i w=>i≤s.length∧(∀ (j:Nat) c,j<i→s[j]?=some c→badW j c=false)∧Sat B w I As) (fun i=>s.length - i) 0 ⟨rfl,rfl,rfl,trivial⟩ ⟨Yo _,fun _ _ h=>absurd h (by omega),hS⟩ ?_)))))))));rintro i w ⟨hi,hno,hS⟩;refine .seq (.q 1 rfl (.seq ?_));refine .cond rfl (fun hb8=>?_) fun hb8=>?_
 ·have hc8:=hb8; simp only [Y6] at hc8;refine .skip (.seq (.block (.seq (.q 2 rfl (.seq (.region (.run 4 rfl ⟨⟨⟨by omega,by omega⟩,Qu9⟩,trivial⟩ (.nil (.seq (.t 1 rfl (.call Tryz.func229 rfl (ec9 rfl X0) rfl (Xk1 _ w) ?_)))))))))));rintro _ _ ⟨rfl,rfl⟩;refine .q 2 rfl (.gm rfl rfl rfl rfl (.gval rfl rfl (fun hg1=>(.eql (.gd hg1 rfl) (.of rfl))) rfl (.gval rfl rfl (fun hg1=>(.move (.gd hg1 rfl))) rfl (.gval2 rfl rfl rfl (fun hg1 hg2=>(.mo rfl)) rfl (.gval2 rfl rfl rfl (fun hg1 hg2=>(.lss (.gd2 hg1 hg2 rfl) (.of rfl))) rfl (.gval2 rfl rfl rfl (fun hg1 hg2=>(.move (.gd2 hg1 hg2 rfl))) rfl (.gval3 rfl rfl rfl (fun hg1 hg2 hg3=>(.mo rfl)) rfl (.gval3 rfl rfl rfl (fun hg1 hg2 hg3=>(.gtr (.gd3 hg1 hg2 hg3 rfl) (.of rfl))) rfl (.gval2 rfl rfl rfl (fun hg1 hg2=>(.por (.gd2 hg1 hg2 rfl) (.of rfl) (.gd2 hg1 hg2 rfl))) rfl (.gval2 rfl rfl rfl (fun hg1 hg2=>(.move (.gd2 hg1 hg2 rfl))) rfl (.gval3 rfl rfl rfl (fun hg1 hg2 hg3=>(.mo rfl)) rfl (.gval3 rfl rfl rfl (fun hg1 hg2 hg3=>(.neq (.gd3 hg1 hg2 hg3 rfl) (.of rfl))) rfl (.gval2 rfl rfl rfl (fun hg1 hg2=>(.pand (.gd2 hg1 hg2 rfl) (.gd2 hg1 hg2 rfl) (.of rfl))) rfl (.gval2 rfl rfl rfl (fun hg1 hg2=>(.move (.gd2 hg1 hg2 rfl))) rfl (.gval3 rfl rfl rfl (fun hg1 hg2 hg3=>(.mo rfl)) rfl (.gval3 rfl rfl rfl (fun hg1 hg2 hg3=>(.neq (.gd3 hg1 hg2 hg3 rfl) (.of rfl))) rfl (.gval2 rfl rfl rfl (fun hg1 hg2=>(.pand (.gd2 hg1 hg2 rfl) (.gd2 hg1 hg2 rfl) (.of rfl))) rfl (.gval rfl rfl (fun hg1=>(.por (.gd hg1 rfl) (.of rfl) (.gd hg1 rfl))) rfl (.val (.pa rfl rfl rfl) rfl (.nil ?_))))))))))))))))))));refine .cond rfl (fun hb35=>?_) fun hb35=>?_
  ·have hc35:=hb35; simp only [Y6] at hc35;refine .seq (.q 1 rfl (.ret (X9 Tryz.results195 rfl ?_)));refine ⟨_,rfl,congrArg Value.bool ?_,hS⟩
   have:X96 s 0=false:=by
    cases h:X96 s 0 with
    | false=>rfl
    | true =>
     have h1:=(X4p s 0).1 h i _ (Xx (show i<s.length by omega));rw [Yd] at h1;exact absurd (hb35.symm.trans h1) (by decide)
   rw [Xaz,this]; rfl
  have hc35:=hb35; simp only [Y6] at hc35;refine .skip (.region (.run 2 rfl ⟨⟨by omega,by omega⟩,trivial⟩ (.nil ?_)));refine ⟨i+1,⟨rfl,rfl,rfl,trivial⟩,⟨by (try dsimp only); omega,fun j c hj hc=>?_,hS⟩,by (try dsimp only); omega⟩;rcases Yr j i with h1 | h1
  ·exact hno j c h1 hc
  ·have e:j=i:=by omega
   subst e;rw [Xx (show j<s.length by omega)] at hc; cases hc;exact hb35
 have hc8:=hb8; simp only [Y6] at hc8;refine .exit (.seq (.t 3 rfl (.gm rfl rfl rfl rfl (.gval rfl rfl (fun hg1=>(.len (.gd hg1 rfl) Qu9)) rfl (.gval rfl rfl (fun hg1=>(.leq (.gd hg1 rfl) (.of rfl))) rfl (.val (.pa rfl rfl rfl) rfl (.q 1 rfl (.nil (.ret (X9 Tryz.results195 rfl ?_))))))))));refine ⟨_,rfl,congrArg Value.bool ?_,hS⟩
 have:X96 s 0=true:=(X4p s 0).2 fun j c hc=>by
  have:=(Y5.1 hc).1
  rw [Yd]; exact hno j c (by omega) hc
 rw [Xaz,this]
 simp
theorem Xp0 (p:Pr) (hp:X1j p) (B w:World) (I:Im) (As:List X7) (hS:Sat B w I As) :
  Cz 194 [.agg (X1f p).toArray] w fun v w'=>v=.bool (Xnl p)∧Sat B w' I As:=by
 refine calls Tryz.func194 rfl Tryz.ntmps194 rfl (.seq (.region (.boxA (cs:=[_,_]) hS (.of rfl) rfl ?_)));intro b1 w hS;refine .q 1 rfl (.nil (.seq (.region ?_)));refine .val (.fo 0 rfl Xa2 rfl rfl Qs9 rfl) rfl (.val (.lo rfl hS (k:=0) rfl Qg9 rfl) rfl (.call Tryz.func195 rfl (ec9 rfl X0) rfl (Xnv p.1 hp.1 B _ I _ hS) ?_));rintro _ w ⟨rfl,hS⟩;refine .q 2 rfl (.gval rfl rfl (fun hg1=>(by exact .fo 1 rfl Xa2 rfl rfl Qs9 rfl)) rfl ?_);refine .gval rfl rfl (fun hg1=>(by exact (.ld (.gd hg1 rfl) hS (k:=0) rfl Qg9 rfl))) rfl ?_;refine .gcall (T:=fun w=>Sat B w I (blk b1 [S p.1,S p.2] 101::As)) rfl rfl rfl Tryz.func196 rfl (fun hg1=>(X6 (.gd hg1 rfl) (ec9 rfl (ec9 rfl (ec9 rfl X0))))) rfl (fun hg1=>Xc9 p.2 32 0 60 hp.2 B _ I _ hS) hS ?_;rintro w hS;refine .gval rfl rfl (fun hg1=>(.not (.gd hg1 rfl))) rfl (.val (.po rfl rfl rfl) rfl (.q 1 rfl (.nil (.ret (X9 Tryz.results194 rfl ?_)))));exact ⟨_,rfl,rfl,hS.drop (k:=0) rfl⟩
theorem Xb7 (a:Option Addr) (cap:Nat) (l:List (Pr)) (hln:l.length≤9223372036854775807) (pr:Pr→Bool) (fid:FuncId) (fn:Func) (hfn:Tryz.prog.funcs[fid]?=some fn) (hcal:Xh fn=true) (capv:List Value) (B w:World) (I:Im) (As:List X7) (hE:∀ w,Sat B w I As→Xb2 w X1f 2 a l) (hf:∀ (r:Pr) (hr:r∈l) w,Sat B w I As→Calls Tryz.prog fid ([Value.agg (X1f r).toArray] ++ capv).toArray w (Ret fun v w'=>v=.bool (pr r)∧Sat B w' I As)) (hS:Sat B w I As) :
  Cz 230 [.slice a l.length cap,.func (.func fid) #[] capv.toArray] w fun v w'=>v=I64 (X24 pr l 0)∧Sat B w' I As:=by
 refine calls Tryz.func230 rfl Tryz.ntmps230 rfl (.seq (.q 1 rfl (.seq (.seq (.region (.run 3 rfl ⟨⟨_,Xex⟩,trivial⟩ (.nil (.block (.loop (σ:=Nat) (fun i=>[(0,.slice a l.length cap),(1,.func (.func fid) #[] capv.toArray),(7,I64 (l.length:Nat)),(8,I64 (i:Nat))]) (fun i w=>i≤l.length∧(∀ (j:Nat) t,j<i→l[j]?=some t→pr t=false)∧Sat B w I As) (fun i=>l.length - i) 0 ⟨rfl,rfl,rfl,rfl,trivial⟩ ⟨Yo _,fun _ _ h=>absurd h (by omega),hS⟩ ?_)))))))));rintro i w ⟨hi,hno,hS⟩;refine .seq (.q 1 rfl (.seq ?_));refine .cond rfl (fun hb9=>?_) fun hb9=>?_
 ·have hc9:=hb9; try simp only [Y6] at hc9
  refine .skip (.seq (.block (.seq ?_)));obtain ⟨r,hr⟩:∃ r,l[i]?=some r:=⟨_,Y4 (by omega)⟩
  obtain ⟨p,rfl,hx⟩:=hE w hS i r hr;refine .q 2 rfl (.seq (.t 3 rfl ?_));refine .val (.ii rfl rfl (by omega) (by omega) Xex X8t) rfl (.val (.ldR (.of rfl) hx Tryz.isAgg101 X8t rfl) rfl (.vcall (cap:=capv) hfn hcal (.of rfl) (ec9 rfl X0) rfl (hf r (Yi hr) w hS) ?_));clear hS;rintro _ w ⟨rfl,hS⟩;refine .nil (.cond rfl (fun hb16=>?_) fun hb16=>?_)
  ·refine .seq (.q 2 rfl (.ret (X9 Tryz.results230 rfl ?_)));exact ⟨_,rfl,by rw [X5f hno hr hb16],hS⟩
  have hc16:=hb16; try simp only [Y6] at hc16
  refine .skip (.region (.run 2 rfl ⟨⟨by omega,by omega⟩,trivial⟩ (.nil ?_)));refine ⟨i+1,⟨rfl,rfl,rfl,rfl,trivial⟩,⟨by (try dsimp only); omega,fun j t hj ht=>?_,hS⟩,by (try dsimp only); omega⟩;rcases Yr j i with h1 | h1
  ·exact hno j t h1 ht
  ·have e:j=i:=by omega
   subst e;rw [hr] at ht; cases ht;exact hb16
 have hc9:=hb9; try simp only [Y6] at hc9
 refine .exit (.seq (.q 1 rfl (.ret (X9 Tryz.results230 rfl ?_))));exact ⟨_,rfl,by rw [X3z (fun j t ht=>hno j t (by have:=(Y5.1 ht).1; omega) ht)],hS⟩
theorem X88 (a:Option Addr) (cap:Nat) (l:List (Pr)) (hln:l.length≤9223372036854775807) (pr:Pr→Bool) (fid:FuncId) (fn:Func) (hfn:Tryz.prog.funcs[fid]?=some fn) (hcal:Xh fn=true) (capv:List Value) (B w:World) (I:Im) (As:List X7) (hE:∀ w,Sat B w I As→Xb2 w X1f 2 a l) (hf:∀ (r:Pr) (hr:r∈l) w,Sat B w I As→Calls Tryz.prog fid ([Value.agg (X1f r).toArray] ++ capv).toArray w (Ret fun v w'=>v=.bool (pr r)∧Sat B w' I As)) (hS:Sat B w I As) :
  Cz 197 [.slice a l.length cap,.func (.func fid) #[] capv.toArray] w fun v w'=>v=.bool (l.any pr)∧Sat B w' I As:=by
 refine calls Tryz.func197 rfl Tryz.ntmps197 rfl (.seq (.q 1 rfl (.seq (.t 2 rfl (.call Tryz.func230 rfl (ec9 rfl (ec9 rfl X0)) rfl (Xb7 a cap l hln pr fid fn hfn hcal capv B _ I As hE hf hS) ?_)))));rintro _ w ⟨rfl,hS⟩;refine .q 2 rfl (.nil (.ret (X9 Tryz.results197 rfl ?_)));exact ⟨_,rfl,by rw [← X7x pr l 0],hS⟩
theorem Xiw (a:Option Addr) (c:Nat) (l:List (Pr)) (hl:l.length≤1000000) (B w:World) (I:Im) (hR:RS I a 2 l.length (X12 X1f l)) (As:List X7) (hS:Sat B w I As) :
  Cz 150 [.slice a l.length c] w fun v w'=>∃ J ra rc,v=.slice ra l.length rc∧Le I J∧l.length≤rc∧RS J ra 2 l.length (X12 X1f l)∧Sat B w' J As:=by
 refine calls Tryz.func150 rfl Tryz.ntmps150 rfl (.seq (.q 1 rfl (.seq (.seq (.t 1 rfl (.val (Ex.slNil (.of rfl) (.of rfl) Xex) rfl (.nil ?_)))))));refine .cond rfl (fun hb4=>?_) fun hb4=>?_
 ·refine .seq (.q 1 rfl (.ret (X9 Tryz.results150 rfl ?_)));cases a with
  | some p=>simp at hb4
  | none =>
  have h0:l=[]:=by
   cases l with
   | nil=>rfl
   | cons x l=>obtain ⟨p,h,_⟩:=hR.2 (by simp); cases h
  subst h0;exact ⟨_,rfl,I,none,0,rfl,Le.refl _,Yu _,⟨rfl,fun h=>absurd h (by simp)⟩,hS⟩
 refine .skip (.seq (.region (.buildSlice (cs:=[]) hS X4 Xex X8t Xlx rfl rfl rfl rfl ?_)));intro b5 w hS;refine .q 1 rfl ?_;replace hS:=hS.vecOf (k:=0) (E:=101) (size:=2) (n:=0) rfl rfl (Yo _);refine .appendF (size:=2) (bytes:=32) hS (.of rfl) (.of rfl) hR (k:=0) rfl Xex (i:=Tryz.t101) (by kernel_rfl) rfl rfl rfl rfl (pr_one l) ⟨by omega,by unfold maxLen; omega⟩ rfl ?_;intro v7 w hS;rw [Yd,Ye] at hS;refine .q 1 rfl (.nil (.ret (X9 Tryz.results150 rfl ?_)));obtain ⟨ra,rc,rfl,hrc,_⟩:=hS.vecSlice (k:=0) rfl;obtain ⟨J,hJ,hRS,hS⟩:=hS.freezeVec (k:=0) rfl;exact ⟨_,rfl,J,ra,rc,rfl,hJ,hrc,hRS,hS⟩
theorem Xl1 (u:Us) (a:Option Addr) (c:Nat) (hn:u.name.length≤9223372036854775807) (hal:u.attrs.length≤9223372036854775807) (hA:∀ p∈u.attrs,X1j p) (B w:World) (I:Im) (hR:RS I a 2 u.attrs.length (X12 X1f u.attrs)) (As:List X7) (hS:Sat B w I As) :
  Cz 149 [.agg (X3l u a c).toArray] w fun v w'=>v=.bool (X70 u)∧Sat B w' I As:=by
 refine calls Tryz.func149 rfl Tryz.ntmps149 rfl (.seq (.region (.boxA (cs:=[_,_,_]) hS (.of rfl) rfl ?_)));intro b1 w hS;refine .q 1 rfl (.nil (.seq (.q 1 rfl (.seq (.region ?_)))));refine .val (.fo 0 rfl X2l rfl rfl Qs9 rfl) rfl (.val (.lo rfl hS (k:=0) rfl Qg9 rfl) rfl (.call Tryz.func196 rfl (ec9 rfl (ec9 rfl (ec9 rfl (ec9 rfl X0)))) rfl (Xc9 u.name 33 1 32 hn B _ I _ hS) ?_));rintro _ w ⟨rfl,hS⟩;refine .q 1 rfl (.gval rfl rfl (fun hg1=>(by exact .fo 1 rfl X2l rfl rfl Qs9 rfl)) rfl ?_);refine .gval rfl rfl (fun hg1=>(by exact (.ld (.gd hg1 rfl) hS (k:=0) rfl Qg9 rfl))) rfl ?_;refine .gval rfl rfl (fun hg1=>(.len (.gd hg1 rfl) Qu9)) rfl (.gval rfl rfl (fun hg1=>(.geq (.gd hg1 rfl) (.of rfl))) rfl (.val (.pa rfl rfl rfl) rfl (.q 1 rfl ?_)));refine .gval rfl rfl (fun hg1=>(by exact .fo 1 rfl X2l rfl rfl Qs9 rfl)) rfl ?_;refine .gval rfl rfl (fun hg1=>(by exact (.ld (.gd hg1 rfl) hS (k:=0) rfl Qg9 rfl))) rfl ?_;refine .gval rfl rfl (fun hg1=>(.len (.gd hg1 rfl) Qu9)) rfl (.gval rfl rfl (fun hg1=>(.leq (.gd hg1 rfl) (.of rfl))) rfl (.val (.pa rfl rfl rfl) rfl (.q 1 rfl ?_)));refine .gval rfl rfl (fun hg1=>(by exact .fo 2 rfl X2l rfl rfl Xkc rfl)) rfl ?_;refine .gval rfl rfl (fun hg1=>(by exact (.ld (.gd hg1 rfl) hS (k:=0) rfl Xnq rfl))) rfl ?_;refine .gval rfl rfl (fun hg1=>(.lenSlice (.gd hg1 rfl) Xex)) rfl (.gval rfl rfl (fun hg1=>(.leq (.gd hg1 rfl) (.of rfl))) rfl (.val (.pa rfl rfl rfl) rfl (.q 1 rfl ?_)));refine .gval rfl rfl (fun hg1=>(by exact .fo 2 rfl X2l rfl rfl Xkc rfl)) rfl ?_;refine .gval rfl rfl (fun hg1=>(by exact (.ld (.gd hg1 rfl) hS (k:=0) rfl Xnq rfl))) rfl ?_;refine .gm rfl rfl rfl rfl (.gcall (T:=fun w=>Sat B w I (blk b1 (X3l u a c) 178::As)) rfl rfl rfl Tryz.func197 rfl (fun hg1=>(X6 (.gd hg1 rfl) (X6 (.gd hg1 rfl) X0))) rfl (fun hg1=>X88 a c u.attrs (by omega) Xnl 194 _ Tryz.func194 rfl [] B _ I _ (fun w h=>Xl9 (fun _=>rfl) h hR) (fun p hp w h=>Xp0 p (hA p hp) B w I _ h) hS) hS ?_);rintro w hS;refine .gval rfl rfl (fun hg1=>(.not (.gd hg1 rfl))) rfl (.val (.pa rfl rfl rfl) rfl (.q 1 rfl (.nil (.ret (X9 Tryz.results149 rfl ?_)))));exact ⟨_,rfl,rfl,hS.drop (k:=0) rfl⟩
theorem Xjd:Bld Tryz.prog 193 [(0,1)] [.map none]:=X2n Xss Tryz.zeroValue193 (fun w=>by simp [go_sem])
def UsrsAt (I:Im) (a:Option Addr) (l:List Us):Prop:=∀ (i:Nat) (u:Us),l[i]?=some u→∃ p ra rc,a=some p∧At I (p.add (i*3)) (X3l u ra rc)∧u.attrs.length≤rc∧RS I ra 2 u.attrs.length (X12 X1f u.attrs)
theorem UsrsAt.mono {I J:Im} {a:Option Addr} {l:List Us} (h:UsrsAt I a l) (hl:Le I J):UsrsAt J a l:=fun i u hu=>by
 obtain ⟨p,ra,rc,e,h1,h2,h3⟩:=h i u hu;exact ⟨p,ra,rc,e,h1.mono hl,h2,h3.mono hl⟩
structure Us.fits (u:Us):Prop where
 name:u.name.length≤maxLen
 pw:u.pw.length≤maxLen
 attrs:u.attrs.length≤9223372036854775807∧∀ p∈u.attrs,X1j p
def X50:List Us→Nat→List Us→Nat×Nat
 | [],_,_=>(0,0)
 | u::r,i,acc=>if 16≤i then (5,i) else if X70 u=false then (1,i) else if acc.any (fun t=>t.name == u.name) then (7,i) else X50 r (i+1) (acc ++ [u])
def KvOf (J:Im) (kv:List (List UInt8×Value)) (l:List Us):Prop:=kv.length=l.length∧∀ (i:Nat) (u:Us),l[i]?=some u→∃ cs,kv[i]?=some (u.name,.agg (List.toArray cs))∧UsAt J u cs
theorem KvOf.mono {I J:Im} {kv:List (List UInt8×Value)} {l:List Us} (h:KvOf I kv l) (hl:Le I J):KvOf J kv l:=⟨h.1,fun i u hu=>by
 obtain ⟨cs,h1,h2⟩:=h.2 i u hu;exact ⟨cs,h1,h2.mono hl⟩⟩
theorem KvOf.snoc {J:Im} {kv:List (List UInt8×Value)} {l:List Us} {u:Us} {cs:List Value} (h:KvOf J kv l) (hu:UsAt J u cs):KvOf J (kv ++ [(u.name,.agg cs.toArray)]) (l ++ [u]):=⟨by simp [h.1],fun i t ht=>by
 rcases Yr i l.length with h1 | h1
 ·rw [Yk h1] at ht;rw [Yk (by rw [h.1]; exact h1)];exact h.2 i t ht
 ·have h2:=(Y5.1 ht).1;simp only [Y0,Y8,Yj] at h2
  have e:i=l.length:=by omega
  subst e;simp at ht; subst ht
  exact ⟨cs,by rw [← h.1]; simp,hu⟩⟩
theorem Xm6 {J:Im} (name:List UInt8):∀ {kv:List (List UInt8×Value)} {l:List Us},KvOf J kv l→(l.find? (fun t=>t.name == name)=none∧kv.lookup name=none)∨∃ u cs,l.find? (fun t=>t.name == name)=some u∧kv.lookup name=some (.agg (List.toArray cs))∧UsAt J u cs
 | [],[],_=>.inl ⟨rfl,rfl⟩
 | [],u::l,h=>by have:=h.1; simp at this
 | p::kv,[],h=>by have:=h.1; simp at this
 | p::kv,u::l,h=>by
  obtain ⟨cs,h1,h2⟩:=h.2 0 u rfl;simp at h1; subst h1
  have h3:KvOf J kv l:=⟨by simpa using h.1,fun i t ht=>by simpa using h.2 (i+1) t (by simpa using ht)⟩
  rw [Y3v]
  by_cases e:u.name=name
  ·subst e;exact .inr ⟨u,cs,by simp,by simp [List.lookup],h2⟩
  ·have e1:(u.name == name)=false:=beq_eq_false_iff_ne.2 e;have e2:(name == u.name)=false:=beq_eq_false_iff_ne.2 (Ne.symm e);simp only [e1,List.lookup,e2]
   exact Xm6 name h3
theorem Xp9 (l:List Us) (name:List UInt8):l.any (fun t=>t.name == name)=(l.find? (fun t=>t.name == name)).isSome:=by
 rw [Y35,Y1w,List.find?_isSome]
def TabAt (J:Im) (tb:Nat) (l:List Us):Prop:=∃ mb kv,At J (ad tb 0) [.map (some mb)]∧MapI J S mb kv∧KvOf J kv l
theorem TabAt.mono {I J:Im} {tb:Nat} {l:List Us} (h:TabAt I tb l) (hl:Le I J):TabAt J tb l:=by
 obtain ⟨mb,kv,h1,h2,h3⟩:=h;exact ⟨mb,kv,h1.mono hl,h2.mono hl,h3.mono hl⟩
theorem X4y {J:Im} {b:Nat} {cs:List Value} {E:TypeId} (h:J b=some (Xi cs E)):At J (ad b 0) cs:=⟨rfl,_,E,(0,0),h,fun j v hj=>by simpa [ad] using hj⟩
theorem X9x {u:Us} (h:X70 u=true):u.attrs.length≤8:=by
 unfold X70 at h;simp only [Yq,decide_eq_true_eq] at h
 omega
set_option maxRecDepth 20000 in
theorem Xei (a:Option Addr) (cap:Nat) (l:List Us) (hln:l.length≤9223372036854775807) (hfit:∀ u∈l,u.fits) (B w:World) (I:Im) (hU:UsrsAt I a l) (As:List X7) (hS:Sat B w I As) :
  Cz 103 [.slice a l.length cap] w fun v w'=>∃ J,Le I J∧(((X50 l 0 []).1=0∧∃ tb,v=.tuple #[ptr tb 0,I64 0,I64 0]∧TabAt J tb l)∨((X50 l 0 []).1≠0∧v=.tuple #[.pointer none,I64 ((X50 l 0 []).1:Nat),I64 ((X50 l 0 []).2:Nat)]))∧Sat B w' J As:=by
 refine calls Tryz.func103 rfl Tryz.ntmps103 rfl (.seq (.q 3 rfl (.seq (.region (.mkMap S hS rfl ?_)))));clear hS; intro b10 w hS;refine .val (.build (cs:=[_]) (pc9 rfl X4) Xjd rfl) rfl (.boxA (cs:=[_]) hS (.of rfl) rfl ?_);clear hS; intro b12 w hS;refine .q 1 rfl (.nil (.seq (.seq (.region (.run 3 rfl ⟨⟨_,Xfy⟩,trivial⟩ (.nil (.block (.loop (σ:=Nat×Im×List (List UInt8×Value)) (fun ⟨i,J,kv⟩=>[(0,.slice a l.length cap),(5,ptr b12 0),(13,.slice a l.length cap),(14,I64 (l.length:Nat)),(15,I64 (i:Nat))]) (fun ⟨i,J,kv⟩ w=>i≤l.length∧Le I J∧KvOf J kv (l.take i)∧X50 (l.drop i) i (l.take i)=X50 l 0 []∧Sat B w J (blk b12 [.map (some b10)] 193::Xkd S b10 kv::As)) (fun ⟨i,J,kv⟩=>l.length - i) (0,I,[]) ⟨rfl,rfl,rfl,rfl,rfl,trivial⟩ ⟨Yo _,Le.refl _,⟨rfl,fun i u h=>by simp at h⟩,rfl,hS⟩ ?_))))))));rintro ⟨i,J,kv⟩ w ⟨hi,hJ,hkv,hq,hS⟩;refine .seq (.q 1 rfl (.seq ?_));refine .cond rfl (fun hb16=>?_) fun hb16=>?_
 ·have hc16:=hb16; try simp only [Y6] at hc16
  refine .skip (.seq (.block (.seq ?_)));obtain ⟨u,hu⟩:∃ u,l[i]?=some u:=⟨_,Y4 (by omega)⟩
  obtain ⟨p,ra,rc,hap,hA0,hrc,hRR⟩:=hU i u hu;have hfu:=hfit u (Yi hu);subst hap;have hA:=hA0.mono hJ;have hR:=hRR.mono hJ;have hstep:X50 (l.drop i) i (l.take i)=if 16≤i then (5,i) else if X70 u=false then (1,i) else if (l.take i).any (fun t=>t.name == u.name) then (7,i) else X50 (l.drop (i+1)) (i+1) (l.take (i+1)):=by
   rw [Y1f (by omega),(Y5.1 hu).2,X50];simp only [Y12,hu,Y1k]
  rw [hq] at hstep;have hlook:=Xm6 u.name hkv;have hany:=Xp9 (l.take i) u.name;refine .t 1 rfl (.val (.ii rfl rfl (by omega) (by omega) Xfy X5z) rfl (.val (.ldR (vs:=X3l u ra rc) (.of rfl) (fun j v hj=>X2c hS hA hj) Xqy X5z rfl) rfl ?_));unfold X3l;refine .allocA (cs:=[_,_,_]) hS Xru rfl ?_;clear hS; intro b7 w hS;refine .q 1 rfl (.so hS (k:=0) rfl rfl rfl rfl X5z rfl (by simp) ?_);clear hS; intro w hS;try simp only [Yh,Ye,Y9,Y7,Yg,Yn,Yd] at hS
  refine .nil (.seq ?_);obtain ⟨n9,p9,a9,k9,c9,hz9⟩:∃ n9 p9 a9 k9 c9,(kv.lookup u.name).getD (.agg [S [],S [],.slice none 0 0].toArray)=.agg [S n9,S p9,.slice a9 k9 c9].toArray:=by
   rcases hlook with ⟨_,e⟩ | ⟨t,cs,_,e,ta,tc,ht,_⟩
   ·rw [e]; exact ⟨_,_,_,_,_,rfl⟩
   ·rw [e,ht]; exact ⟨_,_,_,_,_,rfl⟩
  refine .drawn (fun w=>∃ R,Sat B w J (blk b7 [S u.name,S u.pw,.slice ra u.attrs.length rc] 178::blk b12 [.map (some b10)] 193::Xkd S b10 kv::R)) (fun j=>!([].contains j)) (by kernel_rfl) ?_;replace hS:=hS.drew; generalize w.drew=w at hS ⊢;have hH:=(((hS.pick 2 rfl).pick 2 rfl).pick 2 rfl)
  refine .tp (i:=0) rfl (by kernel_rfl) (fun w=>(.mo rfl)) rfl (.tp (i:=1) rfl (by kernel_rfl) (fun w=>(.no rfl)) rfl ?_);refine .tp (i:=2) rfl (by kernel_rfl) (fun w=>(.fo 0 rfl Xss rfl rfl Tryz.sizeOf191 rfl)) rfl (.tk (i:=3) rfl (by kernel_rfl) ⟨_,hH⟩ (fun w ⟨R,hS⟩=>((.lo rfl hS (k:=1) rfl Tryz.isAgg191 rfl))) rfl (.tp (i:=4) rfl (by kernel_rfl) (fun w=>(.fo 0 rfl X2l rfl rfl Qs9 rfl)) rfl (.tk (i:=5) rfl (by kernel_rfl) ⟨_,hH⟩ (fun w ⟨R,hS⟩=>((.lo rfl hS (k:=0) rfl Qg9 rfl))) rfl ?_)));refine .tk (i:=6) rfl (by kernel_rfl) ⟨_,hH⟩ (v:=.tuple #[.agg [S n9,S p9,.slice a9 k9 c9].toArray,.bool (kv.lookup u.name).isSome]) (fun w ⟨R,hS⟩=>by rw [← hz9]; exact .look2 (key:=u.name) keyS (hS.mapNow (k:=2) rfl) (.of rfl) (.of rfl) Tryz.underlying191 Qu9 Xru) rfl ?_;refine .tp (i:=7) rfl (by kernel_rfl) (fun w=>(.mo rfl)) rfl (.tp (i:=8) rfl (by kernel_rfl) (fun w=>(.extract (.of rfl) rfl)) rfl (.tp (i:=9) rfl (by kernel_rfl) (fun w=>(.extract (.of rfl) rfl)) rfl ?_));refine .b1 10 (by kernel_rfl) rfl (.allocA (cs:=[_,_,_]) hS Xru rfl ?_);clear hS; intro b8 w hS;refine .nil ?_;clear hH;have hH:=(((hS.pick 3 rfl).pick 3 rfl).pick 3 rfl)
  refine ⟨fun _ _=>⟨_,hH⟩,?_⟩;refine .b1 11 (by kernel_rfl) rfl (.so hS (k:=0) rfl rfl rfl rfl X5z rfl (by simp) ?_);clear hS; intro w hS;try simp only [Yh,Ye,Y9,Y7,Yg,Yn,Yd] at hS
  refine .nil ?_;clear hH;have hH:=(((hS.pick 3 rfl).pick 3 rfl).pick 3 rfl)
  refine ⟨fun _ _=>⟨_,hH⟩,?_⟩;refine .tp (i:=12) rfl (by kernel_rfl) (fun w=>(.ao rfl)) rfl (.done (by kernel_rfl) (.seq (.block (.seq (.q 3 rfl ?_)))));refine .cond rfl (fun hb30=>?_) fun hb30=>?_
  ·have hc30:=hb30; try simp only [Y6] at hc30
   refine .seq (.q 4 rfl (.ret (X7j Xpr rfl rfl rfl ?_)));have hE:X50 l 0 []=(5,i):=by rw [hstep]; exact if_pos (by omega)
   rw [hE];exact ⟨_,rfl,J,hJ,.inr ⟨show (5:Nat)≠0 by decide,rfl⟩,(((hS.drop (k:=0) rfl).drop (k:=0) rfl).drop (k:=0) rfl).drop (k:=0) rfl⟩
  have hc30:=hb30; try simp only [Y6] at hc30
  refine .seq (.region ?_);refine .val (.ldsW (cs:=[_,_,_]) (.of rfl) hS (k:=1) rfl Xqy X5z rfl) rfl (.call Tryz.func149 rfl (ec9 rfl X0) rfl (Xl1 u ra rc hfu.name hfu.attrs.1 hfu.attrs.2 B _ J hR _ hS) ?_);clear hS;rintro _ w ⟨rfl,hS⟩;refine .q 2 rfl (.nil ?_);refine .cond rfl (fun hb34=>?_) fun hb34=>?_
  ·have hc34:=hb34; try simp only [Y6] at hc34
   refine .seq (.q 4 rfl (.ret (X7j Xpr rfl rfl rfl ?_)));have hE:X50 l 0 []=(1,i):=by rw [hstep]; rw [if_neg (by omega)]; exact if_pos (by simpa using hb34)
   rw [hE];exact ⟨_,rfl,J,hJ,.inr ⟨show (1:Nat)≠0 by decide,rfl⟩,(((hS.drop (k:=0) rfl).drop (k:=0) rfl).drop (k:=0) rfl).drop (k:=0) rfl⟩
  have hc34:=hb34; try simp only [Y6] at hc34
  refine .seq (.q 2 rfl ?_);refine .cond rfl (fun hb39=>?_) fun hb39=>?_
  ·have hc39:=hb39; try simp only [Y6] at hc39
   refine .seq (.q 4 rfl (.ret (X7j Xpr rfl rfl rfl ?_)));have hE:X50 l 0 []=(7,i):=by rw [hstep]; rw [if_neg (by omega)]; rw [if_neg (show ¬ X70 u=false by simpa using hb34)]; exact if_pos (by rw [hany]; rcases hlook with ⟨_,e⟩ | ⟨t,cs,e,_⟩ <;> simp_all)
   rw [hE];exact ⟨_,rfl,J,hJ,.inr ⟨show (7:Nat)≠0 by decide,rfl⟩,(((hS.drop (k:=0) rfl).drop (k:=0) rfl).drop (k:=0) rfl).drop (k:=0) rfl⟩
  have hc39:=hb39; try simp only [Y6] at hc39
  refine .skip (.seq ?_);have hur:X70 u=true:=by simpa using hb34
  have hal:=X9x hur;refine .region (.val (.fo 2 rfl X2l rfl rfl Xkc rfl) rfl (.val (.lo rfl hS (k:=1) rfl Xnq rfl) rfl (.call Tryz.func150 rfl (ec9 rfl X0) rfl (Xiw ra rc u.attrs (by omega) B _ J hR _ hS) ?_)));clear hS;rintro _ w ⟨J2,ra2,rc2,rfl,hJ2,hrc2,hR2,hS⟩;refine .val (.fo 2 rfl X2l rfl rfl Xkc rfl) rfl (.s1 hS (k:=1) rfl rfl rfl rfl Xkc (by simp) ?_);clear hS; intro w hS;refine .nil (.tail 7 (by kernel_rfl) (by kernel_rfl) ?_);replace hS:=hS.drew; generalize w.drew=w at hS ⊢;refine .vm rfl rfl (.val (.no rfl) rfl ?_);refine .val (by exact .fo 0 rfl Xss rfl rfl Tryz.sizeOf191 rfl) rfl ?_;refine .val (by exact (.lo rfl hS (k:=2) rfl Tryz.isAgg191 rfl)) rfl ?_;refine .val (by exact .fo 0 rfl X2l rfl rfl Qs9 rfl) rfl ?_;refine .val (by exact (.lo rfl hS (k:=1) rfl Qg9 rfl)) rfl ?_;refine .val (by exact (.ldsW (cs:=[_,_,_]) (.of rfl) hS (k:=1) rfl Xqy X5z rfl)) rfl ?_;refine .nil ?_;show WL _ _ _ _ _ _ _
  have hno:kv.lookup u.name=none:=by
   cases h:kv.lookup u.name with
   | none=>rfl
   | some x=>rw [h] at hb39; cases hb39
  refine .mput keyS hS (k:=3) rfl (.of rfl) (.of rfl) (.of rfl) hno Tryz.underlying191 Qu9 ?_;clear hS; intro w hS;try dsimp only [List.set] at hS
  refine .nil (.region (.run 2 rfl ⟨⟨by omega,by omega⟩,trivial⟩ (.nil ?_)));refine ⟨(i+1,J2,kv ++ [(u.name,Value.agg #[S u.name,S u.pw,Value.slice ra2 u.attrs.length rc2])]),⟨rfl,rfl,rfl,rfl,rfl,trivial⟩,⟨by (try dsimp only); omega,hJ.trans hJ2,?_,?_,(hS.drop (k:=0) rfl).drop (k:=0) rfl⟩,by (try dsimp only); omega⟩
  ·show KvOf J2 _ (l.take (i+1))
   rw [Y12,hu];exact (hkv.mono hJ2).snoc ⟨ra2,rc2,rfl,hrc2,hR2⟩
  ·show X50 (l.drop (i+1)) (i+1) (l.take (i+1))=_
   rw [hstep,if_neg (by omega),if_neg (by rw [hur]; decide),if_neg];rw [hany];rcases hlook with ⟨e,_⟩ | ⟨t,cs,e,e2,_⟩
   ·rw [e]; decide
   ·rw [hno] at e2; cases e2
 have hc16:=hb16; try simp only [Y6] at hc16
 refine .exit (.seq (.q 4 rfl (.ret (X7j Xpr rfl rfl rfl ?_))));have e:i=l.length:=by omega
 subst e;have hE:X50 l 0 []=(0,0):=by rw [← hq,Y3a]; rfl
 rw [Y13] at hkv;rw [hE];obtain ⟨J2,hJ2,hA2,hS⟩:=hS.freeze (k:=0) rfl;obtain ⟨J3,hJ3,hM3,hS⟩:=hS.freezeMap (k:=0) rfl;exact ⟨_,rfl,J3,(hJ.trans hJ2).trans hJ3,.inl ⟨rfl,b12,rfl,b10,kv,(X4y hA2).mono hJ3,hM3,(hkv.mono hJ2).mono hJ3⟩,hS⟩
end Go.Proofs.YtfibbpgikjggfaaGreatDoor
namespace Go.Proofs.YtfibbpgikjggfaaGreatDoor
open Gk Pat
def CompT (I:Im) (l:List UInt8) (po:Option Addr) (e a:Int):Prop:=match cmp l with
 | .error (e',a')=>po=none∧e=e'∧a=a'
 | .ok Q=>∃ p,po=some p∧e=0∧a=0∧PatI I p Q l.length
theorem CompT.mono {I J:Im} {l:List UInt8} {po:Option Addr} {e a:Int} (h:CompT I l po e a) (hl:Le I J):CompT J l po e a:=by
 unfold CompT at h ⊢;cases hq:cmp l with
 | error x=>rw [hq] at h; exact h
 | ok Q=>rw [hq] at h; obtain ⟨p,h1,h2,h3,h4⟩:=h; exact ⟨p,h1,h2,h3,h4.mono hl⟩
theorem Xeg (l:List UInt8) (B w:World) (I:Im) (As:List X7) (hS:Sat B w I As) (hl:l.length≤9223372036854775807) :
  Cz 189 [S l] w fun v w'=>∃ po e a J,v=.tuple #[.pointer po,I64 e,I64 a]∧Le I J∧CompT J l po e a∧Sat B w' J As:=by
 refine (Xgc l B w I As hS hl).mono fun x w' ⟨v,hx,h⟩=>⟨v,hx,?_⟩
 rcases h with ⟨e,a,J,h1,h2,h3,h4⟩ | ⟨Q,p,J,h1,h2,h3,h4,h5⟩
 ·exact ⟨none,e,a,J,h2,h3,by rw [CompT,h1]; exact ⟨rfl,rfl,rfl⟩,h4⟩
 ·exact ⟨some p,0,0,J,h2,h3,by rw [CompT,h1]; exact ⟨p,rfl,rfl,rfl,h4⟩,h5⟩
theorem Xln {l:List UInt8} {Q:List Pl} (h:cmp l=.ok Q):WF Q∧0<Q.length∧Q.length≤201∧l.length≤200:=by
 obtain ⟨hl,p,h1,h2,h3,rfl⟩:=Xlh h;obtain ⟨hW,hE⟩:=Xas h1.ok;have h4:=X8n p;have h5:=h1.len;exact ⟨hW,hE.1,by unfold X17 at h4; omega,hl⟩
theorem Xeb {l:List UInt8} {Q:List Pl} (hq:cmp l=.ok Q) (p:Addr) (s:List UInt8) (hs:s.length≤1000000) (B w:World) (I:Im) (As:List X7) (hS:Sat B w I As) (hp:PatI I p Q l.length) :
  Cz 111 [.pointer (some p),S s] w fun v w'=>v=.bool (mat Q s)∧Sat B w' I As:=by
 have hf:=Xln hq;refine calls Tryz.func111 rfl Tryz.ntmps111 rfl (.seq (.q 1 rfl (.seq (.t 2 rfl (.call Tryz.func156 rfl (ec9 rfl (ec9 rfl X0)) rfl (Xt0 Q p l.length s hf.1 hf.2.1 (by omega) (by omega) hs B w I As hS hp) ?_)))));rintro _ w ⟨rfl,hS⟩;refine .q 5 rfl (.nil (.seq (.q 2 rfl (.ret (X9 Tryz.results111 rfl ?_)))));exact ⟨_,rfl,rfl,hS⟩
theorem Xll {s:Sv} {Q:List Pl} (hq:cmp s.urls=.ok Q) (a:Option Addr) (c:Nat) (p q:Addr) (n:List UInt8) (hn:n.length≤1000000) (b:Nat) (B w:World) (I:Im) (hp:PatI I p Q s.urls.length) (As:List X7) (hS:Sat B w I (blk b [S n] 9::As)) :
  Cz 110 [.agg [I64 s.id,F64 s.ord,S s.urls,.bool s.login,.bool s.proxy,.bool s.back,S s.calls,.slice a s.rel.length c,.pointer (some p),.pointer (some q)].toArray,ptr b 0] w fun v w'=>v=.bool (mat Q n)∧Sat B w' I (blk b [S n] 9::As):=by
 refine calls Tryz.func110 rfl Tryz.ntmps110 rfl (.seq (.region (.boxA (cs:=[_,_,_,_,_,_,_,_,_,_]) hS (.of rfl) rfl ?_)));intro b2 w hS;refine .q 1 rfl (.nil (.seq (.region (.val (.fo 8 rfl Xk9 rfl rfl Tryz.sizeOf158 rfl) rfl (.val (.lo rfl hS (k:=0) rfl Tryz.isAgg158 rfl) rfl (.val (.lo rfl hS (k:=1) rfl Qg9 rfl) rfl (.call Tryz.func111 rfl (ec9 rfl (ec9 rfl X0)) rfl (Xeb hq p n hn B _ I _ hS hp) ?_)))))));rintro _ w ⟨rfl,hS⟩;refine .q 1 rfl (.nil (.ret (X9 Tryz.results110 rfl ?_)));exact ⟨_,rfl,rfl,hS.drop (k:=0) rfl⟩
theorem Xkp (s:Sv) (a:Option Addr) (c:Nat) (p q:Addr) (id:Int) (b:Nat) (B w:World) (I:Im) (As:List X7) (hS:Sat B w I (blk b [I64 id] 3::As)) :
  Cz 113 [.agg [I64 s.id,F64 s.ord,S s.urls,.bool s.login,.bool s.proxy,.bool s.back,S s.calls,.slice a s.rel.length c,.pointer (some p),.pointer (some q)].toArray,ptr b 0] w fun v w'=>v=.bool (s.id == id)∧Sat B w' I (blk b [I64 id] 3::As):=by
 refine calls Tryz.func113 rfl Tryz.ntmps113 rfl (.seq (.region (.boxA (cs:=[_,_,_,_,_,_,_,_,_,_]) hS (.of rfl) rfl ?_)));intro b2 w hS;refine .q 1 rfl (.nil (.seq (.region ?_)));refine .val (.fo 0 rfl Xk9 rfl rfl X2b rfl) rfl (.val (.fo 0 rfl X5r rfl rfl Qs3 rfl) rfl (.val (.lo rfl hS (k:=0) rfl Qg3 rfl) rfl (.val (.lo rfl hS (k:=1) rfl Qg3 rfl) rfl (.q 2 rfl (.nil (.ret (X9 Tryz.results113 rfl ?_)))))));exact ⟨_,rfl,rfl,hS.drop (k:=0) rfl⟩
theorem Xks (s t:Sv) (a ta:Option Addr) (c tc:Nat) (p q:Addr) (b:Nat) (B w:World) (I:Im) (As:List X7) (hS:Sat B w I (blk b [I64 t.id,F64 t.ord,S t.urls,.bool t.login,.bool t.proxy,.bool t.back,S t.calls,.slice ta t.rel.length tc] 59::As)) :
  Cz 188 [.agg [I64 s.id,F64 s.ord,S s.urls,.bool s.login,.bool s.proxy,.bool s.back,S s.calls,.slice a s.rel.length c,.pointer (some p),.pointer (some q)].toArray,ptr b 0] w fun v w'=>v=.bool (s.id == t.id)∧Sat B w' I (blk b [I64 t.id,F64 t.ord,S t.urls,.bool t.login,.bool t.proxy,.bool t.back,S t.calls,.slice ta t.rel.length tc] 59::As):=by
 refine calls Tryz.func188 rfl Tryz.ntmps188 rfl (.seq (.region (.boxA (cs:=[_,_,_,_,_,_,_,_,_,_]) hS (.of rfl) rfl ?_)));intro b2 w hS;refine .q 1 rfl (.nil (.seq (.region (.val (.fo 0 rfl Xk9 rfl rfl X2b rfl) rfl (.val (.fo 0 rfl X5r rfl rfl Qs3 rfl) rfl (.val (.lo rfl hS (k:=0) rfl Qg3 rfl) rfl (.val (.fo 0 rfl X5r rfl rfl Qs3 rfl) rfl (.val (.lo rfl hS (k:=1) rfl Qg3 rfl) rfl (.q 2 rfl (.nil (.ret (X9 Tryz.results188 rfl ?_))))))))))));exact ⟨_,rfl,rfl,hS.drop (k:=0) rfl⟩
theorem X3o:Bld Tryz.prog 160 [(0,8),(8,1),(9,1)] [.int .i64 0,.float .f64 0,S [],.bool false,.bool false,.bool false,S [],.slice none 0 0,.pointer none,.pointer none]:=X2n Xk9 Xit (fun w=>by simp [go_sem])
def Xos (lo:List Sv) (s:Sv):Nat :=
 if 16≤lo.length then 5 else if (decide (s.id<0) || decide (8<(s.rel.length:Int)))=true then 1 else if lo.any (fun t=>t.id == s.id)=true then 7
 else if (((chk s.urls).1 != 0) || ((chk s.calls).1 != 0))=true then 8 else 0
theorem Xbj (pr:Sv→Bool):∀ (l:List Sv) (i:Nat),decide (0≤X2a pr l i)=l.any pr
 | [],_=>rfl
 | s::r,i=>by
  rw [X2a,Y4y];cases pr s with
  | true=>simp
  | false=>simpa using Xbj pr r (i+1)
theorem X5d {I:Im} {l:List UInt8} {po:Option Addr} {e a:Int} (h:CompT I l po e a):(e != 0)=((chk l).1 != 0)∧((chk l).1=0→∃ p Q,po=some p∧cmp l=.ok Q∧PatI I p Q l.length):=by
 have key:∀ e',cmp l=.error e'→(chk l).1=e'.1∧e'.1≠0:=fun e' hc=>by
  unfold cmp at hc;unfold chk;split at hc
  ·rename_i hl; rw [if_pos hl]; cases hc; exact ⟨rfl,by decide⟩
  ·rename_i hl
   rw [if_neg hl]
   have:=(X1g l.length l 0 [] [] [] (Yu _) rfl).1 e' hc
   rw [this.1]; exact ⟨rfl,this.2⟩
 have key2:∀ Q,cmp l=.ok Q→(chk l).1=0:=fun Q hc=>by
  unfold cmp at hc;unfold chk;split at hc
  ·cases hc
  ·rename_i hl
   rw [if_neg hl,(X1g l.length l 0 [] [] [] (Yu _) rfl).2 Q hc]
 unfold CompT at h;cases hc:cmp l with
 | ok Q =>
  rw [hc] at h;obtain ⟨p,rfl,rfl,rfl,hp⟩:=h;rw [key2 Q hc];exact ⟨rfl,fun _=>⟨p,Q,rfl,rfl,hp⟩⟩
 | error x =>
  obtain ⟨e',a'⟩:=x;rw [hc] at h;obtain ⟨rfl,rfl,rfl⟩:=h;obtain ⟨h1,h2⟩:=key _ hc;rw [h1];exact ⟨rfl,fun h3=>absurd h3 h2⟩
theorem Xny (s:Sv) (sa:Option Addr) (sc:Nat) (hsc:s.rel.length≤sc) (hrl:s.rel.length≤1000000) (hu:s.urls.length≤9223372036854775807) (hcl:s.calls.length≤9223372036854775807) (a:Option Addr) (cap:Nat) (lo:List Sv) (hlo:lo.length≤100000) (B w:World) (I:Im) (hr:RS I sa 1 s.rel.length (s.rel.map S)) (As:List X7) (hE:∀ w,Sat B w I As→Xgh w I a lo) (hS:Sat B w I As) :
  Cz 147 [.agg [I64 s.id,F64 s.ord,S s.urls,.bool s.login,.bool s.proxy,.bool s.back,S s.calls,.slice sa s.rel.length sc].toArray,.slice a lo.length cap] w fun v w'=>∃ J cs code,Le I J∧v=.tuple #[.agg (List.toArray cs),I64 ((code:Nat):Int)]∧code=Xos lo s∧cs.length=10∧cs.all Value.oneCell'=true∧(code=0→EntAt J s cs)∧Sat B w' J As:=by
 refine calls Tryz.func147 rfl Tryz.ntmps147 rfl (.seq (.region (.boxA (cs:=[_,_,_,_,_,_,_,_]) hS (.of rfl) rfl ?_)));intro b2 w hS;refine .allocA (cs:=[_,_,_,_,_,_,_,_,_,_]) hS Xit rfl ?_;intro b4 w hS;refine .q 1 rfl (.nil (.seq (.block (.seq (.region (.run 4 rfl ⟨⟨_,X81⟩,trivial⟩ (.nil ?_)))))));refine .cond rfl (fun hb12=>?_) fun hb12=>?_
 ·refine .seq (.region (.val (.build (cs:=[_,_,_,_,_,_,_,_,_,_]) X4 X3o rfl) rfl (.so hS (k:=0) rfl rfl rfl rfl X3j rfl (by simp) ?_)));intro w hS;try simp only [Yh,Ye,Y9,Y7,Yg,Yn,Yd] at hS
  refine .q 1 rfl (.nil (.ret (X1i (b:=_) (cs:=[_,_,_,_,_,_,_,_,_,_]) Xmc hS (k:=0) rfl Xeu X3j rfl rfl rfl ?_)));refine ⟨_,rfl,I,_,5,Le.refl _,rfl,?_,rfl,rfl,fun h=>(by cases h),((hS.drop (k:=0) rfl).drop (k:=0) rfl)⟩;unfold Xos;rw [if_pos (by simp only [decide_eq_true_eq] at hb12; omega)]
 refine .seq (.region (.val (.fo 0 rfl X5r rfl rfl Qs3 rfl) rfl (.val (.lo rfl hS (k:=1) rfl Qg3 rfl) rfl (.q 2 rfl (.gval rfl rfl (fun hg1=>(.fo 7 rfl X5r rfl rfl Xk0 rfl)) rfl (.gval rfl rfl (fun hg1=>(.ld (.gd hg1 rfl) hS (k:=1) rfl Xkb rfl)) rfl (.gval rfl rfl (fun hg1=>(.lenSlice (.gd hg1 rfl) X19)) rfl (.gval rfl rfl (fun hg1=>(.gtr (.gd hg1 rfl) (.of rfl))) rfl (.val (.po rfl rfl rfl) rfl (.q 1 rfl (.nil ?_)))))))))));refine .cond rfl (fun hb17=>?_) fun hb17=>?_
 ·refine .seq (.region (.val (.build (cs:=[_,_,_,_,_,_,_,_,_,_]) X4 X3o rfl) rfl (.so hS (k:=0) rfl rfl rfl rfl X3j rfl (by simp) ?_)));intro w hS;try simp only [Yh,Ye,Y9,Y7,Yg,Yn,Yd] at hS
  refine .q 1 rfl (.nil (.ret (X1i (b:=_) (cs:=[_,_,_,_,_,_,_,_,_,_]) Xmc hS (k:=0) rfl Xeu X3j rfl rfl rfl ?_)));refine ⟨_,rfl,I,_,1,Le.refl _,rfl,?_,rfl,rfl,fun h=>(by cases h),((hS.drop (k:=0) rfl).drop (k:=0) rfl)⟩;unfold Xos;rw [if_neg (by simp only [decide_eq_false_iff_not] at hb12; omega),if_pos hb17]
 refine .seq ?_;replace hS:=hS.pick 1 rfl;refine .t 1 rfl (.val (.makeFunc (ec9 rfl X0)) rfl ?_);refine .call Tryz.func187 rfl (ec9 rfl (ec9 rfl X0)) rfl (X8w a cap lo hlo (fun t=>t.id == s.id) 188 _ Tryz.func188 rfl [ptr b2 0] B _ I (blk b2 [I64 s.id,F64 s.ord,S s.urls,.bool s.login,.bool s.proxy,.bool s.back,S s.calls,.slice sa s.rel.length sc] 59::blk b4 [I64 0,F64 0,S [],.bool false,.bool false,.bool false,S [],.slice none 0 0,.pointer none,.pointer none] 160::As) (fun w h=>hE w ((h.drop (k:=0) rfl).drop (k:=0) rfl)) (fun t c ht w h=>by
  obtain ⟨ta,tc,tp,tq,_,_,rfl,_⟩:=ht;exact Xks t s ta sa tc sc tp tq b2 B w I _ h) hS) ?_
 rintro _ w ⟨rfl,hS⟩;rw [Xbj];refine .q 1 rfl (.nil ?_);refine .cond rfl (fun hb28=>?_) fun hb28=>?_
 ·refine .seq (.region (.val (.build (cs:=[_,_,_,_,_,_,_,_,_,_]) X4 X3o rfl) rfl (.so hS (k:=1) rfl rfl rfl rfl X3j rfl (by simp) ?_)));intro w hS;try simp only [Yh,Ye,Y9,Y7,Yg,Yn,Yd] at hS
  refine .q 1 rfl (.nil (.ret (X1i (b:=_) (cs:=[_,_,_,_,_,_,_,_,_,_]) Xmc hS (k:=1) rfl Xeu X3j rfl rfl rfl ?_)));refine ⟨_,rfl,I,_,7,Le.refl _,rfl,?_,rfl,rfl,fun h=>(by cases h),((hS.drop (k:=0) rfl).drop (k:=0) rfl)⟩;unfold Xos;rw [if_neg (by simp only [decide_eq_false_iff_not] at hb12; omega),if_neg (by rw [hb17]; decide),if_pos hb28]
 refine .skip (.seq (.region (.val (.fo 2 rfl X5r rfl rfl Qs9 rfl) rfl (.val (.lo rfl hS (k:=0) rfl Qg9 rfl) rfl (.call Tryz.func189 rfl (ec9 rfl X0) rfl (Xeg s.urls B _ I _ hS hu) ?_)))));rintro _ w ⟨po,e1,a1,J1,rfl,hJ1,hc1,hS⟩;refine .q 7 rfl (.nil (.seq (.region (.val (.fo 6 rfl X5r rfl rfl Qs9 rfl) rfl (.val (.lo rfl hS (k:=0) rfl Qg9 rfl) rfl (.call Tryz.func189 rfl (ec9 rfl X0) rfl (Xeg s.calls B _ J1 _ hS hcl) ?_))))));rintro _ w ⟨qo,e2,a2,J2,rfl,hJ2,hc2,hS⟩;refine .q 7 rfl (.nil (.seq (.seq (.t 3 rfl (.gm rfl rfl rfl rfl (.gval rfl rfl (fun hg1=>(.neq (.gd hg1 rfl) (.of rfl))) rfl (.val (.po rfl rfl rfl) rfl (.nil ?_))))))));refine .cond rfl (fun hb52=>?_) fun hb52=>?_
 ·refine .seq (.region (.val (.build (cs:=[_,_,_,_,_,_,_,_,_,_]) X4 X3o rfl) rfl (.so hS (k:=1) rfl rfl rfl rfl X3j rfl (by simp) ?_)));intro w hS;try simp only [Yh,Ye,Y9,Y7,Yg,Yn,Yd] at hS
  refine .q 1 rfl (.nil (.ret (X1i (b:=_) (cs:=[_,_,_,_,_,_,_,_,_,_]) Xmc hS (k:=1) rfl Xeu X3j rfl rfl rfl ?_)));refine ⟨_,rfl,J2,_,8,Le.trans hJ1 hJ2,rfl,?_,rfl,rfl,fun h=>(by cases h),((hS.drop (k:=0) rfl).drop (k:=0) rfl)⟩;have hk:=hb52;rw [(X5d hc1).1,(X5d hc2).1] at hk;unfold Xos;rw [if_neg (by simp only [decide_eq_false_iff_not] at hb12; omega),if_neg (by rw [hb17]; decide),if_neg (by rw [hb28]; decide),if_pos hk]
 refine .skip (.seq (.region (.val (.fo 7 rfl X5r rfl rfl Xk0 rfl) rfl (.val (.lo rfl hS (k:=0) rfl Xkb rfl) rfl (.call Tryz.func157 rfl (ec9 rfl X0) rfl (Xe1 sa sc s.rel hrl B _ J2 ((hr.mono hJ1).mono hJ2) _ hS) ?_)))));rintro _ w ⟨J3,ra,rc,rfl,hJ3,hrc,hrr,hS⟩;refine .val (.fo 7 rfl X5r rfl rfl Xk0 rfl) rfl (.s1 hS (k:=0) rfl rfl rfl rfl Xk0 (by simp) ?_);intro w hS;refine .nil (.seq (.region (.val (.ldsW (cs:=[_,_,_,_,_,_,_,_]) (.of rfl) hS (k:=0) rfl Xfm X2b rfl) rfl (.q 2 rfl (.val (.build (cs:=[_,_,_,_,_,_,_,_,_,_]) (pc9 rfl (pc9 rfl (pc9 rfl X4))) X3o rfl) rfl (.so hS (k:=1) rfl rfl rfl rfl X3j rfl (by simp) ?_))))));intro w hS;try simp only [Yh,Ye,Y9,Y7,Yg,Yn,Yd] at hS
 refine .q 1 rfl (.nil (.ret (X1i (b:=_) (cs:=[_,_,_,_,_,_,_,_,_,_]) Xmc hS (k:=1) rfl Xeu X3j rfl rfl rfl ?_)));have hk:=hb52;rw [(X5d hc1).1,(X5d hc2).1] at hk;obtain ⟨k1,k2⟩:=Y15.1 hk;simp only [bne_eq_false_iff_eq] at k1 k2
 obtain ⟨p,Q,rfl,hq,hp⟩:=(X5d hc1).2 k1;obtain ⟨q,T,rfl,hq2,hp2⟩:=(X5d hc2).2 k2;refine ⟨_,rfl,J3,X1l s ra rc p q,0,Le.trans hJ1 (Le.trans hJ2 hJ3),rfl,?_,rfl,rfl,fun _=>⟨ra,rc,p,q,Q,T,rfl,hrc,hrr,hq,hp.mono (Le.trans hJ2 hJ3),hq2,hp2.mono hJ3⟩,((hS.drop (k:=0) rfl).drop (k:=0) rfl)⟩;unfold Xos;rw [if_neg (by simp only [decide_eq_false_iff_not] at hb12; omega),if_neg (by rw [hb17]; decide),if_neg (by rw [hb28]; decide),if_neg (by rw [hk]; decide)]
def RegAt (I:Im) (pr:Addr) (lo:List Sv):Prop:=∃ a c E,At I pr [.slice a lo.length c]∧lo.length≤c∧EntsIn I a E lo
theorem EntsIn.mono {I J:Im} {a:Option Addr} {E:List (List Value)} {l:List Sv} (h:EntsIn I a E l) (hl:Le I J):EntsIn J a E l:=⟨h.1,fun i s hs=>by
 obtain ⟨p,c,e,h0,h1,ra,rc,pp,qq,Q,T,e2,h2,h3,h4,h5,h6,h7⟩:=h.2 i s hs;exact ⟨p,c,e,h0,h1.mono hl,ra,rc,pp,qq,Q,T,e2,h2,h3.mono hl,h4,h5.mono hl,h6,h7.mono hl⟩⟩
def RowsOf (J:Im) (C:List (List Value)) (l:List Sv):Prop:=C.length=l.length∧∀ (i:Nat) (s:Sv),l[i]?=some s→∃ c,C[i]?=some c∧SvAt J s c
theorem RowsOf.mono {J K:Im} {C:List (List Value)} {l:List Sv} (h:RowsOf J C l) (hl:Le J K):RowsOf K C l:=⟨h.1,fun i s hs=>by
 obtain ⟨c,h1,h2⟩:=h.2 i s hs;exact ⟨c,h1,h2.mono hl⟩⟩
theorem RowsOf.snoc {J:Im} {C:List (List Value)} {l:List Sv} {s:Sv} {c:List Value} (h:RowsOf J C l) (hs:SvAt J s c):RowsOf J (C ++ [c]) (l ++ [s]):=⟨by simp [h.1],fun i t ht=>by
 rcases Yr i l.length with hi | hi
 ·rw [Yk hi] at ht;obtain ⟨d,h1,h2⟩:=h.2 i t ht;exact ⟨d,by rw [Yk (by rw [h.1]; exact hi)]; exact h1,h2⟩
 ·rw [Yw hi] at ht;have hi0:i - l.length=0:=by have:=(Y5.1 ht).1; simp at this; omega
  rw [hi0] at ht;cases ht
  exact ⟨c,by rw [Yw (by rw [h.1]; exact hi),h.1,hi0]; rfl,hs⟩⟩
end Go.Proofs.YtfibbpgikjggfaaGreatDoor
