/- Part 7 of what the proof stands on: W22b, W22c, W20e, W20i, W20j, W20k, W20d, W20l, GkQ, W22d, Uid, W22e, W22f. -/
import Derived.Test.YtfibbpgikjggfaaGreatDoorM2PF
import Derived.KernelRfl
set_option linter.unusedVariables false
set_option linter.unusedSimpArgs false
namespace Go.Proofs.YtfibbpgikjggfaaGreatDoor
open Gk Ul Pc Tk Tr
structure Ob where
 act:Int
 n:Int
 k:Int
 a:List UInt8
 b:List UInt8
 d:List Nat
def Xcc (o:Ob) (da:Option Addr) (dc:Nat):List Value:=[I64 o.act,I64 o.n,I64 o.k,S o.a,S o.b,.slice da o.d.length dc]
def ObAt (I:Im) (o:Ob) (cs:List Value):Prop:=∃ da dc,cs=Xcc o da dc∧o.d.length≤dc∧dc≤maxLen∧RS I da 1 o.d.length (o.d.map fun d=>U64 (d:Nat))
def ObsAt (I:Im) (a:Option Addr) (l:List Ob):Prop:=∃ L:List (List Value),L.length=l.length∧(∀ c∈L,c.length=6)∧RS I a 6 l.length L.flatten∧∀ (i:Nat) (o:Ob),l[i]?=some o→∃ cs,L[i]?=some cs∧ObAt I o cs
theorem ObAt.mono {I J:Im} {o:Ob} {cs:List Value} (h:ObAt I o cs) (hl:Le I J):ObAt J o cs:=by
 obtain ⟨da,dc,e,h1,h2,h3⟩:=h;exact ⟨da,dc,e,h1,h2,h3.mono hl⟩
theorem ObsAt.mono {I J:Im} {a:Option Addr} {l:List Ob} (h:ObsAt I a l) (hl:Le I J):ObsAt J a l:=by
 obtain ⟨L,h1,h2,h3,h4⟩:=h;exact ⟨L,h1,h2,h3.mono hl,fun i o ho=>by
  obtain ⟨cs,h5,h6⟩:=h4 i o ho;exact ⟨cs,h5,h6.mono hl⟩⟩
theorem ObsAt.at {I:Im} {a:Option Addr} {l:List Ob} (h:ObsAt I a l) (i:Nat) (u:Ob) (hu:l[i]?=some u):∃ p cs,a=some p∧At I (p.add (i*6)) cs∧ObAt I u cs:=by
 obtain ⟨L,h1,h2,h3,h4⟩:=h;obtain ⟨cs,h5,h6⟩:=h4 i u hu;obtain ⟨p,rfl,hp⟩:=h3.2 (by have:=(Y5.1 hu).1; omega);refine ⟨p,cs,rfl,?_,h6⟩;have h8:=X3m (hp.add (i*6)) 6;rw [X1s L h2 i _ h5] at h8;exact h8
structure Ob.fits (o:Ob):Prop where
 d:∀ x∈o.d,x<18446744073709551616
 a:o.a.length≤maxLen
 b:o.b.length≤maxLen
def bigB (o:Ob):Bool:=(decide ((60:Int)<(o.a.length:Int)) || decide ((200:Int)<(o.b.length:Int))) || decide ((10:Int)<(o.d.length:Int))
def Xg8 (c:Cf) (l:List Rec) (ops:List Ob):Bool:=(l.all Xbg && ops.all fun o=>!bigB o) && ((fewC c && decide ((l.length:Int)≤30)) && decide ((ops.length:Int)≤30))
def Xq (o:Ob) (names:List (List UInt8)):List UInt8:=if (decide (0<o.k) && decide (o.k≤(names.length:Int)))=true then (names[names.length - o.k.toNat]?).getD [] else o.a
theorem Xjy {o:Ob} {ns:List (List UInt8)} (ha:o.a.length≤60) (h:∀ t∈ns,t.length≤60):(Xq o ns).length≤60:=by
 unfold Xq;split
 ·cases e:ns[ns.length - o.k.toNat]? with
  | none=>decide
  | some t=>exact h t (Yi e)
 ·exact ha
def X5x (c:Cf) (l:List Rec):Wd:=l.foldl X42 (w0 c)
theorem Xic (c:Cf) (l:List Rec):X3n (X5x c l):=X91 l (Xte c)
theorem Xfv {c:Cf} {l:List Rec} {ops:List Ob} (h:Xg8 c l ops=true):fewC c=true∧(∀ r∈l,r.name.length≤60∧r.parent.length≤60)∧l.length≤30∧ops.length≤30∧∀ o∈ops,o.a.length≤60∧o.b.length≤200∧o.d.length≤10:=by
 unfold Xg8 at h;simp only [Yq,decide_eq_true_eq] at h
 refine ⟨h.2.1.1,fun r hr=>?_,by omega,by omega,fun o ho=>?_⟩
 ·have:=Y1b.1 h.1.1 r hr
  unfold Xbg at this;simp only [Yq,decide_eq_true_eq] at this
  omega
 ·have:=Y1b.1 h.1.2 o ho
  simp [bigB] at this
  omega
theorem Xkt (c:Cf) (a:Option Addr) (cap:Nat) (ua:Option Addr) (ucap:Nat) (la:Option Addr) (lc:Nat) (l:List Rec) (hll:l.length≤9223372036854775807) (oa:Option Addr) (oc:Nat) (ops:List Ob) (hol:ops.length≤9223372036854775807) (B w:World) (I:Im) (hC:CfAt I c a cap ua ucap) (hR:RS I la 10 l.length (X12 X5 l)) (hO:ObsAt I oa ops) (As:List X7) (hS:Sat B w I As) :
  Cz 9 [.agg (Xl c a cap ua ucap).toArray,.slice la l.length lc,.slice oa ops.length oc] w fun v w'=>v=.bool (Xg8 c l ops)∧Sat B w' I As:=by
 refine calls Tryz.func9 rfl Tryz.ntmps9 rfl (.seq (.region (.boxA (cs:=Xl c a cap ua ucap) hS (.of rfl) rfl ?_)));intro b3 w hS;refine .q 1 rfl (.nil (.seq (.seq (.q 1 rfl (.block (.loop (σ:=Nat) (fun i=>[(1,.slice la l.length lc),(2,.slice oa ops.length oc),(3,ptr b3 0),(7,I64 (i:Nat))]) (fun i w=>i≤l.length∧(∀ (j:Nat) r,j<i→l[j]?=some r→Xbg r=true)∧Sat B w I (blk b3 (Xl c a cap ua ucap) 29::As)) (fun i=>l.length - i) 0 ⟨rfl,rfl,rfl,rfl,trivial⟩ ⟨Yo _,fun _ _ h=>absurd h (by omega),hS⟩ ?_))))));rintro i w ⟨hi,hno,hS⟩;refine .seq (.seq (.region (.run 4 rfl ⟨⟨_,X1p⟩,trivial⟩ (.nil ?_))));refine .cond rfl (fun hb14=>?_) fun hb14=>?_
 ·have hc14:=hb14; simp only [Y6] at hc14;refine .skip (.seq (.block (.seq ?_)));obtain ⟨r,hr⟩:∃ r,l[i]?=some r:=⟨_,Y4 (by omega)⟩
  obtain ⟨p,hp9,hx⟩:=X5s (cells:=X5) (s:=10) (fun _=>rfl) hR hr;subst hp9;refine .t 2 rfl (.val (.ii rfl rfl (by omega) (by omega) X1p Xu) rfl (.val (.ldsI (.of rfl) hS hx X3e Xu rfl (fun _ _ h=>h)) rfl (.call Tryz.func45 rfl (ec9 rfl X0) rfl (Xjv r B _ I _ hS) ?_)));rintro _ w ⟨rfl,hS⟩;refine .q 1 rfl (.nil (.seq (.q 2 rfl ?_)));refine .cond rfl (fun hb23=>?_) fun hb23=>?_
  ·refine .seq (.q 1 rfl (.ret (X9 Tryz.results9 rfl ?_)));refine ⟨_,rfl,congrArg Value.bool ?_,hS.drop (k:=0) rfl⟩
   have:l.all Xbg=false:=Y2e.2 ⟨r,Yi hr,by simpa using hb23⟩
   rw [Xg8,this]; rfl
  have hc23:=hb23; simp only [Y6] at hc23;refine .skip (.region (.run 3 rfl ⟨⟨by omega,by omega⟩,trivial⟩ (.nil ?_)));refine ⟨i+1,⟨rfl,rfl,rfl,rfl,trivial⟩,⟨by (try dsimp only); omega,fun j t hj ht=>?_,hS⟩,by (try dsimp only); omega⟩;rcases Yr j i with h1 | h1
  ·exact hno j t h1 ht
  ·have e:j=i:=by omega
   subst e;rw [hr] at ht; cases ht;simpa using hb23
 have hc14:=hb14; simp only [Y6] at hc14;refine .exit (.seq (.seq ?_));have hil:i=l.length:=by omega
 subst hil;have hallr:l.all Xbg=true:=by
  rw [Y1b];intro r hr;obtain ⟨j,hj⟩:=Yx.1 hr
  have:=(Y5.1 hj).1
  exact hno j r (by omega) hj
 refine .q 1 rfl (.block (.loop (σ:=Nat) (fun i=>[(1,.slice la l.length lc),(2,.slice oa ops.length oc),(3,ptr b3 0),(9,I64 (i:Nat))]) (fun i w=>i≤ops.length∧(∀ (j:Nat) o,j<i→ops[j]?=some o→bigB o=false)∧Sat B w I (blk b3 (Xl c a cap ua ucap) 29::As)) (fun i=>ops.length - i) 0 ⟨rfl,rfl,rfl,rfl,trivial⟩ ⟨Yo _,fun _ _ h=>absurd h (by omega),hS⟩ ?_));rintro i w ⟨hi,hnq,hS⟩;refine .seq (.seq (.region (.run 4 rfl ⟨⟨_,Xrh⟩,trivial⟩ (.nil ?_))));refine .cond rfl (fun hb27=>?_) fun hb27=>?_
 ·have hc27:=hb27; simp only [Y6] at hc27;refine .skip (.seq (.block (.seq ?_)));obtain ⟨o,ho⟩:∃ o,ops[i]?=some o:=⟨_,Y4 (by omega)⟩
  obtain ⟨p,cs,hp9,hq,da,dc,rfl,hdc,hdm,hd⟩:=hO.at i o ho;subst hp9;unfold Xcc at hq;refine .t 2 rfl (.val (.ii rfl rfl (by omega) (by omega) Xrh Xti) rfl (.val (.fi 3 rfl Xcn rfl rfl Qs9 rfl) rfl (.val (.ldI (.of rfl) hS (At.add hq _) Qg9 rfl) rfl (.run 3 rfl ⟨Qu9,trivial⟩ (.gm rfl rfl rfl rfl (.gm rfl rfl rfl rfl ?_))))));refine .gval rfl rfl (fun hg1=>(by exact .indexAddrI (.gd hg1 rfl) (.gd hg1 rfl) (by (try simp only [Y6] at hg1); omega) (by (try simp only [Y6] at hg1); omega) Xrh Xti)) rfl ?_;refine .gval rfl rfl (fun hg1=>(by exact .fieldAddrI 4 (.gd hg1 rfl) Xcn rfl rfl Qs9 rfl)) rfl ?_;refine .gval rfl rfl (fun hg1=>(by exact (.ldI (.gd hg1 rfl) hS (At.add hq _) Qg9 rfl))) rfl ?_;refine .gval rfl rfl (fun hg1=>(.len (.gd hg1 rfl) Qu9)) rfl (.gval rfl rfl (fun hg1=>(.gtr (.gd hg1 rfl) (.of rfl))) rfl (.val (.po rfl rfl rfl) rfl (.q 1 rfl (.gm rfl rfl rfl rfl (.gm rfl rfl rfl rfl ?_)))));refine .gval rfl rfl (fun hg1=>(by exact .indexAddrI (.gd hg1 rfl) (.gd hg1 rfl) (by (try simp only [Y6] at hg1); omega) (by (try simp only [Y6] at hg1); omega) Xrh Xti)) rfl ?_;refine .gval rfl rfl (fun hg1=>(by exact .fieldAddrI 5 (.gd hg1 rfl) Xcn rfl rfl Xb8 rfl)) rfl ?_;refine .gval rfl rfl (fun hg1=>(by exact (.ldI (.gd hg1 rfl) hS (At.add hq _) Xjx rfl))) rfl ?_;refine .gval rfl rfl (fun hg1=>(.lenSlice (.gd hg1 rfl) Xfn)) rfl (.gval rfl rfl (fun hg1=>(.gtr (.gd hg1 rfl) (.of rfl))) rfl (.val (.po rfl rfl rfl) rfl (.nil ?_)));refine .cond rfl (fun hb54=>?_) fun hb54=>?_
  ·refine .seq (.q 1 rfl (.ret (X9 Tryz.results9 rfl ?_)));refine ⟨_,rfl,congrArg Value.bool ?_,hS.drop (k:=0) rfl⟩
   have:(ops.all fun o=>!bigB o)=false:=Y2e.2 ⟨o,Yi ho,by rw [show bigB o=true from hb54]; decide⟩
   rw [Xg8,this,Y3n]; rfl
  have hc54:=hb54; simp only [Y6] at hc54;refine .skip (.region (.run 3 rfl ⟨⟨by omega,by omega⟩,trivial⟩ (.nil ?_)));refine ⟨i+1,⟨rfl,rfl,rfl,rfl,trivial⟩,⟨by (try dsimp only); omega,fun j t hj ht=>?_,hS⟩,by (try dsimp only); omega⟩;rcases Yr j i with h1 | h1
  ·exact hnq j t h1 ht
  ·have e:j=i:=by omega
   subst e;rw [ho] at ht; cases ht;exact hb54
 have hc27:=hb27; simp only [Y6] at hc27;refine .exit (.seq (.region ?_));refine .val (.lds (vs:=Xl c a cap ua ucap) (.of rfl) hS (k:=0) rfl Xrc Xjw rfl (fun j v hj=>by rw [Yd]; exact hj)) rfl ?_;refine .call Tryz.func46 rfl (ec9 rfl X0) rfl (Xpm c a cap ua ucap hC.cap.1 hC.cap.2 hC.un hC.ufit B _ I hC.svs hC.us _ hS) ?_;rintro _ w ⟨rfl,hS⟩;refine .q 1 rfl (.nil (.seq (.t 2 rfl (.gm rfl rfl rfl rfl (.gval rfl rfl (fun hg1=>(.lenSlice (.gd hg1 rfl) X1p)) rfl (.gval rfl rfl (fun hg1=>(.leq (.gd hg1 rfl) (.of rfl))) rfl (.val (.pa rfl rfl rfl) rfl (.q 1 rfl (.gm rfl rfl rfl rfl (.gval rfl rfl (fun hg1=>(.lenSlice (.gd hg1 rfl) Xrh)) rfl (.gval rfl rfl (fun hg1=>(.leq (.gd hg1 rfl) (.of rfl))) rfl (.val (.pa rfl rfl rfl) rfl (.q 1 rfl (.nil (.ret (X9 Tryz.results9 rfl ?_))))))))))))))));refine ⟨_,rfl,congrArg Value.bool ?_,hS.drop (k:=0) rfl⟩
 have:(ops.all fun o=>!bigB o)=true:=by
  rw [Y1b];intro q hq;obtain ⟨j,hj⟩:=Yx.1 hq
  have:=(Y5.1 hj).1
  rw [hnq j q (by omega) hj]; rfl
 rw [Xg8,hallr,this]; rfl
theorem Xkm (o:Ob) (da:Option Addr) (dc:Nat) (a:Option Addr) (c:Nat) (names:List (List UInt8)) (hl:names.length≤9223372036854775807) (B w:World) (I:Im) (As:List X7) (hE:∀ w,Sat B w I As→Xb2 w Xa3 1 a names) (hS:Sat B w I As) :
  Cz 22 [.agg (Xcc o da dc).toArray,.slice a names.length c] w fun v w'=>v=S (Xq o names)∧Sat B w' I As:=by
 refine calls Tryz.func22 rfl Tryz.ntmps22 rfl (.seq (.region (.boxA (cs:=[I64 o.act,I64 o.n,I64 o.k,S o.a,S o.b,.slice da o.d.length dc]) hS (.of rfl) rfl ?_)));intro b2 w hS;refine .q 1 rfl (.nil (.seq (.seq (.region ?_))));refine .val (.fo 2 rfl Xcn rfl rfl Qs3 rfl) rfl (.val (.lo rfl hS (k:=0) rfl Qg3 rfl) rfl (.q 2 rfl ?_));refine .gval rfl rfl (fun hg1=>(by exact .fo 2 rfl Xcn rfl rfl Qs3 rfl)) rfl ?_;refine .gval rfl rfl (fun hg1=>(.ld (.gd hg1 rfl) hS (k:=0) rfl Qg3 rfl)) rfl (.gm rfl rfl rfl rfl (.gval rfl rfl (fun hg1=>(.lenSlice (.gd hg1 rfl) X19)) rfl (.gval rfl rfl (fun hg1=>(.leq (.gd hg1 rfl) (.gd hg1 rfl))) rfl (.val (.pa rfl rfl rfl) rfl (.nil ?_)))));refine .cond rfl (fun hb14=>?_) fun hb14=>?_
 ·refine .seq ?_;have hk9:=hb14;simp only [Yq,decide_eq_true_eq] at hk9
  obtain ⟨k,hk⟩:∃ k,k=names.length - o.k.toNat:=⟨_,rfl⟩
  obtain ⟨x,hx⟩:∃ x,names[k]?=some x:=⟨_,Y4 (by omega)⟩
  obtain ⟨p,rfl,hA⟩:=hE w (hS.drop (k:=0) rfl) k x hx;have hc0:=hA 0 _ rfl;refine .region (.run 3 rfl ⟨⟨_,X19⟩,trivial⟩ ?_);refine .val (.fo 2 rfl Xcn rfl rfl Qs3 rfl) rfl (.val (.lo rfl hS (k:=0) rfl Qg3 rfl) rfl (.val (.sub (.of rfl) (.of rfl) ⟨by omega,by omega⟩) rfl ?_));rw [show ((names.length:Nat):Int) - o.k=((k:Nat):Int) by omega];refine .val (.ii rfl rfl (by omega) (by omega) X19 Qs9) rfl (.val (v:=S x) (.ld1 (.of rfl) (by simpa [Addr.add_add] using hc0) Qg9) rfl (.q 1 rfl (.nil (.ret (X9 Tryz.results22 rfl ?_)))));exact ⟨_,rfl,congrArg S (by rw [Xq,if_pos hb14,← hk,hx]; rfl),hS.drop (k:=0) rfl⟩
 refine .skip (.seq (.region ?_));refine .val (.fo 3 rfl Xcn rfl rfl Qs9 rfl) rfl (.val (.lo rfl hS (k:=0) rfl Qg9 rfl) rfl (.q 1 rfl (.nil (.ret (X9 Tryz.results22 rfl ?_)))));exact ⟨_,rfl,congrArg S (by rw [Xq,if_neg (by rw [hb14]; decide)]),hS.drop (k:=0) rfl⟩
theorem Xbn (c:Cf) (a:Option Addr) (cap:Nat) (ua:Option Addr) (ucap:Nat) (hc:c.fits) (la:Option Addr) (lc:Nat) (l:List Rec) (hll:l.length≤9223372036854775807) (hsr:∀ r∈l,r.name.length≤60∧r.parent.length≤60) (B w:World) (I:Im) (hK:Known I) (hP:PreAt I) (hC:CfAt I c a cap ua ucap) (hR:RS I la 10 l.length (X12 X5 l)) (As:List X7) (hS:Sat B w I As) :
  Cz 10 [.agg (Xl c a cap ua ucap).toArray,.slice la l.length lc] w fun v w'=>∃ J pv,Le I J∧v=.pointer pv∧MadeT c (X5x c l) J pv B w' As:=by
 refine calls Tryz.func10 rfl Tryz.ntmps10 rfl (.seq (.region (.boxA (cs:=Xl c a cap ua ucap) hS (.of rfl) rfl ?_)));clear hS; intro b2 w hS;refine .q 1 rfl (.nil (.seq (.region ?_)));refine .val (.lds (vs:=Xl c a cap ua ucap) (.of rfl) hS (k:=0) rfl Xrc Xjw rfl (fun j v hj=>by rw [Yd]; exact hj)) rfl ?_;refine .call Tryz.func47 rfl (ec9 rfl X0) rfl (Xfd c hc a cap ua ucap B _ I hK hP hC.svs hC.us _ hS) ?_;clear hS;rintro v w ⟨J,hJ,hcase⟩;obtain ⟨pv,e9,rfl,hcs⟩:∃ (pv:Option Addr) (e9:Nat),v=.tuple #[.pointer pv,I64 (e9:Nat)]∧((X5w c≠0∧pv=none∧Sat B w J (blk b2 (Xl c a cap ua ucap) 29::As))∨(X5w c=0∧∃ p D,Srt.Ord (kx (ords c.svs)) c.svs.length D∧p.lo=X2q c.svs D∧p.us=c.us∧p.ps=c.ps∧pv=some (ad p.wb 0)∧WpOk J p∧Sat B w J (wdA p (w0 c)::blk b2 (Xl c a cap ua ucap) 29::As))):=by
  rcases hcase with ⟨h1,h2,h3⟩ | ⟨h1,p,D,h2,h3,h4,h5,h6,h7,h8⟩
  ·exact ⟨_,_,h2,.inl ⟨h1,rfl,h3⟩⟩
  ·exact ⟨_,0,h6,.inr ⟨h1,p,D,h2,h3,h4,h5,rfl,h7,h8⟩⟩
 refine .q 5 rfl (.nil (.seq (.seq (.t 1 rfl (.val (.eqp (.of rfl) (.of rfl) Qu37) rfl (.nil ?_))))));refine .cond rfl (fun hb14=>?_) fun hb14=>?_
 ·refine .seq (.q 1 rfl (.ret (X9 Tryz.results10 rfl ?_)));rcases hcs with ⟨h1,rfl,hS⟩ | ⟨_,p,D,_,_,_,_,h9,_⟩
  ·exact ⟨_,rfl,J,none,hJ,rfl,.inl ⟨h1,rfl,hS.drop (k:=0) rfl⟩⟩
  ·exfalso; rw [h9] at hb14; cases hb14
 have hc14:=hb14; try simp only [Y6] at hc14
 refine .skip (.seq (.seq (.q 1 rfl (.block ?_))));rcases hcs with ⟨_,h9,_⟩ | ⟨hz,p,D,hD,hlo,hus,hps,hpv,hI,hS⟩
 ·exfalso; rw [h9] at hb14; cases hb14
 subst hpv;refine .loop (σ:=Nat) (fun i=>[(1,.slice la l.length lc),(5,ptr p.wb 0),(7,I64 (i:Nat))]) (fun i w=>i≤l.length∧Sat B w J (wdA p ((l.take i).foldl X42 (w0 c))::blk b2 (Xl c a cap ua ucap) 29::As)) (fun i=>l.length - i) 0 ⟨rfl,rfl,rfl,trivial⟩ ⟨Yo _,hS⟩ ?_;rintro i w ⟨hi,hS⟩;refine .seq (.seq (.region (.run 4 rfl ⟨⟨_,X1p⟩,trivial⟩ (.nil ?_))));refine .cond rfl (fun hb18=>?_) fun hb18=>?_
 ·have hc18:=hb18; try simp only [Y6] at hc18
  refine .skip (.seq (.block ?_));obtain ⟨⟨a9,c9,ma9,mc9⟩,hS⟩:=Sat.unbox hS;replace hS:Sat B _ _ (blk p.wb (wdC p ((l.take i).foldl X42 (w0 c))) 44::blk p.tb [I64 ((l.take i).foldl X42 (w0 c)).room,.slice a9 ((l.take i).foldl X42 (w0 c)).l.length c9] 114::Vec 54 10 (.slice a9 ((l.take i).foldl X42 (w0 c)).l.length c9) ((l.take i).foldl X42 (w0 c)).l.length (Xe ((l.take i).foldl X42 (w0 c)).l)::blk p.mb [.slice ma9 ((l.take i).foldl X42 (w0 c)).D.length mc9] 111::X3i 104 (.slice ma9 ((l.take i).foldl X42 (w0 c)).D.length mc9) (((l.take i).foldl X42 (w0 c)).D.map fun d=>U64 (d:Nat))::_):=hS;obtain ⟨r,hr⟩:∃ r,l[i]?=some r:=⟨_,Y4 (by omega)⟩
  obtain ⟨pp,hp9,hx⟩:=X5s (cells:=X5) (s:=10) (fun _=>rfl) hR hr;subst hp9;have hω:=X91 (l.take i) (Xte c);have hlen:=hω.len;refine .drawn (fun w=>∃ R,Sat B w J (blk p.wb (wdC p ((l.take i).foldl X42 (w0 c))) 44::R)) (fun j=>!([].contains j)) (by kernel_rfl) ?_;replace hS:=hS.drew; generalize w.drew=w at hS ⊢;have hH:=(hS.pick 0 rfl)
  refine .tp (i:=0) rfl (by kernel_rfl) (fun w=>(.mo rfl)) rfl (.tp (i:=1) rfl (by kernel_rfl) (fun w=>(.no rfl)) rfl ?_);refine .tp (i:=2) rfl (by kernel_rfl) (fun w=>(.fo 0 rfl X69 rfl rfl Xfo rfl)) rfl (.tk (i:=3) rfl (by kernel_rfl) ⟨_,hH⟩ (fun w ⟨R,hS⟩=>(.lo rfl hS (k:=0) rfl Xdt rfl)) rfl (.tp (i:=4) rfl (by kernel_rfl) (fun w=>(.mo rfl)) rfl (.tp (i:=5) rfl (by kernel_rfl) (fun w=>(.mo rfl)) rfl ?_)));refine .tp (i:=6) rfl (by kernel_rfl) (fun w=>(.ii rfl rfl (by omega) (by omega) X1p Xu)) rfl (.tk (i:=7) rfl (by kernel_rfl) ⟨_,hH⟩ (fun w ⟨R,hS⟩=>.ldsI (.of rfl) hS (hx.mono hJ) X3e Xu rfl (fun _ _ h=>h)) rfl (.b1 8 (by kernel_rfl) rfl (.call Tryz.func48 rfl (ec9 rfl (ec9 rfl X0)) rfl (Xmv p.tb ((l.take i).foldl X42 (w0 c)).room a9 c9 ((l.take i).foldl X42 (w0 c)).l (by omega) r (by have:=hsr r (Yi hr); omega) (by have:=hsr r (Yi hr); omega) B _ J hI.known hI.pre _ ((hS.pick 2 rfl).pick 2 rfl)) ?_)));clear hS;rintro _ w ⟨rfl,a2,c2,hS⟩;try dsimp only [List.eraseIdx] at hS
  refine .nil ?_;clear hH;have hH:=(hS.pick 2 rfl)
  refine ⟨fun _ _=>⟨_,hH⟩,?_⟩;refine .done (by kernel_rfl) (.region (.run 3 rfl ⟨⟨by omega,by omega⟩,trivial⟩ (.nil ?_)));replace hS:=Sat.box (T:=wdT p (X42 ((l.take i).foldl X42 (w0 c)) r)) (a2,c2,ma9,mc9) (((((hS.pick 4 rfl).pick 4 rfl).pick 3 rfl).pick 3 rfl).pick 4 rfl);try dsimp only [List.eraseIdx] at hS
  refine ⟨i+1,⟨rfl,rfl,rfl,trivial⟩,⟨by (try dsimp only); omega,?_⟩,by (try dsimp only); omega⟩;show Sat B _ J (wdA p ((l.take (i+1)).foldl X42 (w0 c))::_)
  rw [Y12,hr,Y1k,Y34];exact hS
 have hc18:=hb18; try simp only [Y6] at hc18
 refine .exit (.seq ?_);have hil:i=l.length:=by omega
 subst hil;rw [Y13] at hS;refine .q 2 rfl (.ret (X9 Tryz.results10 rfl ?_));exact ⟨_,rfl,J,_,hJ,rfl,.inr ⟨hz,p,D,hD,hlo,hus,hps,rfl,hI,hS.drop (k:=1) rfl⟩⟩
theorem X2w (kind:Int) (d:Nat) (hk:¬ X39 kind=[]) (hd:d<18446744073709551616) (B w:World) (I:Im) (As:List X7) (hS:Sat B w I As) :
  Cz 44 [I64 kind,U64 (d:Nat)] w fun v w'=>v=S (X39 kind ++ 45::X49 16 d)∧Sat B w' I As:=by
 refine calls Xtj rfl Tryz.ntmps44 rfl (.seq (.q 1 rfl (.seq (.t 2 rfl (.call Tryz.func99 rfl (ec9 rfl (ec9 rfl X0)) rfl (Xai kind d hd B _ I _ hS) ?_)))));rintro v w ⟨hv9,hS⟩;rw [if_neg hk] at hv9;subst hv9;refine .q 5 rfl (.nil (.seq (.q 2 rfl (.ret (X9 Tryz.results44 rfl ?_)))));exact ⟨_,rfl,rfl,hS⟩
theorem Xu0:Bld Tryz.prog 29 [(0,1),(1,1),(2,21),(23,1),(24,1),(25,1),(26,1),(27,1)] [.slice none 0 0,.slice none 0 0,.int .i64 0,.int .i64 0,.int .i64 0,.int .i64 0,.int .i64 0,.int .i64 0,.int .i64 0,.int .i64 0,.int .i64 0,.int .i64 0,.int .i64 0,.int .i64 0,.int .i64 0,.int .i64 0,.int .i64 0,.int .i64 0,.int .i64 0,.int .i64 0,.int .i64 0,.int .i64 0,.int .i64 0,.int .i64 0,.float .f64 0,.float .f64 0,.float .f64 0,.int .i64 0]:=X2n Xe2 Tryz.zeroValue29 (fun w=>by simp [go_sem])
def AS1:Sv:=⟨1,0,[104,116,116,112,58,47,47,97,47,42,42],false,true,false,[104,116,116,112,115,58,47,47,97,47,42,42],[]⟩
def AS2:Sv:=⟨2,0,[104,116,116,112,115,58,47,47,98,47,42,42],false,false,false,[],[]⟩
def AXC:Cf:=⟨[AS1,AS2],[],fun _=>0,9,0,0,0,0⟩
def AX1:Rec:=⟨1,X39 1 ++ 45::X49 16 1,[],[117],[],[],0,0,0,false⟩
def AX2:Rec:=⟨2,X39 2 ++ 45::X49 16 2,X39 1 ++ 45::X49 16 1,[117],[104,116,116,112,58,47,47,97,47,120],[],0,0,1,false⟩
def AXN:List UInt8:=X39 2 ++ 45::X49 16 2
def AXB:List UInt8:=[104,116,116,112,115,58,47,47,97,47,99,98]
def AXT:List UInt8:=[104,116,116,112,115,58,47,47,98,47]
def AXW:Wd:=Xet (X5x AXC [AX1,AX2]) [3,4,5,6,7]
def xk1 (lo:List Sv):=Xt lo AXW AXN AXB
def xi1 (lo:List Sv) (ps:Nat→Int):=Xn lo ps (xk1 lo).2 (xk1 lo).1.1.pgt AXT
def xa1 (lo:List Sv) (ps:Nat→Int):=Xo (xi1 lo ps).2 (xk1 lo).1.1.iou 200
def xi2 (lo:List Sv) (ps:Nat→Int):=Xn lo ps (xa1 lo ps).2 (xk1 lo).1.1.pgt AXT
def xk2 (lo:List Sv) (ps:Nat→Int):=Xt lo (xi2 lo ps).2 AXN AXB
def xa2 (lo:List Sv) (ps:Nat→Int):=Xo (xk2 lo ps).2 (xk2 lo ps).1.1.iou 404
theorem Xue:X5w AXC=0:=by kernel_rfl
theorem Xt9:Srt.Ord (kx (ords [AS1,AS2])) 2 [0,1]:=⟨by decide +kernel,by decide +kernel⟩
theorem Xqa:AXC.fits:=⟨by decide,by decide +kernel,by decide +kernel,by decide,fun u hu=>by simp [AXC] at hu⟩
theorem Xaa:X3n AXW:=Xi0 (Xic AXC [AX1,AX2]) (by decide)
theorem callW_short {lo:List Sv} {ω:Wd} {t cb:List UInt8}:(Xt lo ω t cb).1.1.pgt.length≤23∧(Xt lo ω t cb).1.1.iou.length≤23:=by
 unfold Xt
 repeat' split
 all_goals first | exact ⟨Yo _,Yo _⟩ | exact ⟨X6z,X6z⟩
theorem Xpv {J:Im} {s:Nat} {E:TypeId} (h1:J s=some (Xi [I64 1,F64 0,S AS1.urls,.bool false,.bool true,.bool false,S AS1.calls,.slice none 0 0,I64 2,F64 0,S AS2.urls,.bool false,.bool false,.bool false,S [],.slice none 0 0] E)):CfAt J AXC (some (ad s 0)) 2 none 0:=by
 refine ⟨fun i t ht=>?_,fun i t ht=>by simp [AXC] at ht,by decide,by decide,fun t ht=>?_,fun u hu=>by simp [AXC] at hu⟩
 ·match i,ht with
  | 0,ht=>cases ht; exact ⟨_,none,0,rfl,X3m (X4y h1) 8,Yu _,RS.nil _ _⟩
  | 1,ht=>cases ht; exact ⟨_,none,0,rfl,(X4y h1).add 8,Yu _,RS.nil _ _⟩
  | i+2,ht=>simp [AXC] at ht
 ·simp only [AXC,Y18,List.not_mem_nil,or_false] at ht
  rcases ht with rfl | rfl <;> (constructor <;> decide +kernel)
set_option maxRecDepth 20000 in
theorem Xfs (B w:World) (I:Im) (hK:Known I) (hP:PreAt I) (As:List X7) (hS:Sat B w I As) :
  Cz 8 [] w fun v w'=>v=.bool true∧Sat B w' I As:=by
 refine calls Tryz.func8 rfl Tryz.ntmps8 rfl (.seq (.q 1 rfl (.seq (.region (.val (.build (cs:=[_,_,_,_,_,_,_,_]) (pc9 rfl (pc9 rfl (pc9 rfl (pc9 rfl X4)))) X3f rfl) rfl (.val (.build (cs:=[_,_,_,_,_,_,_,_]) (pc9 rfl (pc9 rfl X4)) X3f rfl) rfl (.buildSlice (cs:=[_,_,_,_,_,_,_,_,_,_,_,_,_,_,_,_]) hS (pc9 rfl (pc9 rfl X4)) X7d X2b Xj3 rfl rfl rfl rfl ?_)))))));intro b22 w hS;refine .val (.build (cs:=[_,_,_,_,_,_,_,_,_,_,_,_,_,_,_,_,_,_,_,_,_,_,_,_,_,_,_,_]) (pc9 rfl (pc9 rfl X4)) Xu0 rfl) rfl (.allocA (cs:=[_,_,_,_,_,_,_,_,_,_,_,_,_,_,_,_,_,_,_,_,_,_,_,_,_,_,_,_]) hS Tryz.zeroValue29 rfl ?_);intro b1 w hS;refine .so hS (k:=0) rfl rfl rfl rfl Xjw rfl (by simp) ?_;intro w hS;try simp only [Yh,Ye,Y9,Y7,Yg,Yn,Yd] at hS
 refine .nil (.seq (.drawn (fun w=>∃ J9 R,Le I J9∧Sat B w J9 (blk b1 (Xl AXC (some (ad b22 0)) 2 none 0) 29::R)) (fun j=>!([].contains j)) (by kernel_rfl) ?_));replace hS:=hS.drew; generalize w.drew=w at hS ⊢;have hH:∃ J9 R,Le I J9∧Sat B w J9 (blk b1 (Xl AXC (some (ad b22 0)) 2 none 0) 29::R):=⟨_,_,Le.refl _,(hS.pick 0 rfl)⟩
 refine .tk (i:=0) rfl (by kernel_rfl) hH (fun w ⟨J9,R,hL9,hS⟩=>((.ldsW (cs:=[_,_,_,_,_,_,_,_,_,_,_,_,_,_,_,_,_,_,_,_,_,_,_,_,_,_,_,_]) (.of rfl) hS (k:=0) rfl Xrc Xjw rfl))) rfl (.b1 1 (by kernel_rfl) rfl (.call Xtj rfl (ec9 rfl (ec9 rfl X0)) rfl (X2w 1 1 (by decide) (by decide) B _ I _ hS) ?_));rintro _ w ⟨rfl,hS⟩;refine .nil ?_;clear hH;have hH:∃ J9 R,Le I J9∧Sat B w J9 (blk b1 (Xl AXC (some (ad b22 0)) 2 none 0) 29::R):=⟨_,_,Le.refl _,(hS.pick 0 rfl)⟩
 refine ⟨fun _ _=>hH,?_⟩;refine .tp (i:=2) rfl (by kernel_rfl) (fun w=>(.build (cs:=[_,_,_,_,_,_,_,_,_,_]) (pc9 rfl (pc9 rfl (pc9 rfl X4))) X1v rfl)) rfl (.b1 3 (by kernel_rfl) rfl (.call Xtj rfl (ec9 rfl (ec9 rfl X0)) rfl (X2w 2 2 (by decide) (by decide) B _ I _ hS) ?_));rintro _ w ⟨rfl,hS⟩;refine .nil ?_;clear hH;have hH:∃ J9 R,Le I J9∧Sat B w J9 (blk b1 (Xl AXC (some (ad b22 0)) 2 none 0) 29::R):=⟨_,_,Le.refl _,(hS.pick 0 rfl)⟩
 refine ⟨fun _ _=>hH,?_⟩;refine .b1 4 (by kernel_rfl) rfl (.call Xtj rfl (ec9 rfl (ec9 rfl X0)) rfl (X2w 1 1 (by decide) (by decide) B _ I _ hS) ?_);rintro _ w ⟨rfl,hS⟩;refine .nil ?_;clear hH;have hH:∃ J9 R,Le I J9∧Sat B w J9 (blk b1 (Xl AXC (some (ad b22 0)) 2 none 0) 29::R):=⟨_,_,Le.refl _,(hS.pick 0 rfl)⟩
 refine ⟨fun _ _=>hH,?_⟩;refine .tp (i:=5) rfl (by kernel_rfl) (fun w=>(.build (cs:=[_,_,_,_,_,_,_,_,_,_]) (pc9 rfl (pc9 rfl (pc9 rfl (pc9 rfl (pc9 rfl (pc9 rfl X4)))))) X1v rfl)) rfl (.b1 6 (by kernel_rfl) rfl (.buildSlice (cs:=[_,_,_,_,_,_,_,_,_,_,_,_,_,_,_,_,_,_,_,_]) hS (pc9 rfl (pc9 rfl X4)) X1p Xu X5t rfl rfl rfl rfl ?_));intro b30 w hS;refine .nil ?_;clear hH;have hH:∃ J9 R,Le I J9∧Sat B w J9 (blk b1 (Xl AXC (some (ad b22 0)) 2 none 0) 29::R):=⟨_,_,Le.refl _,(hS.pick 1 rfl)⟩
 refine ⟨fun _ _=>hH,?_⟩;refine .b1 7 (by kernel_rfl) rfl ?_;obtain ⟨J1,hJ1,hb30,hS⟩:=hS.freeze (k:=0) rfl;try dsimp only [List.eraseIdx] at hS
 obtain ⟨J2,hJ2,hb22,hS⟩:=hS.freeze (k:=1) rfl;try dsimp only [List.eraseIdx] at hS
 have hRr:RS J2 (some (ad b30 0)) 10 2 (X12 X5 [AX1,AX2]):=⟨rfl,fun _=>⟨_,rfl,(X4y hb30).mono hJ2⟩⟩
 have hI9:=hJ1.trans hJ2;refine .call Tryz.func10 rfl (ec9 rfl (ec9 rfl X0)) rfl (Xbn AXC (some (ad b22 0)) 2 none 0 Xqa (some (ad b30 0)) 2 [AX1,AX2] (by decide) (by decide) B _ J2 (hK.mono hI9) (hP.mono hI9) (Xpv hb22) hRr _ hS) ?_;rintro _ w ⟨J,pv,hJ,rfl,hcs⟩;obtain ⟨_,p,D,hD,hlo,hus,hps,rfl,hI,hS⟩:=hcs.resolve_left (fun h=>h.1 Xue);obtain rfl:D=[0,1]:=hD.unique Xt9;have hlo:p.lo=[AS1,AS2]:=hlo;have hps:p.ps=fun _=>0:=hps
 have hIJ:=hI9.trans hJ;refine .nil ?_;clear hH;have hH:∃ J9 R,Le I J9∧Sat B w J9 (blk b1 (Xl AXC (some (ad b22 0)) 2 none 0) 29::R):=⟨_,_,hIJ,(hS.pick 1 rfl)⟩
 refine ⟨fun _ _=>hH,?_⟩;refine .tp (i:=8) rfl (by kernel_rfl) (fun w=>(.ao rfl)) rfl (.done (by kernel_rfl) (.seq (.seq ?_)));obtain ⟨⟨a,c,ma,mc⟩,hS⟩:=Sat.unbox hS;replace hS:Sat B _ _ (blk p.wb (wdC p (X5x AXC [AX1,AX2])) 44::blk p.tb [I64 (X5x AXC [AX1,AX2]).room,.slice a (X5x AXC [AX1,AX2]).l.length c] 114::Vec 54 10 (.slice a (X5x AXC [AX1,AX2]).l.length c) (X5x AXC [AX1,AX2]).l.length (Xe (X5x AXC [AX1,AX2]).l)::blk p.mb [.slice ma (X5x AXC [AX1,AX2]).D.length mc] 111::X3i 104 (.slice ma (X5x AXC [AX1,AX2]).D.length mc) ((X5x AXC [AX1,AX2]).D.map fun d=>U64 (d:Nat))::_):=hS;refine .t 1 rfl (.val (.eqp (.of rfl) (.of rfl) Qu37) rfl (.q 1 rfl (.gm rfl rfl rfl rfl (.gval rfl rfl (fun hg1=>(.nilCheck (.gd hg1 rfl))) rfl ?_))));refine .gval rfl rfl (fun hg1=>(by exact .fieldAddr 1 (.gd hg1 rfl) X69 rfl rfl Qs40 rfl)) rfl ?_;refine .gval rfl rfl (fun hg1=>(by exact (.ld (.gd hg1 rfl) hS (k:=0) rfl Qg40 rfl))) rfl ?_;refine .gval rfl rfl (fun hg1=>(.eqp (.gd hg1 rfl) (.of rfl) Tryz.underlying40)) rfl (.val (.po rfl rfl rfl) rfl (.nil (.condF (rfl) (.skip (.seq (.t 2 rfl ?_))))));refine .val (.fo 1 rfl X69 rfl rfl Qs40 rfl) rfl (.val (.lo rfl hS (k:=0) rfl Qg40 rfl) rfl (.buildSlice (cs:=[_,_,_,_,_]) hS (pc9 rfl (pc9 rfl (pc9 rfl (pc9 rfl (pc9 rfl X4))))) Xfn Xha Xs3 rfl rfl rfl rfl ?_));intro b45 w hS;obtain ⟨J5,hJ5,hb45,hS⟩:=hS.freeze (k:=0) rfl;try dsimp only [List.eraseIdx] at hS
 have hRd:RS J5 (some (ad b45 0)) 1 5 (([3,4,5,6,7]:List Nat).map fun d=>U64 (d:Nat)):=⟨rfl,fun _=>⟨_,rfl,X4y hb45⟩⟩
 have hI5:=hI.mono hJ5;refine .call Tryz.func11 rfl (ec9 rfl (ec9 rfl X0)) rfl (Xhi p.mb ma mc (X5x AXC [AX1,AX2]).D (by decide) (some (ad b45 0)) 5 [3,4,5,6,7] (by decide) B _ J5 hRd _ ((hS.pick 4 rfl).pick 4 rfl)) ?_;rintro _ w ⟨rfl,ma6,mc6,hS⟩;try dsimp only [List.eraseIdx] at hS
 refine .nil (.seq ?_);replace hS:=Sat.box (T:=wdT p AXW) (a,c,ma6,mc6) (((((hS.pick 1 rfl).pick 1 rfl).pick 4 rfl).pick 4 rfl).pick 4 rfl);try dsimp only [List.eraseIdx] at hS
 refine .t 1 rfl (.call Xtj rfl (ec9 rfl (ec9 rfl X0)) rfl (X2w 2 2 (by decide) (by decide) B _ J5 _ hS) ?_);rintro _ w ⟨rfl,hS⟩;refine .call Qf13 rfl (ec9 rfl (ec9 rfl (ec9 rfl X0))) rfl (Xcd AXN AXB (by decide) (by decide) p AXW (Xaa) B _ J5 hI5 _ hS) ?_;rintro _ w ⟨rfl,hS⟩;try dsimp only [List.eraseIdx] at hS
 refine .q 3 rfl (.allocA (cs:=[_,_,_]) hS Xrl rfl ?_);intro b3 w hS;refine .so hS (k:=0) rfl rfl rfl rfl X4n rfl (by simp) ?_;intro w hS;try simp only [Yh,Ye,Y9,Y7,Yg,Yn,Yd] at hS
 refine .q 1 rfl (.nil (.seq (.t 1 rfl ?_)));refine .val (.fo 1 rfl Xdw rfl rfl Qs9 rfl) rfl (.val (.lo rfl hS (k:=0) rfl Qg9 rfl) rfl (.call Qf20 rfl (ec9 rfl (ec9 rfl (ec9 rfl X0))) rfl (X7b (xk1 p.lo).1.1.pgt AXT (Y21 (callW_short (lo:=p.lo)).1 (by decide)) (by decide) p (xk1 p.lo).2 (X2j Xaa _ _) B _ J5 hI5 _ (hS.pick 1 rfl)) ?_));rintro _ w ⟨rfl,hS⟩;try dsimp only [List.eraseIdx] at hS
 refine .q 7 rfl (.nil (.seq (.t 1 rfl ?_)));refine .val (.fo 2 rfl Xdw rfl rfl Qs9 rfl) rfl (.val (.lo rfl hS (k:=1) rfl Qg9 rfl) rfl (.call Qf23 rfl (ec9 rfl (ec9 rfl (ec9 rfl X0))) rfl (X80 (xk1 p.lo).1.1.iou 200 p (xi1 p.lo p.ps).2 (X22 (X2j Xaa _ _) _ _) B _ J5 hI5 _ hS) ?_));rintro _ w ⟨rfl,hS⟩;try dsimp only [List.eraseIdx] at hS
 refine .q 5 rfl (.nil (.seq (.t 1 rfl ?_)));refine .val (.fo 1 rfl Xdw rfl rfl Qs9 rfl) rfl (.val (.lo rfl hS (k:=1) rfl Qg9 rfl) rfl (.call Qf20 rfl (ec9 rfl (ec9 rfl (ec9 rfl X0))) rfl (X7b (xk1 p.lo).1.1.pgt AXT (Y21 (callW_short (lo:=p.lo)).1 (by decide)) (by decide) p (xa1 p.lo p.ps).2 (X2v (X22 (X2j Xaa _ _) _ _) _ _) B _ J5 hI5 _ hS) ?_));rintro _ w ⟨rfl,hS⟩;try dsimp only [List.eraseIdx] at hS
 refine .q 7 rfl (.nil (.seq (.t 1 rfl (.call Xtj rfl (ec9 rfl (ec9 rfl X0)) rfl (X2w 2 2 (by decide) (by decide) B _ J5 _ hS) ?_))));rintro _ w ⟨rfl,hS⟩;refine .call Qf13 rfl (ec9 rfl (ec9 rfl (ec9 rfl X0))) rfl (Xcd AXN AXB (by decide) (by decide) p (xi2 p.lo p.ps).2 (X22 (X2v (X22 (X2j Xaa _ _) _ _) _ _) _ _) B _ J5 hI5 _ hS) ?_;rintro _ w ⟨rfl,hS⟩;try dsimp only [List.eraseIdx] at hS
 refine .q 3 rfl (.allocA (cs:=[_,_,_]) hS Xrl rfl ?_);intro b13 w hS;refine .so hS (k:=0) rfl rfl rfl rfl X4n rfl (by simp) ?_;intro w hS;try simp only [Yh,Ye,Y9,Y7,Yg,Yn,Yd] at hS
 refine .q 1 rfl (.nil (.seq (.t 1 rfl ?_)));refine .val (.fo 2 rfl Xdw rfl rfl Qs9 rfl) rfl (.val (.lo rfl hS (k:=0) rfl Qg9 rfl) rfl (.call Qf23 rfl (ec9 rfl (ec9 rfl (ec9 rfl X0))) rfl (X80 (xk2 p.lo p.ps).1.1.iou 404 p (xk2 p.lo p.ps).2 (X2j (X22 (X2v (X22 (X2j Xaa _ _) _ _) _ _) _ _) _ _) B _ J5 hI5 _ (hS.pick 1 rfl)) ?_));rintro _ w ⟨rfl,hS⟩;try dsimp only [List.eraseIdx] at hS
 refine .q 5 rfl (.nil (.seq (.t 1 rfl ?_)));refine .val (.fo 1 rfl Xdw rfl rfl Qs9 rfl) rfl (.val (.lo rfl hS (k:=1) rfl Qg9 rfl) rfl (.call Qf20 rfl (ec9 rfl (ec9 rfl (ec9 rfl X0))) rfl (X7b (xk2 p.lo p.ps).1.1.pgt AXT (Y21 (callW_short (lo:=p.lo)).1 (by decide)) (by decide) p (xa2 p.lo p.ps).2 (X2v (X2j (X22 (X2v (X22 (X2j Xaa _ _) _ _) _ _) _ _) _ _) _ _) B _ J5 hI5 _ hS) ?_));rintro _ w ⟨rfl,hS⟩;try dsimp only [List.eraseIdx] at hS
 refine .q 7 rfl (.nil (.seq (.t 3 rfl ?_)));refine .gval rfl rfl (fun hg1=>(by exact .fo 0 rfl Xdw rfl rfl Qs9 rfl)) rfl ?_;refine .gval rfl rfl (fun hg1=>(by exact (.ld (.gd hg1 rfl) hS (k:=2) rfl Qg9 rfl))) rfl ?_;refine .gval rfl rfl (fun hg1=>(.eqs (.gd hg1 rfl) (.of rfl))) rfl (.val (.pa rfl rfl rfl) rfl (.q 1 rfl (.gm rfl rfl rfl rfl (.gval rfl rfl (fun hg1=>(.eqs (.gd hg1 rfl) (.of rfl))) rfl (.val (.pa rfl rfl rfl) rfl (.q 1 rfl (.gm rfl rfl rfl rfl (.gval rfl rfl (fun hg1=>(.eql (.gd hg1 rfl) (.of rfl))) rfl (.val (.pa rfl rfl rfl) rfl (.q 1 rfl (.gm rfl rfl rfl rfl ?_)))))))))));refine .gval rfl rfl (fun hg1=>(by exact .fo 2 rfl Xdw rfl rfl Qs9 rfl)) rfl ?_;refine .gval rfl rfl (fun hg1=>(by exact (.ld (.gd hg1 rfl) hS (k:=2) rfl Qg9 rfl))) rfl ?_;refine .gval rfl rfl (fun hg1=>(.eqs (.gd hg1 rfl) (.gd hg1 rfl))) rfl (.val (.pa rfl rfl rfl) rfl (.q 1 rfl (.gm rfl rfl rfl rfl (.gval rfl rfl (fun hg1=>(.eql (.gd hg1 rfl) (.of rfl))) rfl (.val (.pa rfl rfl rfl) rfl (.q 1 rfl (.gm rfl rfl rfl rfl (.gcall (T:=fun w=>Sat B w J5 _) rfl rfl rfl Xtj rfl (fun hg1=>(ec9 rfl (ec9 rfl X0))) rfl (fun hg1=>X2w 3 5 (by decide) (by decide) B _ J5 _ hS) hS ?_))))))));rintro w hS;refine .gval rfl rfl (fun hg1=>(.eqs (.gd hg1 rfl) (.gd hg1 rfl))) rfl (.val (.pa rfl rfl rfl) rfl (.q 1 rfl (.gm rfl rfl rfl rfl (.gval rfl rfl (fun hg1=>(.eqs (.gd hg1 rfl) (.of rfl))) rfl (.val (.pa rfl rfl rfl) rfl (.q 1 rfl (.gm rfl rfl rfl rfl (.gval rfl rfl (fun hg1=>(.eql (.gd hg1 rfl) (.of rfl))) rfl (.val (.pa rfl rfl rfl) rfl (.q 1 rfl (.gm rfl rfl rfl rfl (.gval rfl rfl (fun hg1=>(.eql (.gd hg1 rfl) (.of rfl))) rfl (.val (.pa rfl rfl rfl) rfl (.q 1 rfl (.gm rfl rfl rfl rfl (.gval rfl rfl (fun hg1=>(.eql (.gd hg1 rfl) (.of rfl))) rfl (.val (.pa rfl rfl rfl) rfl (.q 1 rfl (.nil (.ret (X9 Tryz.results8 rfl ?_)))))))))))))))))))));refine ⟨_,rfl,?_,((((hS.drop (k:=0) rfl).drop (k:=0) rfl).drop (k:=0) rfl).drop (k:=0) rfl).weaken (hIJ.trans hJ5)⟩;refine congrArg Value.bool ?_;rw [hlo,hps]
 kernel_rfl
theorem Xe8 (a b:Option Addr) (ca cb:Nat) (la lb:List Rec) (hla:la.length≤9223372036854775807) (B w:World) (I:Im) (hA:RS I a 10 la.length (X12 X5 la)) (hB:RS I b 10 lb.length (X12 X5 lb)) (As:List X7) (hS:Sat B w I As) :
  Cz 14 [.slice a la.length ca,.slice b lb.length cb] w fun v w'=>v=.bool (decide (la=lb))∧Sat B w' I As:=by
 refine calls Tryz.func14 rfl Tryz.ntmps14 rfl (.seq (.q 1 rfl (.seq (.seq (.region (.run 5 rfl ⟨⟨_,X1p⟩,⟨_,X1p⟩,trivial⟩ (.nil ?_)))))));refine .cond rfl (fun hb10=>?_) fun hb10=>?_
 ·refine .seq (.q 1 rfl (.ret (X9 Tryz.results14 rfl ?_)));refine ⟨_,rfl,congrArg Value.bool (decide_eq_false fun e=>?_).symm,hS⟩;subst e;simp at hb10
 have hc10:=hb10; simp only [Y6] at hc10;refine .skip (.seq (.seq (.q 1 rfl (.block (.loop (σ:=Nat) (fun i=>[(0,.slice a la.length ca),(1,.slice b lb.length cb),(5,I64 (i:Nat))]) (fun i w=>i≤la.length∧(∀ (j:Nat),j<i→la[j]?=lb[j]?)∧Sat B w I As) (fun i=>la.length - i) 0 ⟨rfl,rfl,rfl,trivial⟩ ⟨Yo _,fun _ h=>absurd h (by omega),hS⟩ ?_)))));rintro i w ⟨hi,hsm,hS⟩;refine .seq (.seq (.region (.run 4 rfl ⟨⟨_,X1p⟩,trivial⟩ (.nil ?_))));refine .cond rfl (fun hb14=>?_) fun hb14=>?_
 ·have hc14:=hb14; simp only [Y6] at hc14;refine .skip (.seq (.block (.seq ?_)));obtain ⟨x,hx0⟩:∃ x,la[i]?=some x:=⟨_,Y4 (by omega)⟩
  obtain ⟨y,hy0⟩:∃ y,lb[i]?=some y:=⟨_,Y4 (by omega)⟩
  obtain ⟨p,hp9,hx⟩:=X5s (cells:=X5) (s:=10) (fun _=>rfl) hA hx0;obtain ⟨p2,hp8,hy⟩:=X5s (cells:=X5) (s:=10) (fun _=>rfl) hB hy0;subst hp9;subst hp8;refine .quiet (by kernel_rfl) (by kernel_rfl) hS (.val (fun w hS=>(.mo rfl)) rfl (.val (fun w hS=>(.mo rfl)) rfl ?_));refine .val (fun w hS=>(by exact .ii rfl rfl (by omega) (by omega) X1p Xu)) rfl ?_;refine .val (fun w hS=>.ldsI (.of rfl) hS hx X3e Xu rfl (fun _ _ h=>h)) rfl (.val (fun w hS=>(.mo rfl)) rfl (.val (fun w hS=>(.mo rfl)) rfl ?_));refine .val (fun w hS=>(by exact .ii rfl rfl (by omega) (by omega) X1p Xu)) rfl ?_;refine .val (fun w hS=>.ldsI (.of rfl) hS hy X3e Xu rfl (fun _ _ h=>h)) rfl (.val (fun w hS=>Ex.neRec (r:=x) (s:=y) (.of rfl) (.of rfl)) rfl (.nil ?_));intro w hS;refine .cond rfl (fun hb25=>?_) fun hb25=>?_
  ·refine .seq (.q 1 rfl (.ret (X9 Tryz.results14 rfl ?_)));refine ⟨_,rfl,congrArg Value.bool (decide_eq_false fun e=>?_).symm,hS⟩;subst e;rw [hx0] at hy0;cases hy0
   simp at hb25
  have hc25:=hb25; simp only [Y6] at hc25;refine .skip (.region (.run 3 rfl ⟨⟨by omega,by omega⟩,trivial⟩ (.nil ?_)));refine ⟨i+1,⟨rfl,rfl,rfl,trivial⟩,⟨by (try dsimp only); omega,fun j hj=>?_,hS⟩,by (try dsimp only); omega⟩;rcases Yr j i with h1 | h1
  ·exact hsm j h1
  ·have e:j=i:=by omega
   subst e;rw [hx0,hy0,show x=y by simpa using hb25]
 have hc14:=hb14; simp only [Y6] at hc14;refine .exit (.seq (.q 1 rfl (.ret (X9 Tryz.results14 rfl ?_))));refine ⟨_,rfl,congrArg Value.bool (decide_eq_true ?_).symm,hS⟩;refine Y26 fun j=>?_
 rcases Yr j i with h1 | h1
 ·exact hsm j h1
 ·rw [Y1u (by omega),Y1u (by omega)]
theorem Xdn (s:List UInt8) (c:UInt8) (n:Nat):hxS n (s ++ [c])=(hxS n s).bind fun m=>(hx c).map fun d=>16*m+d:=by
 rw [Xh2]
 congr 1
 funext m
 rw [hxS];cases hx c with
 | none=>rfl
 | some d=>rfl
theorem Xac {c:UInt8} {r:List UInt8}:∀ {s:List UInt8},Xc [45] s=c::r→c=45
 | [],h=>by simp [Xc] at h
 | x::s,h=>by
  unfold Xc at h;rw [Y3s] at h;split at h
  ·exact Xac h
  ·rename_i h1
   cases h
   simpa using h1
theorem X23 (cs s:List UInt8):upto cs s ++ Xc cs s=s:=Y40
theorem Xrn {s t:List UInt8} {k:Nat} (hs:s=pre k ++ 45::t) (hl:t.length=16):s.length=(pre k).length+1+16∧s.take ((pre k).length+1)=pre k ++ [45]∧s.drop ((pre k).length+1)=t:=by
 have e:s=(pre k ++ [45]) ++ t:=by rw [hs]; simp
 have e2:(pre k).length+1=(pre k ++ [45]).length:=by simp
 refine ⟨by rw [hs]; simp [hl],?_,?_⟩
 ·rw [e,e2,Y30]
 ·rw [e,e2,Y42]
theorem Xii {s:List UInt8} {k d:Nat} (h:Xz s=some (k,d)):∃ t,s=pre k ++ 45::t∧t.length=16∧hxS 0 t=some d:=by
 unfold Xz at h;split at h
 ·cases h
 ·rename_i hk
  obtain ⟨x,hx,e⟩:=Y1n.1 h;simp only [Prod.mk.injEq] at e
  obtain ⟨e1,rfl⟩:=e;have h1:=Xmx hk;rw [e1] at h1;unfold X4u at hx;split at hx
  ·rename_i hl
   have h2:=X23 [45] s;cases e3:Xc [45] s with
   | nil=>rw [e3] at hl; cases hl
   | cons c r =>
    rw [e3] at hl hx;have h3:c=45:=Xac e3;subst h3;exact ⟨r,by rw [← h1]; rw [e3] at h2; exact h2.symm,hl,hx⟩
  ·cases hx
theorem Xqv {k d:Nat} {t:List UInt8} (h1:1≤k) (h2:k≤6) (hl:t.length=16) (hd:hxS 0 t=some d):Xz (pre k ++ 45::t)=some (k,d):=by
 unfold Xz;obtain ⟨e1,e2⟩:=Xo1 (p:=pre k) (r:=t) Xqm;rw [e1,e2,Xo7 h1 h2,if_neg (by omega),Y7,Yg,X4u,if_pos hl,hd];rfl
theorem Xq2 {k:Nat} (h1:1≤k) (h2:k≤6):X39 (k:Int)=pre k:=by
 unfold X39;rw [if_neg (by omega),Ym]
theorem hx_num {c:UInt8} (h1:48≤c.toNat) (h2:c.toNat≤57):hx c=some (c.toNat - 48):=by
 unfold hx;rw [if_pos];simp only [Yq,decide_eq_true_eq,Y1q]
 exact ⟨h1,h2⟩
theorem hx_let {c:UInt8} (h1:97≤c.toNat) (h2:c.toNat≤102):hx c=some (c.toNat - 87):=by
 unfold hx;rw [if_neg,if_pos]
 ·simp only [Yq,decide_eq_true_eq,Y1q]
  exact ⟨h1,h2⟩
 ·simp only [Yq,decide_eq_true_eq,Y1q]
  intro h
  have:c.toNat≤57:=h.2
  omega
theorem hx_no {c:UInt8} (h1:¬(48≤c.toNat∧c.toNat≤57)) (h2:¬(97≤c.toNat∧c.toNat≤102)):hx c=none:=by
 unfold hx;rw [if_neg,if_neg]
 ·simp only [Yq,decide_eq_true_eq,Y1q]; exact h2
 ·simp only [Yq,decide_eq_true_eq,Y1q]; exact h1
theorem Xah {s:List UInt8} {n i:Nat} (h1:n≤i) (h2:i<s.length):(s.drop n).take (i+1 - n)=(s.drop n).take (i - n) ++ [at_ s (i:Int)]:=by
 have e:i+1 - n=(i - n)+1:=by omega
 rw [e,Y12,Y1e,show n+(i - n)=i by omega,Xx h2];rfl
theorem Xdl (s:List UInt8) (hsl:s.length≤9223372036854775000) (B w:World) (I:Im) (As:List X7) (hS:Sat B w I As) :
  Cz 168 [S s] w fun v w'=>v=(match Xz s with | some (k,d)=>.tuple #[I64 (k:Nat),U64 (d:Nat),.bool true] | none=>.tuple #[I64 0,U64 0,.bool false])∧Sat B w' I As:=by
 refine calls Tryz.func168 rfl Tryz.ntmps168 rfl (.seq (.q 3 rfl (.seq (.seq (.q 1 rfl (.block ?_))))));refine .loop (σ:=Nat) (fun k=>[(0,S s),(5,I64 (k:Nat))]) (fun k w=>1≤k∧k≤7∧(∀ (j d:Nat),j<k→Xz s≠some (j,d))∧Sat B w I As) (fun k=>7 - k) 1 ⟨rfl,rfl,trivial⟩ ⟨Yu _,by decide,fun j d hj h=>by have:=(X3u h).1; omega,hS⟩ ?_;rintro k w ⟨hk0,hk7,hno,hS⟩;refine .seq (.seq (.q 2 rfl ?_));refine .cond rfl (fun hb13=>?_) fun hb13=>?_
 ·have hc13:=hb13; try simp only [Y6] at hc13
  refine .skip (.seq (.block (.seq ?_)));have hk1:1≤k∧k≤6:=by omega
  have hpr:=Xq2 hk1.1 hk1.2;have hp6:(pre k).length≤6:=by rw [← hpr]; exact X9y _
  have hn9:(pre k ++ [45]).length=(pre k).length+1:=by simp
  refine .t 1 rfl (.call Xpc rfl (ec9 rfl X0) rfl (X4e (k:Int) B _ I _ hS) ?_);clear hS;rintro _ w ⟨rfl,hS⟩;rw [hpr];refine .run 2 rfl ⟨by (try simp only [Y0,Y8,Yj]); omega,trivial⟩ (.nil (.seq (.region (.run 3 rfl ⟨Qu9,trivial⟩ (.nil (.seq (.seq ?_)))))));rw [hn9];refine .region (.run 6 rfl ⟨Qu9,⟨by omega,by omega⟩,trivial⟩ (.gm rfl rfl rfl rfl (.gm rfl rfl rfl rfl ?_)));refine .gval rfl rfl (fun hg1=>(.subTo (.gd hg1 rfl) (.gd hg1 rfl) (by (try simp only [Y6] at hg1); omega) (by (try simp only [Y6] at hg1); omega) Qu9)) rfl ?_;refine .gm rfl rfl rfl rfl (.gval rfl rfl (fun hg1=>(.nes (.gd hg1 rfl) (.gd hg1 rfl))) rfl (.val (.po rfl rfl rfl) rfl (.nil ?_)));refine .cond rfl (fun hb32=>?_) fun hb32=>?_
  ·refine .exit (.region (.run 3 rfl ⟨⟨by omega,by omega⟩,trivial⟩ (.nil ?_)));refine ⟨k+1,⟨rfl,rfl,trivial⟩,⟨by (try dsimp only); omega,by (try dsimp only); omega,fun j d hj h=>?_,hS⟩,by (try dsimp only); omega⟩;rcases Yr j k with h1 | h1
   ·exact hno j d h1 h
   ·have e:k=j:=by omega
    subst e;obtain ⟨t,ht,htl,hth⟩:=Xii h;obtain ⟨g1,g2,g3⟩:=Xrn ht htl
    first
    | (have h3:=hb32; simp [g1,g2] at h3; done)
    | (have h3:=hb32; simp [g1,g2] at h3; omega)
    | (have h3:hxS 0 ((s.drop ((pre k).length+1)).take (s.length - ((pre k).length+1)))=some d:=(by (rw [g3,Yz (by omega)]; exact hth)); rw [show i=s.length by omega] at hhx; rw [hhx] at h3; simp [hb70] at h3)
  have hc32:=hb32; try simp only [Y6] at hc32
  refine .skip (.seq ?_);obtain ⟨hle,hpf⟩:s.length=(pre k).length+1+16∧s.take ((pre k).length+1)=pre k ++ [45]:=by
   have h:=hb32;simp at h
   refine ⟨by omega,?_⟩;simpa using h.2
  refine .q 1 rfl (.seq (.q 1 rfl (.seq (.seq (.q 2 rfl (.block ?_))))));refine .loop (σ:=Nat×Nat×Bool) (fun ⟨i,d,b⟩=>[(0,S s),(5,I64 (k:Nat)),(8,U64 (d:Nat)),(9,.bool b),(10,I64 (i:Nat))]) (fun ⟨i,d,b⟩ w=>((pre k).length+1)≤i∧i≤s.length∧d<16 ^ (i - ((pre k).length+1))∧hxS 0 ((s.drop ((pre k).length+1)).take (i - ((pre k).length+1)))=(if b=true then some d else none)∧Sat B w I As) (fun ⟨i,d,b⟩=>s.length - i) (((pre k).length+1),0,true) ⟨rfl,rfl,rfl,rfl,rfl,trivial⟩ ⟨Yu _,by (try dsimp only); omega,by (try dsimp only); exact Nat.pow_pos (by decide),by (try dsimp only); rw [Y44]; rfl,hS⟩ ?_;rintro ⟨i,d,b⟩ w ⟨hni,hi,hdp,hhx,hS⟩;refine .seq (.seq (.region (.run 4 rfl ⟨Qu9,trivial⟩ (.nil ?_))));refine .cond rfl (fun hb37=>?_) fun hb37=>?_
  ·have hc37:=hb37; try simp only [Y6] at hc37
   refine .skip (.seq (.block (.seq ?_)));have hp15:d<1152921504606846976:=Y2v hdp (Y21 (Y3l (by decide) (show i - ((pre k).length+1)≤15 by omega)) (by decide));refine .region (.run 4 rfl ⟨⟨⟨by omega,by omega⟩,Qu9⟩,trivial⟩ (.nil (.block (.seq (.t 3 rfl (.gm rfl rfl rfl rfl (.gval rfl rfl (fun hg1=>(.leq (.gd hg1 rfl) (.of rfl))) rfl (.val (.pa rfl rfl rfl) rfl (.q 1 rfl (.nil ?_))))))))));refine .cond rfl (fun hb43=>?_) fun hb43=>?_
   ·have hc43:=hb43; try simp only [Y6] at hc43
    refine .t 1 rfl (.val (.mulx (.of rfl) (.of rfl) (by rw [IntKind.wrap_u64]; omega)) rfl (.q 1 rfl ?_));refine .val (.subx (.of rfl) (.of rfl) (by rw [IntKind.wrap_u8]; simp at hb43; omega)) rfl ?_;refine .val (.cvi (.of rfl) Qu5 Xay (by rw [IntKind.wrap_u64]; omega)) rfl (.val (.addx (.of rfl) (.of rfl) (by rw [IntKind.wrap_u64]; omega)) rfl ?_);rw [show (16*(d:Int)+(((at_ s (i:Int)).toNat:Int) - 48))=((16*d+((at_ s (i:Int)).toNat - 48):Nat):Int) by simp at hb43; omega];refine .q 1 rfl (.nil (.region (.run 3 rfl ⟨⟨by omega,by omega⟩,trivial⟩ (.nil ?_))));refine ⟨(i+1,16*d+((at_ s (i:Int)).toNat - 48),b),⟨rfl,rfl,rfl,rfl,rfl,trivial⟩,⟨by (try dsimp only); omega,by (try dsimp only); omega,by (try dsimp only); exact Y2v (show 16*d+((at_ s (i:Int)).toNat - 48)<16*16 ^ (i - ((pre k).length+1)) by have h9:(at_ s (i:Int)).toNat≤57:=(by simp at hb43; omega); omega) (by rw [show i+1 - ((pre k).length+1)=(i - ((pre k).length+1))+1 by omega,Y2g]; omega),?_,hS⟩,by (try dsimp only); omega⟩;try dsimp only
    rw [Xah hni (by omega),Xdn,hhx,hx_num (by simp at hb43; omega) (by simp at hb43; omega)];cases b with
     | true=>simp
     | false=>simp
   have hc43:=hb43; try simp only [Y6] at hc43
   refine .seq (.t 3 rfl (.gm rfl rfl rfl rfl (.gval rfl rfl (fun hg1=>(.leq (.gd hg1 rfl) (.of rfl))) rfl (.val (.pa rfl rfl rfl) rfl (.q 1 rfl (.nil ?_))))));refine .cond rfl (fun hb56=>?_) fun hb56=>?_
   ·have hc56:=hb56; try simp only [Y6] at hc56
    refine .t 1 rfl (.val (.mulx (.of rfl) (.of rfl) (by rw [IntKind.wrap_u64]; omega)) rfl (.q 1 rfl ?_));refine .val (.subx (.of rfl) (.of rfl) (by rw [IntKind.wrap_u8]; simp at hb56; omega)) rfl ?_;refine .val (.cvi (.of rfl) Qu5 Xay (by rw [IntKind.wrap_u64]; omega)) rfl (.val (.addx (.of rfl) (.of rfl) (by rw [IntKind.wrap_u64]; omega)) rfl (.val (.addx (.of rfl) (.of rfl) (by rw [IntKind.wrap_u64]; omega)) rfl ?_));rw [show (16*(d:Int)+(((at_ s (i:Int)).toNat:Int) - 97)+10)=((16*d+((at_ s (i:Int)).toNat - 97)+10:Nat):Int) by simp at hb56; omega];refine .q 1 rfl (.nil (.region (.run 3 rfl ⟨⟨by omega,by omega⟩,trivial⟩ (.nil ?_))));refine ⟨(i+1,16*d+((at_ s (i:Int)).toNat - 97)+10,b),⟨rfl,rfl,rfl,rfl,rfl,trivial⟩,⟨by (try dsimp only); omega,by (try dsimp only); omega,by (try dsimp only); exact Y2v (show 16*d+((at_ s (i:Int)).toNat - 97)+10<16*16 ^ (i - ((pre k).length+1)) by have h9:(at_ s (i:Int)).toNat≤102:=(by simp at hb56; omega); have h8:97≤(at_ s (i:Int)).toNat:=(by simp at hb56; omega); omega) (by rw [show i+1 - ((pre k).length+1)=(i - ((pre k).length+1))+1 by omega,Y2g]; omega),?_,hS⟩,by (try dsimp only); omega⟩;try dsimp only
    rw [Xah hni (by omega),Xdn,hhx,hx_let (by simp at hb56; omega) (by simp at hb56; omega)];cases b with
     | true=>simp; omega
     | false=>simp
   have hc56:=hb56; try simp only [Y6] at hc56
   refine .q 1 rfl (.region (.run 3 rfl ⟨⟨by omega,by omega⟩,trivial⟩ (.nil ?_)));refine ⟨(i+1,d,false),⟨rfl,rfl,rfl,rfl,rfl,trivial⟩,⟨by (try dsimp only); omega,by (try dsimp only); omega,by (try dsimp only); exact Y2v (show d<16*16 ^ (i - ((pre k).length+1)) by omega) (by rw [show i+1 - ((pre k).length+1)=(i - ((pre k).length+1))+1 by omega,Y2g]; omega),?_,hS⟩,by (try dsimp only); omega⟩;try dsimp only
   rw [Xah hni (by omega),Xdn,hhx,hx_no (fun h=>by have h1:=h.1; have h2:=h.2; simp at hb43; omega) (fun h=>by have h1:=h.1; have h2:=h.2; simp at hb56; omega)];cases b <;> simp
  have hc37:=hb37; try simp only [Y6] at hc37
  refine .exit (.seq (.q 1 rfl ?_));refine .cond rfl (fun hb70=>?_) fun hb70=>?_
  ·have hc70:=hb70; try simp only [Y6] at hc70
   refine .seq (.q 5 rfl (.ret (X7j Tryz.results168 rfl rfl rfl ?_)));have hs9:s=pre k ++ 45::s.drop ((pre k).length+1):=by
    have h:=Y11 ((pre k).length+1) s;rw [hpf,Yf] at h;exact h.symm
   have hil:i=s.length:=by omega
   have hh:hxS 0 (s.drop ((pre k).length+1))=some d:=by
    rw [hil,Yz (by rw [Yp]; omega),hb70] at hhx;exact hhx
   have hP:Xz s=some (k,d):=by
    rw [hs9];exact Xqv hk1.1 hk1.2 (by rw [Yp]; omega) hh
   rw [hP];exact ⟨_,rfl,rfl,hS⟩
  have hc70:=hb70; try simp only [Y6] at hc70
  refine .skip (.region (.run 3 rfl ⟨⟨by omega,by omega⟩,trivial⟩ (.nil ?_)));refine ⟨k+1,⟨rfl,rfl,trivial⟩,⟨by (try dsimp only); omega,by (try dsimp only); omega,fun j d hj h=>?_,hS⟩,by (try dsimp only); omega⟩;rcases Yr j k with h1 | h1
  ·exact hno j d h1 h
  ·have e:k=j:=by omega
   subst e;obtain ⟨t,ht,htl,hth⟩:=Xii h;obtain ⟨g1,g2,g3⟩:=Xrn ht htl
   first
   | (have h3:=hb32; simp [g1,g2] at h3; done)
   | (have h3:=hb32; simp [g1,g2] at h3; omega)
   | (have h3:hxS 0 ((s.drop ((pre k).length+1)).take (s.length - ((pre k).length+1)))=some d:=(by (rw [g3,Yz (by omega)]; exact hth)); rw [show i=s.length by omega] at hhx; rw [hhx] at h3; simp [hb70] at h3)
 have hc13:=hb13; try simp only [Y6] at hc13
 refine .exit (.seq (.q 3 rfl (.ret (X7j Tryz.results168 rfl rfl rfl ?_))));have hP:Xz s=none:=by
  cases h:Xz s with
  | none=>rfl
  | some x =>
   obtain ⟨j,d⟩:=x
   have:=X3u h
   exact absurd h (hno j d (by omega))
 rw [hP];exact ⟨_,rfl,rfl,hS⟩
def PL:List (Int×Int):=[(1,0),(6,0),(2,1),(3,4),(4,2),(4,3),(5,4)]
set_option maxRecDepth 20000 in
theorem Xek (kind of9:Int) (B w:World) (I:Im) (As:List X7) (hS:Sat B w I As) :
  Cz 169 [I64 kind,I64 of9] w fun v w'=>v=.bool (X6r kind of9)∧Sat B w' I As:=by
 refine calls Tryz.func169 rfl Tryz.ntmps169 rfl (.seq (.q 1 rfl (.seq (.region (.buildSlice (cs:=[_,_]) hS (pc9 rfl (pc9 rfl X4)) Xd Qs3 Qz3 rfl rfl rfl rfl ?_)))));intro b7 w hS;refine .buildSlice (cs:=[_,_]) hS (pc9 rfl (pc9 rfl X4)) Xd Qs3 Qz3 rfl rfl rfl rfl ?_;intro b8 w hS;refine .buildSlice (cs:=[_,_]) hS (pc9 rfl (pc9 rfl X4)) Xd Qs3 Qz3 rfl rfl rfl rfl ?_;intro b9 w hS;refine .buildSlice (cs:=[_,_]) hS (pc9 rfl (pc9 rfl X4)) Xd Qs3 Qz3 rfl rfl rfl rfl ?_;intro b10 w hS;refine .buildSlice (cs:=[_,_]) hS (pc9 rfl (pc9 rfl X4)) Xd Qs3 Qz3 rfl rfl rfl rfl ?_;intro b11 w hS;refine .buildSlice (cs:=[_,_]) hS (pc9 rfl (pc9 rfl X4)) Xd Qs3 Qz3 rfl rfl rfl rfl ?_;intro b12 w hS;refine .buildSlice (cs:=[_,_]) hS (pc9 rfl (pc9 rfl X4)) Xd Qs3 Qz3 rfl rfl rfl rfl ?_;intro b13 w hS;refine .buildSlice (cs:=[_,_,_,_,_,_,_]) hS (pc9 rfl (pc9 rfl (pc9 rfl (pc9 rfl (pc9 rfl (pc9 rfl (pc9 rfl X4))))))) X29 X15 Xp5 rfl rfl rfl rfl ?_;intro b14 w hS;refine .q 1 rfl (.nil (.seq (.seq (.q 1 rfl (.block (.loop (σ:=Nat) (fun i=>[(0,I64 kind),(1,I64 of9),(5,.slice (some (ad b14 0)) 7 7),(6,I64 (i:Nat))]) (fun i w=>i≤7∧(∀ (j:Nat) p,j<i→PL[j]?=some p→(p.1 == kind && p.2 == of9)=false)∧Sat B w I (blk b14 [.slice (some (ad b7 0)) 2 2,.slice (some (ad b8 0)) 2 2,.slice (some (ad b9 0)) 2 2,.slice (some (ad b10 0)) 2 2,.slice (some (ad b11 0)) 2 2,.slice (some (ad b12 0)) 2 2,.slice (some (ad b13 0)) 2 2] 168::blk b13 [I64 5,I64 4] 3::blk b12 [I64 4,I64 3] 3::blk b11 [I64 4,I64 2] 3::blk b10 [I64 3,I64 4] 3::blk b9 [I64 2,I64 1] 3::blk b8 [I64 6,I64 0] 3::blk b7 [I64 1,I64 0] 3::As)) (fun i=>7 - i) 0 ⟨rfl,rfl,rfl,rfl,trivial⟩ ⟨Yo _,fun _ _ h=>absurd h (by omega),hS⟩ ?_))))));rintro i w ⟨hi,hno,hS⟩;refine .seq (.seq (.region (.run 4 rfl ⟨⟨_,X29⟩,trivial⟩ (.nil ?_))));refine .cond rfl (fun hb18=>?_) fun hb18=>?_
 ·have hc18:=hb18; simp only [Y6] at hc18;refine .skip (.seq (.block (.seq (.region ?_))));rcases (by omega:i=0∨i=1∨i=2∨i=3∨i=4∨i=5∨i=6) with rfl | rfl | rfl | rfl | rfl | rfl | rfl
  ·refine .vm rfl rfl (.q 1 rfl ?_);refine .val (.io rfl rfl (by omega) (by omega) X29 X15) rfl (.val (.lo rfl hS (k:=0) rfl X38 rfl) rfl (.val (.io rfl rfl (by omega) (by omega) Xd Qs3) rfl (.val (.lo rfl hS (k:=7) rfl Qg3 rfl) rfl (.q 3 rfl (.gm rfl rfl rfl rfl (.gm rfl rfl rfl rfl ?_))))));refine .gval rfl rfl (fun hg1=>(by exact .indexAddr (.gd hg1 rfl) (.gd hg1 rfl) (by (try simp only [Y6] at hg1); omega) (by (try simp only [Y6] at hg1); omega) X29 X15)) rfl ?_;refine .gval rfl rfl (fun hg1=>(by exact (.ld (.gd hg1 rfl) hS (k:=0) rfl X38 rfl))) rfl ?_;refine .gval rfl rfl (fun hg1=>(by exact .indexAddr (.gd hg1 rfl) (.of rfl) (by (try simp only [Y6] at hg1); omega) (by (try simp only [Y6] at hg1); omega) Xd Qs3)) rfl ?_;refine .gval rfl rfl (fun hg1=>(by exact (.ld (.gd hg1 rfl) hS (k:=7) rfl Qg3 rfl))) rfl ?_;refine .gm rfl rfl rfl rfl (.gval rfl rfl (fun hg1=>(.eql (.gd hg1 rfl) (.gd hg1 rfl))) rfl (.val (.pa rfl rfl rfl) rfl (.nil ?_)));refine .cond rfl (fun hb38=>?_) fun hb38=>?_
   ·refine .seq (.q 1 rfl (.ret (X9 Xfk rfl ?_)));refine ⟨_,rfl,congrArg Value.bool ?_,((((((((hS.drop (k:=0) rfl).drop (k:=0) rfl).drop (k:=0) rfl).drop (k:=0) rfl).drop (k:=0) rfl).drop (k:=0) rfl).drop (k:=0) rfl).drop (k:=0) rfl)⟩;simp at hb38
    obtain ⟨h1,h2⟩:=hb38;subst h1 h2;rfl
   refine .skip (.region (.run 3 rfl ⟨⟨by omega,by omega⟩,trivial⟩ (.nil ?_)));refine ⟨1,⟨rfl,rfl,rfl,rfl,trivial⟩,⟨by decide,fun j p hj hp=>?_,hS⟩,by decide⟩;rcases Yr j 0 with h1 | h1
   ·exact hno j p h1 hp
   ·have e:j=0:=by omega
    subst e;cases hp
    simpa using hb38
  ·refine .vm rfl rfl (.q 1 rfl ?_);refine .val (.io rfl rfl (by omega) (by omega) X29 X15) rfl (.val (.lo rfl hS (k:=0) rfl X38 rfl) rfl (.val (.io rfl rfl (by omega) (by omega) Xd Qs3) rfl (.val (.lo rfl hS (k:=6) rfl Qg3 rfl) rfl (.q 3 rfl (.gm rfl rfl rfl rfl (.gm rfl rfl rfl rfl ?_))))));refine .gval rfl rfl (fun hg1=>(by exact .indexAddr (.gd hg1 rfl) (.gd hg1 rfl) (by (try simp only [Y6] at hg1); omega) (by (try simp only [Y6] at hg1); omega) X29 X15)) rfl ?_;refine .gval rfl rfl (fun hg1=>(by exact (.ld (.gd hg1 rfl) hS (k:=0) rfl X38 rfl))) rfl ?_;refine .gval rfl rfl (fun hg1=>(by exact .indexAddr (.gd hg1 rfl) (.of rfl) (by (try simp only [Y6] at hg1); omega) (by (try simp only [Y6] at hg1); omega) Xd Qs3)) rfl ?_;refine .gval rfl rfl (fun hg1=>(by exact (.ld (.gd hg1 rfl) hS (k:=6) rfl Qg3 rfl))) rfl ?_;refine .gm rfl rfl rfl rfl (.gval rfl rfl (fun hg1=>(.eql (.gd hg1 rfl) (.gd hg1 rfl))) rfl (.val (.pa rfl rfl rfl) rfl (.nil ?_)));refine .cond rfl (fun hb38=>?_) fun hb38=>?_
   ·refine .seq (.q 1 rfl (.ret (X9 Xfk rfl ?_)));refine ⟨_,rfl,congrArg Value.bool ?_,((((((((hS.drop (k:=0) rfl).drop (k:=0) rfl).drop (k:=0) rfl).drop (k:=0) rfl).drop (k:=0) rfl).drop (k:=0) rfl).drop (k:=0) rfl).drop (k:=0) rfl)⟩;simp at hb38
    obtain ⟨h1,h2⟩:=hb38;subst h1 h2;rfl
   refine .skip (.region (.run 3 rfl ⟨⟨by omega,by omega⟩,trivial⟩ (.nil ?_)));refine ⟨2,⟨rfl,rfl,rfl,rfl,trivial⟩,⟨by decide,fun j p hj hp=>?_,hS⟩,by decide⟩;rcases Yr j 1 with h1 | h1
   ·exact hno j p h1 hp
   ·have e:j=1:=by omega
    subst e;cases hp
    simpa using hb38
  ·refine .vm rfl rfl (.q 1 rfl ?_);refine .val (.io rfl rfl (by omega) (by omega) X29 X15) rfl (.val (.lo rfl hS (k:=0) rfl X38 rfl) rfl (.val (.io rfl rfl (by omega) (by omega) Xd Qs3) rfl (.val (.lo rfl hS (k:=5) rfl Qg3 rfl) rfl (.q 3 rfl (.gm rfl rfl rfl rfl (.gm rfl rfl rfl rfl ?_))))));refine .gval rfl rfl (fun hg1=>(by exact .indexAddr (.gd hg1 rfl) (.gd hg1 rfl) (by (try simp only [Y6] at hg1); omega) (by (try simp only [Y6] at hg1); omega) X29 X15)) rfl ?_;refine .gval rfl rfl (fun hg1=>(by exact (.ld (.gd hg1 rfl) hS (k:=0) rfl X38 rfl))) rfl ?_;refine .gval rfl rfl (fun hg1=>(by exact .indexAddr (.gd hg1 rfl) (.of rfl) (by (try simp only [Y6] at hg1); omega) (by (try simp only [Y6] at hg1); omega) Xd Qs3)) rfl ?_;refine .gval rfl rfl (fun hg1=>(by exact (.ld (.gd hg1 rfl) hS (k:=5) rfl Qg3 rfl))) rfl ?_;refine .gm rfl rfl rfl rfl (.gval rfl rfl (fun hg1=>(.eql (.gd hg1 rfl) (.gd hg1 rfl))) rfl (.val (.pa rfl rfl rfl) rfl (.nil ?_)));refine .cond rfl (fun hb38=>?_) fun hb38=>?_
   ·refine .seq (.q 1 rfl (.ret (X9 Xfk rfl ?_)));refine ⟨_,rfl,congrArg Value.bool ?_,((((((((hS.drop (k:=0) rfl).drop (k:=0) rfl).drop (k:=0) rfl).drop (k:=0) rfl).drop (k:=0) rfl).drop (k:=0) rfl).drop (k:=0) rfl).drop (k:=0) rfl)⟩;simp at hb38
    obtain ⟨h1,h2⟩:=hb38;subst h1 h2;rfl
   refine .skip (.region (.run 3 rfl ⟨⟨by omega,by omega⟩,trivial⟩ (.nil ?_)));refine ⟨3,⟨rfl,rfl,rfl,rfl,trivial⟩,⟨by decide,fun j p hj hp=>?_,hS⟩,by decide⟩;rcases Yr j 2 with h1 | h1
   ·exact hno j p h1 hp
   ·have e:j=2:=by omega
    subst e;cases hp
    simpa using hb38
  ·refine .vm rfl rfl (.q 1 rfl ?_);refine .val (.io rfl rfl (by omega) (by omega) X29 X15) rfl (.val (.lo rfl hS (k:=0) rfl X38 rfl) rfl (.val (.io rfl rfl (by omega) (by omega) Xd Qs3) rfl (.val (.lo rfl hS (k:=4) rfl Qg3 rfl) rfl (.q 3 rfl (.gm rfl rfl rfl rfl (.gm rfl rfl rfl rfl ?_))))));refine .gval rfl rfl (fun hg1=>(by exact .indexAddr (.gd hg1 rfl) (.gd hg1 rfl) (by (try simp only [Y6] at hg1); omega) (by (try simp only [Y6] at hg1); omega) X29 X15)) rfl ?_;refine .gval rfl rfl (fun hg1=>(by exact (.ld (.gd hg1 rfl) hS (k:=0) rfl X38 rfl))) rfl ?_;refine .gval rfl rfl (fun hg1=>(by exact .indexAddr (.gd hg1 rfl) (.of rfl) (by (try simp only [Y6] at hg1); omega) (by (try simp only [Y6] at hg1); omega) Xd Qs3)) rfl ?_;refine .gval rfl rfl (fun hg1=>(by exact (.ld (.gd hg1 rfl) hS (k:=4) rfl Qg3 rfl))) rfl ?_;refine .gm rfl rfl rfl rfl (.gval rfl rfl (fun hg1=>(.eql (.gd hg1 rfl) (.gd hg1 rfl))) rfl (.val (.pa rfl rfl rfl) rfl (.nil ?_)));refine .cond rfl (fun hb38=>?_) fun hb38=>?_
   ·refine .seq (.q 1 rfl (.ret (X9 Xfk rfl ?_)));refine ⟨_,rfl,congrArg Value.bool ?_,((((((((hS.drop (k:=0) rfl).drop (k:=0) rfl).drop (k:=0) rfl).drop (k:=0) rfl).drop (k:=0) rfl).drop (k:=0) rfl).drop (k:=0) rfl).drop (k:=0) rfl)⟩;simp at hb38
    obtain ⟨h1,h2⟩:=hb38;subst h1 h2;rfl
   refine .skip (.region (.run 3 rfl ⟨⟨by omega,by omega⟩,trivial⟩ (.nil ?_)));refine ⟨4,⟨rfl,rfl,rfl,rfl,trivial⟩,⟨by decide,fun j p hj hp=>?_,hS⟩,by decide⟩;rcases Yr j 3 with h1 | h1
   ·exact hno j p h1 hp
   ·have e:j=3:=by omega
    subst e;cases hp
    simpa using hb38
  ·refine .vm rfl rfl (.q 1 rfl ?_);refine .val (.io rfl rfl (by omega) (by omega) X29 X15) rfl (.val (.lo rfl hS (k:=0) rfl X38 rfl) rfl (.val (.io rfl rfl (by omega) (by omega) Xd Qs3) rfl (.val (.lo rfl hS (k:=3) rfl Qg3 rfl) rfl (.q 3 rfl (.gm rfl rfl rfl rfl (.gm rfl rfl rfl rfl ?_))))));refine .gval rfl rfl (fun hg1=>(by exact .indexAddr (.gd hg1 rfl) (.gd hg1 rfl) (by (try simp only [Y6] at hg1); omega) (by (try simp only [Y6] at hg1); omega) X29 X15)) rfl ?_;refine .gval rfl rfl (fun hg1=>(by exact (.ld (.gd hg1 rfl) hS (k:=0) rfl X38 rfl))) rfl ?_;refine .gval rfl rfl (fun hg1=>(by exact .indexAddr (.gd hg1 rfl) (.of rfl) (by (try simp only [Y6] at hg1); omega) (by (try simp only [Y6] at hg1); omega) Xd Qs3)) rfl ?_;refine .gval rfl rfl (fun hg1=>(by exact (.ld (.gd hg1 rfl) hS (k:=3) rfl Qg3 rfl))) rfl ?_;refine .gm rfl rfl rfl rfl (.gval rfl rfl (fun hg1=>(.eql (.gd hg1 rfl) (.gd hg1 rfl))) rfl (.val (.pa rfl rfl rfl) rfl (.nil ?_)));refine .cond rfl (fun hb38=>?_) fun hb38=>?_
   ·refine .seq (.q 1 rfl (.ret (X9 Xfk rfl ?_)));refine ⟨_,rfl,congrArg Value.bool ?_,((((((((hS.drop (k:=0) rfl).drop (k:=0) rfl).drop (k:=0) rfl).drop (k:=0) rfl).drop (k:=0) rfl).drop (k:=0) rfl).drop (k:=0) rfl).drop (k:=0) rfl)⟩;simp at hb38
    obtain ⟨h1,h2⟩:=hb38;subst h1 h2;rfl
   refine .skip (.region (.run 3 rfl ⟨⟨by omega,by omega⟩,trivial⟩ (.nil ?_)));refine ⟨5,⟨rfl,rfl,rfl,rfl,trivial⟩,⟨by decide,fun j p hj hp=>?_,hS⟩,by decide⟩;rcases Yr j 4 with h1 | h1
   ·exact hno j p h1 hp
   ·have e:j=4:=by omega
    subst e;cases hp
    simpa using hb38
  ·refine .vm rfl rfl (.q 1 rfl ?_);refine .val (.io rfl rfl (by omega) (by omega) X29 X15) rfl (.val (.lo rfl hS (k:=0) rfl X38 rfl) rfl (.val (.io rfl rfl (by omega) (by omega) Xd Qs3) rfl (.val (.lo rfl hS (k:=2) rfl Qg3 rfl) rfl (.q 3 rfl (.gm rfl rfl rfl rfl (.gm rfl rfl rfl rfl ?_))))));refine .gval rfl rfl (fun hg1=>(by exact .indexAddr (.gd hg1 rfl) (.gd hg1 rfl) (by (try simp only [Y6] at hg1); omega) (by (try simp only [Y6] at hg1); omega) X29 X15)) rfl ?_;refine .gval rfl rfl (fun hg1=>(by exact (.ld (.gd hg1 rfl) hS (k:=0) rfl X38 rfl))) rfl ?_;refine .gval rfl rfl (fun hg1=>(by exact .indexAddr (.gd hg1 rfl) (.of rfl) (by (try simp only [Y6] at hg1); omega) (by (try simp only [Y6] at hg1); omega) Xd Qs3)) rfl ?_;refine .gval rfl rfl (fun hg1=>(by exact (.ld (.gd hg1 rfl) hS (k:=2) rfl Qg3 rfl))) rfl ?_;refine .gm rfl rfl rfl rfl (.gval rfl rfl (fun hg1=>(.eql (.gd hg1 rfl) (.gd hg1 rfl))) rfl (.val (.pa rfl rfl rfl) rfl (.nil ?_)));refine .cond rfl (fun hb38=>?_) fun hb38=>?_
   ·refine .seq (.q 1 rfl (.ret (X9 Xfk rfl ?_)));refine ⟨_,rfl,congrArg Value.bool ?_,((((((((hS.drop (k:=0) rfl).drop (k:=0) rfl).drop (k:=0) rfl).drop (k:=0) rfl).drop (k:=0) rfl).drop (k:=0) rfl).drop (k:=0) rfl).drop (k:=0) rfl)⟩;simp at hb38
    obtain ⟨h1,h2⟩:=hb38;subst h1 h2;rfl
   refine .skip (.region (.run 3 rfl ⟨⟨by omega,by omega⟩,trivial⟩ (.nil ?_)));refine ⟨6,⟨rfl,rfl,rfl,rfl,trivial⟩,⟨by decide,fun j p hj hp=>?_,hS⟩,by decide⟩;rcases Yr j 5 with h1 | h1
   ·exact hno j p h1 hp
   ·have e:j=5:=by omega
    subst e;cases hp
    simpa using hb38
  refine .vm rfl rfl (.q 1 rfl ?_);refine .val (.io rfl rfl (by omega) (by omega) X29 X15) rfl (.val (.lo rfl hS (k:=0) rfl X38 rfl) rfl (.val (.io rfl rfl (by omega) (by omega) Xd Qs3) rfl (.val (.lo rfl hS (k:=1) rfl Qg3 rfl) rfl (.q 3 rfl (.gm rfl rfl rfl rfl (.gm rfl rfl rfl rfl ?_))))));refine .gval rfl rfl (fun hg1=>(by exact .indexAddr (.gd hg1 rfl) (.gd hg1 rfl) (by (try simp only [Y6] at hg1); omega) (by (try simp only [Y6] at hg1); omega) X29 X15)) rfl ?_;refine .gval rfl rfl (fun hg1=>(by exact (.ld (.gd hg1 rfl) hS (k:=0) rfl X38 rfl))) rfl ?_;refine .gval rfl rfl (fun hg1=>(by exact .indexAddr (.gd hg1 rfl) (.of rfl) (by (try simp only [Y6] at hg1); omega) (by (try simp only [Y6] at hg1); omega) Xd Qs3)) rfl ?_;refine .gval rfl rfl (fun hg1=>(by exact (.ld (.gd hg1 rfl) hS (k:=1) rfl Qg3 rfl))) rfl ?_;refine .gm rfl rfl rfl rfl (.gval rfl rfl (fun hg1=>(.eql (.gd hg1 rfl) (.gd hg1 rfl))) rfl (.val (.pa rfl rfl rfl) rfl (.nil ?_)));refine .cond rfl (fun hb38=>?_) fun hb38=>?_
  ·refine .seq (.q 1 rfl (.ret (X9 Xfk rfl ?_)));refine ⟨_,rfl,congrArg Value.bool ?_,((((((((hS.drop (k:=0) rfl).drop (k:=0) rfl).drop (k:=0) rfl).drop (k:=0) rfl).drop (k:=0) rfl).drop (k:=0) rfl).drop (k:=0) rfl).drop (k:=0) rfl)⟩;simp at hb38
   obtain ⟨h1,h2⟩:=hb38;subst h1 h2;rfl
  refine .skip (.region (.run 3 rfl ⟨⟨by omega,by omega⟩,trivial⟩ (.nil ?_)));refine ⟨7,⟨rfl,rfl,rfl,rfl,trivial⟩,⟨by decide,fun j p hj hp=>?_,hS⟩,by decide⟩;rcases Yr j 6 with h1 | h1
  ·exact hno j p h1 hp
  ·have e:j=6:=by omega
   subst e;cases hp
   simpa using hb38
 have hc18:=hb18; simp only [Y6] at hc18;refine .exit (.seq (.q 1 rfl (.ret (X9 Xfk rfl ?_))));have e7:i=7:=by omega
 subst e7;refine ⟨_,rfl,congrArg Value.bool ?_,((((((((hS.drop (k:=0) rfl).drop (k:=0) rfl).drop (k:=0) rfl).drop (k:=0) rfl).drop (k:=0) rfl).drop (k:=0) rfl).drop (k:=0) rfl).drop (k:=0) rfl)⟩;cases h:X6r kind of9 with
 | false=>rfl
 | true =>
  exfalso
  have h0:=hno 0 _ (by decide) rfl;have h1:=hno 1 _ (by decide) rfl;have h2:=hno 2 _ (by decide) rfl;have h3:=hno 3 _ (by decide) rfl;have h4:=hno 4 _ (by decide) rfl;have h5:=hno 5 _ (by decide) rfl;have h6:=hno 6 _ (by decide) rfl;simp at h0 h1 h2 h3 h4 h5 h6
  simp [X6r] at h
  omega
def kdT (s:List UInt8):Int:=match Xz s with
 | some (k,_)=>(k:Nat)
 | none=>0
def drT (s:List UInt8):Nat:=match Xz s with
 | some (_,d)=>d
 | none=>0
theorem Xm8 (s:List UInt8):(match Xz s with | some (k,d)=>Value.tuple #[I64 (k:Nat),U64 (d:Nat),.bool true] | none=>.tuple #[I64 0,U64 0,.bool false])=.tuple #[I64 (kdT s),U64 (drT s:Nat),.bool (Xz s).isSome]:=by
 unfold kdT drT;cases Xz s with
 | none=>rfl
 | some x=>rfl
theorem Xl5 (s:List UInt8) (k:Int):isT s k=((Xz s).isSome && decide (kdT s=k)):=by
 unfold isT kdT;cases Xz s with
 | none=>rfl
 | some x=>obtain ⟨a,b⟩:=x; rfl
theorem Xg1 (k:Int) (s:List UInt8):X2u k s=(((Xz s).isSome || decide (s=[])) && X6r k (kdT s)):=by
 unfold X2u
 by_cases h:s=[]
 ·subst h; rfl
 ·rw [if_neg h];unfold kdT;cases Xz s with
  | none=>simp [h]
  | some x=>obtain ⟨a,b⟩:=x; simp
theorem X64 (s:List UInt8) (hsl:s.length≤9223372036854775000) (B w:World) (I:Im) (As:List X7) (hS:Sat B w I As) :
  Calls Tryz.prog 168 [S s].toArray w (Ret fun v w'=>v=.tuple #[I64 (kdT s),U64 (drT s:Nat),.bool (Xz s).isSome]∧Sat B w' I As) :=
 (Xdl s hsl B w I As hS).mono fun e w' ⟨v,he,hv,hS⟩=>⟨v,he,by rw [hv,Xm8],hS⟩
theorem X8g (r:Rec) (hn:r.name.length≤9223372036854775000) (hp:r.parent.length≤9223372036854775000) (B w:World) (I:Im) (As:List X7) (hS:Sat B w I As) :
  Cz 127 [.agg (X5 r).toArray] w fun v w'=>v=.bool (Xm r)∧Sat B w' I As:=by
 refine calls Tryz.func127 rfl Tryz.ntmps127 rfl (.seq (.region (.boxA (cs:=[_,_,_,_,_,_,_,_,_,_]) hS (.of rfl) rfl ?_)));intro b1 w hS;refine .q 1 rfl (.nil (.seq (.region ?_)));refine .val (.fo 1 rfl Xr rfl rfl Qs9 rfl) rfl (.val (.lo rfl hS (k:=0) rfl Qg9 rfl) rfl (.call Tryz.func168 rfl (ec9 rfl X0) rfl (X64 r.name hn B _ I _ hS) ?_));rintro _ w ⟨rfl,hS⟩;refine .q 7 rfl (.nil (.seq (.seq (.t 3 rfl (.gm rfl rfl rfl rfl ?_)))));refine .gval rfl rfl (fun hg1=>(by exact .fo 0 rfl Xr rfl rfl Qs3 rfl)) rfl ?_;refine .gval rfl rfl (fun hg1=>(.ld (.gd hg1 rfl) hS (k:=0) rfl Qg3 rfl)) rfl (.gval rfl rfl (fun hg1=>(.neq (.gd hg1 rfl) (.gd hg1 rfl))) rfl (.val (.po rfl rfl rfl) rfl (.q 1 rfl ?_)));refine .gval rfl rfl (fun hg1=>(by exact .fo 3 rfl Xr rfl rfl Qs9 rfl)) rfl ?_;refine .gval rfl rfl (fun hg1=>(.ld (.gd hg1 rfl) hS (k:=0) rfl Qg9 rfl)) rfl (.gval rfl rfl (fun hg1=>(.len (.gd hg1 rfl) Qu9)) rfl (.gval rfl rfl (fun hg1=>(.gtr (.gd hg1 rfl) (.of rfl))) rfl (.val (.po rfl rfl rfl) rfl (.q 1 rfl ?_))));refine .gval rfl rfl (fun hg1=>(by exact .fo 4 rfl Xr rfl rfl Qs9 rfl)) rfl ?_;refine .gval rfl rfl (fun hg1=>(.ld (.gd hg1 rfl) hS (k:=0) rfl Qg9 rfl)) rfl (.gval rfl rfl (fun hg1=>(.len (.gd hg1 rfl) Qu9)) rfl (.gval rfl rfl (fun hg1=>(.gtr (.gd hg1 rfl) (.of rfl))) rfl (.val (.po rfl rfl rfl) rfl (.q 1 rfl ?_))));refine .gval rfl rfl (fun hg1=>(by exact .fo 5 rfl Xr rfl rfl Qs9 rfl)) rfl ?_;refine .gval rfl rfl (fun hg1=>(.ld (.gd hg1 rfl) hS (k:=0) rfl Qg9 rfl)) rfl (.gval rfl rfl (fun hg1=>(.len (.gd hg1 rfl) Qu9)) rfl (.gval rfl rfl (fun hg1=>(.gtr (.gd hg1 rfl) (.of rfl))) rfl (.val (.po rfl rfl rfl) rfl (.nil ?_))));refine .cond rfl (fun hb41=>?_) fun hb41=>?_
 ·refine .seq (.q 1 rfl (.ret (X9 Xul rfl ?_)));refine ⟨_,rfl,congrArg Value.bool ?_,hS.drop (k:=0) rfl⟩;cases h:Xm r with
  | false=>rfl
  | true =>
   exfalso
   unfold Xm at h;simp only [Yq,decide_eq_true_eq,Xl5] at h
   obtain ⟨⟨⟨⟨⟨h1,h2⟩,h3⟩,_⟩,h4,h5⟩,_⟩:=h;simp [h4,h5] at hb41
   omega
 refine .skip (.seq (.seq (.region ?_)));refine .val (.fo 6 rfl Xr rfl rfl Qs3 rfl) rfl (.val (.lo rfl hS (k:=0) rfl Qg3 rfl) rfl (.q 2 rfl ?_));refine .gval rfl rfl (fun hg1=>(by exact .fo 7 rfl Xr rfl rfl Qs3 rfl)) rfl ?_;refine .gval rfl rfl (fun hg1=>(.ld (.gd hg1 rfl) hS (k:=0) rfl Qg3 rfl)) rfl (.gval rfl rfl (fun hg1=>(by exact .fo 6 rfl Xr rfl rfl Qs3 rfl)) rfl ?_);refine .gval rfl rfl (fun hg1=>(.ld (.gd hg1 rfl) hS (k:=0) rfl Qg3 rfl)) rfl (.gval rfl rfl (fun hg1=>(.lss (.gd hg1 rfl) (.gd hg1 rfl))) rfl (.val (.po rfl rfl rfl) rfl (.q 1 rfl ?_)));refine .gval rfl rfl (fun hg1=>(by exact .fo 7 rfl Xr rfl rfl Qs3 rfl)) rfl ?_;refine .gval rfl rfl (fun hg1=>(.ld (.gd hg1 rfl) hS (k:=0) rfl Qg3 rfl)) rfl (.gval rfl rfl (fun hg1=>(.gtr (.gd hg1 rfl) (.of rfl))) rfl (.val (.po rfl rfl rfl) rfl (.q 1 rfl ?_)));refine .gval rfl rfl (fun hg1=>(by exact .fo 8 rfl Xr rfl rfl Qs3 rfl)) rfl ?_;refine .gval rfl rfl (fun hg1=>(.ld (.gd hg1 rfl) hS (k:=0) rfl Qg3 rfl)) rfl (.gval rfl rfl (fun hg1=>(.lss (.gd hg1 rfl) (.of rfl))) rfl (.val (.po rfl rfl rfl) rfl (.q 1 rfl ?_)));refine .gval rfl rfl (fun hg1=>(by exact .fo 8 rfl Xr rfl rfl Qs3 rfl)) rfl ?_;refine .gval rfl rfl (fun hg1=>(.ld (.gd hg1 rfl) hS (k:=0) rfl Qg3 rfl)) rfl (.gval rfl rfl (fun hg1=>(.gtr (.gd hg1 rfl) (.of rfl))) rfl (.val (.po rfl rfl rfl) rfl (.nil ?_)));refine .cond rfl (fun hb66=>?_) fun hb66=>?_
 ·refine .seq (.q 1 rfl (.ret (X9 Xul rfl ?_)));refine ⟨_,rfl,congrArg Value.bool ?_,hS.drop (k:=0) rfl⟩;cases h:Xm r with
  | false=>rfl
  | true =>
   exfalso
   unfold Xm at h;simp only [Yq,decide_eq_true_eq,Xl5] at h
   obtain ⟨⟨⟨_,⟨⟨⟨h1,h2⟩,h3⟩,h4⟩,h5⟩,_⟩,_⟩:=h;simp at hb66
   omega
 refine .skip (.seq (.region ?_));refine .val (.fo 2 rfl Xr rfl rfl Qs9 rfl) rfl (.val (.lo rfl hS (k:=0) rfl Qg9 rfl) rfl (.call Tryz.func168 rfl (ec9 rfl X0) rfl (X64 r.parent hp B _ I _ hS) ?_));rintro _ w ⟨rfl,hS⟩;refine .q 7 rfl (.nil (.seq (.t 2 rfl ?_)));refine .gval rfl rfl (fun hg1=>(by exact .fo 2 rfl Xr rfl rfl Qs9 rfl)) rfl ?_;refine .gval rfl rfl (fun hg1=>(.ld (.gd hg1 rfl) hS (k:=0) rfl Qg9 rfl)) rfl (.gval rfl rfl (fun hg1=>(.eqs (.gd hg1 rfl) (.of rfl))) rfl (.val (.po rfl rfl rfl) rfl (.q 1 rfl ?_)));refine .gval rfl rfl (fun hg1=>(by exact .fo 0 rfl Xr rfl rfl Qs3 rfl)) rfl ?_;refine .gval rfl rfl (fun hg1=>(.ld (.gd hg1 rfl) hS (k:=0) rfl Qg3 rfl)) rfl (.gm rfl rfl rfl rfl (.gcall (T:=fun w=>Sat B w I _) rfl rfl rfl Tryz.func169 rfl (fun hg1=>(X6 (.gd hg1 rfl) (X6 (.gd hg1 rfl) X0))) rfl (fun hg1=>Xek r.kind (kdT r.parent) B _ I _ hS) hS ?_));rintro w hS;refine .val (.pa rfl rfl rfl) rfl (.q 1 rfl (.nil (.ret (X9 Xul rfl ?_))));refine ⟨_,rfl,congrArg Value.bool ?_,hS.drop (k:=0) rfl⟩;rw [Xm,Xl5,Xg1];simp at hb41 hb66
 obtain ⟨⟨⟨⟨g1,g2⟩,g3⟩,g4⟩,g5⟩:=hb41;obtain ⟨⟨⟨⟨f1,f2⟩,f3⟩,f4⟩,f5⟩:=hb66;simp [g1,g2,f1,f2,f3,f4,f5]
 have e1:((r.user.length:Nat):Int)≤32:=by omega
 have e2:((r.service.length:Nat):Int)≤100:=by omega
 have e3:((r.url.length:Nat):Int)≤100:=by omega
 simp [e1,e2,e3]
 rw [show r.parent.isEmpty=decide (r.parent=[]) by cases r.parent <;> simp]
theorem at_hit {l:List Rec} {name:List UInt8} {i:Nat} {r:Rec} (h:l[i]?=some r) (hn:r.name=name) (hno:∀ (j:Nat) t,j<i→l[j]?=some t→t.name≠name):at0 l name=(i:Int):=by
 rw [at0,← X8x];exact X5f (fun j t hj ht=>decide_eq_false (hno j t hj ht)) h (decide_eq_true hn)
theorem Xs6 {l:List Rec} {name:List UInt8} (hno:∀ (j:Nat) t,l[j]?=some t→t.name≠name):at0 l name=-1:=by
 rw [at0,← X8x];exact X3z (fun j t ht=>decide_eq_false (hno j t ht))
theorem X35 (tb:Nat) (room:Int) (la:Option Addr) (lc:Nat) (l:List Rec) (hl:l.length≤100000) (name:List UInt8) (B w:World) (I:Im) (hR:RS I la 10 l.length (X12 X5 l)) (As:List X7) (hS:Sat B w I (blk tb [I64 room,.slice la l.length lc] 90::As)) :
  Cz 128 [ptr tb 0,S name] w fun v w'=>v=I64 (at0 l name)∧Sat B w' I (blk tb [I64 room,.slice la l.length lc] 90::As):=by
 refine calls Xcp rfl Tryz.ntmps128 rfl (.seq (.q 1 rfl (.seq (.seq (.q 1 rfl (.block (.loop (σ:=Nat) (fun i=>[(0,ptr tb 0),(1,S name),(5,I64 (i:Nat))]) (fun i w=>i≤l.length∧(∀ (j:Nat) r,j<i→l[j]?=some r→r.name≠name)∧Sat B w I (blk tb [I64 room,.slice la l.length lc] 90::As)) (fun i=>l.length - i) 0 ⟨rfl,rfl,rfl,trivial⟩ ⟨Yo _,fun _ _ h=>absurd h (by omega),hS⟩ ?_)))))));rintro i w ⟨hi,hno,hS⟩;refine .seq (.seq (.t 3 rfl ?_));refine .val (.fo 1 rfl X79 rfl rfl X2y rfl) rfl (.val (.lo rfl hS (k:=0) rfl X5v rfl) rfl (.run 2 rfl ⟨⟨_,X1p⟩,trivial⟩ (.nil ?_)));refine .cond rfl (fun hb12=>?_) fun hb12=>?_
 ·have hc12:=hb12; simp only [Y6] at hc12;refine .skip (.seq (.block (.seq ?_)));obtain ⟨r,hr⟩:∃ r,l[i]?=some r:=⟨_,Y4 (by omega)⟩
  obtain ⟨q,hq9,hx⟩:=X5s (cells:=X5) (s:=10) (fun _=>rfl) (hR) hr;subst hq9;unfold X5 at hx;refine .t 2 rfl (.val (.fo 1 rfl X79 rfl rfl X2y rfl) rfl (.val (.lo rfl hS (k:=0) rfl X5v rfl) rfl (.q 1 rfl (.val (.ii rfl rfl (by omega) (by omega) X1p Xu) rfl (.val (.fi 1 rfl Xr rfl rfl Qs9 rfl) rfl (.val (.ldI (.of rfl) hS (At.add hx _) Qg9 rfl) rfl (.q 2 rfl (.nil ?_))))))));refine .cond rfl (fun hb24=>?_) fun hb24=>?_
  ·refine .seq (.q 2 rfl (.ret (X9 Tryz.results128 rfl ?_)));exact ⟨_,rfl,congrArg I64 (at_hit hr (by simpa using hb24) hno).symm,hS⟩
  have hc24:=hb24; simp only [Y6] at hc24;refine .skip (.region (.run 3 rfl ⟨⟨by omega,by omega⟩,trivial⟩ (.nil ?_)));refine ⟨i+1,⟨rfl,rfl,rfl,trivial⟩,⟨by (try dsimp only); omega,fun j t hj ht=>?_,hS⟩,by (try dsimp only); omega⟩;rcases Yr j i with h1 | h1
  ·exact hno j t h1 ht
  ·have e:j=i:=by omega
   subst e;rw [hr] at ht; cases ht;simpa using hb24
 have hc12:=hb12; simp only [Y6] at hc12;refine .exit (.seq (.q 1 rfl (.ret (X9 Tryz.results128 rfl ?_))));refine ⟨_,rfl,congrArg I64 (Xs6 fun j t ht=>?_).symm,hS⟩
 have:=(Y5.1 ht).1
 exact hno j t (by omega) ht
theorem Xbl (tb:Nat) (room:Int) (la:Option Addr) (lc:Nat) (l:List Rec) (hl:l.length≤100000) (name:List UInt8) (B w:World) (I:Im) (hR:RS I la 10 l.length (X12 X5 l)) (As:List X7) (hS:Sat B w I (blk tb [I64 room,.slice la l.length lc] 90::As)) :
  Calls Tryz.prog 128 [ptr tb 0,S name].toArray w (Ret fun v w'=>(∃ k:Int,v=I64 k∧((k=-1∧get l name=none∧at0 l name=-1)∨∃ (j:Nat) (r:Rec),k=(j:Int)∧l[j]?=some r∧r.name=name∧get l name=some r∧at0 l name=(j:Int)))∧Sat B w' I (blk tb [I64 room,.slice la l.length lc] 90::As)) :=
 (X35 tb room la lc l hl name B w I hR As hS).mono fun e w' ⟨v,he,hv,hS⟩=>⟨v,he,by
  rcases Tr.get_at l name with ⟨h1,h2⟩ | ⟨j,r,h1,h2,h3,h4⟩
  ·exact ⟨⟨-1,by rw [hv,h1],.inl ⟨rfl,h2,h1⟩⟩,hS⟩
  ·exact ⟨⟨j,by rw [hv,h1],.inr ⟨j,r,rfl,h2,h3,h4,h1⟩⟩,hS⟩⟩
theorem X5b (tb:Nat) (room:Int) (la:Option Addr) (lc:Nat) (l:List Rec) (hl:l.length≤100000) (name:List UInt8) (B w:World) (I:Im) (hR:RS I la 10 l.length (X12 X5 l)) (As:List X7) (hS:Sat B w I (blk tb [I64 room,.slice la l.length lc] 90::As)) :
  Cz 71 [ptr tb 0,S name] w fun v w'=>v=.tuple #[.agg (X5 (getD l name)).toArray,.bool (get l name).isSome]∧Sat B w' I (blk tb [I64 room,.slice la l.length lc] 90::As):=by
 refine calls Qf71 rfl Tryz.ntmps71 rfl (.seq (.region (.allocA (cs:=[_,_,_,_,_,_,_,_,_,_]) hS X5t rfl ?_)));intro b4 w hS;refine .q 1 rfl (.nil (.seq (.t 2 rfl (.call Xcp rfl (ec9 rfl (ec9 rfl X0)) rfl (Xbl tb room la lc l hl name B _ I hR _ (hS.pick 1 rfl)) ?_))));rintro _ w ⟨⟨k,rfl,hk⟩,hS⟩;refine .q 1 rfl (.nil (.seq (.seq (.region ?_))));rcases hk with ⟨rfl,hg,_⟩ | ⟨j,r,rfl,hr,hn9,hg,_⟩
 ·refine .vm rfl rfl (.q 1 rfl (.nil (.condT (congrArg (fun b=>some (Value.bool b)) (decide_eq_true (by decide))) (.seq (.region (.val (.build (cs:=[_,_,_,_,_,_,_,_,_,_]) X4 X1v rfl) rfl ?_))))));refine .so hS (k:=1) rfl rfl rfl rfl Xu rfl (by simp) ?_;intro w hS;try simp only [Yh,Ye,Y9,Y7,Yg,Yn,Yd] at hS
  refine .q 1 rfl (.nil (.ret ?_));refine X1i (b:=_) (cs:=[_,_,_,_,_,_,_,_,_,_]) Tryz.results71 hS (k:=1) rfl X3e Xu rfl rfl rfl ?_;exact ⟨_,rfl,by rw [getD,hg]; rfl,hS.drop (k:=1) rfl⟩
 obtain ⟨q,hq9,hx⟩:=X5s (cells:=X5) (s:=10) (fun _=>rfl) hR hr;subst hq9;unfold X5 at hx;have hjl:=(Y5.1 hr).1;refine .vm rfl rfl (.q 1 rfl (.nil (.condF (congrArg (fun b=>some (Value.bool b)) (decide_eq_false (by omega))) (.skip (.seq (.t 2 rfl ?_))))));refine .val (.fo 1 rfl X79 rfl rfl X2y rfl) rfl (.val (.lo rfl hS (k:=0) rfl X5v rfl) rfl (.q 1 rfl (.val (.ii rfl rfl (by omega) (by omega) X1p Xu) rfl (.val (.ldsI (.of rfl) hS hx X3e Xu rfl (fun _ _ h=>h)) rfl (.so hS (k:=1) rfl rfl rfl rfl Xu rfl (by simp) ?_)))));intro w hS;try simp only [Yh,Ye,Y9,Y7,Yg,Yn,Yd] at hS
 refine .q 1 rfl (.nil (.ret ?_));refine X1i (b:=_) (cs:=[_,_,_,_,_,_,_,_,_,_]) Tryz.results71 hS (k:=1) rfl X3e Xu rfl rfl rfl ?_;exact ⟨_,rfl,by rw [getD,hg]; rfl,hS.drop (k:=1) rfl⟩
theorem Xgw (tb:Nat) (room:Int) (la:Option Addr) (lc:Nat) (l:List Rec) (hl:l.length≤100000) (name:List UInt8) (B w:World) (I:Im) (hR:RS I la 10 l.length (X12 X5 l)) (As:List X7) (hS:Sat B w I (blk tb [I64 room,.slice la l.length lc] 90::As)) :
  Cz 135 [ptr tb 0,S name] w fun v w'=>∃ J ra rc,v=.slice ra (X1y l name).length rc∧Le I J∧(X1y l name).length≤rc∧RS J ra 1 (X1y l name).length ((X1y l name).map S)∧Sat B w' J (blk tb [I64 room,.slice la l.length lc] 90::As):=by
 refine calls Tryz.func135 rfl Tryz.ntmps135 rfl (.seq (.q 1 rfl (.seq ?_)));replace hS:=hS.vecNil 9 1;refine .q 1 rfl (.seq (.seq (.q 1 rfl (.block (.loop (σ:=Value×Nat) (fun ⟨kv,i⟩=>[(0,ptr tb 0),(1,S name),(5,kv),(6,I64 (i:Nat))]) (fun ⟨kv,i⟩ w=>i≤l.length∧Sat B w I (Vec 9 1 kv (X1y (l.take i) name).length ((X1y (l.take i) name).map S)::blk tb [I64 room,.slice la l.length lc] 90::As)) (fun ⟨kv,i⟩=>l.length - i) (.slice none 0 0,0) ⟨rfl,rfl,rfl,rfl,trivial⟩ ⟨Yo _,hS⟩ ?_)))));rintro ⟨kv,i⟩ w ⟨hi,hS⟩;refine .seq (.seq (.t 3 rfl ?_));refine .val (.fo 1 rfl X79 rfl rfl X2y rfl) rfl (.val (.lo rfl hS (k:=1) rfl X5v rfl) rfl (.run 2 rfl ⟨⟨_,X1p⟩,trivial⟩ (.nil ?_)));refine .cond rfl (fun hb13=>?_) fun hb13=>?_
 ·have hc13:=hb13; simp only [Y6] at hc13;refine .skip (.seq (.block (.seq ?_)));obtain ⟨r,hr⟩:∃ r,l[i]?=some r:=⟨_,Y4 (by omega)⟩
  obtain ⟨q,hq9,hx⟩:=X5s (cells:=X5) (s:=10) (fun _=>rfl) (hR) hr;subst hq9;unfold X5 at hx;have hkl:=X9j (l.take i) name;rw [Yt] at hkl;refine .t 2 rfl (.val (.fo 1 rfl X79 rfl rfl X2y rfl) rfl (.val (.lo rfl hS (k:=1) rfl X5v rfl) rfl (.q 1 rfl (.val (.ii rfl rfl (by omega) (by omega) X1p Xu) rfl (.val (.fi 2 rfl Xr rfl rfl Qs9 rfl) rfl (.val (.ldI (.of rfl) hS (At.add hx _) Qg9 rfl) rfl (.q 3 rfl (.gm rfl rfl rfl rfl (.gval rfl rfl (fun hg1=>(.nes (.gd hg1 rfl) (.of rfl))) rfl (.val (.pa rfl rfl rfl) rfl (.nil ?_)))))))))));refine .cond rfl (fun hb29=>?_) fun hb29=>?_
  ·have hc29:=hb29; simp only [Y6] at hc29;refine .t 3 rfl (.val (.fo 1 rfl X79 rfl rfl X2y rfl) rfl (.val (.lo rfl hS (k:=1) rfl X5v rfl) rfl (.q 1 rfl (.val (.ii rfl rfl (by omega) (by omega) X1p Xu) rfl (.val (.fi 1 rfl Xr rfl rfl Qs9 rfl) rfl (.val (.ldI (.of rfl) hS (At.add hx _) Qg9 rfl) rfl (.buildSlice (cs:=[_]) hS (pc9 rfl X4) X19 Qs9 Qz9 rfl rfl rfl rfl ?_)))))));intro b39 w hS;refine .append (size:=1) (bytes:=16) hS (.of rfl) (.of rfl) (k:=0) rfl X19 X1m rfl rfl rfl rfl rfl rfl rfl ⟨by omega,by unfold maxLen; omega⟩ rfl ?_;intro v40 w hS;obtain ⟨a40,c40,rfl,hcap40,_⟩:=hS.vecSlice (k:=0) (v:=v40) rfl;refine .q 1 rfl (.nil (.region (.run 3 rfl ⟨⟨by omega,by omega⟩,trivial⟩ (.nil ?_))));have e:=X77 hr name;rw [if_pos (by simpa [and_comm] using hb29)] at e;refine ⟨(.slice a40 ((X1y (l.take i) name).length+1) c40,i+1),⟨rfl,rfl,rfl,rfl,trivial⟩,⟨by (try dsimp only); omega,?_⟩,by (try dsimp only); omega⟩;rw [e,Y0,Yv];exact hS
  have hc29:=hb29; simp only [Y6] at hc29;refine .skip (.region (.run 3 rfl ⟨⟨by omega,by omega⟩,trivial⟩ (.nil ?_)));have e:=X77 hr name;rw [if_neg (by simpa [and_comm] using hb29),Y9] at e;refine ⟨(kv,i+1),⟨rfl,rfl,rfl,rfl,trivial⟩,⟨by (try dsimp only); omega,?_⟩,by (try dsimp only); omega⟩;rw [e];exact hS
 have hc13:=hb13; simp only [Y6] at hc13;refine .exit (.seq (.q 2 rfl (.ret (X9 Tryz.results135 rfl ?_))));have hin:i=l.length:=by omega
 subst hin;rw [Y13] at hS;obtain ⟨ka,kc,rfl,hkc,_⟩:=hS.vecSlice (k:=0) rfl;obtain ⟨J,hJ,hRS,hS⟩:=hS.freezeVec (k:=0) rfl;exact ⟨_,rfl,J,ka,kc,rfl,hJ,hkc,hRS,hS⟩
theorem Xhc (tb:Nat) (room:Int) (la:Option Addr) (lc:Nat) (l:List Rec) (hl:l.length≤100000) (hwf:Wf l) (name:List UInt8) (B w:World) (I:Im) (hR:RS I la 10 l.length (X12 X5 l)) (As:List X7) (hS:Sat B w I (blk tb [I64 room,.slice la l.length lc] 90::As)) :
  Cz 172 [ptr tb 0,S name] w fun v w'=>∃ J ra rc,v=.slice ra (path l name).length rc∧Le I J∧(path l name).length≤rc∧RS J ra 1 (path l name).length ((path l name).map fun r=>S r.name)∧Sat B w' J (blk tb [I64 room,.slice la l.length lc] 90::As):=by
 refine calls Tryz.func172 rfl Tryz.ntmps172 rfl (.seq (.q 1 rfl (.seq (.q 1 rfl (.seq (.t 2 rfl (.call Xcp rfl (ec9 rfl (ec9 rfl X0)) rfl (X35 tb room la lc l hl name B _ I hR _ hS) ?_)))))));rintro _ w ⟨rfl,hS⟩;replace hS:=hS.vecNil 9 1;refine .q 1 rfl (.nil (.seq (.block (.loop (σ:=Value×Int×List Rec) (fun ⟨kv,i,D⟩=>[(0,ptr tb 0),(1,S name),(5,kv),(6,I64 i)]) (fun ⟨kv,i,D⟩ w=>path l name=D ++ Xf2 l i∧-1≤i∧i<l.length∧Sat B w I (Vec 9 1 kv D.length (D.map fun r=>S r.name)::blk tb [I64 room,.slice la l.length lc] 90::As)) (fun ⟨kv,i,D⟩=>(i+1).toNat) (.slice none 0 0,at0 l name,[]) ⟨rfl,rfl,rfl,rfl,trivial⟩ ⟨rfl,Xkl l name,Xdd l name,hS⟩ ?_))));rintro ⟨kv,i,D⟩ w ⟨hp2,hi1,hi2,hS⟩;refine .seq (.seq (.q 2 rfl ?_));refine .cond rfl (fun hb11=>?_) fun hb11=>?_
 ·refine .skip (.block (.seq ?_));obtain ⟨n9,rfl⟩:∃ q:Nat,i=(q:Int):=⟨i.toNat,by simp at hb11; omega⟩
  obtain ⟨r,hr⟩:∃ r,l[n9]?=some r:=⟨_,Y4 (by omega)⟩
  obtain ⟨q,hq9,hx⟩:=X5s (cells:=X5) (s:=10) (fun _=>rfl) hR hr;subst hq9;unfold X5 at hx;have hql:n9<l.length:=by omega
  have hup:=(hwf.up n9 r hr).2;have hDl:D.length≤l.length:=by have h1:=Xdh hwf name; rw [hp2,Y0] at h1; omega
  refine .t 3 rfl (.val (.fo 1 rfl X79 rfl rfl X2y rfl) rfl (.val (.lo rfl hS (k:=1) rfl X5v rfl) rfl (.q 1 rfl (.val (.ii rfl rfl (by omega) (by omega) X1p Xu) rfl (.val (.fi 1 rfl Xr rfl rfl Qs9 rfl) rfl (.val (.ldI (.of rfl) hS (At.add hx _) Qg9 rfl) rfl (.buildSlice (cs:=[_]) hS (pc9 rfl X4) X19 Qs9 Qz9 rfl rfl rfl rfl ?_)))))));intro b21 w hS;refine .append (size:=1) (bytes:=16) hS (.of rfl) (.of rfl) (k:=0) rfl X19 X1m rfl rfl rfl rfl rfl rfl rfl ⟨by omega,by unfold maxLen; omega⟩ rfl ?_;intro v22 w hS;obtain ⟨a22,c22,rfl,hcap22,_⟩:=hS.vecSlice (k:=0) (v:=v22) rfl;refine .q 1 rfl (.nil (.t 3 rfl ?_));refine .val (.fo 1 rfl X79 rfl rfl X2y rfl) rfl (.val (.lo rfl hS (k:=1) rfl X5v rfl) rfl (.q 1 rfl (.val (.ii rfl rfl (by omega) (by omega) X1p Xu) rfl (.val (.fi 2 rfl Xr rfl rfl Qs9 rfl) rfl (.val (.ldI (.of rfl) hS (At.add hx _) Qg9 rfl) rfl (.call Xcp rfl (ec9 rfl (ec9 rfl X0)) rfl (X35 tb room (some q) lc l hl r.parent B _ I hR _ (hS.pick 1 rfl)) ?_))))));rintro _ w ⟨rfl,hS⟩;refine .q 1 rfl (.nil ?_);refine ⟨(.slice a22 (D.length+1) c22,at0 l r.parent,D ++ [r]),⟨rfl,rfl,rfl,rfl,trivial⟩,⟨by (try dsimp only); rw [hp2,Xcj hwf hr,Yf]; rfl,Xkl l _,Xdd l _,?_⟩,by (try dsimp only); omega⟩;rw [Y0,Yv];exact (hS.pick 1 rfl)
 refine .exit (.seq (.q 2 rfl (.ret (X9 Tryz.results172 rfl ?_))));have hin:i<0:=by simp at hb11; omega
 rw [X7e l hin,Y9] at hp2;subst hp2;obtain ⟨ka,kc,rfl,hkc,_⟩:=hS.vecSlice (k:=0) rfl;obtain ⟨J,hJ,hRS,hS⟩:=hS.freezeVec (k:=0) rfl;exact ⟨_,rfl,J,ka,kc,rfl,hJ,hkc,hRS,hS⟩
theorem Xl8 (l:List (List UInt8)):(l.map S).all Value.oneCell'=true:=by
 rw [List.all_map,Y1b]; intro x _; rfl
theorem Xcw (tb:Nat) (room:Int) (la:Option Addr) (lc:Nat) (l:List Rec) (hl:l.length≤100000) (hwf:Wf l):∀ (n:Nat) (name:List UInt8) (B w:World) (I:Im) (hR:RS I la 10 l.length (X12 X5 l)) (As:List X7) (h0:0≤at0 l name) (hn:(l.length:Int) - at0 l name≤n) (hob:(Xk l n name).length≤1000000) (hS:Sat B w I (blk tb [I64 room,.slice la l.length lc] 90::As)),
  Cz 85 [ptr tb 0,S name] w fun v w'=>∃ J ra rc,v=.slice ra (Xk l n name).length rc∧Le I J∧(Xk l n name).length≤rc∧RS J ra 1 (Xk l n name).length ((Xk l n name).map S)∧Sat B w' J (blk tb [I64 room,.slice la l.length lc] 90::As):=by
 intro n
 induction n with
 | zero=>intro name B w I hR As h0 hn; have:=Xdd l name; omega
 | succ n ih =>
  intro name B w I hR As h0 hn hob hS;rw [Xk,Y8] at hob;refine calls Qf85 rfl Tryz.ntmps85 rfl (.seq (.q 1 rfl (.seq (.seq (.t 2 rfl (.call Xcp rfl (ec9 rfl (ec9 rfl X0)) rfl (X35 tb room la lc l hl name B _ I hR _ hS) ?_))))));rintro _ w ⟨rfl,hS⟩;refine .q 1 rfl (.nil (.condF (congrArg (fun b=>some (Value.bool b)) (decide_eq_false (by omega))) (.skip (.seq (.t 1 rfl (.buildSlice (cs:=[_]) hS (pc9 rfl X4) X19 Qs9 Qz9 rfl rfl rfl rfl ?_))))));intro b13 w hS;refine .q 1 rfl (.nil (.seq ?_));replace hS:=hS.vecOf (k:=0) (E:=9) (size:=1) (n:=1) rfl rfl (by decide);try dsimp only [List.set] at hS
  refine .t 2 rfl (.call Tryz.func135 rfl (ec9 rfl (ec9 rfl X0)) rfl (Xgw tb room la lc l hl name B _ I hR _ (hS.pick 1 rfl)) ?_);rintro _ w ⟨J,ra,rc,rfl,hJ,hrc,hRS,hS⟩;try dsimp only [List.eraseIdx] at hS
  have hkl:=X9j l name;refine .q 1 rfl (.nil (.seq (.seq (.q 1 rfl (.block (.loop (σ:=Nat×Value×Im) (fun ⟨i,v,J2⟩=>[(0,ptr tb 0),(1,S name),(5,v),(6,.slice ra (X1y l name).length rc),(7,I64 (i:Nat))]) (fun ⟨i,v,J2⟩ w=>i≤(X1y l name).length∧Le J J2∧Sat B w J2 (blk tb [I64 room,.slice la l.length lc] 90::Vec 9 1 v (name::((X1y l name).take i).flatMap (Xk l n)).length ((name::((X1y l name).take i).flatMap (Xk l n)).map S)::As)) (fun ⟨i,v,J2⟩=>(X1y l name).length - i) (0,_,J) ⟨rfl,rfl,rfl,rfl,rfl,trivial⟩ ⟨Yo _,Le.refl _,hS⟩ ?_))))));rintro ⟨i,v,J2⟩ w ⟨hi,hJ2,hS⟩;refine .seq (.seq (.region (.run 4 rfl ⟨⟨_,X19⟩,trivial⟩ (.nil ?_))));refine .cond rfl (fun hb20=>?_) fun hb20=>?_
  ·have hc20:=hb20; simp only [Y6] at hc20;refine .skip (.seq (.block ?_));obtain ⟨k,hk⟩:∃ k,(X1y l name)[i]?=some k:=⟨_,Y4 (by omega)⟩
   have hkm:=Xfa hwf (Yi hk);have hnm:((X1y l name).map S)[i]?=some (S k):=by rw [Yy,hk]; rfl
   have hfl:(((X1y l name).take i).flatMap (Xk l n)).length+(Xk l n k).length≤((X1y l name).flatMap (Xk l n)).length:=by
    have e:=Y11 i (X1y l name);have e2:=Y1f (l:=X1y l name) (i:=i) (by omega);rw [(Y5.1 hk).2] at e2;rw [e2] at e;have e3:=congrArg (fun x=>(List.flatMap (Xk l n) x).length) e;simp only [Y1o,Y2h,Y0] at e3
    omega
   obtain ⟨p,rfl,hA⟩:=hRS.2 (by omega);refine .t 4 rfl (.val (.ii rfl rfl (by omega) (by omega) X19 Qs9) rfl ?_);refine .val (ldC (.of rfl) (by have h9:=X2c hS (hA.mono hJ2) hnm; simpa using h9) Qg9) rfl ?_;refine .call Qf85 rfl (ec9 rfl (ec9 rfl X0)) rfl (ih k B _ J2 (hR.mono (hJ.trans hJ2)) _ hkm.2.1 (by omega) (by omega) hS) ?_;rintro _ w ⟨J3,ra3,rc3,rfl,hJ3,hrc3,hRS3,hS⟩;refine .appendF (size:=1) (bytes:=16) hS (.of rfl) (.of rfl) hRS3 (k:=1) rfl X19 (i:=Tryz.t9) (by kernel_rfl) rfl rfl rfl rfl (Xl8 _) ⟨by (try simp only [Y8]); omega,by unfold maxLen; (try simp only [Y8]); omega⟩ rfl ?_;intro v30 w hS;try dsimp only [List.set] at hS
   refine .q 1 rfl (.nil (.region (.run 3 rfl ⟨⟨by omega,by omega⟩,trivial⟩ (.nil ?_))));refine ⟨(i+1,v30,J3),⟨rfl,rfl,rfl,rfl,rfl,trivial⟩,⟨by (try dsimp only); omega,hJ2.trans hJ3,?_⟩,by (try dsimp only); omega⟩;rw [Y12,hk,Y1k,Y1o,Y2h,List.flatMap_nil,Y9,← Ys,Y0,Yv];exact hS
  have hc20:=hb20; simp only [Y6] at hc20;refine .exit (.seq (.q 2 rfl (.ret (X9 Tryz.results85 rfl ?_))));have hin:i=(X1y l name).length:=by omega
  subst hin;rw [Y13] at hS;obtain ⟨ka,kc,rfl,hkc,_⟩:=hS.vecSlice (k:=1) rfl;obtain ⟨J4,hJ4,hRS4,hS⟩:=hS.freezeVec (k:=1) rfl;exact ⟨_,rfl,J4,ka,kc,rfl,hJ.trans (hJ2.trans hJ4),hkc,hRS4,hS⟩
theorem Xf0 (tb:Nat) (room:Int) (la:Option Addr) (lc:Nat) (l:List Rec) (hl:l.length≤100000) (hwf:Wf l) (name:List UInt8) (B w:World) (I:Im) (hR:RS I la 10 l.length (X12 X5 l)) (As:List X7) (hS:Sat B w I (blk tb [I64 room,.slice la l.length lc] 90::As)) :
  Cz 85 [ptr tb 0,S name] w fun v w'=>∃ J ra rc,v=.slice ra (below l name).length rc∧Le I J∧(below l name).length≤rc∧RS J ra 1 (below l name).length ((below l name).map S)∧Sat B w' J (blk tb [I64 room,.slice la l.length lc] 90::As):=by
 by_cases h0:0≤at0 l name
 ·rw [show below l name=Xk l l.length name from if_pos h0];exact Xcw tb room la lc l hl hwf l.length name B w I hR As h0 (by omega) (by have:=Xez hwf l.length name; omega) hS
 ·have h0:at0 l name<0:=by omega
  refine calls Qf85 rfl Tryz.ntmps85 rfl (.seq (.q 1 rfl (.seq (.seq (.t 2 rfl (.call Xcp rfl (ec9 rfl (ec9 rfl X0)) rfl (X35 tb room la lc l hl name B _ I hR _ hS) ?_))))));rintro _ w ⟨rfl,hS⟩;refine .q 1 rfl (.nil (.condT (congrArg (fun b=>some (Value.bool b)) (decide_eq_true (by omega))) (.seq (.q 1 rfl (.ret (X9 Tryz.results85 rfl ?_))))));rw [show below l name=[] from if_neg (by omega)];exact ⟨_,rfl,I,none,0,rfl,Le.refl _,Yu _,⟨rfl,fun h=>absurd h (by simp)⟩,hS⟩
theorem X43 (tb:Nat) (room:Int) (la:Option Addr) (lc:Nat) (l:List Rec) (hl:l.length≤100000) (hwf:Wf l) (name:List UInt8) (B w:World) (I:Im) (hR:RS I la 10 l.length (X12 X5 l)) (As:List X7) (hS:Sat B w I (blk tb [I64 room,.slice la l.length lc] 90::As)) :
  Cz 34 [ptr tb 0,S name] w fun v w'=>∃ J oa oc,Le I J∧RS J oa 10 (drop l name).length (X12 X5 (drop l name))∧Sat B w' J (blk tb [I64 room,.slice oa (drop l name).length oc] 90::As):=by
 refine calls Qf34 rfl Tryz.ntmps34 rfl (.seq (.q 1 rfl (.seq (.t 2 rfl (.call Qf85 rfl (ec9 rfl (ec9 rfl X0)) rfl (Xf0 tb room la lc l hl hwf name B _ I hR _ hS) ?_)))));rintro _ w ⟨J,ra,rc,rfl,hJ,hrc,hRS,hS⟩;have hbl:=Xhl hwf name;refine .q 1 rfl (.nil (.seq (.q 1 rfl (.seq (.seq ?_)))));replace hS:=hS.vecNil 54 10;refine .q 1 rfl (.block (.loop (σ:=Value×Nat) (fun ⟨ov,i⟩=>[(0,ptr tb 0),(5,.slice ra (below l name).length rc),(6,ov),(7,I64 (i:Nat))]) (fun ⟨ov,i⟩ w=>i≤l.length∧Sat B w J (Vec 54 10 ov ((l.take i).filter fun r=>!(below l name).contains r.name).length (Xe ((l.take i).filter fun r=>!(below l name).contains r.name))::blk tb [I64 room,.slice la l.length lc] 90::As)) (fun ⟨ov,i⟩=>l.length - i) (.slice none 0 0,0) ⟨rfl,rfl,rfl,rfl,trivial⟩ ⟨Yo _,hS⟩ ?_));rintro ⟨ov,i⟩ w ⟨hi,hS⟩;refine .seq (.seq (.t 3 rfl ?_));refine .val (.fo 1 rfl X79 rfl rfl X2y rfl) rfl (.val (.lo rfl hS (k:=1) rfl X5v rfl) rfl (.run 2 rfl ⟨⟨_,X1p⟩,trivial⟩ (.nil ?_)));refine .cond rfl (fun hb18=>?_) fun hb18=>?_
 ·have hc18:=hb18; simp only [Y6] at hc18;refine .skip (.seq (.block (.seq ?_)));obtain ⟨r,hr⟩:∃ r,l[i]?=some r:=⟨_,Y4 (by omega)⟩
  obtain ⟨q,hq9,hx⟩:=X5s (cells:=X5) (s:=10) (fun _=>rfl) (hR.mono hJ) hr;subst hq9;unfold X5 at hx;have hfl:((l.take i).filter fun r=>!(below l name).contains r.name).length≤l.length:=Y21 (Y2z _ _) (by rw [Yt]; omega);refine .t 3 rfl (.val (.fo 1 rfl X79 rfl rfl X2y rfl) rfl (.val (.lo rfl hS (k:=1) rfl X5v rfl) rfl (.q 1 rfl (.val (.ii rfl rfl (by omega) (by omega) X1p Xu) rfl (.val (.fi 1 rfl Xr rfl rfl Qs9 rfl) rfl (.val (.ldI (.of rfl) hS (At.add hx _) Qg9 rfl) rfl ?_))))));refine .call Tryz.func24 rfl (ec9 rfl (ec9 rfl X0)) rfl (In_any ra rc (below l name) (by omega) r.name B _ J _ (fun w h=>Xl9 (cells:=Xa3) (s:=1) (fun _=>rfl) h (by rw [rowsT]; exact hRS)) hS) ?_;rintro _ w ⟨rfl,hS⟩;refine .q 1 rfl (.nil (.seq (.q 2 rfl ?_)));refine .cond rfl (fun hb32=>?_) fun hb32=>?_
  ·have hc32:=hb32; simp only [Y6] at hc32;refine .t 3 rfl (.val (.fo 1 rfl X79 rfl rfl X2y rfl) rfl (.val (.lo rfl hS (k:=1) rfl X5v rfl) rfl (.q 1 rfl (.val (.ii rfl rfl (by omega) (by omega) X1p Xu) rfl (.val (.ldsI (.of rfl) hS hx X3e Xu rfl (fun _ _ h=>h)) rfl (.buildSlice (cs:=[_,_,_,_,_,_,_,_,_,_]) hS (pc9 rfl X4) X1p Xu X5t rfl rfl rfl rfl ?_))))));intro b41 w hS;refine .append (size:=10) (bytes:=120) hS (.of rfl) (.of rfl) (k:=0) rfl X1p X3r rfl rfl rfl rfl rfl rfl rfl ⟨by omega,by unfold maxLen; omega⟩ rfl ?_;intro v42 w hS;obtain ⟨a42,c42,rfl,hcap42,_⟩:=hS.vecSlice (k:=0) (v:=v42) rfl;refine .q 1 rfl (.nil (.region (.run 3 rfl ⟨⟨by omega,by omega⟩,trivial⟩ (.nil ?_))));refine ⟨(.slice a42 (((l.take i).filter fun r=>!(below l name).contains r.name).length+1) c42,i+1),⟨rfl,rfl,rfl,rfl,trivial⟩,⟨by (try dsimp only); omega,?_⟩,by (try dsimp only); omega⟩;rw [Y12,hr,Y1k,Y2n,Y2p,if_pos (by simpa using hb32),Y3i,Y0,Y1h,X3p];exact hS
  have hc32:=hb32; simp only [Y6] at hc32;refine .skip (.region (.run 3 rfl ⟨⟨by omega,by omega⟩,trivial⟩ (.nil ?_)));refine ⟨(ov,i+1),⟨rfl,rfl,rfl,rfl,trivial⟩,⟨by (try dsimp only); omega,?_⟩,by (try dsimp only); omega⟩;rw [Y12,hr,Y1k,Y2n,Y2p,if_neg (by simpa using hb32),Y3i,Y9];exact hS
 have hc18:=hb18; simp only [Y6] at hc18;refine .exit (.seq ?_);obtain ⟨oa,oc,hov,hoc,_⟩:=hS.vecSlice (k:=0) rfl;subst hov;refine .t 3 rfl (.val (.fo 1 rfl X79 rfl rfl X2y rfl) rfl (.s1 hS (k:=1) rfl rfl rfl rfl X2y (by simp) ?_));intro w hS;refine .nil (.seq (.q 2 rfl (.ret (X9 Tryz.results34 rfl ?_))));have hin:i=l.length:=by omega
 subst hin;rw [Y13] at hS;obtain ⟨J2,hJ2,hR2,hS⟩:=hS.freezeVec (k:=0) rfl;exact ⟨_,rfl,J2,oa,oc,hJ.trans hJ2,hR2,hS⟩
theorem Xbi (tb:Nat) (room:Int) (la:Option Addr) (lc:Nat) (l:List Rec) (hl:l.length≤100000) (r:Rec) (hn:r.name.length≤9223372036854775000) (hp:r.parent.length≤9223372036854775000) (B w:World) (I:Im) (hR:RS I la 10 l.length (X12 X5 l)) (As:List X7) (hS:Sat B w I (blk tb [I64 room,.slice la l.length lc] 90::As)) :
  Cz 70 [ptr tb 0,.agg (X5 r).toArray] w fun v w'=>v=I64 (X5j room l r:Nat)∧∃ J oa oc,Le I J∧RS J oa 10 (add room l r).length (X12 X5 (add room l r))∧Sat B w' J (blk tb [I64 room,.slice oa (add room l r).length oc] 90::As):=by
 refine calls Tryz.func70 rfl Tryz.ntmps70 rfl (.seq (.region (.boxA (cs:=[_,_,_,_,_,_,_,_,_,_]) hS (.of rfl) rfl ?_)));intro b3 w hS;refine .q 1 rfl (.nil (.seq (.region ?_)));refine .val (.ldsW (cs:=[_,_,_,_,_,_,_,_,_,_]) (.of rfl) hS (k:=0) rfl X3e Xu rfl) rfl (.call Tryz.func127 rfl (ec9 rfl X0) rfl (X8g r hn hp B _ I _ hS) ?_);rintro _ w ⟨rfl,hS⟩;refine .q 1 rfl (.nil (.seq (.seq (.q 2 rfl ?_))));refine .cond rfl (fun hb9=>?_) fun hb9=>?_
 ·refine .seq (.q 1 rfl (.ret (X9 Xtc rfl ?_)));have h1:Xm r=false:=by simpa using hb9
  have hE:X5j room l r=1:=by rw [X5j,if_pos h1]
  have hQ:add room l r=l:=by rw [add,if_neg (by rw [hE]; decide)]
  rw [hE,hQ];exact ⟨_,rfl,rfl,I,la,lc,Le.refl _,hR,((hS.pick 1 rfl).drop (k:=1) rfl)⟩
 refine .skip (.seq (.seq (.t 1 rfl ?_)));refine .val (.fo 1 rfl Xr rfl rfl Qs9 rfl) rfl (.val (.lo rfl hS (k:=0) rfl Qg9 rfl) rfl (.call Xcp rfl (ec9 rfl (ec9 rfl X0)) rfl (X35 tb room la lc l hl r.name B _ I hR _ (hS.pick 1 rfl)) ?_));rintro _ w ⟨rfl,hS⟩;refine .q 1 rfl (.nil ?_);refine .cond rfl (fun hb14=>?_) fun hb14=>?_
 ·refine .seq (.q 1 rfl (.ret (X9 Xtc rfl ?_)));have h1:¬ Xm r=false:=by simpa using hb9
  have h2:0≤at0 l r.name:=by simpa using hb14
  have hE:X5j room l r=7:=by rw [X5j,if_neg h1,if_pos h2]
  have hQ:add room l r=l:=by rw [add,if_neg (by rw [hE]; decide)]
  rw [hE,hQ];exact ⟨_,rfl,rfl,I,la,lc,Le.refl _,hR,(hS.drop (k:=1) rfl)⟩
 refine .skip (.seq (.seq (.region ?_)));refine .val (.fo 2 rfl Xr rfl rfl Qs9 rfl) rfl (.val (.lo rfl hS (k:=1) rfl Qg9 rfl) rfl (.q 2 rfl (.gm rfl rfl rfl rfl ?_)));refine .gval rfl rfl (fun hg1=>(by exact .fo 2 rfl Xr rfl rfl Qs9 rfl)) rfl ?_;refine .gval rfl rfl (fun hg1=>(by exact (.ld (.gd hg1 rfl) hS (k:=1) rfl Qg9 rfl))) rfl ?_;refine .gcall (T:=fun w=>Sat B w I _) rfl rfl rfl Xcp rfl (fun hg1=>(X6 (.gd hg1 rfl) (X6 (.gd hg1 rfl) X0))) rfl (fun hg1=>X35 tb room la lc l hl r.parent B _ I hR _ hS) hS ?_;rintro w hS;refine .gval rfl rfl (fun hg1=>(.lss (.gd hg1 rfl) (.of rfl))) rfl (.val (.pa rfl rfl rfl) rfl (.nil ?_));refine .cond rfl (fun hb24=>?_) fun hb24=>?_
 ·refine .seq (.q 1 rfl (.ret (X9 Xtc rfl ?_)));have h1:¬ Xm r=false:=by simpa using hb9
  have h2:¬ 0≤at0 l r.name:=by simpa using hb14
  have h3:r.parent≠[]∧at0 l r.parent<0:=by simpa using hb24
  have hE:X5j room l r=6:=by rw [X5j,if_neg h1,if_neg h2,if_pos h3]
  have hQ:add room l r=l:=by rw [add,if_neg (by rw [hE]; decide)]
  rw [hE,hQ];exact ⟨_,rfl,rfl,I,la,lc,Le.refl _,hR,(hS.drop (k:=1) rfl)⟩
 refine .skip (.seq (.seq (.drawn (fun w=>∃ R,Sat B w I (blk tb [I64 room,.slice la l.length lc] 90::R)) (fun j=>!([].contains j)) (by kernel_rfl) ?_)));replace hS:=hS.drew; generalize w.drew=w at hS ⊢;have hH:=(hS.pick 0 rfl)
 refine .tp (i:=0) rfl (by kernel_rfl) (fun w=>(.mo rfl)) rfl (.tp (i:=1) rfl (by kernel_rfl) (fun w=>(.no rfl)) rfl ?_);refine .tp (i:=2) rfl (by kernel_rfl) (fun w=>(.fo 1 rfl X79 rfl rfl X2y rfl)) rfl (.tk (i:=3) rfl (by kernel_rfl) ⟨_,hH⟩ (fun w ⟨R,hS⟩=>(.lo rfl hS (k:=0) rfl X5v rfl)) rfl (.tp (i:=4) rfl (by kernel_rfl) (fun w=>(.lenSlice (.of rfl) X1p)) rfl (.tp (i:=5) rfl (by kernel_rfl) (fun w=>(.mo rfl)) rfl (.tp (i:=6) rfl (by kernel_rfl) (fun w=>(.no rfl)) rfl ?_))));refine .tp (i:=7) rfl (by kernel_rfl) (fun w=>(.fo 0 rfl X79 rfl rfl Qs3 rfl)) rfl (.tk (i:=8) rfl (by kernel_rfl) ⟨_,hH⟩ (fun w ⟨R,hS⟩=>(.lo rfl hS (k:=0) rfl Qg3 rfl)) rfl (.tp (i:=9) rfl (by kernel_rfl) (fun w=>(.geq (.of rfl) (.of rfl))) rfl (.done (by kernel_rfl) ?_)));refine .cond rfl (fun hb34=>?_) fun hb34=>?_
 ·refine .seq (.q 1 rfl (.ret (X9 Xtc rfl ?_)));have h1:¬ Xm r=false:=by simpa using hb9
  have h2:¬ 0≤at0 l r.name:=by simpa using hb14
  have h3:¬ (r.parent≠[]∧at0 l r.parent<0):=by simpa using hb24
  have h4:room≤l.length:=by simpa using hb34
  have hE:X5j room l r=5:=by rw [X5j,if_neg h1,if_neg h2,if_neg h3,if_pos h4]
  have hQ:add room l r=l:=by rw [add,if_neg (by rw [hE]; decide)]
  rw [hE,hQ];exact ⟨_,rfl,rfl,I,la,lc,Le.refl _,hR,(hS.drop (k:=1) rfl)⟩
 refine .skip (.seq (.drawn (fun w=>∃ R,Sat B w I (blk tb [I64 room,.slice la l.length lc] 90::blk b3 [I64 r.kind,S r.name,S r.parent,S r.user,S r.service,S r.url,I64 r.made,I64 r.used,I64 r.uses,.bool r.fresh] 54::R)) (fun j=>!([12].contains j)) (by kernel_rfl) ?_));replace hS:=hS.drew; generalize w.drew=w at hS ⊢;have hH:=((hS.pick 1 rfl).pick 1 rfl)
 refine .tp (i:=0) rfl (by kernel_rfl) (fun w=>(.mo rfl)) rfl (.tp (i:=2) rfl (by kernel_rfl) (fun w=>(.mo rfl)) rfl (.tp (i:=3) rfl (by kernel_rfl) (fun w=>(.no rfl)) rfl ?_));refine .tp (i:=4) rfl (by kernel_rfl) (fun w=>(.fo 1 rfl X79 rfl rfl X2y rfl)) rfl (.tk (i:=5) rfl (by kernel_rfl) ⟨_,hH⟩ (fun w ⟨R,hS⟩=>((.lo rfl hS (k:=0) rfl X5v rfl))) rfl (.tk (i:=7) rfl (by kernel_rfl) ⟨_,hH⟩ (fun w ⟨R,hS⟩=>((.ldsW (cs:=[_,_,_,_,_,_,_,_,_,_]) (.of rfl) hS (k:=1) rfl X3e Xu rfl))) rfl (.branch [1,8] (by kernel_rfl) rfl (WO.cons rfl ?_ (WO.cons rfl ?_ (WO.nil))))))
 ·refine .buildSlice (cs:=[]) hS X4 X1p Xu X5t rfl rfl rfl rfl ?_;intro b36 w hS;refine .nil ?_;clear hH;have hH:=((hS.pick 2 rfl).pick 2 rfl)
  refine ⟨fun _ _=>⟨_,hH⟩,?_⟩;refine .branch [6,8] (by kernel_rfl) rfl (WO.cons rfl ?_ (WO.cons rfl ?_ (WO.nil)))
  ·replace hS:=hS.vecOf (k:=0) (E:=54) (size:=10) (n:=0) rfl rfl (by decide);refine .appendF (size:=10) (bytes:=120) hS (.of rfl) (.of rfl) hR (k:=0) rfl X1p (i:=Tryz.t54) (by kernel_rfl) rfl rfl rfl rfl (X5p l) ⟨by omega,by unfold maxLen; omega⟩ rfl ?_;intro v41 w hS;rw [Yd,Ye] at hS;refine .nil ?_;clear hH;have hH:=((hS.pick 2 rfl).pick 2 rfl)
   refine ⟨fun _ _=>⟨_,hH⟩,?_⟩;refine .b1 8 (by kernel_rfl) rfl (.buildSlice (cs:=[_,_,_,_,_,_,_,_,_,_]) hS (pc9 rfl X4) X1p Xu X5t rfl rfl rfl rfl ?_);intro b43 w hS;refine .nil ?_;clear hH;have hH:=((hS.pick 3 rfl).pick 3 rfl)
   refine ⟨fun _ _=>⟨_,hH⟩,?_⟩;refine .b1 9 (by kernel_rfl) rfl (.append (size:=10) (bytes:=120) hS (.of rfl) (.of rfl) (k:=0) rfl X1p X3r rfl rfl rfl rfl rfl rfl rfl ⟨by omega,by unfold maxLen; omega⟩ rfl ?_);intro v44 w hS;obtain ⟨a44,c44,rfl,hcap44,_⟩:=hS.vecSlice (k:=0) (v:=v44) rfl;refine .nil ?_;clear hH;have hH:=((hS.pick 2 rfl).pick 2 rfl)
   refine ⟨fun _ _=>⟨_,hH⟩,?_⟩;refine .tp (i:=10) rfl (by kernel_rfl) (fun w=>(.no rfl)) rfl (.tp (i:=11) rfl (by kernel_rfl) (fun w=>(.fo 1 rfl X79 rfl rfl X2y rfl)) rfl (.b1 12 (by kernel_rfl) rfl (.s1 hS (k:=1) rfl rfl rfl rfl X2y (by simp) ?_)));intro w hS;refine .nil ?_;refine And.intro (by intro h; cases h) ?_;refine .done (by kernel_rfl) (.seq (.q 1 rfl (.ret (X9 Xtc rfl ?_))));have h1:¬ Xm r=false:=by simpa using hb9
   replace hS:=(((hS.pick 1 rfl).pick 1 rfl).drop (k:=2) rfl)
   obtain ⟨oa,oc,ho9,hoc,_⟩:=hS.vecSlice (k:=0) rfl;rw [ho9] at hS;obtain ⟨J2,hJ2,hR2,hS⟩:=hS.freezeVec (k:=0) rfl;have h2:¬ 0≤at0 l r.name:=by simpa using hb14
   have h3:¬ (r.parent≠[]∧at0 l r.parent<0):=by simpa using hb24
   have h4:¬ room≤l.length:=by simpa using hb34
   have hE:X5j room l r=0:=by rw [X5j,if_neg h1,if_neg h2,if_neg h3,if_neg h4]
   have hQ:add room l r=l ++ [r]:=by rw [add,if_pos hE]
   rw [hE,hQ,show (l ++ [r]).length=l.length+1 from Y0,show X12 X5 (l ++ [r])=Xe l ++ X5 r from X3p l r];exact ⟨_,rfl,rfl,J2,oa,oc,hJ2,hR2,hS⟩
  ·refine .buildSlice (cs:=[_,_,_,_,_,_,_,_,_,_]) hS (pc9 rfl X4) X1p Xu X5t rfl rfl rfl rfl ?_;intro b43 w hS;refine .nil ?_;clear hH;have hH:=((hS.pick 3 rfl).pick 3 rfl)
   refine ⟨fun _ _=>⟨_,hH⟩,?_⟩;refine .b1 6 (by kernel_rfl) rfl ?_;replace hS:=hS.vecOf (k:=1) (E:=54) (size:=10) (n:=0) rfl rfl (by decide);refine .appendF (size:=10) (bytes:=120) hS (.of rfl) (.of rfl) hR (k:=1) rfl X1p (i:=Tryz.t54) (by kernel_rfl) rfl rfl rfl rfl (X5p l) ⟨by omega,by unfold maxLen; omega⟩ rfl ?_;intro v41 w hS;rw [Yd,Ye] at hS;refine .nil ?_;clear hH;have hH:=((hS.pick 3 rfl).pick 3 rfl)
   refine ⟨fun _ _=>⟨_,hH⟩,?_⟩;refine .b1 9 (by kernel_rfl) rfl (.append (size:=10) (bytes:=120) hS (.of rfl) (.of rfl) (k:=0) rfl X1p X3r rfl rfl rfl rfl rfl rfl rfl ⟨by omega,by unfold maxLen; omega⟩ rfl ?_);intro v44 w hS;obtain ⟨a44,c44,rfl,hcap44,_⟩:=hS.vecSlice (k:=0) (v:=v44) rfl;refine .nil ?_;clear hH;have hH:=((hS.pick 2 rfl).pick 2 rfl)
   refine ⟨fun _ _=>⟨_,hH⟩,?_⟩;refine .tp (i:=10) rfl (by kernel_rfl) (fun w=>(.no rfl)) rfl (.tp (i:=11) rfl (by kernel_rfl) (fun w=>(.fo 1 rfl X79 rfl rfl X2y rfl)) rfl (.b1 12 (by kernel_rfl) rfl (.s1 hS (k:=1) rfl rfl rfl rfl X2y (by simp) ?_)));intro w hS;refine .nil ?_;refine And.intro (by intro h; cases h) ?_;refine .done (by kernel_rfl) (.seq (.q 1 rfl (.ret (X9 Xtc rfl ?_))));have h1:¬ Xm r=false:=by simpa using hb9
   replace hS:=(((hS.pick 1 rfl).pick 1 rfl).drop (k:=2) rfl)
   obtain ⟨oa,oc,ho9,hoc,_⟩:=hS.vecSlice (k:=0) rfl;rw [ho9] at hS;obtain ⟨J2,hJ2,hR2,hS⟩:=hS.freezeVec (k:=0) rfl;have h2:¬ 0≤at0 l r.name:=by simpa using hb14
   have h3:¬ (r.parent≠[]∧at0 l r.parent<0):=by simpa using hb24
   have h4:¬ room≤l.length:=by simpa using hb34
   have hE:X5j room l r=0:=by rw [X5j,if_neg h1,if_neg h2,if_neg h3,if_neg h4]
   have hQ:add room l r=l ++ [r]:=by rw [add,if_pos hE]
   rw [hE,hQ,show (l ++ [r]).length=l.length+1 from Y0,show X12 X5 (l ++ [r])=Xe l ++ X5 r from X3p l r];exact ⟨_,rfl,rfl,J2,oa,oc,hJ2,hR2,hS⟩
 ·refine .buildSlice (cs:=[_,_,_,_,_,_,_,_,_,_]) hS (pc9 rfl X4) X1p Xu X5t rfl rfl rfl rfl ?_;intro b43 w hS;refine .nil ?_;clear hH;have hH:=((hS.pick 2 rfl).pick 2 rfl)
  refine ⟨fun _ _=>⟨_,hH⟩,?_⟩;refine .b1 1 (by kernel_rfl) rfl (.buildSlice (cs:=[]) hS X4 X1p Xu X5t rfl rfl rfl rfl ?_);intro b36 w hS;refine .nil ?_;clear hH;have hH:=((hS.pick 3 rfl).pick 3 rfl)
  refine ⟨fun _ _=>⟨_,hH⟩,?_⟩;refine .b1 6 (by kernel_rfl) rfl ?_;replace hS:=hS.vecOf (k:=0) (E:=54) (size:=10) (n:=0) rfl rfl (by decide);refine .appendF (size:=10) (bytes:=120) hS (.of rfl) (.of rfl) hR (k:=0) rfl X1p (i:=Tryz.t54) (by kernel_rfl) rfl rfl rfl rfl (X5p l) ⟨by omega,by unfold maxLen; omega⟩ rfl ?_;intro v41 w hS;rw [Yd,Ye] at hS;refine .nil ?_;clear hH;have hH:=((hS.pick 3 rfl).pick 3 rfl)
  refine ⟨fun _ _=>⟨_,hH⟩,?_⟩;refine .b1 9 (by kernel_rfl) rfl ?_;replace hS:=hS.pick 1 rfl;refine .append (size:=10) (bytes:=120) hS (.of rfl) (.of rfl) (k:=0) rfl X1p X3r rfl rfl rfl rfl rfl rfl rfl ⟨by omega,by unfold maxLen; omega⟩ rfl ?_;intro v44 w hS;obtain ⟨a44,c44,rfl,hcap44,_⟩:=hS.vecSlice (k:=0) (v:=v44) rfl;refine .nil ?_;clear hH;have hH:=((hS.pick 2 rfl).pick 2 rfl)
  refine ⟨fun _ _=>⟨_,hH⟩,?_⟩;refine .tp (i:=10) rfl (by kernel_rfl) (fun w=>(.no rfl)) rfl (.tp (i:=11) rfl (by kernel_rfl) (fun w=>(.fo 1 rfl X79 rfl rfl X2y rfl)) rfl (.b1 12 (by kernel_rfl) rfl (.s1 hS (k:=1) rfl rfl rfl rfl X2y (by simp) ?_)));intro w hS;refine .nil ?_;refine And.intro (by intro h; cases h) ?_;refine .done (by kernel_rfl) (.seq (.q 1 rfl (.ret (X9 Xtc rfl ?_))));have h1:¬ Xm r=false:=by simpa using hb9
  replace hS:=(((hS.pick 1 rfl).pick 1 rfl).drop (k:=2) rfl)
  obtain ⟨oa,oc,ho9,hoc,_⟩:=hS.vecSlice (k:=0) rfl;rw [ho9] at hS;obtain ⟨J2,hJ2,hR2,hS⟩:=hS.freezeVec (k:=0) rfl;have h2:¬ 0≤at0 l r.name:=by simpa using hb14
  have h3:¬ (r.parent≠[]∧at0 l r.parent<0):=by simpa using hb24
  have h4:¬ room≤l.length:=by simpa using hb34
  have hE:X5j room l r=0:=by rw [X5j,if_neg h1,if_neg h2,if_neg h3,if_neg h4]
  have hQ:add room l r=l ++ [r]:=by rw [add,if_pos hE]
  rw [hE,hQ,show (l ++ [r]).length=l.length+1 from Y0,show X12 X5 (l ++ [r])=Xe l ++ X5 r from X3p l r];exact ⟨_,rfl,rfl,J2,oa,oc,hJ2,hR2,hS⟩
theorem Xis (tb:Nat) (room:Int) (la:Option Addr) (lc:Nat) (l:List Rec) (hl:l.length≤100000) (r:Rec) (hn:r.name.length≤9223372036854775000) (hp:r.parent.length≤9223372036854775000) (B w:World) (I:Im) (hR:RS I la 10 l.length (X12 X5 l)) (As:List X7) (hS:Sat B w I (blk tb [I64 room,.slice la l.length lc] 90::As)) :
  Cz 79 [ptr tb 0,.agg (X5 r).toArray] w fun v w'=>v=I64 (Xb5 l r:Nat)∧∃ J oa oc,Le I J∧RS J oa 10 (put l r).length (X12 X5 (put l r))∧Sat B w' J (blk tb [I64 room,.slice oa (put l r).length oc] 90::As):=by
 refine calls Tryz.func79 rfl Tryz.ntmps79 rfl (.seq (.region (.boxA (cs:=[_,_,_,_,_,_,_,_,_,_]) hS (.of rfl) rfl ?_)));intro b3 w hS;refine .q 1 rfl (.nil (.seq (.region ?_)));refine .val (.ldsW (cs:=[_,_,_,_,_,_,_,_,_,_]) (.of rfl) hS (k:=0) rfl X3e Xu rfl) rfl (.call Tryz.func127 rfl (ec9 rfl X0) rfl (X8g r hn hp B _ I _ hS) ?_);rintro _ w ⟨rfl,hS⟩;refine .q 1 rfl (.nil (.seq (.seq (.q 2 rfl ?_))));refine .cond rfl (fun hb11=>?_) fun hb11=>?_
 ·refine .seq (.q 1 rfl (.ret (X9 Qr79 rfl ?_)));have h1:Xm r=false:=by simpa using hb11
  have hE:Xb5 l r=1:=by rw [Xb5,if_pos h1]
  have hQ:put l r=l:=by rw [put,if_neg (by rw [hE]; decide)]
  rw [hE,hQ];exact ⟨_,rfl,rfl,I,_,lc,Le.refl _,hR,((hS.pick 1 rfl).drop (k:=1) rfl)⟩
 refine .skip (.seq (.t 1 rfl ?_));refine .val (.fo 1 rfl Xr rfl rfl Qs9 rfl) rfl (.val (.lo rfl hS (k:=0) rfl Qg9 rfl) rfl (.call Xcp rfl (ec9 rfl (ec9 rfl X0)) rfl (Xbl tb room la lc l hl r.name B _ I hR _ (hS.pick 1 rfl)) ?_));rintro _ w ⟨⟨k,rfl,hk⟩,hS⟩;refine .q 1 rfl (.nil (.seq (.seq (.region ?_))));rcases hk with ⟨rfl,hg,_⟩ | ⟨j,t,rfl,hr,hn9,hg,hj⟩
 ·refine .vm rfl rfl (.q 1 rfl (.nil (.condT (congrArg (fun b=>some (Value.bool b)) (decide_eq_true (by decide))) (.seq (.q 1 rfl (.ret (X9 Qr79 rfl ?_)))))));have h1:¬ Xm r=false:=by simpa using hb11
  have hE:Xb5 l r=6:=by rw [Xb5,if_neg h1,hg]
  have hQ:put l r=l:=by rw [put,if_neg (by rw [hE]; decide)]
  rw [hE,hQ];exact ⟨_,rfl,rfl,I,_,lc,Le.refl _,hR,(hS.drop (k:=1) rfl)⟩
 obtain ⟨q,hq9,hx⟩:=X5s (cells:=X5) (s:=10) (fun _=>rfl) hR hr;subst hq9;unfold X5 at hx;have hjl:=(Y5.1 hr).1;refine .vm rfl rfl (.q 1 rfl (.nil (.condF (congrArg (fun b=>some (Value.bool b)) (decide_eq_false (by omega))) (.skip (.seq (.seq (.drawn (fun w=>∃ R,Sat B w I (blk tb [I64 room,.slice (some q) l.length lc] 90::blk b3 [I64 r.kind,S r.name,S r.parent,S r.user,S r.service,S r.url,I64 r.made,I64 r.used,I64 r.uses,.bool r.fresh] 54::R)) (fun j=>!([].contains j)) (by kernel_rfl) ?_)))))));replace hS:=hS.drew; generalize w.drew=w at hS ⊢;have hH:=((hS.pick 1 rfl).pick 1 rfl)
 refine .tp (i:=0) rfl (by kernel_rfl) (fun w=>(.mo rfl)) rfl (.tp (i:=1) rfl (by kernel_rfl) (fun w=>(.no rfl)) rfl ?_);refine .tp (i:=2) rfl (by kernel_rfl) (fun w=>(.fo 1 rfl X79 rfl rfl X2y rfl)) rfl (.tk (i:=3) rfl (by kernel_rfl) ⟨_,hH⟩ (fun w ⟨R,hS⟩=>((.lo rfl hS (k:=0) rfl X5v rfl))) rfl (.tp (i:=4) rfl (by kernel_rfl) (fun w=>(.mo rfl)) rfl (.tp (i:=5) rfl (by kernel_rfl) (fun w=>(.ii rfl rfl (by omega) (by omega) X1p Xu)) rfl (.tp (i:=6) rfl (by kernel_rfl) (fun w=>(.fi 2 rfl Xr rfl rfl Qs9 rfl)) rfl (.tk (i:=7) rfl (by kernel_rfl) ⟨_,hH⟩ (fun w ⟨R,hS⟩=>((.ldI (.of rfl) hS (At.add hx _) Qg9 rfl))) rfl (.tp (i:=8) rfl (by kernel_rfl) (fun w=>(.fo 2 rfl Xr rfl rfl Qs9 rfl)) rfl (.tk (i:=9) rfl (by kernel_rfl) ⟨_,hH⟩ (fun w ⟨R,hS⟩=>((.lo rfl hS (k:=1) rfl Qg9 rfl))) rfl (.tp (i:=10) rfl (by kernel_rfl) (fun w=>(.nes (.of rfl) (.of rfl))) rfl (.done (by kernel_rfl) ?_)))))))));refine .cond rfl (fun hb28=>?_) fun hb28=>?_
 ·refine .seq (.q 1 rfl (.ret (X9 Qr79 rfl ?_)));have h1:¬ Xm r=false:=by simpa using hb11
  have h2:t.parent≠r.parent:=by simpa using hb28
  have hE:Xb5 l r=8:=by rw [Xb5,if_neg h1,hg]; exact if_pos h2
  have hQ:put l r=l:=by rw [put,if_neg (by rw [hE]; decide)]
  rw [hE,hQ];exact ⟨_,rfl,rfl,I,_,lc,Le.refl _,hR,(hS.drop (k:=1) rfl)⟩
 refine .skip (.seq (.region (.buildSlice (cs:=[]) hS X4 X1p Xu X5t rfl rfl rfl rfl ?_)));intro b29 w hS;refine .q 2 rfl (.val (.fo 1 rfl X79 rfl rfl X2y rfl) rfl (.val (.lo rfl hS (k:=1) rfl X5v rfl) rfl ?_));replace hS:=hS.vecOf (k:=0) (E:=54) (size:=10) (n:=0) rfl rfl (by decide);refine .appendF (size:=10) (bytes:=120) hS (.of rfl) (.of rfl) hR (k:=0) rfl X1p (i:=Tryz.t54) (by kernel_rfl) rfl rfl rfl rfl (X5p l) ⟨by omega,by unfold maxLen; omega⟩ rfl ?_;intro v34 w hS;rw [Yd,Ye] at hS;refine .q 1 rfl (.nil (.seq ?_));obtain ⟨gb,cap9,rest9,hv9,hc1,hc2,hl1,hl2,hS⟩:=hS.vecOpen (k:=0) rfl (by omega);subst hv9;refine .t 2 rfl (.val (.ldsW (cs:=[_,_,_,_,_,_,_,_,_,_]) (.of rfl) hS (k:=2) rfl X3e Xu rfl) rfl (.val (.io rfl rfl (by omega) (by omega) X1p Xu) rfl (.so hS (k:=0) rfl rfl rfl rfl Xu rfl (by simp only [Y0]; omega) ?_)));intro w hS;rw [Yd,Y24 (by omega),Y25 (by omega),← Yf] at hS;replace hS:=hS.vecShut (n:=l.length) (size:=10) (k:=0) rfl hc1 hc2 (by simp only [Y0,Yt,Yp,Y8,Yj]; omega) (by simp only [Y0,Yt,Yp,Y8,Yj]; omega);refine .nil (.seq (.t 3 rfl ?_));refine .val (.fo 1 rfl X79 rfl rfl X2y rfl) rfl (.s1 hS (k:=1) rfl rfl rfl rfl X2y (by simp) ?_);intro w hS;refine .nil (.seq (.q 1 rfl (.ret (X9 Qr79 rfl ?_))));have h1:¬ Xm r=false:=by simpa using hb11
 have h2:¬ t.parent≠r.parent:=by simpa using hb28
 have hE:Xb5 l r=0:=by rw [Xb5,if_neg h1,hg]; exact if_neg h2
 have hQ:put l r=l.set j r:=by rw [put,if_pos hE,hj,Ym]
 replace hS:=((hS.pick 1 rfl).pick 1 rfl)
 obtain ⟨J2,hJ2,hR2,hS⟩:=hS.freezeVec (k:=0) rfl;rw [hE,hQ,Y2a,show X12 X5 (l.set j r)=_ from X7l hjl];exact ⟨_,rfl,rfl,J2,_,_,hJ2,hR2,hS.drop (k:=1) rfl⟩
theorem Xhx (p:Nat→Int) {k:Nat} (h:k<21):(psL p).getD k 0=p k:=by
 rcases (by omega:k=0∨k=1∨k=2∨k=3∨k=4∨k=5∨k=6∨k=7∨k=8∨k=9∨k=10∨k=11∨k=12∨k=13∨k=14∨k=15∨k=16∨k=17∨k=18∨k=19∨k=20) with rfl | rfl | rfl | rfl | rfl | rfl | rfl | rfl | rfl | rfl | rfl | rfl | rfl | rfl | rfl | rfl | rfl | rfl | rfl | rfl | rfl <;> rfl
theorem X8c (p:Nat→Int) {o k:Nat} (e:o=k) (h:k<21):((psL p).map I64)[o]?=some (I64 (p k)):=by
 rw [X3k rfl e h,Xhx p h]
theorem X5h {p:Nat→Int} {k:Nat} (h:k<21) (hb:Xau (p k)=true):X6w p=false:=by
 rcases (by omega:k=0∨k=1∨k=2∨k=3∨k=4∨k=5∨k=6∨k=7∨k=8∨k=9∨k=10∨k=11∨k=12∨k=13∨k=14∨k=15∨k=16∨k=17∨k=18∨k=19∨k=20) with rfl | rfl | rfl | rfl | rfl | rfl | rfl | rfl | rfl | rfl | rfl | rfl | rfl | rfl | rfl | rfl | rfl | rfl | rfl | rfl | rfl <;> simp [X6w,psL,hb]
theorem Xgq {p:Nat→Int} (h:∀ k,k<21→Xau (p k)=false):X6w p=true:=by
 simp [X6w,psL,h 0 (by decide),h 1 (by decide),h 2 (by decide),h 3 (by decide),h 4 (by decide),h 5 (by decide),h 6 (by decide),h 7 (by decide),h 8 (by decide),h 9 (by decide),h 10 (by decide),h 11 (by decide),h 12 (by decide),h 13 (by decide),h 14 (by decide),h 15 (by decide),h 16 (by decide),h 17 (by decide),h 18 (by decide),h 19 (by decide),h 20 (by decide)]
theorem Xj6 {p:Nat→Int} (h:X6w p=true) (k:Nat) (hk:k<21):0≤p k:=by
 cases e:Xau (p k) with
 | true=>rw [X5h hk e] at h; cases h
 | false=>unfold Xau at e; simp at e; omega
theorem Xcf (p:Nat→Int) (B w:World) (I:Im) (As:List X7) (hS:Sat B w I As) :
  Cz 68 [.agg ((psL p).map I64).toArray] w fun v w'=>v=.bool (X6w p)∧Sat B w' I As:=by
 refine calls Tryz.func68 rfl Tryz.ntmps68 rfl (.seq (.region (.boxA (cs:=(psL p).map I64) hS (.of rfl) rfl ?_)));intro b1 w hS;refine .q 1 rfl (.nil (.seq (.seq (.q 1 rfl (.block (.loop (σ:=Nat) (fun i=>[(1,ptr b1 0),(3,I64 (i:Nat))]) (fun i w=>i≤7∧(∀ j,j<i→Xau (p j)=false∧Xau (p (7+j))=false∧Xau (p (14+j))=false)∧Sat B w I (blk b1 ((psL p).map I64) 26::As)) (fun i=>7 - i) 0 ⟨rfl,rfl,trivial⟩ ⟨Yo _,fun _ h=>absurd h (by omega),hS⟩ ?_))))));rintro i w ⟨hi,hno,hS⟩;refine .seq (.seq (.q 2 rfl ?_));refine .cond rfl (fun hb5=>?_) fun hb5=>?_
 ·have hc5:=hb5; simp only [Y6] at hc5;refine .skip (.seq (.block (.seq (.t 1 rfl ?_))));refine .val (.fo 0 rfl Xca rfl rfl Xdu rfl) rfl (.val (Ex.arrAddrO (i:=(i:Int)) (.of rfl) (.of rfl) (by omega) (by omega) Xdf Qs3) rfl (.val (.lo rfl hS (k:=0) rfl Qg3 (X8c p (o:=0+0+(i:Int).toNat*1) (k:=i) (by omega) (by omega))) rfl (.q 2 rfl (.gm rfl rfl rfl rfl ?_))));refine .gval rfl rfl (fun hg1=>(by exact .fo 7 rfl Xca rfl rfl Xdu rfl)) rfl ?_;refine .gval rfl rfl (fun hg1=>Ex.arrAddrO (i:=(i:Int)) (.gd hg1 rfl) (.gd hg1 rfl) (by omega) (by omega) Xdf Qs3) rfl (.gval rfl rfl (fun hg1=>.ld (.gd hg1 rfl) hS (k:=0) rfl Qg3 (X8c p (o:=0+7+(i:Int).toNat*1) (k:=7+i) (by omega) (by omega))) rfl (.gval rfl rfl (fun hg1=>(.lss (.gd hg1 rfl) (.of rfl))) rfl (.val (.po rfl rfl rfl) rfl (.q 1 rfl (.gm rfl rfl rfl rfl ?_)))));refine .gval rfl rfl (fun hg1=>(by exact .fo 14 rfl Xca rfl rfl Xdu rfl)) rfl ?_;refine .gval rfl rfl (fun hg1=>Ex.arrAddrO (i:=(i:Int)) (.gd hg1 rfl) (.gd hg1 rfl) (by omega) (by omega) Xdf Qs3) rfl (.gval rfl rfl (fun hg1=>.ld (.gd hg1 rfl) hS (k:=0) rfl Qg3 (X8c p (o:=0+14+(i:Int).toNat*1) (k:=14+i) (by omega) (by omega))) rfl (.gval rfl rfl (fun hg1=>(.lss (.gd hg1 rfl) (.of rfl))) rfl (.val (.po rfl rfl rfl) rfl (.q 1 rfl (.gm rfl rfl rfl rfl ?_)))));refine .gval rfl rfl (fun hg1=>(by exact .fo 0 rfl Xca rfl rfl Xdu rfl)) rfl ?_;refine .gval rfl rfl (fun hg1=>Ex.arrAddrO (i:=(i:Int)) (.gd hg1 rfl) (.gd hg1 rfl) (by omega) (by omega) Xdf Qs3) rfl (.gval rfl rfl (fun hg1=>.ld (.gd hg1 rfl) hS (k:=0) rfl Qg3 (X8c p (o:=0+0+(i:Int).toNat*1) (k:=i) (by omega) (by omega))) rfl (.gval rfl rfl (fun hg1=>(.gtr (.gd hg1 rfl) (.of rfl))) rfl (.val (.po rfl rfl rfl) rfl (.q 1 rfl (.gm rfl rfl rfl rfl ?_)))));refine .gval rfl rfl (fun hg1=>(by exact .fo 7 rfl Xca rfl rfl Xdu rfl)) rfl ?_;refine .gval rfl rfl (fun hg1=>Ex.arrAddrO (i:=(i:Int)) (.gd hg1 rfl) (.gd hg1 rfl) (by omega) (by omega) Xdf Qs3) rfl (.gval rfl rfl (fun hg1=>.ld (.gd hg1 rfl) hS (k:=0) rfl Qg3 (X8c p (o:=0+7+(i:Int).toNat*1) (k:=7+i) (by omega) (by omega))) rfl (.gval rfl rfl (fun hg1=>(.gtr (.gd hg1 rfl) (.of rfl))) rfl (.val (.po rfl rfl rfl) rfl (.q 1 rfl (.gm rfl rfl rfl rfl ?_)))));refine .gval rfl rfl (fun hg1=>(by exact .fo 14 rfl Xca rfl rfl Xdu rfl)) rfl ?_;refine .gval rfl rfl (fun hg1=>Ex.arrAddrO (i:=(i:Int)) (.gd hg1 rfl) (.gd hg1 rfl) (by omega) (by omega) Xdf Qs3) rfl (.gval rfl rfl (fun hg1=>.ld (.gd hg1 rfl) hS (k:=0) rfl Qg3 (X8c p (o:=0+14+(i:Int).toNat*1) (k:=14+i) (by omega) (by omega))) rfl (.gval rfl rfl (fun hg1=>(.gtr (.gd hg1 rfl) (.of rfl))) rfl (.val (.po rfl rfl rfl) rfl (.nil ?_))));refine .cond rfl (fun hb47=>?_) fun hb47=>?_
  ·have hc47:=hb47; simp only [Y6] at hc47;refine .seq (.q 1 rfl (.ret (X9 Tryz.results68 rfl ?_)));refine ⟨_,rfl,congrArg Value.bool ?_,hS.drop (k:=0) rfl⟩;have h3:Xau (p i)=true∨Xau (p (7+i))=true∨Xau (p (14+i))=true:=by
    unfold Xau;simp at hb47 ⊢
    omega
   rcases h3 with h3 | h3 | h3
   ·exact (X5h (by omega) h3).symm
   ·exact (X5h (by omega) h3).symm
   ·exact (X5h (by omega) h3).symm
  have hc47:=hb47; simp only [Y6] at hc47;refine .skip (.region (.run 3 rfl ⟨⟨by omega,by omega⟩,trivial⟩ (.nil ?_)));have hb3:Xau (p i)=false∧Xau (p (7+i))=false∧Xau (p (14+i))=false:=by
   unfold Xau;simp at hb47 ⊢
   omega
  refine ⟨i+1,⟨rfl,rfl,trivial⟩,⟨by (try dsimp only); omega,fun j hj=>?_,hS⟩,by (try dsimp only); omega⟩;rcases Yr j i with h1 | h1
  ·exact hno j h1
  ·have e:j=i:=by omega
   subst e;exact hb3
 have hc5:=hb5; simp only [Y6] at hc5;refine .exit (.seq (.q 1 rfl (.ret (X9 Tryz.results68 rfl ?_))));refine ⟨_,rfl,congrArg Value.bool (Xgq fun k hk=>?_).symm,hS.drop (k:=0) rfl⟩;rcases Yr k 7 with h1 | h1
 ·exact (hno k (by omega)).1
 ·rcases Yr k 14 with h2 | h2
  ·have:=(hno (k - 7) (by omega)).2.1
   rwa [show 7+(k - 7)=k by omega] at this
  ·have:=(hno (k - 14) (by omega)).2.2
   rwa [show 14+(k - 14)=k by omega] at this
theorem Xgl (ps:List Int) (hps:ps.length=21) (hpos:∀ k,k<21→0≤ps.getD k 0) (r:Rec) (now:Int) (hm:0≤r.made∧r.made≤1099511627776) (hu:0≤r.used∧r.used≤1099511627776) (hn:0≤now∧now≤1099511627776) (B w:World) (I:Im) (As:List X7) (hS:Sat B w I As) :
  Cz 173 [.agg (ps.map I64).toArray,.agg (X5 r).toArray,I64 now] w fun v w'=>v=.bool (X7f ps r now)∧Sat B w' I As:=by
 refine calls Tryz.func173 rfl Tryz.ntmps173 rfl (.seq (.region (.boxA (cs:=ps.map I64) hS (.of rfl) rfl ?_)));intro b3 w hS;refine .boxA (cs:=[_,_,_,_,_,_,_,_,_,_]) hS (.of rfl) rfl ?_;intro b4 w hS;refine .q 1 rfl (.nil (.seq (.region ?_)));refine .val (.fo 0 rfl Xr rfl rfl Qs3 rfl) rfl (.val (.lo rfl hS (k:=0) rfl Qg3 rfl) rfl (.q 1 rfl (.nil (.seq (.seq (.t 3 rfl (.gm rfl rfl rfl rfl (.gval rfl rfl (fun hg1=>(.gtr (.gd hg1 rfl) (.of rfl))) rfl (.val (.po rfl rfl rfl) rfl (.nil ?_))))))))));refine .cond rfl (fun hb15=>?_) fun hb15=>?_
 ·refine .seq (.q 1 rfl (.ret (X9 Xqt rfl ?_)));refine ⟨_,rfl,congrArg Value.bool ?_,(hS.drop (k:=0) rfl).drop (k:=0) rfl⟩;cases h:X7f ps r now with
  | false=>rfl
  | true =>
   exfalso
   unfold X7f X4o at h;simp only [Yq,Y1j,decide_eq_true_eq,beq_iff_eq] at h hb15
   omega
 refine .skip (.seq (.seq ?_));have hk1:1≤r.kind∧r.kind≤6:=by
  have h:=hb15;simp at h
  omega
 have hp0:=hpos (r.kind.toNat) (by omega);have hp1:=hpos (7+r.kind.toNat) (by omega);have hp2:=hpos (14+r.kind.toNat) (by omega);refine .quiet (by kernel_rfl) (by kernel_rfl) hS (.val (fun w hS=>(.mo rfl)) rfl ?_);refine .val (fun w hS=>(by exact .fo 0 rfl Xca rfl rfl Xdu rfl)) rfl ?_;refine .val (fun w hS=>Ex.arrAddrO (i:=r.kind) (.of rfl) (.of rfl) (by omega) (by omega) Xdf Qs3) rfl (.val (fun w hS=>.lo rfl hS (k:=1) rfl Qg3 (X3k hps (o:=0+0+r.kind.toNat*1) (k:=r.kind.toNat) (by omega) (by omega))) rfl (.val (fun w hS=>(.gtr (.of rfl) (.of rfl))) rfl (.val (fun w hS=>(.mo rfl)) rfl (.gval rfl rfl rfl (fun hg1 w hS=>(.mo rfl)) rfl ?_))));refine .gval rfl rfl rfl (fun hg1 w hS=>(by exact .fo 6 rfl Xr rfl rfl Qs3 rfl)) rfl ?_;refine .gval rfl rfl rfl (fun hg1 w hS=>(.ld (.gd hg1 rfl) hS (k:=0) rfl Qg3 rfl)) rfl (.gval rfl rfl rfl (fun hg1 w hS=>(.sub (.gd hg1 rfl) (.gd hg1 rfl) ⟨by omega,by omega⟩)) rfl (.gval rfl rfl rfl (fun hg1 w hS=>(.mo rfl)) rfl ?_));refine .gval rfl rfl rfl (fun hg1 w hS=>(by exact .fo 0 rfl Xca rfl rfl Xdu rfl)) rfl ?_;refine .gval rfl rfl rfl (fun hg1 w hS=>Ex.arrAddrO (i:=r.kind) (.gd hg1 rfl) (.gd hg1 rfl) (by omega) (by omega) Xdf Qs3) rfl (.gval rfl rfl rfl (fun hg1 w hS=>.ld (.gd hg1 rfl) hS (k:=1) rfl Qg3 (X3k hps (o:=0+0+r.kind.toNat*1) (k:=r.kind.toNat) (by omega) (by omega))) rfl (.gval rfl rfl rfl (fun hg1 w hS=>(.geq (.gd hg1 rfl) (.gd hg1 rfl))) rfl (.val (fun w hS=>(.pa rfl rfl rfl)) rfl (.nil ?_))));intro w hS;refine .cond rfl (fun hb31=>?_) fun hb31=>?_
 ·refine .seq (.q 1 rfl (.ret (X9 Xqt rfl ?_)));refine ⟨_,rfl,congrArg Value.bool ?_,(hS.drop (k:=0) rfl).drop (k:=0) rfl⟩;cases h:X7f ps r now with
  | false=>rfl
  | true =>
   exfalso
   unfold X7f X4o at h;simp only [Yq,Y1j,decide_eq_true_eq,beq_iff_eq] at h hb31
   omega
 refine .skip (.seq (.seq (.quiet (by kernel_rfl) (by kernel_rfl) hS (.val (fun w hS=>(.mo rfl)) rfl ?_))));refine .val (fun w hS=>(by exact .fo 7 rfl Xca rfl rfl Xdu rfl)) rfl ?_;refine .val (fun w hS=>Ex.arrAddrO (i:=r.kind) (.of rfl) (.of rfl) (by omega) (by omega) Xdf Qs3) rfl (.val (fun w hS=>.lo rfl hS (k:=1) rfl Qg3 (X3k hps (o:=0+7+r.kind.toNat*1) (k:=7+r.kind.toNat) (by omega) (by omega))) rfl (.val (fun w hS=>(.gtr (.of rfl) (.of rfl))) rfl (.val (fun w hS=>(.mo rfl)) rfl (.gval rfl rfl rfl (fun hg1 w hS=>(.mo rfl)) rfl ?_))));refine .gval rfl rfl rfl (fun hg1 w hS=>(by exact .fo 7 rfl Xr rfl rfl Qs3 rfl)) rfl ?_;refine .gval rfl rfl rfl (fun hg1 w hS=>(.ld (.gd hg1 rfl) hS (k:=0) rfl Qg3 rfl)) rfl (.gval rfl rfl rfl (fun hg1 w hS=>(.sub (.gd hg1 rfl) (.gd hg1 rfl) ⟨by omega,by omega⟩)) rfl (.gval rfl rfl rfl (fun hg1 w hS=>(.mo rfl)) rfl ?_));refine .gval rfl rfl rfl (fun hg1 w hS=>(by exact .fo 7 rfl Xca rfl rfl Xdu rfl)) rfl ?_;refine .gval rfl rfl rfl (fun hg1 w hS=>Ex.arrAddrO (i:=r.kind) (.gd hg1 rfl) (.gd hg1 rfl) (by omega) (by omega) Xdf Qs3) rfl (.gval rfl rfl rfl (fun hg1 w hS=>.ld (.gd hg1 rfl) hS (k:=1) rfl Qg3 (X3k hps (o:=0+7+r.kind.toNat*1) (k:=7+r.kind.toNat) (by omega) (by omega))) rfl (.gval rfl rfl rfl (fun hg1 w hS=>(.geq (.gd hg1 rfl) (.gd hg1 rfl))) rfl (.val (fun w hS=>(.pa rfl rfl rfl)) rfl (.nil ?_))));intro w hS;refine .cond rfl (fun hb47=>?_) fun hb47=>?_
 ·refine .seq (.q 1 rfl (.ret (X9 Xqt rfl ?_)));refine ⟨_,rfl,congrArg Value.bool ?_,(hS.drop (k:=0) rfl).drop (k:=0) rfl⟩;cases h:X7f ps r now with
  | false=>rfl
  | true =>
   exfalso
   unfold X7f X4o at h;simp only [Yq,Y1j,decide_eq_true_eq,beq_iff_eq] at h hb47
   omega
 refine .skip (.seq (.quiet (by kernel_rfl) (by kernel_rfl) hS (.val (fun w hS=>(.mo rfl)) rfl ?_)));refine .val (fun w hS=>(by exact .fo 14 rfl Xca rfl rfl Xdu rfl)) rfl ?_;refine .val (fun w hS=>Ex.arrAddrO (i:=r.kind) (.of rfl) (.of rfl) (by omega) (by omega) Xdf Qs3) rfl (.val (fun w hS=>.lo rfl hS (k:=1) rfl Qg3 (X3k hps (o:=0+14+r.kind.toNat*1) (k:=14+r.kind.toNat) (by omega) (by omega))) rfl (.val (fun w hS=>(.eql (.of rfl) (.of rfl))) rfl (.val (fun w hS=>(.mo rfl)) rfl ?_)));refine .gval rfl rfl rfl (fun hg1 w hS=>(by exact .fo 8 rfl Xr rfl rfl Qs3 rfl)) rfl ?_;refine .gval rfl rfl rfl (fun hg1 w hS=>(.ld (.gd hg1 rfl) hS (k:=0) rfl Qg3 rfl)) rfl (.gval rfl rfl rfl (fun hg1 w hS=>(.mo rfl)) rfl ?_);refine .gval rfl rfl rfl (fun hg1 w hS=>(by exact .fo 14 rfl Xca rfl rfl Xdu rfl)) rfl ?_;refine .gval rfl rfl rfl (fun hg1 w hS=>Ex.arrAddrO (i:=r.kind) (.gd hg1 rfl) (.gd hg1 rfl) (by omega) (by omega) Xdf Qs3) rfl (.gval rfl rfl rfl (fun hg1 w hS=>.ld (.gd hg1 rfl) hS (k:=1) rfl Qg3 (X3k hps (o:=0+14+r.kind.toNat*1) (k:=14+r.kind.toNat) (by omega) (by omega))) rfl (.gval rfl rfl rfl (fun hg1 w hS=>(.lss (.gd hg1 rfl) (.gd hg1 rfl))) rfl (.val (fun w hS=>(.po rfl rfl rfl)) rfl (.val (fun w hS=>(.ao rfl)) rfl (.nil ?_)))));intro w hS;refine .ret (X9 Xqt rfl ?_);refine ⟨_,rfl,congrArg Value.bool ?_,(hS.drop (k:=0) rfl).drop (k:=0) rfl⟩;have e1:X4o (now - r.made) (ps.getD r.kind.toNat 0)=true:=by
  simp only [Y2m,decide_eq_false_iff_not] at hb31
  unfold X4o;simp only [Y1j,decide_eq_true_eq,beq_iff_eq]
  omega
 have e2:X4o (now - r.used) (ps.getD (7+r.kind.toNat) 0)=true:=by
  simp only [Y2m,decide_eq_false_iff_not] at hb47
  unfold X4o;simp only [Y1j,decide_eq_true_eq,beq_iff_eq]
  omega
 rw [X7f,e1,e2,decide_eq_true hk1.1,decide_eq_true hk1.2];rfl
theorem Xhp (l:List Rec) (hw:Wf l):∀ (f:Nat) (i:Int) (r:Rec),r∈X4l l f i→∃ j:Nat,(j:Int)≤i∧l[j]?=some r
 | 0,_,r,h=>by simp [X4l] at h
 | f+1,i,r,h=>by
  rw [X4l] at h;split at h
  ·simp at h
  ·rename_i hi
   split at h
   ·rename_i t ht
    rcases Y18.1 h with e | e
    ·subst e; exact ⟨i.toNat,by omega,ht⟩
    ·obtain ⟨j,h1,h2⟩:=Xhp l hw f _ r e
     have:=(hw.up _ _ ht).2
     exact ⟨j,by omega,h2⟩
   ·simp at h
theorem Xjn {l:List Rec} (hw:Wf l) {name:List UInt8} {i:Nat} {r:Rec} (h:(path l name)[i]?=some r):(r.name == name)=decide (i=0):=by
 rcases X2o l name with ⟨h1,_⟩ | ⟨j,t,h1,h2,h3,_⟩
 ·rw [path,h1,X7e l (by omega)] at h; simp at h
 ·rw [path,h1,Xcj hw h2] at h;cases i with
  | zero=>simp at h; subst h; simp [h3]
  | succ i =>
   simp at h
   obtain ⟨q,hq1,hq2⟩:=Xhp l hw _ _ r (Yi h);have h4:=(hw.up _ _ h2).2;have h5:=hw.at_ hq2;rw [show decide (i+1=0)=false by simp];refine beq_eq_false_iff_ne.2 fun e=>?_
   rw [e,h1] at h5;omega
theorem Xb3 (tb:Nat) (room:Int) (la:Option Addr) (lc:Nat) (l:List Rec) (hl:l.length≤100000) (hwf:Wf l) (ps:List Int) (hps:ps.length=21) (hpos:∀ k,k<21→0≤ps.getD k 0) (name:List UInt8) (now:Int) (hn:0≤now∧now≤1099511627776) (B w:World) (I:Im) (hR:RS I la 10 l.length (X12 X5 l)) (As:List X7) (hS:Sat B w I (blk tb [I64 room,.slice la l.length lc] 90::As)) :
  Cz 132 [ptr tb 0,.agg (ps.map I64).toArray,S name,I64 now] w fun v w'=>v=.bool (X4h ps l name now)∧Sat B w' I (blk tb [I64 room,.slice la l.length lc] 90::As):=by
 refine calls Tryz.func132 rfl Tryz.ntmps132 rfl (.seq (.region (.boxA (cs:=ps.map I64) hS (.of rfl) rfl ?_)));intro b5 w hS;refine .q 1 rfl (.nil (.seq (.t 2 rfl (.call Tryz.func172 rfl (ec9 rfl (ec9 rfl X0)) rfl (Xhc tb room la lc l hl hwf name B _ I hR _ (hS.pick 1 rfl)) ?_))));rintro _ w ⟨J,pa,pc,rfl,hJ,hpc,hRS,hS⟩;try dsimp only [List.eraseIdx] at hS
 have hpl:=Xdh hwf name;refine .q 1 rfl (.nil (.seq (.seq (.q 1 rfl (.block (.loop (σ:=Nat) (fun i=>[(0,ptr tb 0),(2,S name),(3,I64 now),(5,ptr b5 0),(9,.slice pa (path l name).length pc),(10,I64 (i:Nat))]) (fun i w=>i≤(path l name).length∧(∀ (j:Nat) r,j<i→(path l name)[j]?=some r→Xnm ps name now r=false)∧Sat B w J (blk tb [I64 room,.slice la l.length lc] 90::blk b5 (ps.map I64) 26::As)) (fun i=>(path l name).length - i) 0 ⟨rfl,rfl,rfl,rfl,rfl,rfl,trivial⟩ ⟨Yo _,fun _ _ h=>absurd h (by omega),hS⟩ ?_))))));rintro i w ⟨hi,hno,hS⟩;refine .seq (.seq (.region (.run 4 rfl ⟨⟨_,X19⟩,trivial⟩ (.nil ?_))));refine .cond rfl (fun hb20=>?_) fun hb20=>?_
 ·have hc20:=hb20; simp only [Y6] at hc20;refine .skip (.seq (.block (.seq ?_)));obtain ⟨r,hr⟩:∃ r,(path l name)[i]?=some r:=⟨_,Y4 (by omega)⟩
  obtain ⟨q,hq⟩:=Xio (Yi hr);have hgd:getD l r.name=r:=by rw [getD,hwf.get_ hq]; rfl
  obtain ⟨ht1,ht2,_⟩:=X6q (hwf.right r (Yi hq));have hpf:=Xjn hwf hr;obtain ⟨p,rfl,hA⟩:=hRS.2 (by omega);have hnm:((path l name).map fun r=>S r.name)[i]?=some (S r.name):=by rw [Yy,hr]; rfl
  refine .t 3 rfl (.val (.ii rfl rfl (by omega) (by omega) X19 Qs9) rfl ?_);refine .val (ldC (.of rfl) (by have h9:=X2c hS hA hnm; simpa using h9) Qg9) rfl ?_;refine .call Qf71 rfl (ec9 rfl (ec9 rfl X0)) rfl (X5b tb room la lc l hl r.name B _ J (hR.mono hJ) _ hS) ?_;rintro _ w ⟨rfl,hS⟩;rw [hgd];refine .q 3 rfl (.allocA (cs:=[_,_,_,_,_,_,_,_,_,_]) hS X5t rfl ?_);intro b11 w hS;refine .so hS (k:=0) rfl rfl rfl rfl Xu rfl (by simp) ?_;intro w hS;try simp only [Yh,Ye,Y9,Y7,Yg,Yn,Yd] at hS
  refine .q 1 rfl (.nil (.seq (.region ?_)));refine .val (.lds (vs:=ps.map I64) (.of rfl) hS (k:=2) rfl Xth Xka (by rw [Y10]; exact hps) (fun j v hj=>by rw [Yd]; exact hj)) rfl ?_;refine .val (.ldsW (cs:=[_,_,_,_,_,_,_,_,_,_]) (.of rfl) hS (k:=0) rfl X3e Xu rfl) rfl (.q 1 rfl (.call Tryz.func173 rfl (ec9 rfl (ec9 rfl (ec9 rfl X0))) rfl (Xgl ps hps hpos r now ht1 ht2 hn B _ J _ hS) ?_));rintro _ w ⟨rfl,hS⟩;refine .q 1 rfl (.nil (.seq (.t 3 rfl (.gm rfl rfl rfl rfl (.gval rfl rfl (fun hg1=>(.eql (.gd hg1 rfl) (.of rfl))) rfl (.gval rfl rfl (fun hg1=>(.move (.gd hg1 rfl))) rfl ?_))))));refine .gval2 rfl rfl rfl (fun hg1 hg2=>(by exact .fo 0 rfl Xr rfl rfl Qs3 rfl)) rfl ?_;refine .gval2 rfl rfl rfl (fun hg1 hg2=>(by exact (.ld (.gd2 hg1 hg2 rfl) hS (k:=0) rfl Qg3 rfl))) rfl ?_;refine .gval2 rfl rfl rfl (fun hg1 hg2=>(.eql (.gd2 hg1 hg2 rfl) (.of rfl))) rfl (.gval rfl rfl (fun hg1=>(.por (.gd hg1 rfl) (.of rfl) (.gd hg1 rfl))) rfl (.gval rfl rfl (fun hg1=>(.move (.gd hg1 rfl))) rfl ?_));refine .gval2 rfl rfl rfl (fun hg1 hg2=>(by exact .fo 0 rfl Xr rfl rfl Qs3 rfl)) rfl ?_;refine .gval2 rfl rfl rfl (fun hg1 hg2=>(by exact (.ld (.gd2 hg1 hg2 rfl) hS (k:=0) rfl Qg3 rfl))) rfl ?_;refine .gval2 rfl rfl rfl (fun hg1 hg2=>(.eql (.gd2 hg1 hg2 rfl) (.of rfl))) rfl (.gval rfl rfl (fun hg1=>(.por (.gd hg1 rfl) (.of rfl) (.gd hg1 rfl))) rfl (.val (.pa rfl rfl rfl) rfl (.nil ?_)));refine .cond rfl (fun hb51=>?_) fun hb51=>?_
  ·refine .seq (.q 1 rfl (.ret (X9 Tryz.results132 rfl ?_)));replace hS:=hS.weaken hJ;refine ⟨_,rfl,congrArg Value.bool ?_,(hS.drop (k:=0) rfl).drop (k:=1) rfl⟩;have hbd:Xnm ps name now r=true:=by
    rw [Xnm,hpf,Xi8];cases hl:X7f ps r now with
    | true=>rw [hl] at hb51; simp at hb51
    | false =>
     rw [hl] at hb51;simp at hb51 ⊢
     omega
   have:(path l name).any (Xnm ps name now)=true:=Y1w.2 ⟨r,Yi hr,hbd⟩
   rw [X4h,this]; rfl
  have hc51:=hb51; simp only [Y6] at hc51;refine .skip (.region (.run 3 rfl ⟨⟨by omega,by omega⟩,trivial⟩ (.nil ?_)));refine ⟨i+1,⟨rfl,rfl,rfl,rfl,rfl,rfl,trivial⟩,⟨by (try dsimp only); omega,fun j t hj ht=>?_,hS.drop (k:=0) rfl⟩,by (try dsimp only); omega⟩;rcases Yr j i with h1 | h1
  ·exact hno j t h1 ht
  ·have e:j=i:=by omega
   subst e;rw [hr] at ht; cases ht;rw [Xnm,hpf,Xi8];cases hl:X7f ps r now with
   | true=>simp
   | false =>
    rw [hl] at hb51;simp at hb51 ⊢
    omega
 have hc20:=hb20; simp only [Y6] at hc20;refine .exit (.seq (.region (.run 4 rfl ⟨⟨_,X19⟩,trivial⟩ (.nil (.ret (X9 Tryz.results132 rfl ?_))))));replace hS:=hS.weaken hJ;refine ⟨_,rfl,congrArg Value.bool ?_,hS.drop (k:=1) rfl⟩
 have:(path l name).any (Xnm ps name now)=false:=by
  rw [Y2i];intro r hr;obtain ⟨j,hj⟩:=Yx.1 hr
  have:=(Y5.1 hj).1
  rw [hno j r (by omega) hj]; decide
 rw [X4h,this]
 simp
theorem Xev (r:Rec) (now:Int) (hu:0≤r.uses) (hu2:r.uses≤255) (B w:World) (I:Im) (As:List X7) (hS:Sat B w I As) :
  Cz 80 [.agg (X5 r).toArray,I64 now] w fun v w'=>v=.agg (X5 (X4i r now)).toArray∧Sat B w' I As:=by
 refine calls Tryz.func80 rfl Tryz.ntmps80 rfl (.seq (.region (.boxA (cs:=[_,_,_,_,_,_,_,_,_,_]) hS (.of rfl) rfl ?_)));intro b2 w hS;refine .allocA (cs:=[_,_,_,_,_,_,_,_,_,_]) hS X5t rfl ?_;intro b4 w hS;refine .nil (.seq (.region ?_));refine .val (.fo 8 rfl Xr rfl rfl Qs3 rfl) rfl (.val (.lo rfl hS (k:=1) rfl Qg3 rfl) rfl (.run 1 rfl ⟨⟨by omega,by omega⟩,trivial⟩ (.val (.min2 (.of rfl) (.of rfl)) rfl ?_)));refine .val (.fo 8 rfl Xr rfl rfl Qs3 rfl) rfl (.s1 hS (k:=1) rfl rfl rfl rfl Qs3 (by simp) ?_);intro w hS;refine .nil (.seq (.seq (.region ?_)));refine .val (.fo 7 rfl Xr rfl rfl Qs3 rfl) rfl (.val (.lo rfl hS (k:=1) rfl Qg3 rfl) rfl (.q 2 rfl (.nil ?_)));refine .cond rfl (fun hb13=>?_) fun hb13=>?_
 ·refine .t 1 rfl (.val (.fo 7 rfl Xr rfl rfl Qs3 rfl) rfl (.s1 hS (k:=1) rfl rfl rfl rfl Qs3 (by simp) ?_));intro w hS;refine .nil (.seq (.region ?_));refine .val (.ldsW (cs:=[_,_,_,_,_,_,_,_,_,_]) (.of rfl) hS (k:=1) rfl X3e Xu rfl) rfl (.so hS (k:=0) rfl rfl rfl rfl Xu rfl (by simp) ?_);intro w hS;try simp only [Yh,Ye,Y9,Y7,Yg,Yn,Yd] at hS
  refine .nil (.ret ?_);refine Xjt (b:=_) (cs:=[_,_,_,_,_,_,_,_,_,_]) Tryz.results80 hS (k:=0) rfl X3e Xu rfl rfl (⟨_,rfl,?_,(hS.drop (k:=0) rfl).drop (k:=0) rfl⟩);have e1:min (255:Int) (r.uses+1)=min (r.uses+1) 255:=Int.min_comm _ _;rw [e1]
  first
  | (have e2:max r.used now=now:=(by simp at hb13; omega); unfold X4i X5; dsimp only; rw [e2]; done)
  | (have e2:max r.used now=r.used:=(by simp at hb13; omega); unfold X4i X5; dsimp only; rw [e2])
 refine .skip (.seq (.region ?_));refine .val (.ldsW (cs:=[_,_,_,_,_,_,_,_,_,_]) (.of rfl) hS (k:=1) rfl X3e Xu rfl) rfl (.so hS (k:=0) rfl rfl rfl rfl Xu rfl (by simp) ?_);intro w hS;try simp only [Yh,Ye,Y9,Y7,Yg,Yn,Yd] at hS
 refine .nil (.ret ?_);refine Xjt (b:=_) (cs:=[_,_,_,_,_,_,_,_,_,_]) Tryz.results80 hS (k:=0) rfl X3e Xu rfl rfl (⟨_,rfl,?_,(hS.drop (k:=0) rfl).drop (k:=0) rfl⟩);have e1:min (255:Int) (r.uses+1)=min (r.uses+1) 255:=Int.min_comm _ _;rw [e1]
 first
 | (have e2:max r.used now=now:=(by simp at hb13; omega); unfold X4i X5; dsimp only; rw [e2]; done)
 | (have e2:max r.used now=r.used:=(by simp at hb13; omega); unfold X4i X5; dsimp only; rw [e2])
def X3s (s:List UInt8) (lo:Int):Bool:=s.all fun c=>!(decide ((c.toNat:Int)<lo) || decide ((126:Int)<(c.toNat:Int)))
theorem Xnc (i:Nat) (c:UInt8):badW i c=(!((decide ((97:Int)≤(c.toNat:Int)) && decide ((c.toNat:Int)≤122)) || (decide ((65:Int)≤(c.toNat:Int)) && decide ((c.toNat:Int)≤90))) && (((i:Int) == 0) || !(((decide ((48:Int)≤(c.toNat:Int)) && decide ((c.toNat:Int)≤57)) || ((c.toNat:Int) == 45)) || ((c.toNat:Int) == 95)))):=by
 unfold badW letC;rw [Y35];simp only [Yq,Y1j,Y33,Y15,Y2m,decide_eq_true_eq,decide_eq_false_iff_not,beq_iff_eq,bne_iff_ne,ne_eq,beq_eq_false_iff_ne]
 omega
theorem Xli (p:Pr):Xnl p=((!Xaz p.1 || decide ((60:Int)<(p.2.length:Int))) || !X3s p.2 32):=by
 unfold Xnl X6b;rw [show (p.2.all fun c=>!(decide ((c.toNat:Int)<32) || decide ((126:Int)<(c.toNat:Int))))=X3s p.2 32 from rfl];cases Xaz p.1 <;> cases X3s p.2 32 <;> simp
 rw [Y35]
 simp
 try omega
theorem Xd6 (u:Us):X70 u=(!(((((u.name == []) || decide ((32:Int)<(u.name.length:Int))) || (u.pw == [])) || decide ((60:Int)<(u.pw.length:Int))) || decide ((8:Int)<(u.attrs.length:Int))) && X3s u.name 33 && !u.attrs.any Xnl):=by
 unfold X70 X6b;rw [show (u.name.all fun c=>!(decide ((c.toNat:Int)<33) || decide ((126:Int)<(c.toNat:Int))))=X3s u.name 33 from rfl];cases X3s u.name 33 <;> cases u.attrs.any Xnl <;> simp
 cases u.name <;> cases u.pw <;> simp
 rw [Y35]
 simp
 omega
theorem X8i (s:List UInt8) (lo:Int) (hs:s.length≤9223372036854775807) (B w:World) (I:Im) (As:List X7) (hS:Sat B w I As) :
  Cz 166 [S s,.int .u8 lo] w fun v w'=>v=.bool (X3s s lo)∧Sat B w' I As:=by
 refine calls Tryz.func166 rfl Tryz.ntmps166 rfl (.seq (.q 1 rfl (.seq (.seq (.q 1 rfl (.block (.loop (σ:=Nat) (fun i=>[(0,S s),(1,.int .u8 lo),(5,I64 (i:Nat))]) (fun i w=>i≤s.length∧(∀ (j:Nat) c,j<i→s[j]?=some c→(decide ((c.toNat:Int)<lo) || decide ((126:Int)<(c.toNat:Int)))=false)∧Sat B w I As) (fun i=>s.length - i) 0 ⟨rfl,rfl,rfl,trivial⟩ ⟨Yo _,fun _ _ h=>absurd h (by omega),hS⟩ ?_)))))));rintro i w ⟨hi,hno,hS⟩;refine .seq (.seq (.region (.run 4 rfl ⟨Qu9,trivial⟩ (.nil ?_))));refine .cond rfl (fun hb9=>?_) fun hb9=>?_
 ·have hc9:=hb9; simp only [Y6] at hc9;refine .skip (.seq (.block (.seq (.region (.run 6 rfl ⟨⟨⟨by omega,by omega⟩,Qu9⟩,trivial⟩ (.gm rfl rfl rfl rfl (.gm rfl rfl rfl rfl ?_)))))));refine .gval rfl rfl (fun hg1=>(.index (.gd hg1 rfl) (.gd hg1 rfl) (by (try simp only [Y6] at hg1); omega) (by (try simp only [Y6] at hg1); omega) Qu9)) rfl ?_;refine .gval rfl rfl (fun hg1=>(.gtr (.gd hg1 rfl) (.of rfl))) rfl (.val (.po rfl rfl rfl) rfl (.nil ?_));refine .cond rfl (fun hb22=>?_) fun hb22=>?_
  ·have hc22:=hb22; simp only [Y6] at hc22;refine .seq (.q 1 rfl (.ret (X9 Tryz.results166 rfl ?_)));refine ⟨_,rfl,congrArg Value.bool ?_,hS⟩
   have:X3s s lo=false:=by
    unfold X3s;rw [Y2e];exact ⟨_,Yi (Xx (show i<s.length by omega)),by rw [hb22]; decide⟩
   rw [this]
  have hc22:=hb22; simp only [Y6] at hc22;refine .skip (.region (.run 3 rfl ⟨⟨by omega,by omega⟩,trivial⟩ (.nil ?_)));refine ⟨i+1,⟨rfl,rfl,rfl,trivial⟩,⟨by (try dsimp only); omega,fun j c hj hc=>?_,hS⟩,by (try dsimp only); omega⟩;rcases Yr j i with h1 | h1
  ·exact hno j c h1 hc
  ·have e:j=i:=by omega
   subst e;rw [Xx (show j<s.length by omega)] at hc; cases hc;exact hb22
 have hc9:=hb9; simp only [Y6] at hc9;refine .exit (.seq (.q 1 rfl (.ret (X9 Tryz.results166 rfl ?_))));refine ⟨_,rfl,congrArg Value.bool ?_,hS⟩
 have:X3s s lo=true:=by
  unfold X3s;rw [Y1b];intro c hc;obtain ⟨j,hj,hjr⟩:=Y39 hc;rw [hno j c (by omega) (by rw [Y4 hj,hjr])];rfl
 rw [this]
theorem Xh6 (s:List UInt8) (hs:s.length≤9223372036854775807) (B w:World) (I:Im) (As:List X7) (hS:Sat B w I As) :
  Cz 167 [S s] w fun v w'=>v=.bool (Xaz s)∧Sat B w' I As:=by
 refine calls Tryz.func167 rfl Tryz.ntmps167 rfl (.seq (.q 1 rfl (.seq (.seq (.t 3 rfl (.gm rfl rfl rfl rfl (.gval rfl rfl (fun hg1=>(.len (.gd hg1 rfl) Qu9)) rfl (.gval rfl rfl (fun hg1=>(.gtr (.gd hg1 rfl) (.of rfl))) rfl (.val (.po rfl rfl rfl) rfl (.nil ?_))))))))));refine .cond rfl (fun hb13=>?_) fun hb13=>?_
 ·refine .seq (.q 1 rfl (.ret (X9 Xsf rfl ?_)));refine ⟨_,rfl,congrArg Value.bool ?_,hS⟩;rw [Xaz];have h:=hb13;simp at h
  rcases h with h | h
  ·subst h; rfl
  ·rw [decide_eq_false (show ¬ (s.length:Int)≤60 by omega)]; simp
 have hc13:=hb13; simp only [Y6] at hc13;refine .skip (.seq (.seq (.q 1 rfl (.block (.loop (σ:=Nat) (fun i=>[(0,S s),(3,I64 (i:Nat))]) (fun i w=>i≤s.length∧(∀ (j:Nat) c,j<i→s[j]?=some c→badW j c=false)∧Sat B w I As) (fun i=>s.length - i) 0 ⟨rfl,rfl,trivial⟩ ⟨Yo _,fun _ _ h=>absurd h (by omega),hS⟩ ?_)))));rintro i w ⟨hi,hno,hS⟩;refine .seq (.seq (.region (.run 4 rfl ⟨Qu9,trivial⟩ (.nil ?_))));refine .cond rfl (fun hb17=>?_) fun hb17=>?_
 ·have hc17:=hb17; simp only [Y6] at hc17;refine .skip (.seq (.block (.seq (.region (.run 4 rfl ⟨⟨⟨by omega,by omega⟩,Qu9⟩,trivial⟩ (.nil (.seq (.t 3 rfl (.gm rfl rfl rfl rfl (.gval rfl rfl (fun hg1=>(.leq (.gd hg1 rfl) (.of rfl))) rfl (.val (.pa rfl rfl rfl) rfl (.q 1 rfl (.gm rfl rfl rfl rfl (.gval rfl rfl (fun hg1=>(.geq (.gd hg1 rfl) (.of rfl))) rfl (.gval rfl rfl (fun hg1=>(.move (.gd hg1 rfl))) rfl (.gval2 rfl rfl rfl (fun hg1 hg2=>(.mo rfl)) rfl (.gval2 rfl rfl rfl (fun hg1 hg2=>(.leq (.gd2 hg1 hg2 rfl) (.of rfl))) rfl (.gval rfl rfl (fun hg1=>(.pand (.gd hg1 rfl) (.gd hg1 rfl) (.of rfl))) rfl (.val (.po rfl rfl rfl) rfl (.q 1 rfl (.nil (.seq (.t 3 rfl (.gm rfl rfl rfl rfl (.gval rfl rfl (fun hg1=>(.leq (.gd hg1 rfl) (.of rfl))) rfl (.val (.pa rfl rfl rfl) rfl (.q 1 rfl (.gm rfl rfl rfl rfl (.gval rfl rfl (fun hg1=>(.eql (.gd hg1 rfl) (.of rfl))) rfl (.val (.po rfl rfl rfl) rfl (.q 1 rfl (.gm rfl rfl rfl rfl (.gval rfl rfl (fun hg1=>(.eql (.gd hg1 rfl) (.of rfl))) rfl (.val (.po rfl rfl rfl) rfl (.q 1 rfl (.nil (.seq (.t 3 rfl (.gm rfl rfl rfl rfl (.gval rfl rfl (fun hg1=>(.eql (.gd hg1 rfl) (.of rfl))) rfl (.gval rfl rfl (fun hg1=>(.move (.gd hg1 rfl))) rfl (.gval2 rfl rfl rfl (fun hg1 hg2=>(.mo rfl)) rfl (.gval2 rfl rfl rfl (fun hg1 hg2=>(.not (.gd2 hg1 hg2 rfl))) rfl (.gval rfl rfl (fun hg1=>(.por (.gd hg1 rfl) (.of rfl) (.gd hg1 rfl))) rfl (.val (.pa rfl rfl rfl) rfl (.nil ?_))))))))))))))))))))))))))))))))))))))))))))));refine .cond rfl (fun hb60=>?_) fun hb60=>?_
  ·have hc60:=hb60; simp only [Y6] at hc60;refine .seq (.q 1 rfl (.ret (X9 Xsf rfl ?_)));refine ⟨_,rfl,congrArg Value.bool ?_,hS⟩
   have:X96 s 0=false:=by
    cases h:X96 s 0 with
    | false=>rfl
    | true =>
     have h1:=(X4p s 0).1 h i _ (Xx (show i<s.length by omega));rw [Yd,Xnc] at h1;exact absurd (hb60.symm.trans h1) (by decide)
   rw [Xaz,this]; rfl
  have hc60:=hb60; simp only [Y6] at hc60;refine .skip (.region (.run 3 rfl ⟨⟨by omega,by omega⟩,trivial⟩ (.nil ?_)));refine ⟨i+1,⟨rfl,rfl,trivial⟩,⟨by (try dsimp only); omega,fun j c hj hc=>?_,hS⟩,by (try dsimp only); omega⟩;rcases Yr j i with h1 | h1
  ·exact hno j c h1 hc
  ·have e:j=i:=by omega
   subst e;rw [Xx (show j<s.length by omega)] at hc; cases hc;rw [Xnc]; exact hb60
 have hc17:=hb17; simp only [Y6] at hc17;refine .exit (.seq (.q 1 rfl (.ret (X9 Xsf rfl ?_))));refine ⟨_,rfl,congrArg Value.bool ?_,hS⟩
 have:X96 s 0=true:=(X4p s 0).2 fun j c hc=>by
  have:=(Y5.1 hc).1
  rw [Yd]; exact hno j c (by omega) hc
 rw [Xaz,this];have h:=hb13;simp at h
 rw [decide_eq_true (show (s.length:Int)≤60 by omega)];simp [h.1]
theorem Xd2 (u:Us) (a:Option Addr) (c:Nat) (hn:u.name.length≤9223372036854775807) (hpl:u.pw.length≤9223372036854775807) (hal:u.attrs.length≤9223372036854775807) (hA:∀ p∈u.attrs,X1j p) (B w:World) (I:Im) (hR:RS I a 2 u.attrs.length (X12 X1f u.attrs)) (As:List X7) (hS:Sat B w I As) :
  Cz 126 [.agg (X3l u a c).toArray] w fun v w'=>v=.bool (X70 u)∧Sat B w' I As:=by
 refine calls Tryz.func126 rfl Tryz.ntmps126 rfl (.seq (.region (.boxA (cs:=[_,_,_]) hS (.of rfl) rfl ?_)));intro b1 w hS;refine .q 1 rfl (.nil (.seq (.seq (.region ?_))));refine .val (.fo 0 rfl X2l rfl rfl Qs9 rfl) rfl (.val (.lo rfl hS (k:=0) rfl Qg9 rfl) rfl (.q 2 rfl (.gval rfl rfl (fun hg1=>(by exact .fo 0 rfl X2l rfl rfl Qs9 rfl)) rfl ?_)));refine .gval rfl rfl (fun hg1=>(by exact (.ld (.gd hg1 rfl) hS (k:=0) rfl Qg9 rfl))) rfl ?_;refine .gval rfl rfl (fun hg1=>(.len (.gd hg1 rfl) Qu9)) rfl (.gval rfl rfl (fun hg1=>(.gtr (.gd hg1 rfl) (.of rfl))) rfl (.val (.po rfl rfl rfl) rfl (.q 1 rfl ?_)));refine .gval rfl rfl (fun hg1=>(by exact .fo 1 rfl X2l rfl rfl Qs9 rfl)) rfl ?_;refine .gval rfl rfl (fun hg1=>(by exact (.ld (.gd hg1 rfl) hS (k:=0) rfl Qg9 rfl))) rfl ?_;refine .gval rfl rfl (fun hg1=>(.eqs (.gd hg1 rfl) (.of rfl))) rfl (.val (.po rfl rfl rfl) rfl (.q 1 rfl ?_));refine .gval rfl rfl (fun hg1=>(by exact .fo 1 rfl X2l rfl rfl Qs9 rfl)) rfl ?_;refine .gval rfl rfl (fun hg1=>(by exact (.ld (.gd hg1 rfl) hS (k:=0) rfl Qg9 rfl))) rfl ?_;refine .gval rfl rfl (fun hg1=>(.len (.gd hg1 rfl) Qu9)) rfl (.gval rfl rfl (fun hg1=>(.gtr (.gd hg1 rfl) (.of rfl))) rfl (.val (.po rfl rfl rfl) rfl (.q 1 rfl ?_)));refine .gval rfl rfl (fun hg1=>(by exact .fo 2 rfl X2l rfl rfl Xkc rfl)) rfl ?_;refine .gval rfl rfl (fun hg1=>(by exact (.ld (.gd hg1 rfl) hS (k:=0) rfl Xnq rfl))) rfl ?_;refine .gval rfl rfl (fun hg1=>(.lenSlice (.gd hg1 rfl) Xex)) rfl (.gval rfl rfl (fun hg1=>(.gtr (.gd hg1 rfl) (.of rfl))) rfl (.val (.po rfl rfl rfl) rfl (.q 1 rfl ?_)));refine .gval rfl rfl (fun hg1=>(by exact .fo 0 rfl X2l rfl rfl Qs9 rfl)) rfl ?_;refine .gval rfl rfl (fun hg1=>(by exact (.ld (.gd hg1 rfl) hS (k:=0) rfl Qg9 rfl))) rfl ?_;refine .gcall (T:=fun w=>Sat B w I _) rfl rfl rfl Tryz.func166 rfl (fun hg1=>(X6 (.gd hg1 rfl) (ec9 rfl X0))) rfl (fun hg1=>X8i u.name 33 hn B _ I _ hS) hS ?_;rintro w hS;refine .gval rfl rfl (fun hg1=>(.not (.gd hg1 rfl))) rfl (.val (.po rfl rfl rfl) rfl (.nil ?_));refine .cond rfl (fun hb36=>?_) fun hb36=>?_
 ·refine .seq (.q 1 rfl (.ret (X9 Xu8 rfl ?_)));refine ⟨_,rfl,congrArg Value.bool ?_,hS.drop (k:=0) rfl⟩;rw [Xd6];rcases Y23.1 hb36 with h | h
  ·rw [h]; rfl
  ·rw [show X3s u.name 33=false by simpa using h]; simp
 have hc36:=hb36; simp only [Y6] at hc36;refine .skip (.seq (.seq (.q 1 rfl (.block (.loop (σ:=Nat) (fun i=>[(1,ptr b1 0),(3,I64 (i:Nat))]) (fun i w=>i≤u.attrs.length∧(∀ (j:Nat) y,j<i→u.attrs[j]?=some y→Xnl y=false)∧Sat B w I (blk b1 [S u.name,S u.pw,.slice a u.attrs.length c] 178::As)) (fun i=>u.attrs.length - i) 0 ⟨rfl,rfl,trivial⟩ ⟨Yo _,fun _ _ h=>absurd h (by omega),hS⟩ ?_)))));rintro i w ⟨hi,hno,hS⟩;refine .seq (.seq (.t 1 rfl ?_));refine .val (.fo 2 rfl X2l rfl rfl Xkc rfl) rfl (.val (.lo rfl hS (k:=0) rfl Xnq rfl) rfl (.run 2 rfl ⟨⟨_,Xex⟩,trivial⟩ (.nil ?_)));refine .cond rfl (fun hb41=>?_) fun hb41=>?_
 ·have hc41:=hb41; simp only [Y6] at hc41;refine .skip (.seq (.block (.seq ?_)));obtain ⟨x,hx0⟩:∃ x,u.attrs[i]?=some x:=⟨_,Y4 (by omega)⟩
  obtain ⟨q,hq9,hx⟩:=X5s (cells:=X1f) (s:=2) (fun _=>rfl) hR hx0;subst hq9;unfold X1f at hx;have hfx:=hA x (Yi hx0);have hf1:=hfx.1;have hf2:=hfx.2;unfold maxLen at hf1 hf2;refine .region (.val (.fo 2 rfl X2l rfl rfl Xkc rfl) rfl (.val (.lo rfl hS (k:=0) rfl Xnq rfl) rfl (.q 1 rfl (.val (.ii rfl rfl (by omega) (by omega) Xex X8t) rfl (.val (.ldsI (.of rfl) hS hx Tryz.isAgg101 X8t rfl (fun _ _ h=>h)) rfl (.allocA (cs:=[_,_]) hS Xlx rfl ?_))))));intro b4 w hS;refine .so hS (k:=0) rfl rfl rfl rfl X8t rfl (by simp) ?_;intro w hS;try simp only [Yh,Ye,Y9,Y7,Yg,Yn,Yd] at hS
  refine .nil (.seq (.region ?_));refine .val (.fo 0 rfl Xa2 rfl rfl Qs9 rfl) rfl (.val (.lo rfl hS (k:=0) rfl Qg9 rfl) rfl (.call Tryz.func167 rfl (ec9 rfl X0) rfl (Xh6 x.1 (by omega) B _ I _ hS) ?_));rintro _ w ⟨rfl,hS⟩;refine .q 2 rfl (.gval rfl rfl (fun hg1=>(by exact .fo 1 rfl Xa2 rfl rfl Qs9 rfl)) rfl ?_);refine .gval rfl rfl (fun hg1=>(by exact (.ld (.gd hg1 rfl) hS (k:=0) rfl Qg9 rfl))) rfl ?_;refine .gval rfl rfl (fun hg1=>(.len (.gd hg1 rfl) Qu9)) rfl (.gval rfl rfl (fun hg1=>(.gtr (.gd hg1 rfl) (.of rfl))) rfl (.val (.po rfl rfl rfl) rfl (.q 1 rfl ?_)));refine .gval rfl rfl (fun hg1=>(by exact .fo 1 rfl Xa2 rfl rfl Qs9 rfl)) rfl ?_;refine .gval rfl rfl (fun hg1=>(by exact (.ld (.gd hg1 rfl) hS (k:=0) rfl Qg9 rfl))) rfl ?_;refine .gcall (T:=fun w=>Sat B w I _) rfl rfl rfl Tryz.func166 rfl (fun hg1=>(X6 (.gd hg1 rfl) (ec9 rfl X0))) rfl (fun hg1=>X8i x.2 32 (by omega) B _ I _ hS) hS ?_;rintro w hS;refine .gval rfl rfl (fun hg1=>(.not (.gd hg1 rfl))) rfl (.val (.po rfl rfl rfl) rfl (.nil ?_));refine .cond rfl (fun hb64=>?_) fun hb64=>?_
  ·refine .seq (.q 1 rfl (.ret (X9 Xu8 rfl ?_)));refine ⟨_,rfl,congrArg Value.bool ?_,(hS.drop (k:=0) rfl).drop (k:=0) rfl⟩
   have:u.attrs.any Xnl=true:=Y1w.2 ⟨x,Yi hx0,by rw [Xli]; exact hb64⟩
   rw [Xd6,this]; simp
  have hc64:=hb64; simp only [Y6] at hc64;refine .skip (.region (.run 3 rfl ⟨⟨by omega,by omega⟩,trivial⟩ (.nil ?_)));refine ⟨i+1,⟨rfl,rfl,trivial⟩,⟨by (try dsimp only); omega,fun j y hj hy=>?_,hS.drop (k:=0) rfl⟩,by (try dsimp only); omega⟩;rcases Yr j i with h1 | h1
  ·exact hno j y h1 hy
  ·have e:j=i:=by omega
   subst e;rw [hx0] at hy; cases hy;rw [Xli]; exact hb64
 have hc41:=hb41; simp only [Y6] at hc41;refine .exit (.seq (.q 1 rfl (.ret (X9 Xu8 rfl ?_))));refine ⟨_,rfl,congrArg Value.bool ?_,hS.drop (k:=0) rfl⟩
 have:u.attrs.any Xnl=false:=by
  rw [Y2i];intro y hy;obtain ⟨j,hj⟩:=Yx.1 hy
  have:=(Y5.1 hj).1
  rw [hno j y (by omega) hj]; decide
 obtain ⟨h1,h2⟩:=Y15.1 hb36;rw [Xd6,this,h1,show X3s u.name 33=true by simpa using h2]; rfl
theorem Xci (a:Option Addr) (cap:Nat) (l:List Us) (hln:l.length≤9223372036854775807) (hfit:∀ u∈l,u.fits) (B w:World) (I:Im) (hU:UsrsAt I a l) (As:List X7) (hS:Sat B w I As) :
  Cz 67 [.slice a l.length cap] w fun v w'=>v=.tuple #[I64 ((X50 l 0 []).1:Nat),I64 ((X50 l 0 []).2:Nat)]∧Sat B w' I As:=by
 refine calls Tryz.func67 rfl Tryz.ntmps67 rfl (.seq (.q 2 rfl (.seq (.seq (.q 1 rfl (.block (.loop (σ:=Nat) (fun i=>[(0,.slice a l.length cap),(4,I64 (i:Nat))]) (fun i w=>i≤l.length∧i≤16∧X50 (l.drop i) i (l.take i)=X50 l 0 []∧Sat B w I As) (fun i=>l.length - i) 0 ⟨rfl,rfl,trivial⟩ ⟨Yo _,Yo _,rfl,hS⟩ ?_)))))));rintro i w ⟨hi,hi6,hq,hS⟩;refine .seq (.seq (.region (.run 4 rfl ⟨⟨_,Xfy⟩,trivial⟩ (.nil ?_))));refine .cond rfl (fun hb10=>?_) fun hb10=>?_
 ·have hc10:=hb10; simp only [Y6] at hc10;refine .skip (.seq (.block (.seq (.seq ?_))));obtain ⟨u,hu⟩:∃ u,l[i]?=some u:=⟨_,Y4 (by omega)⟩
  obtain ⟨p,ra,rc,hap,hx,hrc,hRR⟩:=hU i u hu;have hfu:=hfit u (Yi hu);subst hap;unfold X3l at hx;have hstep:X50 (l.drop i) i (l.take i)=if 16≤i then (5,i) else if X70 u=false then (1,i) else if (l.take i).any (fun t=>t.name == u.name) then (7,i) else X50 (l.drop (i+1)) (i+1) (l.take (i+1)):=by
   rw [Y1f (by omega),(Y5.1 hu).2,X50];simp only [Y12,hu,Y1k]
  rw [hq] at hstep;refine .q 2 rfl (.cond rfl (fun hb14=>?_) fun hb14=>?_)
  ·refine .seq (.q 3 rfl (.ret (X1e Qr67 rfl rfl ?_)));have hE:X50 l 0 []=(5,i):=by rw [hstep]; exact if_pos (by have h:=hb14; simp at h; omega)
   rw [hE];exact ⟨_,rfl,rfl,hS⟩
  have hc14:=hb14; simp only [Y6] at hc14;refine .skip (.seq ?_);have hi16:i≠16:=by
   have h:=hb14;simp at h
   omega
  refine .t 2 rfl (.val (.ii rfl rfl (by omega) (by omega) Xfy X5z) rfl (.val (.ldsI (.of rfl) hS hx Xqy X5z rfl (fun _ _ h=>h)) rfl (.call Tryz.func126 rfl (ec9 rfl X0) rfl (Xd2 u ra rc hfu.name hfu.pw hfu.attrs.1 hfu.attrs.2 B _ I hRR _ hS) ?_)));rintro _ w ⟨rfl,hS⟩;refine .q 1 rfl (.nil (.seq (.seq (.q 2 rfl ?_))));refine .cond rfl (fun hb22=>?_) fun hb22=>?_
  ·refine .seq (.q 3 rfl (.ret (X1e Qr67 rfl rfl ?_)));have hE:X50 l 0 []=(1,i):=by rw [hstep]; rw [if_neg (by omega)]; exact if_pos (by simpa using hb22)
   rw [hE];exact ⟨_,rfl,rfl,hS⟩
  have hc22:=hb22; simp only [Y6] at hc22;refine .skip (.seq (.q 1 rfl (.block (.loop (σ:=Nat) (fun k=>[(0,.slice (some p) l.length cap),(4,I64 (i:Nat)),(6,I64 (k:Nat))]) (fun k w=>k≤i∧(∀ (q:Nat) (t:Us),q<k→l[q]?=some t→t.name≠u.name)∧Sat B w I As) (fun k=>i - k) 0 ⟨rfl,rfl,rfl,trivial⟩ ⟨Yo _,fun _ _ h=>absurd h (by omega),hS⟩ ?_))));rintro k w ⟨hk,hids,hS⟩;refine .seq (.seq (.q 3 rfl ?_));refine .cond rfl (fun hb26=>?_) fun hb26=>?_
  ·have hc26:=hb26; simp only [Y6] at hc26;refine .skip (.seq (.block (.seq ?_)));obtain ⟨z,hzk⟩:∃ z,l[k]?=some z:=⟨_,Y4 (by omega)⟩
   obtain ⟨p2,ra2,rc2,e2,hz,_,_⟩:=hU k z hzk;cases e2
   unfold X3l at hz;refine .quiet (by kernel_rfl) (by kernel_rfl) hS (.val (fun w hS=>(.mo rfl)) rfl (.val (fun w hS=>(.mo rfl)) rfl ?_));refine .val (fun w hS=>(by exact .ii rfl rfl (by omega) (by omega) Xfy X5z)) rfl ?_;refine .val (fun w hS=>(by exact .fi 0 rfl X2l rfl rfl Qs9 rfl)) rfl ?_;refine .val (fun w hS=>(by exact (.ldI (.of rfl) hS (At.add hz _) Qg9 rfl))) rfl ?_;refine .val (fun w hS=>(.mo rfl)) rfl (.val (fun w hS=>(.mo rfl)) rfl ?_);refine .val (fun w hS=>(by exact .ii rfl rfl (by omega) (by omega) Xfy X5z)) rfl ?_;refine .val (fun w hS=>(by exact .fi 0 rfl X2l rfl rfl Qs9 rfl)) rfl ?_;refine .val (fun w hS=>(by exact (.ldI (.of rfl) hS (At.add hx _) Qg9 rfl))) rfl ?_;refine .val (fun w hS=>(.eqs (.of rfl) (.of rfl))) rfl (.nil ?_);intro w hS;refine .cond rfl (fun hb39=>?_) fun hb39=>?_
   ·have hc39:=hb39; simp only [Y6] at hc39;refine .seq (.q 3 rfl (.ret (X1e Qr67 rfl rfl ?_)));have hE:X50 l 0 []=(7,i):=by rw [hstep]; rw [if_neg (by omega)]; rw [if_neg (show ¬ X70 u=false by simpa using hb22)]; exact if_pos (Y1w.2 ⟨z,Yi (i:=k) (by rw [Y1y,if_pos (by omega)]; exact hzk),by simpa using hb39⟩)
    rw [hE];exact ⟨_,rfl,rfl,hS⟩
   have hc39:=hb39; simp only [Y6] at hc39;refine .skip (.region (.run 3 rfl ⟨⟨by omega,by omega⟩,trivial⟩ (.nil ?_)));refine ⟨k+1,⟨rfl,rfl,rfl,trivial⟩,⟨by omega,fun q t hq2 hu2=>?_,hS⟩,by omega⟩;rcases Yr q k with h1 | h1
   ·exact hids q t h1 hu2
   ·have e:q=k:=by omega
    subst e;rw [hzk] at hu2; cases hu2;simpa using hb39
  have hc26:=hb26; simp only [Y6] at hc26;refine .exit (.region (.run 3 rfl ⟨⟨by omega,by omega⟩,trivial⟩ (.nil ?_)));refine ⟨i+1,⟨rfl,rfl,trivial⟩,⟨by (try dsimp only); omega,by (try dsimp only); omega,?_,hS⟩,by (try dsimp only); omega⟩;show X50 (l.drop (i+1)) (i+1) (l.take (i+1))=_
  rw [hstep,if_neg (by omega),if_neg (show ¬ X70 u=false by simpa using hb22),if_neg];rw [Y1g,Y2i];intro t ht;obtain ⟨q,hq2⟩:=Yx.1 ht;rw [Y1y] at hq2;split at hq2
  ·rename_i hqi
   have:=hids q t (by omega) hq2
   simpa using this
  ·cases hq2
 have hc10:=hb10; simp only [Y6] at hc10;refine .exit (.seq (.q 2 rfl (.ret (X1e Qr67 rfl rfl ?_))));have e:i=l.length:=by omega
 subst e;have hE:X50 l 0 []=(0,0):=by rw [← hq,Y3a]; rfl
 rw [hE];exact ⟨_,rfl,rfl,hS⟩
theorem Xh7 {ω:Wd} {r:Rec} (h:(mkW ω r).1.2≠0):(mkW ω r).2.l=ω.l∧(mkW ω r).2.now=ω.now∧(mkW ω r).1.2=39∧(mkW ω r).1.1=[]:=by
 unfold mkW at h ⊢;split
 ·exact ⟨rfl,rfl,rfl,rfl⟩
 ·rename_i h1
  rw [if_neg h1] at h;dsimp only at h ⊢
  split
  ·rename_i h2
   exact ⟨by rw [add,if_neg h2],rfl,rfl,rfl⟩
  ·rename_i h2
   rw [if_neg h2] at h;exact absurd rfl h
theorem Xu4:Bld Tryz.prog 83 [(0,28),(28,1),(29,1),(30,1)] [.slice none 0 0,.slice none 0 0,.int .i64 0,.int .i64 0,.int .i64 0,.int .i64 0,.int .i64 0,.int .i64 0,.int .i64 0,.int .i64 0,.int .i64 0,.int .i64 0,.int .i64 0,.int .i64 0,.int .i64 0,.int .i64 0,.int .i64 0,.int .i64 0,.int .i64 0,.int .i64 0,.int .i64 0,.int .i64 0,.int .i64 0,.int .i64 0,.float .f64 0,.float .f64 0,.float .f64 0,.int .i64 0,.pointer none,.slice none 0 0,.int .i64 0]:=X2n X4m Tryz.zeroValue83 (fun w=>by simp [go_sem])
theorem Xtd:Bld Tryz.prog 90 [(0,1),(1,1)] [.int .i64 0,.slice none 0 0]:=X2n X79 Tryz.zeroValue90 (fun w=>by simp [go_sem])
structure Xp where
 xb:Nat
 tb:Nat
 c:Cf
 a:Option Addr
 cap:Nat
 ua:Option Addr
 ucap:Nat
 D:List Int
abbrev XC (x:Xp) (da:Option Addr) (n dc:Nat) (now:Int):List Value:=[.slice x.a x.c.svs.length x.cap,.slice x.ua x.c.us.length x.ucap,I64 (x.c.ps 0),I64 (x.c.ps 1),I64 (x.c.ps 2),I64 (x.c.ps 3),I64 (x.c.ps 4),I64 (x.c.ps 5),I64 (x.c.ps 6),I64 (x.c.ps 7),I64 (x.c.ps 8),I64 (x.c.ps 9),I64 (x.c.ps 10),I64 (x.c.ps 11),I64 (x.c.ps 12),I64 (x.c.ps 13),I64 (x.c.ps 14),I64 (x.c.ps 15),I64 (x.c.ps 16),I64 (x.c.ps 17),I64 (x.c.ps 18),I64 (x.c.ps 19),I64 (x.c.ps 20),I64 x.c.room,F64 x.c.base,F64 x.c.factor,F64 x.c.most,I64 x.c.tries,ptr x.tb 0,.slice da n dc,I64 now]
structure XpOk (I:Im) (x:Xp) (lo:List Sv) (us:List Us) (ps:Nat→Int):Prop where
 cf:CfAt I x.c x.a x.cap x.ua x.ucap
 fits:x.c.fits
 ok:X5w x.c=0
 D:Srt.Ord (kx (ords x.c.svs)) x.c.svs.length x.D
 lo:lo=X2q x.c.svs x.D
 us:us=x.c.us
 ps:ps=x.c.ps
theorem XpOk.mono {I J:Im} {x:Xp} {lo:List Sv} {us:List Us} {ps:Nat→Int} (h:XpOk I x lo us ps) (hl:Le I J):XpOk J x lo us ps:=⟨h.cf.mono hl,h.fits,h.ok,h.D,h.lo,h.us,h.ps⟩
def RwM (J:Im) (la da:Option Addr) (dc:Nat) (ω:Wd):Prop:=RS J la 10 ω.l.length (X12 X5 ω.l)∧RS J da 1 ω.D.length (ω.D.map fun d=>U64 (d:Nat))∧ω.D.length≤dc
theorem RwM.mono {I J:Im} {la da:Option Addr} {dc:Nat} {ω:Wd} (h:RwM I la da dc ω) (hl:Le I J):RwM J la da dc ω:=⟨h.1.mono hl,h.2.1.mono hl,h.2.2⟩
abbrev xlo (x:Xp):List Sv:=X2q x.c.svs x.D
theorem Xcl {c:Cf} (h:X5w c=0):(X3a c.svs).1=0:=by
 unfold X5w at h;split at h
 ·exact h
 ·rename_i h1; exact Decidable.not_not.1 h1
theorem Xq0 {c:Cf} (h:X5w c=0):X6w c.ps=true:=by
 unfold X5w at h;split at h
 ·rename_i h1; exact absurd h h1
 ·split at h
  ·rename_i h1; exact absurd h h1
  ·split at h
   ·cases h
   ·rename_i h1; simpa using h1
theorem Xpj {c:Cf} (h:X5w c=0) (k:Nat) (hk:k<21):0≤(psL c.ps).getD k 0:=by
 rw [Xhx c.ps hk];exact Xj6 (Xq0 h) k hk
theorem Xi2 {I:Im} {a:Option Addr} {l:List Sv} (h:SvsAt I a l):∃ L,SvsIn I a L l:=by
 have key:∀ i:Nat,∃ c,∀ s,l[i]?=some s→∃ p,a=some p∧At I (p.add (i*8)) c∧SvAt I s c:=fun i=>by
  cases e:l[i]? with
  | none=>exact ⟨[],fun s h=>by cases h⟩
  | some s =>
   obtain ⟨p,ra,rc,h1,h2,h3,h4⟩:=h i s e;exact ⟨X16 s ra rc,fun t ht=>by cases ht; exact ⟨p,h1,h2,ra,rc,rfl,h3,h4⟩⟩
 refine ⟨(List.range l.length).map fun i=>Classical.choose (key i),by simp,fun i s hs=>?_⟩;have hi:=(Y5.1 hs).1;obtain ⟨p,h1,h2,h3⟩:=Classical.choose_spec (key i) s hs;refine ⟨p,_,h1,?_,h2,h3⟩;rw [Yy,Y4f hi]; rfl
theorem X4t (s:List UInt8) (hs:s.length≤1000000) (x:Xp) {lo:List Sv} {us:List Us} {ps:Nat→Int} (B w:World) (I:Im) (hX:XpOk I x lo us ps) (As:List X7) (hS:Sat B w I As) :
  Cz 16 [.slice x.a x.c.svs.length x.cap,S s] w fun v w'=>∃ ra rc,v=.tuple #[.agg (X16 (X1r lo s).1 ra rc).toArray,S (X1r lo s).2.1,I64 (((X1r lo s).2.2:Nat):Int)]∧Sat B w' I As:=by
 obtain rfl:=hX.lo;obtain ⟨L,hL⟩:=Xi2 hX.cf.svs;refine (Xgo x.a x.cap L x.c.svs hX.fits.svs hX.fits.ords (Xia (Xcl hX.ok)) s hs B w I hL As hS).mono fun e w' ⟨v,he,J,u,cs,n,e2,hJ,hv,⟨ra,rc,hcs,_,_⟩,hf,hS⟩=>⟨v,he,ra,rc,?_,hS.weaken hJ⟩
 have h:=hf x.D hX.D;rw [Xro] at h;rw [hv,h,hcs]
theorem x_pol {x:Xp} {da:Option Addr} {n dc:Nat} {now:Int} {j:Nat} {v:Value} (h:((psL x.c.ps).map I64)[j]?=some v):((.slice x.a x.c.svs.length x.cap::.slice x.ua x.c.us.length x.ucap::((psL x.c.ps).map I64 ++ [I64 x.c.room,F64 x.c.base,F64 x.c.factor,F64 x.c.most,I64 x.c.tries,ptr x.tb 0,.slice da n dc,I64 now])):List Value)[0+2+j]?=some v:=by
 have h1:=(Y5.1 h).1;rw [show ((.slice x.a x.c.svs.length x.cap::.slice x.ua x.c.us.length x.ucap::((psL x.c.ps).map I64 ++ [I64 x.c.room,F64 x.c.base,F64 x.c.factor,F64 x.c.most,I64 x.c.tries,ptr x.tb 0,.slice da n dc,I64 now])):List Value)=[.slice x.a x.c.svs.length x.cap,.slice x.ua x.c.us.length x.ucap] ++ ((psL x.c.ps).map I64 ++ [I64 x.c.room,F64 x.c.base,F64 x.c.factor,F64 x.c.most,I64 x.c.tries,ptr x.tb 0,.slice da n dc,I64 now]) from rfl,Yw (by simp),Y8,Y8,Yj,show 0+2+j - (0+1+1)=j by omega,Yk h1];exact h
theorem Xg4 (n:Int) (x:Xp) {lo:List Sv} {us:List Us} {ps:Nat→Int} (ω:Wd) (hω:X3n ω) (la:Option Addr) (lc:Nat) (da:Option Addr) (dc:Nat) (B w:World) (I:Im) (hX:XpOk I x lo us ps) (hM:RwM I la da dc ω) (As:List X7) (hS:Sat B w I (blk x.xb (XC x da ω.D.length dc ω.now) 83::blk x.tb [I64 ω.room,.slice la ω.l.length lc] 90::As)) :
  Cz 27 [ptr x.xb 0,I64 n] w fun v w'=>v=.tuple #[]∧Sat B w' I (blk x.xb (XC x da (Xrf ω n).D.length dc (Xrf ω n).now) 83::blk x.tb [I64 (Xrf ω n).room,.slice la (Xrf ω n).l.length lc] 90::As):=by
 obtain rfl:=hX.lo;obtain rfl:=hX.us;obtain rfl:=hX.ps;refine calls Tryz.func27 rfl Tryz.ntmps27 rfl ?_;have hnow:=hω.now;refine .t 3 rfl (.val (.fo 30 rfl X4m rfl rfl Qs3 rfl) rfl (.val (.lo rfl hS (k:=0) rfl Qg3 rfl) rfl (.q 1 rfl (.val (.min2 (.of rfl) (.of rfl)) rfl (.val (.max2 (.of rfl) (.of rfl)) rfl (.run 1 rfl ⟨⟨by omega,by omega⟩,trivial⟩ (.val (.min2 (.of rfl) (.of rfl)) rfl (.q 1 rfl ?_))))))));refine .val (.fo 30 rfl X4m rfl rfl Qs3 rfl) rfl (.s1 hS (k:=0) rfl rfl rfl rfl Qs3 (by simp) ?_);intro w hS;refine .nil (X7n Tryz.results27 ?_);rw [show min (1099511627776:Int) (ω.now+max 0 (min n 1099511627776))=min (ω.now+max 0 (min n 1099511627776)) 1099511627776 from Int.min_comm _ _] at hS;exact ⟨_,rfl,rfl,hS⟩
theorem Xpz {ω:Wd} {r:Rec} (h:X39 r.kind=[]∨ω.D=[]):mkW ω r=(([],39),ω):=by
 unfold mkW mkN X37
 by_cases h1:X39 r.kind=[]
 ·rw [if_pos h1]; rfl
 ·rw [if_neg h1];rcases h with h | h
  ·exact absurd h h1
  ·cases ω with
   | mk room l D now =>
    simp only at h
    subst h; rfl
theorem Xmi {ω:Wd} {r:Rec} {d:Nat} {D':List Nat} (h0:X39 r.kind≠[]) (h:ω.D=d::D'):mkW ω r=((if X5j ω.room ω.l ({ r with name:=(X39 r.kind ++ 45::X49 16 d),made:=ω.now,used:=ω.now }:Rec)≠0 then ([],39) else ((X39 r.kind ++ 45::X49 16 d),0)),{ ω with D:=D',l:=add ω.room ω.l ({ r with name:=(X39 r.kind ++ 45::X49 16 d),made:=ω.now,used:=ω.now }:Rec) }):=by
 by_cases hc:(get ω.l (X39 r.kind ++ 45::X49 16 d)).isSome=true
 ·have e:mkN ω r=(([],7),D'):=by
   unfold mkN X37;rw [if_neg h0,h];exact if_pos hc
  have h2:X5j ω.room ω.l ({ r with name:=(X39 r.kind ++ 45::X49 16 d),made:=ω.now,used:=ω.now }:Rec)≠0:=fun h3=>by
   have h4:=(Xi9 h3).2.1;rcases Tr.get_at ω.l (X39 r.kind ++ 45::X49 16 d) with ⟨_,h5⟩ | ⟨j,t,h5,_⟩
   ·rw [h5] at hc; cases hc
   ·have h6:at0 ω.l (X39 r.kind ++ 45::X49 16 d)=-1:=h4;rw [h5] at h6; omega
  unfold mkW;rw [e,if_pos (show (7:Nat)≠0 by decide),if_pos h2,add,if_neg h2]
 ·have e:mkN ω r=(((X39 r.kind ++ 45::X49 16 d),0),D'):=by
   unfold mkN X37;rw [if_neg h0,h];exact if_neg hc
  unfold mkW mkR;rw [e,if_neg (by simp)]
theorem Xnh {I:Im} {q:Addr} {v:Value} {vs:List Value} {ao:Option Addr} (h:At I q (v::vs)) (hao:0<vs.length→ao=some (q.add 1)):RS I ao 1 vs.length vs:=⟨by simp,fun h0=>⟨q.add 1,hao h0,h.add 1⟩⟩
theorem X6p (r:Rec) (hrp:r.parent.length≤1000000) (x:Xp) {lo:List Sv} {us:List Us} {ps:Nat→Int} (ω:Wd) (hω:X3n ω) (la:Option Addr) (lc:Nat) (da:Option Addr) (dc:Nat) (B w:World) (I:Im) (hX:XpOk I x lo us ps) (hM:RwM I la da dc ω) (As:List X7) (hS:Sat B w I (blk x.xb (XC x da ω.D.length dc ω.now) 83::blk x.tb [I64 ω.room,.slice la ω.l.length lc] 90::As)) :
  Cz 73 [ptr x.xb 0,.agg (X5 r).toArray] w fun v w'=>v=.tuple #[S (mkW ω r).1.1,I64 ((mkW ω r).1.2:Nat)]∧∃ J la2 lc2 da2 dc2,Le I J∧RwM J la2 da2 dc2 (mkW ω r).2∧Sat B w' J (blk x.xb (XC x da2 (mkW ω r).2.D.length dc2 (mkW ω r).2.now) 83::blk x.tb [I64 (mkW ω r).2.room,.slice la2 (mkW ω r).2.l.length lc2] 90::As):=by
 obtain rfl:=hX.lo;obtain rfl:=hX.us;obtain rfl:=hX.ps;refine calls Qf73 rfl Tryz.ntmps73 rfl (.seq (.region (.boxA (cs:=[_,_,_,_,_,_,_,_,_,_]) hS (.of rfl) rfl ?_)));intro b3 w hS;refine .q 2 rfl (.nil (.seq (.seq (.region ?_))));refine .val (.fo 0 rfl Xr rfl rfl Qs3 rfl) rfl (.val (.lo rfl hS (k:=0) rfl Qg3 rfl) rfl (.call Xpc rfl (ec9 rfl X0) rfl (X4e r.kind B _ I _ hS) ?_));rintro _ w ⟨rfl,hS⟩;refine .q 2 rfl (.gm rfl rfl rfl rfl (.gval rfl rfl (fun hg1=>(.nilCheck (.gd hg1 rfl))) rfl ?_));refine .gval rfl rfl (fun hg1=>(by exact .fieldAddr 29 (.gd hg1 rfl) X4m rfl rfl Xb8 rfl)) rfl ?_;refine .gval rfl rfl (fun hg1=>(by exact (.ld (.gd hg1 rfl) hS (k:=1) rfl Xjx rfl))) rfl ?_;refine .gval rfl rfl (fun hg1=>(.lenSlice (.gd hg1 rfl) Xfn)) rfl (.gval rfl rfl (fun hg1=>(.eql (.gd hg1 rfl) (.of rfl))) rfl (.val (.po rfl rfl rfl) rfl (.nil ?_)));refine .cond rfl (fun hb20=>?_) fun hb20=>?_
 ·have hc20:=hb20; simp only [Y6] at hc20;refine .seq (.q 2 rfl (.ret (X1e Tryz.results73 rfl rfl ?_)));rw [Xpz (by have h:=hb20; simp at h; exact h)];exact ⟨_,rfl,rfl,I,la,lc,da,dc,Le.refl _,hM,(((hS.pick 2 rfl).pick 2 rfl).drop (k:=2) rfl)⟩
 have hc20:=hb20; simp only [Y6] at hc20;refine .skip (.seq ?_);have hk0:¬ X39 r.kind=[]:=by
  have h:=hb20;simp at h
  exact h.1
 obtain ⟨d,D',hD9⟩:∃ d D',ω.D=d::D':=by
  cases h:ω.D with
  | nil=>simp [h] at hb20
  | cons d D'=>exact ⟨d,D',rfl⟩
 have hd:=hω.D d (by rw [hD9]; simp);have hDl:ω.D.length=D'.length+1:=by rw [hD9]; rfl
 have hdc:=hM.2.2;obtain ⟨q,hq9,hx⟩:=hM.2.1.2 (by omega);subst hq9;rw [hD9,Y1d] at hx;have hpl:=X9y r.kind;have hdg:=X45 16 d;have hll:=hω.len;refine .drawn (fun w=>∃ R,Sat B w I (blk b3 [I64 r.kind,S r.name,S r.parent,S r.user,S r.service,S r.url,I64 r.made,I64 r.used,I64 r.uses,.bool r.fresh] 54::blk x.xb (XC x (some q) ω.D.length dc ω.now) 83::R)) (fun j=>!([].contains j)) (by kernel_rfl) ?_;replace hS:=hS.drew; generalize w.drew=w at hS ⊢;have hH:∃ R,Sat B w I (blk b3 [I64 r.kind,S r.name,S r.parent,S r.user,S r.service,S r.url,I64 r.made,I64 r.used,I64 r.uses,.bool r.fresh] 54::blk x.xb (XC x (some q) ω.D.length dc ω.now) 83::R):=⟨_,((hS.pick 1 rfl).pick 1 rfl)⟩
 refine .tp (i:=0) rfl (by kernel_rfl) (fun w=>(.fo 0 rfl Xr rfl rfl Qs3 rfl)) rfl (.tk (i:=1) rfl (by kernel_rfl) hH (fun w ⟨R,hS⟩=>((.lo rfl hS (k:=0) rfl Qg3 rfl))) rfl (.tp (i:=2) rfl (by kernel_rfl) (fun w=>(.mo rfl)) rfl (.tp (i:=3) rfl (by kernel_rfl) (fun w=>(.no rfl)) rfl ?_)));refine .tp (i:=4) rfl (by kernel_rfl) (fun w=>(.fo 29 rfl X4m rfl rfl Xb8 rfl)) rfl (.tk (i:=5) rfl (by kernel_rfl) hH (fun w ⟨R,hS⟩=>((.lo rfl hS (k:=1) rfl Xjx rfl))) rfl (.tp (i:=6) rfl (by kernel_rfl) (fun w=>(.ii rfl rfl (by omega) (by omega) Xfn Xha)) rfl (.tk (i:=7) rfl (by kernel_rfl) hH (fun w ⟨R,hS⟩=>((.ldI (.of rfl) hS (At.add hx _) Tryz.isAgg104 rfl))) rfl (.b1 8 (by kernel_rfl) rfl (.call Tryz.func99 rfl (ec9 rfl (ec9 rfl X0)) rfl (Xai r.kind d hd B _ I _ hS) ?_)))));rintro _ w ⟨rfl,hS⟩;rw [if_neg hk0];refine .nil ?_;clear hH;have hH:∃ R,Sat B w I (blk b3 [I64 r.kind,S r.name,S r.parent,S r.user,S r.service,S r.url,I64 r.made,I64 r.used,I64 r.uses,.bool r.fresh] 54::blk x.xb (XC x (some q) ω.D.length dc ω.now) 83::R):=⟨_,((hS.pick 1 rfl).pick 1 rfl)⟩
 refine ⟨fun _ _=>hH,?_⟩;refine .tp (i:=9) rfl (by kernel_rfl) (fun w=>(.mo rfl)) rfl (.tp (i:=10) rfl (by kernel_rfl) (fun w=>(.extract (.of rfl) rfl)) rfl (.tp (i:=11) rfl (by kernel_rfl) (fun w=>(.extract (.of rfl) rfl)) rfl (.tp (i:=12) rfl (by kernel_rfl) (fun w=>(.ao rfl)) rfl (.tp (i:=13) rfl (by kernel_rfl) (fun w=>(.ao rfl)) rfl (.done (by kernel_rfl) (.seq (.t 3 rfl ?_)))))));refine .val (.fo 29 rfl X4m rfl rfl Xb8 rfl) rfl (.val (.lo rfl hS (k:=1) rfl Xjx rfl) rfl (.val (.slcFrom (.of rfl) (.of rfl) (by omega) (by omega) Xfn Xha) rfl ?_));obtain ⟨ao,hao,e38⟩:∃ ao,(0<D'.length→ao=some (q.add 1))∧sliced (some q) (1:Int).toNat ω.D.length dc 1=.slice ao D'.length (dc - 1):=⟨if dc=1 then some q else some (q.add 1),fun h=>if_neg (by omega),by simp [sliced,hDl]⟩
 rw [e38];refine .q 1 rfl (.val (.fo 29 rfl X4m rfl rfl Xb8 rfl) rfl (.s1 hS (k:=1) rfl rfl rfl rfl Xb8 (by simp) ?_));intro w hS;refine .nil (.seq (.t 1 rfl ?_));refine .val (.fo 1 rfl Xr rfl rfl Qs9 rfl) rfl (.s1 hS (k:=0) rfl rfl rfl rfl Qs9 (by simp) ?_);intro w hS;refine .nil (.seq (.t 2 rfl ?_));refine .val (.fo 30 rfl X4m rfl rfl Qs3 rfl) rfl (.val (.lo rfl hS (k:=1) rfl Qg3 rfl) rfl (.val (.fo 6 rfl Xr rfl rfl Qs3 rfl) rfl (.s1 hS (k:=0) rfl rfl rfl rfl Qs3 (by simp) ?_)));intro w hS;refine .nil (.seq (.t 2 rfl ?_));refine .val (.fo 30 rfl X4m rfl rfl Qs3 rfl) rfl (.val (.lo rfl hS (k:=1) rfl Qg3 rfl) rfl (.val (.fo 7 rfl Xr rfl rfl Qs3 rfl) rfl (.s1 hS (k:=0) rfl rfl rfl rfl Qs3 (by simp) ?_)));intro w hS;refine .nil (.seq (.drawn (fun w=>∃ J9 R,Le I J9∧Sat B w J9 (blk b3 [I64 r.kind,S (X39 r.kind ++ 45::X49 16 d),S r.parent,S r.user,S r.service,S r.url,I64 ω.now,I64 ω.now,I64 r.uses,.bool r.fresh] 54::blk x.xb (XC x ao D'.length (dc - 1) ω.now) 83::R)) (fun j=>!([].contains j)) (by kernel_rfl) ?_));replace hS:=hS.drew; generalize w.drew=w at hS ⊢;have hH:∃ J9 R,Le I J9∧Sat B w J9 (blk b3 [I64 r.kind,S (X39 r.kind ++ 45::X49 16 d),S r.parent,S r.user,S r.service,S r.url,I64 ω.now,I64 ω.now,I64 r.uses,.bool r.fresh] 54::blk x.xb (XC x ao D'.length (dc - 1) ω.now) 83::R):=⟨_,_,Le.refl _,((hS.pick 1 rfl).pick 1 rfl)⟩
 refine .tp (i:=0) rfl (by kernel_rfl) (fun w=>(.mo rfl)) rfl (.tp (i:=1) rfl (by kernel_rfl) (fun w=>(.no rfl)) rfl ?_);refine .tp (i:=2) rfl (by kernel_rfl) (fun w=>(.fo 28 rfl X4m rfl rfl Xdv rfl)) rfl (.tk (i:=3) rfl (by kernel_rfl) hH (fun w ⟨J9,R,hL9,hS⟩=>((.lo rfl hS (k:=1) rfl Xds rfl))) rfl (.tk (i:=4) rfl (by kernel_rfl) hH (fun w ⟨J9,R,hL9,hS⟩=>((.ldsW (cs:=[_,_,_,_,_,_,_,_,_,_]) (.of rfl) hS (k:=0) rfl X3e Xu rfl))) rfl (.b1 5 (by kernel_rfl) rfl ?_)));refine .call Tryz.func70 rfl (ec9 rfl (ec9 rfl X0)) rfl (Xbi x.tb ω.room la lc ω.l (by omega) ({ r with name:=(X39 r.kind ++ 45::X49 16 d),made:=ω.now,used:=ω.now }:Rec) (by show (X39 r.kind ++ 45::X49 16 d).length≤_; simp only [Y0,Y8]; omega) (by show r.parent.length≤_; omega) B _ I hM.1 _ (hS.pick 2 rfl)) ?_;rintro _ w ⟨rfl,J,la2,lc2,hJ,hR2,hS⟩;try dsimp only [List.eraseIdx] at hS
 refine .nil ?_;clear hH;have hH:∃ J9 R,Le I J9∧Sat B w J9 (blk b3 [I64 r.kind,S (X39 r.kind ++ 45::X49 16 d),S r.parent,S r.user,S r.service,S r.url,I64 ω.now,I64 ω.now,I64 r.uses,.bool r.fresh] 54::blk x.xb (XC x ao D'.length (dc - 1) ω.now) 83::R):=⟨_,_,hJ,((hS.pick 2 rfl).pick 2 rfl)⟩
 refine ⟨fun _ _=>hH,?_⟩;refine .tp (i:=6) rfl (by kernel_rfl) (fun w=>(.ao rfl)) rfl (.done (by kernel_rfl) (.seq (.seq (.q 2 rfl ?_))));refine .cond rfl (fun hb60=>?_) fun hb60=>?_
 ·have hc60:=hb60; simp only [Y6] at hc60;refine .seq (.q 2 rfl (.ret (X1e Tryz.results73 rfl rfl ?_)));rw [Xmi hk0 hD9,if_pos (show X5j ω.room ω.l ({ r with name:=(X39 r.kind ++ 45::X49 16 d),made:=ω.now,used:=ω.now }:Rec)≠0 by simpa using hb60)];exact ⟨_,rfl,rfl,J,la2,lc2,ao,dc - 1,hJ,⟨hR2,(Xnh hx (by simpa using hao)).mono hJ |> fun h=>by simpa using h,by show D'.length≤dc - 1; omega⟩,((hS.pick 2 rfl).drop (k:=2) rfl)⟩
 have hc60:=hb60; simp only [Y6] at hc60;refine .skip (.seq (.q 3 rfl (.ret (X1e Tryz.results73 rfl rfl ?_))));rw [Xmi hk0 hD9,if_neg (show ¬ X5j ω.room ω.l ({ r with name:=(X39 r.kind ++ 45::X49 16 d),made:=ω.now,used:=ω.now }:Rec)≠0 by simpa using hb60)];exact ⟨_,rfl,rfl,J,la2,lc2,ao,dc - 1,hJ,⟨hR2,(Xnh hx (by simpa using hao)).mono hJ |> fun h=>by simpa using h,by show D'.length≤dc - 1; omega⟩,((hS.pick 2 rfl).drop (k:=2) rfl)⟩
theorem Xgv {ps:List Int} {l:List Rec} {name:List UInt8} {now:Int} (h:get l name=none):X4h ps l name now=false:=by
 rcases Tr.get_at l name with ⟨h1,_⟩ | ⟨j,r,_,_,_,h2⟩
 ·unfold X4h path;rw [h1,X7e l (by omega)]; rfl
 ·rw [h] at h2; cases h2
theorem Xn8 {ps:Nat→Int} {ω:Wd} {name:List UInt8} {kind:Int} (h:(((!(get ω.l name).isSome || !X4h (psL ps) ω.l name ω.now) || ((getD ω.l name).kind != kind)))=true):Xv ps ω name kind=(r0,false):=by
 unfold Xv;rw [if_pos];cases hg:get ω.l name with
 | none=>rw [Xgv hg]; simp
 | some r=>rw [hg] at h; simp at h ⊢; rcases h with h | h <;> simp [h]
theorem Xjq {ps:Nat→Int} {ω:Wd} {name:List UInt8} {kind:Int} (h:(((!(get ω.l name).isSome || !X4h (psL ps) ω.l name ω.now) || ((getD ω.l name).kind != kind)))=false):Xv ps ω name kind=(getD ω.l name,true):=by
 unfold Xv;rw [if_neg];simp at h ⊢
 exact ⟨h.2,h.1.2⟩
theorem Xdq (name:List UInt8) (kind:Int) (x:Xp) {lo:List Sv} {us:List Us} {ps:Nat→Int} (ω:Wd) (hω:X3n ω) (la:Option Addr) (lc:Nat) (da:Option Addr) (dc:Nat) (B w:World) (I:Im) (hX:XpOk I x lo us ps) (hM:RwM I la da dc ω) (As:List X7) (hS:Sat B w I (blk x.xb (XC x da ω.D.length dc ω.now) 83::blk x.tb [I64 ω.room,.slice la ω.l.length lc] 90::As)) :
  Cz 78 [ptr x.xb 0,S name,I64 kind] w fun v w'=>v=.tuple #[.agg (X5 (Xv ps ω name kind).1).toArray,.bool (Xv ps ω name kind).2]∧Sat B w' I (blk x.xb (XC x da ω.D.length dc ω.now) 83::blk x.tb [I64 ω.room,.slice la ω.l.length lc] 90::As):=by
 obtain rfl:=hX.lo;obtain rfl:=hX.us;obtain rfl:=hX.ps;refine calls Tryz.func78 rfl Tryz.ntmps78 rfl (.seq (.region (.allocA (cs:=[_,_,_,_,_,_,_,_,_,_]) hS X5t rfl ?_)));intro b6 w hS;refine .q 1 rfl (.nil (.seq ?_));have hlen:=hω.len;refine .t 2 rfl (.val (.fo 28 rfl X4m rfl rfl Xdv rfl) rfl (.val (.lo rfl hS (k:=1) rfl Xds rfl) rfl (.q 1 rfl (.call Qf71 rfl (ec9 rfl (ec9 rfl X0)) rfl (X5b x.tb ω.room la lc ω.l (by omega) name B _ I hM.1 _ (hS.pick 2 rfl)) ?_))));rintro _ w ⟨rfl,hS⟩;refine .q 3 rfl (.allocA (cs:=[_,_,_,_,_,_,_,_,_,_]) hS X5t rfl ?_);intro b8 w hS;refine .so hS (k:=0) rfl rfl rfl rfl Xu rfl (by simp) ?_;intro w hS;try simp only [Yh,Ye,Y9,Y7,Yg,Yn,Yd] at hS
 refine .q 1 rfl (.nil (.seq (.drawn (fun w=>∃ R,Sat B w I (blk x.xb (XC x da ω.D.length dc ω.now) 83::R)) (fun j=>!([].contains j)) (by kernel_rfl) ?_)));replace hS:=hS.drew; generalize w.drew=w at hS ⊢;have hH:=(hS.pick 3 rfl)
 refine .tp (i:=0) rfl (by kernel_rfl) (fun w=>(.mo rfl)) rfl (.tp (i:=1) rfl (by kernel_rfl) (fun w=>(.no rfl)) rfl ?_);refine .tp (i:=2) rfl (by kernel_rfl) (fun w=>(.fo 28 rfl X4m rfl rfl Xdv rfl)) rfl (.tk (i:=3) rfl (by kernel_rfl) ⟨_,hH⟩ (fun w ⟨R,hS⟩=>(.lo rfl hS (k:=0) rfl Xds rfl)) rfl (.tp (i:=4) rfl (by kernel_rfl) (fun w=>(.mo rfl)) rfl (.tp (i:=5) rfl (by kernel_rfl) (fun w=>(.no rfl)) rfl ?_)));refine .tp (i:=6) rfl (by kernel_rfl) (fun w=>(.fo 0 rfl X4m rfl rfl Xjw rfl)) rfl (.tp (i:=7) rfl (by kernel_rfl) (fun w=>(.fo 2 rfl Xe2 rfl rfl Xka rfl)) rfl (.tk (i:=8) rfl (by kernel_rfl) ⟨_,hH⟩ (fun w ⟨R,hS⟩=>.lds (vs:=(psL x.c.ps).map I64) (.of rfl) hS (k:=0) rfl Xth Xka rfl (fun j v hj=>x_pol hj)) rfl (.tp (i:=9) rfl (by kernel_rfl) (fun w=>(.mo rfl)) rfl (.tp (i:=10) rfl (by kernel_rfl) (fun w=>(.mo rfl)) rfl (.tp (i:=11) rfl (by kernel_rfl) (fun w=>(.no rfl)) rfl ?_)))));refine .tp (i:=12) rfl (by kernel_rfl) (fun w=>(.fo 30 rfl X4m rfl rfl Qs3 rfl)) rfl (.tk (i:=13) rfl (by kernel_rfl) ⟨_,hH⟩ (fun w ⟨R,hS⟩=>(.lo rfl hS (k:=0) rfl Qg3 rfl)) rfl (.b1 14 (by kernel_rfl) rfl (.call Tryz.func132 rfl (ec9 rfl (ec9 rfl (ec9 rfl (ec9 rfl X0)))) rfl (Xb3 x.tb ω.room la lc ω.l (by omega) hω.wf (psL x.c.ps) rfl (Xpj hX.ok) name ω.now hω.now B _ I hM.1 _ (hS.pick 1 rfl)) ?_)));rintro _ w ⟨rfl,hS⟩;refine .nil ?_;clear hH;have hH:=(hS.pick 3 rfl)
 refine ⟨fun _ _=>⟨_,hH⟩,?_⟩;refine .tp (i:=15) rfl (by kernel_rfl) (fun w=>(.ao rfl)) rfl (.done (by kernel_rfl) (.seq (.seq (.t 3 rfl (.gm rfl rfl rfl rfl (.gval rfl rfl (fun hg1=>(.not (.gd hg1 rfl))) rfl (.val (.po rfl rfl rfl) rfl (.q 1 rfl ?_))))))));refine .gval rfl rfl (fun hg1=>(by exact .fo 0 rfl Xr rfl rfl Qs3 rfl)) rfl ?_;refine .gval rfl rfl (fun hg1=>(by exact (.ld (.gd hg1 rfl) hS (k:=1) rfl Qg3 rfl))) rfl ?_;refine .gm rfl rfl rfl rfl (.gval rfl rfl (fun hg1=>(.neq (.gd hg1 rfl) (.gd hg1 rfl))) rfl (.val (.po rfl rfl rfl) rfl (.nil ?_)));refine .cond rfl (fun hb46=>?_) fun hb46=>?_
 ·refine .seq (.region (.val (.build (cs:=[_,_,_,_,_,_,_,_,_,_]) X4 X1v rfl) rfl ?_));refine .so hS (k:=2) rfl rfl rfl rfl Xu rfl (by simp) ?_;intro w hS;try simp only [Yh,Ye,Y9,Y7,Yg,Yn,Yd] at hS
  refine .q 1 rfl (.nil (.ret ?_));refine X1i (b:=_) (cs:=[_,_,_,_,_,_,_,_,_,_]) Tryz.results78 hS (k:=2) rfl X3e Xu rfl rfl rfl ?_;rw [Xn8 hb46];exact ⟨_,rfl,rfl,(((hS.pick 3 rfl).drop (k:=2) rfl).drop (k:=2) rfl)⟩
 refine .skip (.seq (.region ?_));refine .val (.ldsW (cs:=[_,_,_,_,_,_,_,_,_,_]) (.of rfl) hS (k:=1) rfl X3e Xu rfl) rfl (.so hS (k:=2) rfl rfl rfl rfl Xu rfl (by simp) ?_);intro w hS;try simp only [Yh,Ye,Y9,Y7,Yg,Yn,Yd] at hS
 refine .q 1 rfl (.nil (.ret ?_));refine X1i (b:=_) (cs:=[_,_,_,_,_,_,_,_,_,_]) Tryz.results78 hS (k:=2) rfl X3e Xu rfl rfl rfl ?_;rw [Xjq hb46];exact ⟨_,rfl,rfl,(((hS.pick 3 rfl).drop (k:=2) rfl).drop (k:=2) rfl)⟩
theorem Xhb (n:Int) (B w:World) (I:Im) (As:List X7) (hS:Sat B w I As) :
  Cz 69 [I64 n] w fun v w'=>∃ tb,v=ptr tb 0∧Sat B w' I (blk tb [I64 (Xnb n),.slice none 0 0] 90::As):=by
 refine calls Tryz.func69 rfl Tryz.ntmps69 rfl (.seq (.q 1 rfl (.seq (.t 1 rfl (.val (.min2 (.of rfl) (.of rfl)) rfl (.val (.max2 (.of rfl) (.of rfl)) rfl (.val (.build (cs:=[_,_]) (pc9 rfl X4) Xtd rfl) rfl (.boxA (cs:=[_,_]) hS (.of rfl) rfl ?_))))))));intro b7 w hS;refine .q 1 rfl (.nil (.ret (X9 Tryz.results69 rfl ?_)));exact ⟨_,rfl,b7,rfl,hS⟩
theorem cf_pol {c:Cf} {a ua:Option Addr} {cap ucap:Nat} {j:Nat} {v:Value} (h:((psL c.ps).map I64)[j]?=some v):(Xl c a cap ua ucap)[0+2+j]?=some v:=by
 have h1:=(Y5.1 h).1;rw [show Xl c a cap ua ucap=[.slice a c.svs.length cap,.slice ua c.us.length ucap] ++ ((psL c.ps).map I64 ++ [I64 c.room,F64 c.base,F64 c.factor,F64 c.most,I64 c.tries]) from rfl,Yw (by simp),Y8,Y8,Yj,show 0+2+j - (0+1+1)=j by omega,Yk h1];exact h
set_option maxRecDepth 20000 in
theorem X9i (c:Cf) (hc:c.fits) (a:Option Addr) (cap:Nat) (ua:Option Addr) (ucap:Nat) (B w:World) (I:Im) (hC:CfAt I c a cap ua ucap) (As:List X7) (hS:Sat B w I As) :
  Cz 25 [.agg (Xl c a cap ua ucap).toArray] w fun v w'=>(X5w c≠0∧v=.tuple #[.pointer none,I64 (X5w c:Nat)]∧Sat B w' I As)∨(X5w c=0∧∃ xb tb,v=.tuple #[ptr xb 0,I64 0]∧Sat B w' I (blk xb [.slice a c.svs.length cap,.slice ua c.us.length ucap,I64 (c.ps 0),I64 (c.ps 1),I64 (c.ps 2),I64 (c.ps 3),I64 (c.ps 4),I64 (c.ps 5),I64 (c.ps 6),I64 (c.ps 7),I64 (c.ps 8),I64 (c.ps 9),I64 (c.ps 10),I64 (c.ps 11),I64 (c.ps 12),I64 (c.ps 13),I64 (c.ps 14),I64 (c.ps 15),I64 (c.ps 16),I64 (c.ps 17),I64 (c.ps 18),I64 (c.ps 19),I64 (c.ps 20),I64 c.room,F64 c.base,F64 c.factor,F64 c.most,I64 c.tries,ptr tb 0,.slice none 0 0,I64 0] 83::blk tb [I64 (Xnb c.room),.slice none 0 0] 90::As)):=by
 refine calls Tryz.func25 rfl Tryz.ntmps25 rfl (.seq (.region (.boxA (cs:=[.slice a c.svs.length cap,.slice ua c.us.length ucap,I64 (c.ps 0),I64 (c.ps 1),I64 (c.ps 2),I64 (c.ps 3),I64 (c.ps 4),I64 (c.ps 5),I64 (c.ps 6),I64 (c.ps 7),I64 (c.ps 8),I64 (c.ps 9),I64 (c.ps 10),I64 (c.ps 11),I64 (c.ps 12),I64 (c.ps 13),I64 (c.ps 14),I64 (c.ps 15),I64 (c.ps 16),I64 (c.ps 17),I64 (c.ps 18),I64 (c.ps 19),I64 (c.ps 20),I64 c.room,F64 c.base,F64 c.factor,F64 c.most,I64 c.tries]) hS (.of rfl) rfl ?_)));intro b1 w hS;refine .q 2 rfl (.nil (.seq (.region ?_)));refine .val (.fo 0 rfl Xe2 rfl rfl Qs22 rfl) rfl (.val (.lo rfl hS (k:=0) rfl Qg22 rfl) rfl (.call Tryz.func66 rfl (ec9 rfl X0) rfl (Xko a cap c.svs hc.svs (fun s hs=>⟨(hc.sfit s hs).1,(hc.sfit s hs).2.1⟩) B _ I hC.svs _ hS) ?_));rintro _ w ⟨rfl,hS⟩;refine .q 5 rfl (.nil (.seq (.seq (.q 2 rfl ?_))));refine .cond rfl (fun hb16=>?_) fun hb16=>?_
 ·refine .seq (.q 3 rfl (.ret (X1e Qr25 rfl rfl ?_)));have hE:X5w c=(X3a c.svs).1:=by rw [X5w,if_pos (by simpa using hb16)]
  exact ⟨_,rfl,.inl ⟨by rw [hE]; simpa using hb16,by rw [hE]; rfl,(hS.drop (k:=0) rfl)⟩⟩
 refine .skip (.seq (.region ?_));refine .val (.fo 1 rfl Xe2 rfl rfl Tryz.sizeOf23 rfl) rfl (.val (.lo rfl hS (k:=0) rfl Tryz.isAgg23 rfl) rfl (.call Tryz.func67 rfl (ec9 rfl X0) rfl (Xci ua ucap c.us hC.un hC.ufit B _ I hC.us _ hS) ?_));rintro _ w ⟨rfl,hS⟩;refine .q 5 rfl (.nil (.seq (.seq (.q 2 rfl ?_))));refine .cond rfl (fun hb25=>?_) fun hb25=>?_
 ·refine .seq (.q 3 rfl (.ret (X1e Qr25 rfl rfl ?_)));have hE:X5w c=(X50 c.us 0 []).1:=by rw [X5w,if_neg (by simpa using hb16),if_pos (by simpa using hb25)]
  exact ⟨_,rfl,.inl ⟨by rw [hE]; simpa using hb25,by rw [hE]; rfl,(hS.drop (k:=0) rfl)⟩⟩
 refine .skip (.seq (.region ?_));refine .val (.fo 2 rfl Xe2 rfl rfl Xka rfl) rfl (.val (.lds (vs:=(psL c.ps).map I64) (.of rfl) hS (k:=0) rfl Xth Xka rfl (fun j v hj=>cf_pol hj)) rfl (.call Tryz.func68 rfl (ec9 rfl X0) rfl (Xcf c.ps B _ I _ hS) ?_));rintro _ w ⟨rfl,hS⟩;refine .q 1 rfl (.nil (.seq (.seq (.q 2 rfl ?_))));refine .cond rfl (fun hb31=>?_) fun hb31=>?_
 ·refine .seq (.q 2 rfl (.ret (X1e Qr25 rfl rfl ?_)));have hE:X5w c=1:=by rw [X5w,if_neg (by simpa using hb16),if_neg (by simpa using hb25),if_pos (by simpa using hb31)]
  exact ⟨_,rfl,.inl ⟨by rw [hE]; decide,by rw [hE]; rfl,(hS.drop (k:=0) rfl)⟩⟩
 refine .skip (.seq (.drawn (fun w=>∃ R,Sat B w I (blk b1 [.slice a c.svs.length cap,.slice ua c.us.length ucap,I64 (c.ps 0),I64 (c.ps 1),I64 (c.ps 2),I64 (c.ps 3),I64 (c.ps 4),I64 (c.ps 5),I64 (c.ps 6),I64 (c.ps 7),I64 (c.ps 8),I64 (c.ps 9),I64 (c.ps 10),I64 (c.ps 11),I64 (c.ps 12),I64 (c.ps 13),I64 (c.ps 14),I64 (c.ps 15),I64 (c.ps 16),I64 (c.ps 17),I64 (c.ps 18),I64 (c.ps 19),I64 (c.ps 20),I64 c.room,F64 c.base,F64 c.factor,F64 c.most,I64 c.tries] 29::R)) (fun j=>!([].contains j)) (by kernel_rfl) ?_));replace hS:=hS.drew; generalize w.drew=w at hS ⊢;have hH:=(hS.pick 0 rfl)
 refine .tk (i:=0) rfl (by kernel_rfl) ⟨_,hH⟩ (fun w ⟨R,hS⟩=>((.ldsW (cs:=[_,_,_,_,_,_,_,_,_,_,_,_,_,_,_,_,_,_,_,_,_,_,_,_,_,_,_,_]) (.of rfl) hS (k:=0) rfl Xrc Xjw rfl))) rfl (.tp (i:=1) rfl (by kernel_rfl) (fun w=>(.fo 23 rfl Xe2 rfl rfl Qs3 rfl)) rfl (.tk (i:=2) rfl (by kernel_rfl) ⟨_,hH⟩ (fun w ⟨R,hS⟩=>(.lo rfl hS (k:=0) rfl Qg3 rfl)) rfl (.b1 3 (by kernel_rfl) rfl (.call Tryz.func69 rfl (ec9 rfl X0) rfl (Xhb c.room B _ I _ hS) ?_))));rintro _ w ⟨tb,rfl,hS⟩;refine .nil ?_;clear hH;have hH:=(hS.pick 1 rfl)
 refine ⟨fun _ _=>⟨_,hH⟩,?_⟩;refine .tp (i:=4) rfl (by kernel_rfl) (fun w=>(.build (cs:=[_,_,_,_,_,_,_,_,_,_,_,_,_,_,_,_,_,_,_,_,_,_,_,_,_,_,_,_,_,_,_]) (pc9 rfl (pc9 rfl X4)) Xu4 rfl)) rfl (.b1 5 (by kernel_rfl) rfl (.boxA (cs:=[_,_,_,_,_,_,_,_,_,_,_,_,_,_,_,_,_,_,_,_,_,_,_,_,_,_,_,_,_,_,_]) hS (.of rfl) rfl ?_));intro b37 w hS;refine .nil ?_;clear hH;have hH:=(hS.pick 2 rfl)
 refine ⟨fun _ _=>⟨_,hH⟩,?_⟩;refine .tp (i:=6) rfl (by kernel_rfl) (fun w=>(.ao rfl)) rfl (.tp (i:=7) rfl (by kernel_rfl) (fun w=>(.ao rfl)) rfl (.done (by kernel_rfl) (.ret (X1e Qr25 rfl rfl ?_))));have hE:X5w c=0:=by rw [X5w,if_neg (by simpa using hb16),if_neg (by simpa using hb25),if_neg (by simpa using hb31)]
 exact ⟨_,rfl,.inr ⟨hE,b37,tb,rfl,(((hS.pick 1 rfl).pick 1 rfl).drop (k:=2) rfl)⟩⟩
end Go.Proofs.YtfibbpgikjggfaaGreatDoor
namespace Gk
open Go
section
variable {P:Program} {n:Nat} {K:X36} {L:Env} {w:World} {ops:Array Oper} {rest:List Oper}
theorem WL.ecalls {d j t:Nat} {c:List (Bool×Bool)} {b want:Bool} {ty:TypeId} {pos:String} {af:Array Edge} (T:Value→World→Prop) {v0:Value} {f:FuncId} {fn:Func} {xs:List Operand} {ts:Array TypeId} {vs:List Value}
  (hj:(ops[j]?).bind (·.dst)=some t) (ht:Nat.blt t n=true) (hb:look L t=some (gds c (.bool b))) (hf:P.funcs[f]?=some fn) (hc:Xh fn=true)
  (hx:(∀ p∈c ++ [(b,want)],p.1=p.2)→∀ a,Holds n L a→xs.map a.eval=vs) (hd:Nat.blt d n=true)
  (hcall:(∀ p∈c ++ [(b,want)],p.1=p.2)→Calls P f vs.toArray w (Ret T)) (h0:(¬ ∀ p∈c ++ [(b,want)],p.1=p.2)→T v0 w)
  (h:∀ v w',T v w'→WL P n ops K rest ((d,gds (c ++ [(b,want)]) v)::L) w'):WL P n ops K (⟨some d,.call ⟨.value (.func f),xs.toArray,ts⟩,ty,pos,af,some (j,want)⟩::rest) L w:=by
 intro a ha;refine wpList_step fun K' hK=>?_
 have hlt:t<a.tmps.size:=by have:=Y22 ht; rw [ha.size]; omega
 have hv:=ha.get t _ hb;have hy:yielded ops a.tmps j=match gds c (.bool b) with | .bool b=>some b | _=>none:=by
  obtain ⟨o,ho,hdd⟩:=Y2b.1 hj;rw [Y14,Y1a hlt] at hv;simp only [Y2o] at hv
  have h2:a.tmps[t]?=some (gds c (.bool b)):=by rw [Y1a hlt,hv]
  simp only [yielded,ho,hdd,Y2s,h2]
  generalize gds c (.bool b)=g;cases g <;> rfl
 by_cases e:∀ p∈c ++ [(b,want)],p.1=p.2
 ·have ec:∀ p∈c,p.1=p.2:=fun p hp=>e p (by simp [hp])
  have eb:b=want:=e (b,want) (by simp);rw [X1t ec] at hy;rw [if_pos (by simp [Region.wanted,hy,eb])];have he:(execOp a.eval (⟨some d,.call ⟨.value (.func f),xs.toArray,ts⟩,ty,pos,af,some (j,want)⟩:Oper)).run P w=.ok (.enter f vs.toArray) w:=by
   unfold Xh at hc;simp only [Yq] at hc
   obtain ⟨h1,h2⟩:=hc;have h1' : ¬ fn.name = "runtime.NumGoroutine" := by simpa using h1
   have h2':¬ fn.body=none:=by intro e; rw [e] at h2; cases h2
   have hv:=hx e a ha;simp [execOp,resolve,Act.eval,Deferred.ofValue,invoke,callFunc,program,Sem.run,hf,h1',h2',← hv]
  unfold Oper.wp;rw [he];refine (hcall e).mono fun e' w'' hq=>?_
  obtain ⟨v,rfl,hT⟩:=hq;have hput:=h v w'' hT _ (ha.put hd (gds (c ++ [(b,want)]) v));rw [X1t e] at hput;exact hK _ _ hput
 ·have hw:Region.wanted (⟨some d,.call ⟨.value (.func f),xs.toArray,ts⟩,ty,pos,af,some (j,want)⟩:Oper) (yielded ops a.tmps)=false:=by
   by_cases ec:∀ p∈c,p.1=p.2
   ·rw [X1t ec] at hy;have eb:¬ b=want:=fun eb=>e fun p hp=>by
     rcases Y16.1 hp with hp | hp
     ·exact ec p hp
     ·simp at hp; subst hp; exact eb
    simp [Region.wanted,hy,eb]
   ·rw [X2z ec] at hy;simp [Region.wanted,hy,undef]
  rw [if_neg (by simp [hw])];have hput:=h v0 w (h0 e) _ (ha.put hd (gds (c ++ [(b,want)]) v0));rw [X2z e] at hput;exact hK _ _ hput
theorem WL.ecall {d j t:Nat} {b want:Bool} {ty:TypeId} {pos:String} {af:Array Edge} (T:Value→World→Prop) {v0:Value} {f:FuncId} {fn:Func} {xs:List Operand} {ts:Array TypeId} {vs:List Value}
  (hj:(ops[j]?).bind (·.dst)=some t) (ht:Nat.blt t n=true) (hb:look L t=some (.bool b)) (hf:P.funcs[f]?=some fn) (hc:Xh fn=true)
  (hx:b=want→∀ a,Holds n L a→xs.map a.eval=vs) (hd:Nat.blt d n=true)
  (hcall:b=want→Calls P f vs.toArray w (Ret T)) (h0:¬ b=want→T v0 w)
  (h:∀ v w',T v w'→WL P n ops K rest ((d,gd b want v)::L) w'):WL P n ops K (⟨some d,.call ⟨.value (.func f),xs.toArray,ts⟩,ty,pos,af,some (j,want)⟩::rest) L w :=
 WL.ecalls (c:=[]) T hj ht hb hf hc (fun e=>hx (e (b,want) (by simp))) hd (fun e=>hcall (e (b,want) (by simp))) (fun hn=>h0 fun eb=>hn fun p hp=>by simp at hp; subst hp; exact eb) h
end
end Gk
namespace Go.Proofs.YtfibbpgikjggfaaGreatDoor
open Gk Ul Pc Tk Tr
def SlG (B:World) (I:Im) (size n:Nat) (xs:List Value) (G:Prop) (As:List X7) (v:Value) (w:World):Prop:=∃ J ra rc,v=.slice ra n rc∧Le I J∧(G→n≤rc∧RS J ra size n xs)∧Sat B w J As
theorem Xmf:∀ (l:List Rec) (ω:Wd),(l.foldl X42 ω).D=ω.D
 | [],_=>rfl
 | r::l,ω=>Xmf l (X42 ω r)
theorem Xt3 (c:Cf) (l:List Rec):(X5x c l).D=[]:=Xmf l (w0 c)
theorem Xlt {l:List Rec} {n:List UInt8} {r:Rec} (h:get l n=some r):getD l n=r:=by rw [getD,h]; rfl
end Go.Proofs.YtfibbpgikjggfaaGreatDoor
namespace Ul
open Pc Gk
theorem Xqi {r t:List UInt8} {v:UInt8} (h:told r=some v):told (r ++ t)=some v:=by
 match r,h with
 | a::b::_,h=>exact h
 | [_],h=>simp [told] at h
 | [],h=>simp [told] at h
theorem Xph:∀ (n:Nat) (a b a':List UInt8),a.length≤n→X3x a=some a'→X3x (a ++ b)=(X3x b).map (a' ++ ·):=by
 intro n
 induction n with
 | zero =>
  intro a b a' hn h
  have:=Yl (Nat.le_zero.1 hn)
  subst this;rw [X5g] at h; injection h with h; subst h
  rw [Ye];cases hb:X3x b <;> simp
 | succ n ih =>
  intro a b a' hn h;cases a with
  | nil =>
   rw [X5g] at h; injection h with h; subst h
   cases hb:X3x b <;> simp [hb]
  | cons c r =>
   simp only [Y8] at hn
   rw [X1n] at h;rw [Ys,X1n]
   by_cases hc:c=37
   ·rw [if_pos hc] at h ⊢;cases ht:told r with
    | none=>rw [ht] at h; cases h
    | some v =>
     rw [ht] at h;rw [Xqi ht];simp only at h ⊢
     have hl:=X3g ht;obtain ⟨u,hu,rfl⟩:=Y1n.1 h;rw [Y25 hl,ih (r.drop 2) b u (by rw [Yp]; omega) hu,Y57]
     congr 1
     funext x
     simp
   ·rw [if_neg hc] at h ⊢;obtain ⟨u,hu,rfl⟩:=Y1n.1 h;rw [ih r b u (by omega) hu,Y57];rfl
def Fix (s:List UInt8):Prop:=X3x s=some s
theorem Fix.nil:Fix []:=X5g
theorem Fix.app {a b:List UInt8} (h:Fix a) (k:Fix b):Fix (a ++ b):=by
 unfold Fix at *;rw [Xph a.length a b a (Yu _) h,k]; rfl
theorem Fix.cons {c:UInt8} {b:List UInt8} (h:c≠37) (k:Fix b):Fix (c::b):=by
 unfold Fix at *;rw [X1n,if_neg h,k]; rfl
def standQ (c:UInt8):Bool:=X2x c && c != 63
structure Good (u:U):Prop where
 sch:u.sch=http∨u.sch=https
 host:hostOk u.host=true∧low u.host=u.host
 port:u.port≤65535∧u.port≠Xts u.sch
 path:X8f u.path=u.path∧Fix u.path∧u.path.all standQ=true∧u.path.head?=some 47
 query:Fix u.query∧u.query.all X2x=true∧(u.ask=false→u.query=[])
end Ul
namespace Go.Proofs.YtfibbpgikjggfaaGreatDoor
open Gk Ul Pc Tk Tr
theorem Xpa (p q:Cl) (w:World):(Op.equalIn 10000 48 (.agg (X6h p).toArray) (.agg (X6h q).toArray)).run Tryz.prog w=.ok (decide (p=q)) w:=by
 have hS:Tryz.prog.underlying 48=some (.struct (Tryz.prog.fieldsOf 48)):=by kernel_rfl
 have hp:Tryz.prog.stoodInHeld 48=false:=by kernel_rfl
 have us:=Qu9;have as9:=Qg9;rw [show (10000:Nat)=9999+1 from rfl,run_equalIn_agg w 9999 48 _ _ hS hp];simp only [Program.fieldsOf,Xdw]
 obtain ⟨a,b,e⟩:=p;obtain ⟨c,d,f⟩:=q;unfold X6h
 go_simp
 repeat' split
 all_goals simp_all
theorem Ex.neCl {n:Nat} {L:Env} {w:World} {d:Option Nat} {ty t':TypeId} {pos:String} {af:Array Edge} {g:Option (Nat×Bool)} {x y:Operand} {r s:Cl} (hx:Ev n L x (.agg (X6h r).toArray)) (hy:Ev n L y (.agg (X6h s).toArray)):Ex Tryz.prog n L w ⟨d,.binOp .neq 48 x y t',ty,pos,af,g⟩ (.bool (!decide (r=s))) w :=
 X1a hx hy (fun p q=>run_eqGuard_agg w _ _ _ _ _ _ (by kernel_rfl)) (by rw [run_neq_struct,Xpa]; rfl)
theorem Xoh {lo:List Sv} {id:Int} {s:List UInt8} (h:(X4r lo id s).2=true):(X4r lo id s).1=(Ul.nU s).1∧(Ul.nU s).2=0∧(Ul.nU s).1.length≤100∧Pat.hasPre (Ul.nU s).1 X7g=true:=by
 unfold X4r at h ⊢;split at h
 ·cases h
 ·rename_i u hu
  split at h
  ·cases h
  ·rename_i h2
   rw [if_neg h2];simp only [Y1j,bne_iff_ne,ne_eq,decide_eq_true_eq,Y33,not_or,Decidable.not_not,Bool.not_eq_false] at h2
   exact ⟨rfl,by omega,by omega,h2.1.2⟩
theorem Xrj {l:List Rec} (hw:Wf l) {r:Rec} (hr:r∈l):get l r.name=some r:=by
 obtain ⟨i,hi⟩:=Yx.1 hr;exact hw.get_ hi
theorem iou_up {l:List Rec} (hw:Wf l) {i:Rec} (hi:i∈l) (hk:i.kind=5):i.parent≠[]∧at0 l i.parent<at0 l i.name∧0≤at0 l i.parent∧∃ p∈l,p.name=i.parent∧p.kind=4:=by
 have hr:=hw.right i hi;unfold Xm at hr;simp only [Yq] at hr
 obtain ⟨_,hp⟩:=hr;rw [hk] at hp;unfold X2u at hp
 by_cases e:i.parent=[]
 ·rw [if_pos e] at hp; exact absurd hp (by decide)
 rw [if_neg e] at hp;obtain ⟨q,hq⟩:=Yx.1 hi;obtain ⟨h1,h2⟩:=hw.up q i hq;have h3:=hw.at_ hq;have h4:0≤at0 l i.parent:=h1.resolve_left e;refine ⟨e,by omega,h4,?_⟩;rcases Tr.get_at l i.parent with ⟨g1,_⟩ | ⟨j,p,g1,g2,g3,g4⟩
 ·omega
 have hpm:=Yi g2;have hpr:=hw.right p hpm;unfold Xm at hpr;simp only [Yq] at hpr
 have hT:=hpr.1.2;unfold isT at hT;rw [g3] at hT;cases hc:Xz i.parent with
 | none=>rw [hc] at hp; cases hp
 | some x =>
  obtain ⟨of,d⟩:=x;rw [hc] at hp hT;have h4:(of:Int)=4:=by simpa [X6r] using hp
  refine ⟨p,hpm,g3,?_⟩
  have:=eq_of_beq hT
  omega
theorem Xtx {l:List Rec} (hw:Wf l) {i:Rec} (hi:i∈l) (hk:i.kind=5):Xbb l i.parent=true:=by
 obtain ⟨h1,_⟩:=iou_up hw hi hk;refine Y1w.2 ⟨i.name,?_,?_⟩
 ·exact Y28.2 ⟨i,Y3w.2 ⟨hi,by simp [h1]⟩,rfl⟩
 ·rw [Xlt (Xrj hw hi),hk]; rfl
theorem Xmt {lo:List Sv} {ω:Wd} {t cb:List UInt8}:(Xt lo ω t cb).2.D.length≤ω.D.length:=by
 unfold Xt
 repeat' split
 all_goals first | exact Yu _ | exact Xqk | exact Y21 Xqk Xqk
theorem Xm7 {ω:Wd} {iou:List UInt8} {n:Int}:(Xo ω iou n).2.D=ω.D:=by
 unfold Xo
 repeat' split
 all_goals rfl
theorem Xo8 {lo:List Sv} {ps:Nat→Int} {ω:Wd} {pgt target:List UInt8}:(Xn lo ps ω pgt target).2.D.length≤ω.D.length:=by
 unfold Xn
 repeat' split
 all_goals first | exact Yu _ | exact Xqk
theorem Xo0 {names:List (List UInt8)} (h:∀ t∈names,t.length≤60) {a b:List UInt8} (ha:a.length≤23) (hb:b.length≤23):∀ t∈names ++ [a,b],t.length≤60:=by
 intro t ht;simp only [Y16,Y18,List.not_mem_nil,or_false] at ht
 rcases ht with ht | rfl | rfl
 ·exact h t ht
 ·omega
 ·omega
end Go.Proofs.YtfibbpgikjggfaaGreatDoor
