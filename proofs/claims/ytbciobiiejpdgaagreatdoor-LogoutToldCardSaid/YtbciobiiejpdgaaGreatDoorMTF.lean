/- Part 6 of what the proof stands on: W21o, W21p, W21q, W21s, W21t, W18x, W21u, W21w, Op21, W20a, W20i, Uid, Fm, Xm, GkY, W23a, W23b, Ms, GkW. -/
import Derived.Test.YtbciobiiejpdgaaGreatDoorMTE
import Derived.KernelRfl
import Derived.Laws.StructEq
import Derived.OpenShut
import Derived.Lib.Replace
import Derived.Lib.CountLaws
import Derived.Lib.ItoaNum
import Derived.Lib.LazyBuf
set_option linter.unusedVariables false
set_option linter.unusedSimpArgs false
namespace Go.Proofs.YtbciobiiejpdgaaGreatDoor
open Gk Ul Pc Tk Tr
def psL (p:Nat→Int):List Int:=[p 0,p 1,p 2,p 3,p 4,p 5,p 6,p 7,p 8,p 9,p 10,p 11,p 12,p 13,p 14,p 15,p 16,p 17,p 18,p 19,p 20]
structure Wp where
 wb:Nat
 tb:Nat
 mb:Nat
 ub:Nat
 pr:Addr
 lo:List Sv
 us:List Us
 ps:Nat→Int
structure Wd where
 room:Int
 l:List Rec
 D:List Nat
 now:Int
def wdC (p:Wp) (ω:Wd):List Value:=ptr p.tb 0::ptr p.mb 0::.pointer (some p.pr)::ptr p.ub 0::((psL p.ps).map I64 ++ [I64 ω.now])
def wdT (p:Wp) (ω:Wd):Option Addr×Nat×Option Addr×Nat→List X6:=fun ⟨a,c,ma,mc⟩=>[blk p.wb (wdC p ω) 81,blk p.tb [I64 ω.room,.slice a ω.l.length c] 155,Vec 75 10 (.slice a ω.l.length c) ω.l.length (Xq ω.l),blk p.mb [.slice ma ω.D.length mc] 203,Xl6 62 (.slice ma ω.D.length mc) (ω.D.map fun d=>U64 (d:Nat))]
def wdA (p:Wp) (ω:Wd):X6:=Box (wdT p ω)
structure WpOk (I:Im) (p:Wp):Prop where
 reg:RegAt I p.pr p.lo
 tab:TabAt I p.ub p.us
 lo:p.lo.length≤100000
 rel:∀ s∈p.lo,s.rel.length≤1000000
 fit:∀ u∈p.us,u.fits
 att:∀ u∈p.us,u.attrs.length≤8
 known:Known I
 pre:PreAt I
theorem RegAt.mono {I J:Im} {pr:Addr} {lo:List Sv} (h:RegAt I pr lo) (hl:Le I J):RegAt J pr lo:=by
 obtain ⟨a,c,E,h1,h2,h3⟩:=h;exact ⟨a,c,E,h1.mono hl,h2,h3.mono hl⟩
theorem WpOk.mono {I J:Im} {p:Wp} (h:WpOk I p) (hl:Le I J):WpOk J p:=⟨h.reg.mono hl,h.tab.mono hl,h.lo,h.rel,h.fit,h.att,h.known.mono hl,h.pre.mono hl⟩
structure Xe3 (ω:Wd):Prop where
 len:ω.l.length≤64
 wf:Wf ω.l
 D:∀ d∈ω.D,d<18446744073709551616
 now:0≤ω.now∧ω.now≤1099511627776
 room:ω.room≤64
def Xuj (n:Int):Bool:=decide (n<0) || decide (1099511627776<n)
def iC (n:Int):List Value:=[I64 n]
def Xth (p:Nat→Int):Bool:=(!((psL p).take 7).any Xuj && !(((psL p).drop 7).take 7).any Xuj) && !((psL p).drop 14).any Xuj
theorem Xc4 {B w:World} {I:Im} {As:List X6} {k b E:Nat} {cs:List Value} {o:Nat} {l:List Int} (hS:Sat B w I As) (hk:As[k]?=some (blk b cs E)) (h:∀ (i:Nat) n,l[i]?=some n→cs[o+i]?=some (I64 n)):X6q w iC 1 (some (ad b o)) l:=fun i n hn=>by
 refine ⟨_,rfl,fun j v hj=>?_⟩;have hb:=hS.block (b:=b) (o:=Xl cs E) hk
 match j,hj with
 | 0,hj =>
  cases hj
  rw [X12,X12];refine X16 hb ?_;rw [Y1c];exact h i n hn
 | j+1,hj=>simp [iC] at hj
theorem Xat (a:Option Addr) (cap:Nat) (l:List (Int)) (hln:l.length≤9223372036854775807) (pr:Int→Bool) (fid:FuncId) (fn:Func) (hfn:Tryz.prog.funcs[fid]?=some fn) (hcal:Xj fn=true) (capv:List Value) (B w:World) (I:Im) (As:List X6) (hE:∀ w,Sat B w I As→X6q w iC 1 a l) (hf:∀ (r:Int) (hr:r∈l) w,Sat B w I As→Calls Tryz.prog fid ([I64 r] ++ capv).toArray w (Ret fun v w'=>v=.bool (pr r)∧Sat B w' I As)) (hS:Sat B w I As) :
  Cz 170 [.slice a l.length cap,.func (.func fid) #[] capv.toArray] w fun v w'=>v=I64 (Xt pr l 0)∧Sat B w' I As:=by
 refine calls Tryz.func170 rfl Tryz.ntmps170 rfl (.seq (.q 1 rfl (.seq (.seq (.region (.run 3 rfl ⟨⟨_,Xg⟩,trivial⟩ (.nil (.block (.loop (σ:=Nat) (fun i=>[(0,.slice a l.length cap),(1,.func (.func fid) #[] capv.toArray),(7,I64 (l.length:Nat)),(8,I64 (i:Nat))]) (fun i w=>i≤l.length∧(∀ (j:Nat) t,j<i→l[j]?=some t→pr t=false)∧Sat B w I As) (fun i=>l.length - i) 0 ⟨rfl,rfl,rfl,rfl,trivial⟩ ⟨Yq _,fun _ _ h=>absurd h (by omega),hS⟩ ?_)))))))));rintro i w ⟨hi,hno,hS⟩;refine .seq (.q 1 rfl (.seq ?_));refine .cond rfl (fun hb9=>?_) fun hb9=>?_
 ·have hc9:=hb9; try simp only [Y6] at hc9
  refine .skip (.seq (.block (.seq ?_)));obtain ⟨r,hr⟩:∃ r,l[i]?=some r:=⟨_,Y5 (by omega)⟩
  obtain ⟨p,rfl,hx⟩:=hE w hS i r hr;refine .q 2 rfl (.seq (.t 3 rfl ?_));refine .val (.ii rfl rfl (by omega) (by omega) Xg Qs3) rfl ?_;refine .val (.ld1 (.of rfl) (by have h9:=hx 0 _ rfl; simpa [Addr.add_add] using h9) Qg3) rfl ?_;refine .vcall (cap:=capv) hfn hcal (.of rfl) (ec9 rfl X0) rfl (hf r (Yl hr) w hS) ?_;clear hS;rintro _ w ⟨rfl,hS⟩;refine .nil (.cond rfl (fun hb16=>?_) fun hb16=>?_)
  ·refine .seq (.q 2 rfl (.ret (X8 Tryz.results170 rfl ?_)));exact ⟨_,rfl,by rw [X2y hno hr hb16],hS⟩
  have hc16:=hb16; try simp only [Y6] at hc16
  refine .skip (.region (.run 2 rfl ⟨⟨by omega,by omega⟩,trivial⟩ (.nil ?_)));refine ⟨i+1,⟨rfl,rfl,rfl,rfl,trivial⟩,⟨by (try dsimp only); omega,fun j t hj ht=>?_,hS⟩,by (try dsimp only); omega⟩;rcases Ys j i with h1 | h1
  ·exact hno j t h1 ht
  ·have e:j=i:=by omega
   subst e;rw [hr] at ht; cases ht;exact hb16
 have hc9:=hb9; try simp only [Y6] at hc9
 refine .exit (.seq (.q 1 rfl (.ret (X8 Tryz.results170 rfl ?_))));exact ⟨_,rfl,by rw [X2g (fun j t ht=>hno j t (by have:=(Y4.1 ht).1; omega) ht)],hS⟩
theorem X2c (a:Option Addr) (cap:Nat) (l:List (Int)) (hln:l.length≤9223372036854775807) (pr:Int→Bool) (fid:FuncId) (fn:Func) (hfn:Tryz.prog.funcs[fid]?=some fn) (hcal:Xj fn=true) (capv:List Value) (B w:World) (I:Im) (As:List X6) (hE:∀ w,Sat B w I As→X6q w iC 1 a l) (hf:∀ (r:Int) (hr:r∈l) w,Sat B w I As→Calls Tryz.prog fid ([I64 r] ++ capv).toArray w (Ret fun v w'=>v=.bool (pr r)∧Sat B w' I As)) (hS:Sat B w I As) :
  Cz 119 [.slice a l.length cap,.func (.func fid) #[] capv.toArray] w fun v w'=>v=.bool (l.any pr)∧Sat B w' I As:=by
 refine calls Xqy rfl Tryz.ntmps119 rfl (.seq (.q 1 rfl (.seq (.t 2 rfl (.call Tryz.func170 rfl (ec9 rfl (ec9 rfl X0)) rfl (Xat a cap l hln pr fid fn hfn hcal capv B _ I As hE hf hS) ?_)))));rintro _ w ⟨rfl,hS⟩;refine .q 2 rfl (.nil (.ret (X8 Tryz.results119 rfl ?_)));exact ⟨_,rfl,by rw [← X20 pr l 0],hS⟩
theorem Xcg (n:Int) (B w:World) (I:Im) (As:List X6) (hS:Sat B w I As) :
  Cz 118 [I64 n] w fun v w'=>v=.bool (Xuj n)∧Sat B w' I As:=by
 refine calls Xrx rfl Tryz.ntmps118 rfl (.seq (.q 1 rfl (.seq (.t 3 rfl (.gm rfl rfl rfl rfl (.gval rfl rfl (fun hg1=>(.gtr (.gd hg1 rfl) (.of rfl))) rfl (.val (.po rfl rfl rfl) rfl (.q 1 rfl (.nil (.ret (X8 Tryz.results118 rfl ?_)))))))))));exact ⟨_,rfl,rfl,hS⟩
theorem Xj2 (p:Nat→Int) (B w:World) (I:Im) (As:List X6) (hS:Sat B w I As) :
  Cz 75 [.agg ((psL p).map I64).toArray] w fun v w'=>v=.bool (Xth p)∧Sat B w' I As:=by
 refine calls Tryz.func75 rfl Tryz.ntmps75 rfl (.seq (.region (.boxA (cs:=(psL p).map I64) hS (.of rfl) rfl ?_)));intro b1 w hS;refine .q 1 rfl (.nil (.seq (.q 1 rfl (.seq (.region ?_)))));refine .val (.fo 0 rfl Qu26 rfl rfl Tryz.sizeOf24 rfl) rfl (.val (Ex.slcArr (.of rfl) Qu24 Qs3) rfl (.q 1 rfl (.call Xqy rfl (ec9 rfl (ec9 rfl X0)) rfl (X2c (some (ad b1 0)) 7 ((psL p).take 7) (show (7:Nat)≤9223372036854775807 by decide) Xuj 118 _ Xrx rfl [] B _ I _ (fun w h=>Xc4 h (k:=0) rfl (fun i n hn=>by match i,hn with | 0,hn=>exact congrArg (Option.map I64) hn | 1,hn=>exact congrArg (Option.map I64) hn | 2,hn=>exact congrArg (Option.map I64) hn | 3,hn=>exact congrArg (Option.map I64) hn | 4,hn=>exact congrArg (Option.map I64) hn | 5,hn=>exact congrArg (Option.map I64) hn | 6,hn=>exact congrArg (Option.map I64) hn | i+7,hn=>cases hn)) (fun n hn w h=>Xcg n B w I _ h) hS) ?_)));rintro _ w ⟨rfl,hS⟩;refine .q 2 rfl (.gval rfl rfl (fun hg1=>(by exact .fo 7 rfl Qu26 rfl rfl Tryz.sizeOf24 rfl)) rfl ?_);refine .gval rfl rfl (fun hg1=>(Ex.slcArr (.gd hg1 rfl) Qu24 Qs3)) rfl (.gm rfl rfl rfl rfl (.gcall (T:=fun w=>Sat B w I (blk b1 ((psL p).map I64) 26::As)) rfl rfl rfl Xqy rfl (fun hg1=>(Xc (.gd hg1 rfl) (Xc (.gd hg1 rfl) X0))) rfl (fun hg1=>X2c (some (ad b1 7)) 7 (((psL p).drop 7).take 7) (show (7:Nat)≤9223372036854775807 by decide) Xuj 118 _ Xrx rfl [] B _ I _ (fun w h=>Xc4 h (k:=0) rfl (fun i n hn=>by match i,hn with | 0,hn=>exact congrArg (Option.map I64) hn | 1,hn=>exact congrArg (Option.map I64) hn | 2,hn=>exact congrArg (Option.map I64) hn | 3,hn=>exact congrArg (Option.map I64) hn | 4,hn=>exact congrArg (Option.map I64) hn | 5,hn=>exact congrArg (Option.map I64) hn | 6,hn=>exact congrArg (Option.map I64) hn | i+7,hn=>cases hn)) (fun n hn w h=>Xcg n B w I _ h) hS) hS ?_));rintro w hS;refine .gval rfl rfl (fun hg1=>(.not (.gd hg1 rfl))) rfl (.val (.pa rfl rfl rfl) rfl (.q 1 rfl ?_));refine .gval rfl rfl (fun hg1=>(by exact .fo 14 rfl Qu26 rfl rfl Tryz.sizeOf24 rfl)) rfl ?_;refine .gval rfl rfl (fun hg1=>(Ex.slcArr (.gd hg1 rfl) Qu24 Qs3)) rfl (.gm rfl rfl rfl rfl (.gcall (T:=fun w=>Sat B w I (blk b1 ((psL p).map I64) 26::As)) rfl rfl rfl Xqy rfl (fun hg1=>(Xc (.gd hg1 rfl) (Xc (.gd hg1 rfl) X0))) rfl (fun hg1=>X2c (some (ad b1 14)) 7 ((psL p).drop 14) (show (7:Nat)≤9223372036854775807 by decide) Xuj 118 _ Xrx rfl [] B _ I _ (fun w h=>Xc4 h (k:=0) rfl (fun i n hn=>by match i,hn with | 0,hn=>exact congrArg (Option.map I64) hn | 1,hn=>exact congrArg (Option.map I64) hn | 2,hn=>exact congrArg (Option.map I64) hn | 3,hn=>exact congrArg (Option.map I64) hn | 4,hn=>exact congrArg (Option.map I64) hn | 5,hn=>exact congrArg (Option.map I64) hn | 6,hn=>exact congrArg (Option.map I64) hn | i+7,hn=>cases hn)) (fun n hn w h=>Xcg n B w I _ h) hS) hS ?_));rintro w hS;refine .gval rfl rfl (fun hg1=>(.not (.gd hg1 rfl))) rfl (.val (.pa rfl rfl rfl) rfl (.q 1 rfl (.nil (.ret (X8 Tryz.results75 rfl ?_)))));exact ⟨_,rfl,rfl,hS.drop (k:=0) rfl⟩
theorem Xpg {r:Rec} (h:X1f r=true):r.name.length≤23∧r.parent.length≤23:=by
 unfold X1f at h;simp only [Yn] at h
 obtain ⟨⟨_,h1⟩,h2⟩:=h;constructor
 ·unfold isT at h1;cases hp:X1e r.name with
  | none=>rw [hp] at h1; cases h1
  | some x=>exact (X3o (k:=x.1) (d:=x.2) hp).2.2.2.1
 ·unfold X3j at h2;split at h2
  ·rename_i e; rw [e]; simp
  ·cases hp:X1e r.parent with
   | none=>rw [hp] at h2; cases h2
   | some x=>exact (X3o (k:=x.1) (d:=x.2) hp).2.2.2.1
theorem X74 {l:List Rec} (hw:Wf l) (name:List UInt8):(get l name=none∧getD l name=r0)∨(get l name=some (getD l name)∧X1f (getD l name)=true∧(getD l name).name=name):=by
 rcases Tr.get_at l name with ⟨_,h⟩ | ⟨j,r,_,h2,h3,h4⟩
 ·exact .inl ⟨h,by rw [getD,h]; rfl⟩
 ·have e:getD l name=r:=by rw [getD,h4]; rfl
  exact .inr ⟨by rw [e]; exact h4,by rw [e]; exact hw.right r (Yl h2),by rw [e]; exact h3⟩
theorem Xl2 {l:List Rec} (hw:Wf l) (name:List UInt8):(getD l name).name.length≤23∧(getD l name).parent.length≤23∧0≤(getD l name).uses∧(getD l name).uses≤255:=by
 rcases X74 hw name with ⟨_,e⟩ | ⟨_,h,_⟩
 ·rw [e]; decide
 ·have h1:=Xpg h;have h2:=Xg1 h;exact ⟨h1.1,h1.2,h2.2.2⟩
def Xqt (ω:Wd) (name:List UInt8):Wd:={ ω with l:=drop ω.l name }
theorem Xr5 {ω:Wd} (h:Xe3 ω) (name:List UInt8):Xe3 (Xqt ω name):=⟨Y4e (Xrr ω.l name).length_le h.len,h.wf.drop name,h.D,h.now,h.room⟩
structure Ak where
 service:List UInt8
 cookie:List UInt8
 has:Bool
 renew:Bool
 gateway:Bool
 warn:Bool
theorem Xlp (s:List UInt8) (hs:s.length≤1000000) (p:Wp) (B w:World) (I:Im) (hI:WpOk I p) (As:List X6) (hS:Sat B w I As) :
  Cz 86 [.pointer (some p.pr),S s] w fun v w'=>∃ J ra rc,Le I J∧v=.tuple #[.agg (X1x (X24 p.lo s).1 ra rc).toArray,S (X24 p.lo s).2.1,I64 (((X24 p.lo s).2.2:Nat):Int)]∧(X24 p.lo s).1.rel.length≤rc∧RS J ra 1 (X24 p.lo s).1.rel.length ((X24 p.lo s).1.rel.map S)∧Sat B w' J As:=by
 obtain ⟨a,c,E,h1,h2,h3⟩:=hI.reg;refine (Xgc p.pr p.lo hI.lo hI.rel s hs a c E B w I hI.known h1 h3 As hS).mono fun e w' ⟨v,he,J,u,cs,n,e2,hJ,hv,⟨ra,rc,hcs,h4,h5⟩,hf,hS⟩=>⟨v,he,J,ra,rc,hJ,?_⟩
 rw [hf]; subst hcs;exact ⟨hv,h4,h5,hS⟩
theorem Xht (s:List UInt8) (hs:s.length≤1000000) (p:Wp) (B w:World) (I:Im) (hI:WpOk I p) (As:List X6) (hS:Sat B w I As) :
  Calls Tryz.prog 86 [.pointer (some p.pr),S s].toArray w (Ret fun v w'=>∃ ra rc,v=.tuple #[.agg (X1x (X24 p.lo s).1 ra rc).toArray,S (X24 p.lo s).2.1,I64 (((X24 p.lo s).2.2:Nat):Int)]∧Sat B w' I As) :=
 (Xlp s hs p B w I hI As hS).mono fun e w' ⟨v,he,J,ra,rc,hJ,hv,_,_,hS⟩=>⟨v,he,ra,rc,hv,hS.weaken hJ⟩
theorem Xsb:Bld Tryz.prog 81 [(0,1),(1,1),(2,1),(3,1),(4,21),(25,1)] [.pointer none,.pointer none,.pointer none,.pointer none,.int .i64 0,.int .i64 0,.int .i64 0,.int .i64 0,.int .i64 0,.int .i64 0,.int .i64 0,.int .i64 0,.int .i64 0,.int .i64 0,.int .i64 0,.int .i64 0,.int .i64 0,.int .i64 0,.int .i64 0,.int .i64 0,.int .i64 0,.int .i64 0,.int .i64 0,.int .i64 0,.int .i64 0,.int .i64 0]:=X2b Xmr Tryz.zeroValue81 (fun w=>by simp [go_sem])
structure Cf where
 svs:List Sv
 us:List Us
 ps:Nat→Int
 room:Int
 base:Nat
 factor:Nat
 most:Nat
 tries:Int
def X17 (c:Cf) (a:Option Addr) (cap:Nat) (ua:Option Addr) (ucap:Nat):List Value:=.slice a c.svs.length cap::.slice ua c.us.length ucap::((psL c.ps).map I64 ++ [I64 c.room,F64 c.base,F64 c.factor,F64 c.most,I64 c.tries])
structure Cf.fits (c:Cf):Prop where
 svs:c.svs.length≤100000
 ords:∀ v∈ords c.svs,v<18446744073709551616
 sfit:∀ s∈c.svs,s.urls.length≤9223372036854775807∧s.calls.length≤9223372036854775807∧s.rel.length≤1000000
 us:c.us.length≤9223372036854775807
 ufit:∀ u∈c.us,u.fits
def Xff (c:Cf):Nat:=if (X59 c.svs).1≠0 then (X59 c.svs).1 else if (Xan c.us 0 []).1≠0 then (Xan c.us 0 []).1 else if Xth c.ps=false then 1 else 0
theorem Xmx:∀ (l:List Us) (i:Nat) (acc:List Us),(Xan l i acc).1=0→∀ u∈l,Xdl u=true
 | [],_,_,_,u,h=>by simp at h
 | t::l,i,acc,h,u,hu=>by
  rw [Xan] at h;split at h
  ·cases h
  ·split at h
   ·cases h
   ·rename_i h1
    split at h
    ·cases h
    ·rcases Y15.1 hu with e | hu
     ·subst e; simpa using h1
     ·exact Xmx l (i+1) _ h u hu
theorem Xn2 {l:List Sv} {D:List Int} (hO:Srt.Ord (kx (ords l)) l.length D):∀ s∈X4r l D,s∈l:=by
 intro s hs;unfold X4r at hs;obtain ⟨d,hd,rfl⟩:=Y1r.1 hs;obtain ⟨h1,h2⟩:=Srt.upto_mem.1 (hO.2.mem_iff.1 hd);rw [Y8,Y5 (by omega)];exact Y36 _
theorem Xma {A vs C:List Value} {j:Nat} {v:Value} (h:vs[j]?=some v):(A ++ (vs ++ C))[A.length+j]?=some v:=by
 rw [Yv (by omega),Y3k,Yi (Y4.1 h).1];exact h
def w0 (c:Cf):Wd:=⟨Xu5 c.room,[],[],0⟩
theorem w0_ok (c:Cf):Xe3 (w0 c):=⟨by simp [w0],Wf.nil,fun d h=>by simp [w0] at h,by simp [w0],by unfold w0 Xu5; (try dsimp only); omega⟩
set_option maxRecDepth 20000 in
theorem Xen (c:Cf) (hc:c.fits) (a:Option Addr) (cap:Nat) (ua:Option Addr) (ucap:Nat) (B w:World) (I:Im) (hK:Known I) (hP:PreAt I) (hl:SvsAt I a c.svs) (hU:UsrsAt I ua c.us) (As:List X6) (hS:Sat B w I As) :
  Cz 32 [.agg (X17 c a cap ua ucap).toArray] w fun v w'=>∃ J,Le I J∧((Xff c≠0∧v=.tuple #[.pointer none,I64 (Xff c:Nat)]∧Sat B w' J As)∨(Xff c=0∧∃ p D,Srt.Ord (kx (ords c.svs)) c.svs.length D∧p.lo=X4r c.svs D∧p.us=c.us∧p.ps=c.ps∧v=.tuple #[ptr p.wb 0,I64 0]∧WpOk J p∧Sat B w' J (wdA p (w0 c)::As))):=by
 refine calls Tryz.func32 rfl Tryz.ntmps32 rfl (.seq (.region (.boxA (cs:=[_,_,_,_,_,_,_,_,_,_,_,_,_,_,_,_,_,_,_,_,_,_,_,_,_,_,_,_]) hS (.of rfl) rfl ?_)));intro b1 w hS;refine .q 2 rfl (.nil (.seq (.region ?_)));refine .val (.fo 0 rfl Xhi rfl rfl Tryz.sizeOf22 rfl) rfl (.val (.lo rfl hS (k:=0) rfl Tryz.isAgg22 rfl) rfl (.call Tryz.func73 rfl (ec9 rfl X0) rfl (Xua a cap c.svs hc.svs hc.ords hc.sfit B _ I hl _ hS) ?_));rintro v w ⟨J,hJ,hS,hor⟩;obtain ⟨pv,e9,i9,rfl,he9,hz9⟩:∃ (pv:Value) (e9 i9:Nat),v=.tuple #[pv,I64 (e9:Nat),I64 (i9:Nat)]∧e9=(X59 c.svs).1∧(e9=0→∃ pr D,pv=.pointer (some pr)∧Srt.Ord (kx (ords c.svs)) c.svs.length D∧RegAt J pr (X4r c.svs D)):=by
  rcases hor with ⟨h1,h2⟩ | ⟨h1,pr,D,h2,h3,h4⟩
  ·exact ⟨_,_,_,h2,rfl,fun h=>absurd h h1⟩
  ·exact ⟨_,0,0,h2,h1.symm,fun _=>⟨pr,D,rfl,h3,h4⟩⟩
 refine .q 7 rfl (.nil (.seq (.seq (.q 2 rfl ?_))));refine .cond rfl (fun hb17=>?_) fun hb17=>?_
 ·refine .seq (.q 3 rfl (.ret (X2z Qr32 rfl rfl ?_)));have hne:(X59 c.svs).1≠0:=by rw [← he9]; simpa using hb17
  have hE:Xff c=e9:=by rw [Xff,if_pos hne,he9]
  exact ⟨_,rfl,J,hJ,.inl ⟨by rw [hE,he9]; exact hne,by rw [hE]; rfl,hS.drop (k:=0) rfl⟩⟩
 refine .skip (.seq (.region ?_));refine .val (.fo 1 rfl Xhi rfl rfl Tryz.sizeOf23 rfl) rfl (.val (.lo rfl hS (k:=0) rfl Tryz.isAgg23 rfl) rfl (.call Tryz.func74 rfl (ec9 rfl X0) rfl (Xdw ua ucap c.us hc.us hc.ufit B _ J (hU.mono hJ) _ hS) ?_));rintro v w ⟨J2,hJ2,hor2,hS⟩;have hw0:(X59 c.svs).1=0:=by rw [← he9]; simpa using hb17
 obtain ⟨pr,D,rfl,hOrd,hreg⟩:=hz9 (by omega);obtain ⟨uv,f9,j9,rfl,hf9,hy9⟩:∃ (uv:Value) (f9 j9:Nat),v=.tuple #[uv,I64 (f9:Nat),I64 (j9:Nat)]∧f9=(Xan c.us 0 []).1∧(f9=0→∃ ub,uv=ptr ub 0∧TabAt J2 ub c.us):=by
  rcases hor2 with ⟨h1,ub,h2,h3⟩ | ⟨h1,h2⟩
  ·exact ⟨_,0,0,h2,h1.symm,fun _=>⟨ub,rfl,h3⟩⟩
  ·exact ⟨_,_,_,h2,rfl,fun h=>absurd h h1⟩
 refine .q 7 rfl (.nil (.seq (.seq (.q 2 rfl ?_))));refine .cond rfl (fun hb27=>?_) fun hb27=>?_
 ·refine .seq (.q 3 rfl (.ret (X2z Qr32 rfl rfl ?_)));have hne:(Xan c.us 0 []).1≠0:=by rw [← hf9]; simpa using hb27
  have hE:Xff c=f9:=by rw [Xff,if_neg (by rw [hw0]; decide),if_pos hne,hf9]
  exact ⟨_,rfl,J2,hJ.trans hJ2,.inl ⟨by rw [hE,hf9]; exact hne,by rw [hE]; rfl,hS.drop (k:=0) rfl⟩⟩
 refine .skip (.seq (.seq (.region ?_)));refine .val (.fo 2 rfl Xhi rfl rfl Qs26 rfl) rfl (.val (.lds (vs:=[I64 (c.ps 0),I64 (c.ps 1),I64 (c.ps 2),I64 (c.ps 3),I64 (c.ps 4),I64 (c.ps 5),I64 (c.ps 6),I64 (c.ps 7),I64 (c.ps 8),I64 (c.ps 9),I64 (c.ps 10),I64 (c.ps 11),I64 (c.ps 12),I64 (c.ps 13),I64 (c.ps 14),I64 (c.ps 15),I64 (c.ps 16),I64 (c.ps 17),I64 (c.ps 18),I64 (c.ps 19),I64 (c.ps 20)]) (.of rfl) hS (k:=0) rfl Tryz.isAgg26 Qs26 rfl (fun j v hj=>Xma (A:=[.slice a c.svs.length cap,.slice ua c.us.length ucap]) (C:=[I64 c.room,F64 c.base,F64 c.factor,F64 c.most,I64 c.tries]) hj)) rfl (.call Tryz.func75 rfl (ec9 rfl X0) rfl (Xj2 c.ps B _ J2 _ hS) ?_));rintro _ w ⟨rfl,hS⟩;have hu0:(Xan c.us 0 []).1=0:=by rw [← hf9]; simpa using hb27
 obtain ⟨ub,rfl,hTab⟩:=hy9 (by omega);refine .q 1 rfl (.nil ?_);refine .cond rfl (fun hb32=>?_) fun hb32=>?_
 ·refine .seq (.q 2 rfl (.ret (X2z Qr32 rfl rfl ?_)));have hE:Xff c=1:=by rw [Xff,if_neg (by rw [hw0]; decide),if_neg (by rw [hu0]; decide),if_pos (by simpa using hb32)]
  exact ⟨_,rfl,J2,hJ.trans hJ2,.inl ⟨by rw [hE]; decide,by rw [hE]; rfl,hS.drop (k:=0) rfl⟩⟩
 refine .skip (.seq (.drawn (fun w=>∃ R,Sat B w J2 (blk b1 [.slice a c.svs.length cap,.slice ua c.us.length ucap,I64 (c.ps 0),I64 (c.ps 1),I64 (c.ps 2),I64 (c.ps 3),I64 (c.ps 4),I64 (c.ps 5),I64 (c.ps 6),I64 (c.ps 7),I64 (c.ps 8),I64 (c.ps 9),I64 (c.ps 10),I64 (c.ps 11),I64 (c.ps 12),I64 (c.ps 13),I64 (c.ps 14),I64 (c.ps 15),I64 (c.ps 16),I64 (c.ps 17),I64 (c.ps 18),I64 (c.ps 19),I64 (c.ps 20),I64 c.room,F64 c.base,F64 c.factor,F64 c.most,I64 c.tries] 29::R)) (fun j=>!([].contains j)) (by kernel_rfl) ?_));replace hS:=hS.drew; generalize w.drew=w at hS ⊢;have hH:=(hS.pick 0 rfl)
 refine .tp (i:=0) rfl (by kernel_rfl) (fun w=>(.fo 23 rfl Xhi rfl rfl Qs3 rfl)) rfl (.tk (i:=1) rfl (by kernel_rfl) ⟨_,hH⟩ (fun w ⟨R,hS⟩=>(.lo rfl hS (k:=0) rfl Qg3 rfl)) rfl (.tp (i:=4) rfl (by kernel_rfl) (fun w=>(.mo rfl)) rfl (.tp (i:=5) rfl (by kernel_rfl) (fun w=>(.mo rfl)) rfl ?_)));refine .tp (i:=6) rfl (by kernel_rfl) (fun w=>(.fo 2 rfl Xhi rfl rfl Qs26 rfl)) rfl (.tk (i:=7) rfl (by kernel_rfl) ⟨_,hH⟩ (fun w ⟨R,hS⟩=>.lds (vs:=[I64 (c.ps 0),I64 (c.ps 1),I64 (c.ps 2),I64 (c.ps 3),I64 (c.ps 4),I64 (c.ps 5),I64 (c.ps 6),I64 (c.ps 7),I64 (c.ps 8),I64 (c.ps 9),I64 (c.ps 10),I64 (c.ps 11),I64 (c.ps 12),I64 (c.ps 13),I64 (c.ps 14),I64 (c.ps 15),I64 (c.ps 16),I64 (c.ps 17),I64 (c.ps 18),I64 (c.ps 19),I64 (c.ps 20)]) (.of rfl) hS (k:=0) rfl Tryz.isAgg26 Qs26 rfl (fun j v hj=>Xma (A:=[.slice a c.svs.length cap,.slice ua c.us.length ucap]) (C:=[I64 c.room,F64 c.base,F64 c.factor,F64 c.most,I64 c.tries]) hj)) rfl (.b1 2 (by kernel_rfl) rfl (.call Tryz.func76 rfl (ec9 rfl X0) rfl (Xh0 c.room B _ J2 _ hS) ?_)));rintro _ w ⟨tb,rfl,hS⟩;refine .nil ?_;clear hH;have hH:=(hS.pick 2 rfl)
 refine ⟨fun _ _=>⟨_,hH⟩,?_⟩;refine .b1 3 (by kernel_rfl) rfl (.call Tryz.func77 rfl (ec9 rfl X0) rfl (Xhf B _ J2 _ hS) ?_);rintro _ w ⟨mb,rfl,hS⟩;refine .nil ?_;clear hH;have hH:=(hS.pick 4 rfl)
 refine ⟨fun _ _=>⟨_,hH⟩,?_⟩;refine .tp (i:=8) rfl (by kernel_rfl) (fun w=>(.build (cs:=[_,_,_,_,_,_,_,_,_,_,_,_,_,_,_,_,_,_,_,_,_,_,_,_,_,_]) (pc9 rfl (pc9 rfl (pc9 rfl (pc9 rfl (pc9 rfl X4))))) Xsb rfl)) rfl (.b1 9 (by kernel_rfl) rfl (.boxA (cs:=[_,_,_,_,_,_,_,_,_,_,_,_,_,_,_,_,_,_,_,_,_,_,_,_,_,_]) hS (.of rfl) rfl ?_));intro b42 w hS;refine .nil ?_;clear hH;have hH:=(hS.pick 5 rfl)
 refine ⟨fun _ _=>⟨_,hH⟩,?_⟩;refine .tp (i:=10) rfl (by kernel_rfl) (fun w=>(.ao rfl)) rfl (.tp (i:=11) rfl (by kernel_rfl) (fun w=>(.ao rfl)) rfl (.done (by kernel_rfl) (.ret (X2z Qr32 rfl rfl ?_))));have hE:Xff c=0:=by rw [Xff,if_neg (by rw [hw0]; decide),if_neg (by rw [hu0]; decide),if_neg (by simpa using hb32)]
 have hp:=Xn2 hOrd;refine ⟨_,rfl,J2,hJ.trans hJ2,.inr ⟨hE,⟨b42,tb,mb,ub,pr,X4r c.svs D,c.us,c.ps⟩,D,hOrd,rfl,rfl,rfl,rfl,⟨hreg.mono hJ2,hTab,?_,fun s hs=>(hc.sfit s (hp s hs)).2.2,hc.ufit,fun u hu=>Xa5 (Xmx c.us 0 [] hu0 u hu),(hK.mono hJ).mono hJ2,(hP.mono hJ).mono hJ2⟩,?_⟩⟩
 ·show (X4r c.svs D).length≤100000
  rw [X4r,Y10,hOrd.len]; exact hc.svs
 ·exact Sat.box (T:=wdT ⟨b42,tb,mb,ub,pr,X4r c.svs D,c.us,c.ps⟩ (w0 c)) (none,0,none,0) ((((((hS.pick 2 rfl).pick 2 rfl).pick 4 rfl).pick 4 rfl).pick 4 rfl).drop (k:=5) rfl)
structure Sx where
 user:List UInt8
 attrs:List Pr
 proxies:List (List UInt8)
 iou:List UInt8
def SxAt (J:Im) (x:Sx) (cs:List Value):Prop:=∃ ka kc pa pc,cs=[S x.user,.slice ka x.attrs.length kc,.slice pa x.proxies.length pc,S x.iou]∧x.attrs.length≤kc∧RS J ka 2 x.attrs.length (X9 X1r x.attrs)∧x.proxies.length≤pc∧RS J pa 1 x.proxies.length (x.proxies.map S)
theorem SxAt.mono {I J:Im} {x:Sx} {cs:List Value} (h:SxAt I x cs) (hl:Le I J):SxAt J x cs:=by
 obtain ⟨ka,kc,pa,pc,e,h1,h2,h3,h4⟩:=h;exact ⟨ka,kc,pa,pc,e,h1,h2.mono hl,h3,h4.mono hl⟩
theorem Ex.sub3U {P:Program} {n:Nat} {L:Env} {w:World} {d:Option Nat} {ty t:TypeId} {pos:String} {af:Array Edge} {g:Option (Nat×Bool)} {x y z:Operand} {l:List UInt8} {i j:Int} (hx:Ev n L x (S l)) (hy:Ev n L y (U64 i)) (hz:Ev n L z (U64 j)) (h0:0≤i) (h1:i≤j) (h2:j≤(l.length:Int)) (hT:P.underlying t=some .string) :
  Ex P n L w ⟨d,.slice t x (some y) (some z) none,ty,pos,af,g⟩ (S ((l.drop i.toNat).take (j.toNat - i.toNat))) w:=fun a ha=>by
 have h:=run_slice_string (P:=P) w t ⟨l.toArray⟩ .u64 .u64 i j hT h0 h1 h2;rw [Xa0] at h;simp [execOp,hx a ha,hy a ha,hz a ha,run_sliceAt_string w t _ _ _ _ hT,h]
def Xnq (r:Rec):Bool:=(((decide ((r.name.length:Int)≤60) && decide ((r.parent.length:Int)≤60)) && decide ((r.user.length:Int)≤120)) && decide ((r.service.length:Int)≤120)) && decide ((r.url.length:Int)≤120)
def bigP (y:Pr):Bool:=decide ((80:Int)<(y.1.length:Int)) || decide ((80:Int)<(y.2.length:Int))
def bigU (u:Us):Bool:=(decide ((20:Int)<(u.attrs.length:Int)) || decide ((80:Int)<(u.name.length:Int))) || decide ((80:Int)<(u.pw.length:Int))
def Xde (u:Us):Bool:=!bigU u && u.attrs.all fun y=>!bigP y
def fewU (l:List Us):Bool:=l.all Xde && decide ((l.length:Int)≤20)
def fewC (c:Cf):Bool:=few c.svs && fewU c.us
theorem Xdz {α:Type} {cells:α→List Value} {s:Nat} (hc:∀ x,(cells x).length=s) {I:Im} {a:Option Addr} {l:List α} (hR:RS I a s l.length (X9 cells l)) {i:Nat} {x:α} (hx:l[i]?=some x):∃ q,a=some q∧At I (q.add (i*s)) (cells x):=by
 obtain ⟨q,rfl,hq⟩:=hR.2 (by have:=(Y4.1 hx).1; omega);refine ⟨q,rfl,?_⟩;have h3:=X5a (hq.add (i*s)) s;rw [X9,X1c (l.map cells) (fun c h=>by obtain ⟨y,_,rfl⟩:=Y1r.1 h; exact hc y) i (cells x) (by rw [Yt,hx]; rfl)] at h3;exact h3
theorem Xjb (r:Rec) (B w:World) (I:Im) (As:List X6) (hS:Sat B w I As) :
  Cz 34 [.agg (Xf r).toArray] w fun v w'=>v=.bool (Xnq r)∧Sat B w' I As:=by
 refine calls Tryz.func34 rfl Tryz.ntmps34 rfl (.seq (.region (.boxA (cs:=[_,_,_,_,_,_,_,_,_,_]) hS (.of rfl) rfl ?_)));intro b1 w hS;refine .q 1 rfl (.nil (.seq (.region ?_)));refine .val (.fo 1 rfl X3r rfl rfl Qs9 rfl) rfl (.val (.lo rfl hS (k:=0) rfl Qg9 rfl) rfl (.run 3 rfl ⟨Qu9,trivial⟩ (.gval rfl rfl (fun hg1=>(by exact .fo 2 rfl X3r rfl rfl Qs9 rfl)) rfl ?_)));refine .gval rfl rfl (fun hg1=>(by exact (.ld (.gd hg1 rfl) hS (k:=0) rfl Qg9 rfl))) rfl ?_;refine .gval rfl rfl (fun hg1=>(.len (.gd hg1 rfl) Qu9)) rfl (.gval rfl rfl (fun hg1=>(.leq (.gd hg1 rfl) (.of rfl))) rfl (.val (.pa rfl rfl rfl) rfl (.q 1 rfl ?_)));refine .gval rfl rfl (fun hg1=>(by exact .fo 3 rfl X3r rfl rfl Qs9 rfl)) rfl ?_;refine .gval rfl rfl (fun hg1=>(by exact (.ld (.gd hg1 rfl) hS (k:=0) rfl Qg9 rfl))) rfl ?_;refine .gval rfl rfl (fun hg1=>(.len (.gd hg1 rfl) Qu9)) rfl (.gval rfl rfl (fun hg1=>(.leq (.gd hg1 rfl) (.of rfl))) rfl (.val (.pa rfl rfl rfl) rfl (.q 1 rfl ?_)));refine .gval rfl rfl (fun hg1=>(by exact .fo 4 rfl X3r rfl rfl Qs9 rfl)) rfl ?_;refine .gval rfl rfl (fun hg1=>(by exact (.ld (.gd hg1 rfl) hS (k:=0) rfl Qg9 rfl))) rfl ?_;refine .gval rfl rfl (fun hg1=>(.len (.gd hg1 rfl) Qu9)) rfl (.gval rfl rfl (fun hg1=>(.leq (.gd hg1 rfl) (.of rfl))) rfl (.val (.pa rfl rfl rfl) rfl (.q 1 rfl ?_)));refine .gval rfl rfl (fun hg1=>(by exact .fo 5 rfl X3r rfl rfl Qs9 rfl)) rfl ?_;refine .gval rfl rfl (fun hg1=>(by exact (.ld (.gd hg1 rfl) hS (k:=0) rfl Qg9 rfl))) rfl ?_;refine .gval rfl rfl (fun hg1=>(.len (.gd hg1 rfl) Qu9)) rfl (.gval rfl rfl (fun hg1=>(.leq (.gd hg1 rfl) (.of rfl))) rfl (.val (.pa rfl rfl rfl) rfl (.q 1 rfl (.nil (.ret (X8 Tryz.results34 rfl ?_))))));exact ⟨_,rfl,rfl,hS.drop (k:=0) rfl⟩
theorem Xrt (a:Option Addr) (cap:Nat) (l:List Us) (hln:l.length≤9223372036854775807) (hfit:∀ u∈l,u.fits) (B w:World) (I:Im) (hU:UsrsAt I a l) (As:List X6) (hS:Sat B w I As) :
  Cz 72 [.slice a l.length cap] w fun v w'=>v=.bool (fewU l)∧Sat B w' I As:=by
 refine calls Tryz.func72 rfl Tryz.ntmps72 rfl (.seq (.q 1 rfl (.seq (.seq (.q 1 rfl (.block (.loop (σ:=Nat) (fun i=>[(0,.slice a l.length cap),(3,I64 (i:Nat))]) (fun i w=>i≤l.length∧(∀ (j:Nat) u,j<i→l[j]?=some u→Xde u=true)∧Sat B w I As) (fun i=>l.length - i) 0 ⟨rfl,rfl,trivial⟩ ⟨Yq _,fun _ _ h=>absurd h (by omega),hS⟩ ?_)))))));rintro i w ⟨hi,hno,hS⟩;refine .seq (.seq (.region (.run 4 rfl ⟨⟨_,Xob⟩,trivial⟩ (.nil ?_))));refine .cond rfl (fun hb8=>?_) fun hb8=>?_
 ·have hc8:=hb8; simp only [Y6] at hc8;refine .skip (.seq (.block (.seq (.seq ?_))));obtain ⟨u,hu⟩:∃ u,l[i]?=some u:=⟨_,Y5 (by omega)⟩
  obtain ⟨p,ra,rc,hap,hx,hrc,hRR⟩:=hU i u hu;have hfu:=(hfit u (Yl hu)).attrs.1;subst hap;unfold X6a at hx;refine .t 2 rfl (.val (.ii rfl rfl (by omega) (by omega) Xob X8n) rfl (.val (.fi 2 rfl X5z rfl rfl X6e rfl) rfl (.val (.ldI (.of rfl) hS (At.add hx _) Xaa rfl) rfl (.run 3 rfl ⟨⟨_,X2t⟩,trivial⟩ (.gm rfl rfl rfl rfl (.gm rfl rfl rfl rfl ?_))))));refine .gval rfl rfl (fun hg1=>(by exact .indexAddrI (.gd hg1 rfl) (.gd hg1 rfl) (by (try simp only [Y6] at hg1); omega) (by (try simp only [Y6] at hg1); omega) Xob X8n)) rfl ?_;refine .gval rfl rfl (fun hg1=>(by exact .fieldAddrI 0 (.gd hg1 rfl) X5z rfl rfl Qs9 rfl)) rfl ?_;refine .gval rfl rfl (fun hg1=>(by exact (.ldI (.gd hg1 rfl) hS (At.add hx _) Qg9 rfl))) rfl ?_;refine .gval rfl rfl (fun hg1=>(.len (.gd hg1 rfl) Qu9)) rfl (.gval rfl rfl (fun hg1=>(.gtr (.gd hg1 rfl) (.of rfl))) rfl (.val (.po rfl rfl rfl) rfl (.q 1 rfl (.gm rfl rfl rfl rfl (.gm rfl rfl rfl rfl ?_)))));refine .gval rfl rfl (fun hg1=>(by exact .indexAddrI (.gd hg1 rfl) (.gd hg1 rfl) (by (try simp only [Y6] at hg1); omega) (by (try simp only [Y6] at hg1); omega) Xob X8n)) rfl ?_;refine .gval rfl rfl (fun hg1=>(by exact .fieldAddrI 1 (.gd hg1 rfl) X5z rfl rfl Qs9 rfl)) rfl ?_;refine .gval rfl rfl (fun hg1=>(by exact (.ldI (.gd hg1 rfl) hS (At.add hx _) Qg9 rfl))) rfl ?_;refine .gval rfl rfl (fun hg1=>(.len (.gd hg1 rfl) Qu9)) rfl (.gval rfl rfl (fun hg1=>(.gtr (.gd hg1 rfl) (.of rfl))) rfl (.val (.po rfl rfl rfl) rfl (.nil ?_)));refine .cond rfl (fun hb35=>?_) fun hb35=>?_
  ·refine .seq (.q 1 rfl (.ret (X8 Tryz.results72 rfl ?_)));refine ⟨_,rfl,congrArg Value.bool ?_,hS⟩
   have:l.all Xde=false:=Y3i.2 ⟨u,Yl hu,by
    rw [Xde,show bigU u=true from hb35,Bool.not_true,Y5x]; decide⟩
   rw [fewU,this]; rfl
  have hc35:=hb35; simp only [Y6] at hc35;refine .skip (.seq (.q 1 rfl (.block (.loop (σ:=Nat) (fun k=>[(0,.slice (some p) l.length cap),(3,I64 (i:Nat)),(4,I64 (k:Nat))]) (fun k w=>k≤u.attrs.length∧(∀ (j:Nat) y,j<k→u.attrs[j]?=some y→bigP y=false)∧Sat B w I As) (fun k=>u.attrs.length - k) 0 ⟨rfl,rfl,rfl,trivial⟩ ⟨Yq _,fun _ _ h=>absurd h (by omega),hS⟩ ?_))));rintro k w ⟨hk,hny,hS⟩;refine .seq (.seq (.t 3 rfl ?_));refine .val (.ii rfl rfl (by omega) (by omega) Xob X8n) rfl (.val (.fi 2 rfl X5z rfl rfl X6e rfl) rfl (.val (.ldI (.of rfl) hS (At.add hx _) Xaa rfl) rfl (.run 2 rfl ⟨⟨_,X2t⟩,trivial⟩ (.nil ?_))));refine .cond rfl (fun hb43=>?_) fun hb43=>?_
  ·have hc43:=hb43; simp only [Y6] at hc43;refine .skip (.seq (.block (.seq ?_)));obtain ⟨y,hy0⟩:∃ y,u.attrs[k]?=some y:=⟨_,Y5 (by omega)⟩
   obtain ⟨q,hq9,hy⟩:=Xdz (cells:=X1r) (s:=2) (fun _=>rfl) hRR hy0;subst hq9;unfold X1r at hy;refine .t 2 rfl (.val (.ii rfl rfl (by omega) (by omega) Xob X8n) rfl (.val (.fi 2 rfl X5z rfl rfl X6e rfl) rfl (.val (.ldI (.of rfl) hS (At.add hx _) Xaa rfl) rfl (.q 1 rfl (.val (.ii rfl rfl (by omega) (by omega) X2t X2w) rfl (.val (.fi 0 rfl X4f rfl rfl Qs9 rfl) rfl (.val (.ldI (.of rfl) hS (At.add hy _) Qg9 rfl) rfl (.run 3 rfl ⟨Qu9,trivial⟩ (.gm rfl rfl rfl rfl (.gm rfl rfl rfl rfl ?_))))))))));refine .gval rfl rfl (fun hg1=>(by exact .indexAddrI (.gd hg1 rfl) (.gd hg1 rfl) (by (try simp only [Y6] at hg1); omega) (by (try simp only [Y6] at hg1); omega) Xob X8n)) rfl ?_;refine .gval rfl rfl (fun hg1=>(by exact .fieldAddrI 2 (.gd hg1 rfl) X5z rfl rfl X6e rfl)) rfl ?_;refine .gval rfl rfl (fun hg1=>(by exact (.ldI (.gd hg1 rfl) hS (At.add hx _) Xaa rfl))) rfl ?_;refine .gm rfl rfl rfl rfl (.gval rfl rfl (fun hg1=>(by exact .indexAddrI (.gd hg1 rfl) (.gd hg1 rfl) (by (try simp only [Y6] at hg1); omega) (by (try simp only [Y6] at hg1); omega) X2t X2w)) rfl ?_);refine .gval rfl rfl (fun hg1=>(by exact .fieldAddrI 1 (.gd hg1 rfl) X4f rfl rfl Qs9 rfl)) rfl ?_;refine .gval rfl rfl (fun hg1=>(by exact (.ldI (.gd hg1 rfl) hS (At.add hy _) Qg9 rfl))) rfl ?_;refine .gval rfl rfl (fun hg1=>(.len (.gd hg1 rfl) Qu9)) rfl (.gval rfl rfl (fun hg1=>(.gtr (.gd hg1 rfl) (.of rfl))) rfl (.val (.po rfl rfl rfl) rfl (.nil ?_)));refine .cond rfl (fun hb69=>?_) fun hb69=>?_
   ·refine .seq (.q 1 rfl (.ret (X8 Tryz.results72 rfl ?_)));refine ⟨_,rfl,congrArg Value.bool ?_,hS⟩
    have:l.all Xde=false:=Y3i.2 ⟨u,Yl hu,by
     have:u.attrs.all (fun y=>!bigP y)=false:=Y3i.2 ⟨y,Yl hy0,by
      rw [show bigP y=true from hb69]; decide⟩
     rw [Xde,this,Y49]; decide⟩
    rw [fewU,this]; rfl
   have hc69:=hb69; simp only [Y6] at hc69;refine .skip (.region (.run 3 rfl ⟨⟨by omega,by omega⟩,trivial⟩ (.nil ?_)));refine ⟨k+1,⟨rfl,rfl,rfl,trivial⟩,⟨by (try dsimp only); omega,fun j t hj ht=>?_,hS⟩,by (try dsimp only); omega⟩;rcases Ys j k with h1 | h1
   ·exact hny j t h1 ht
   ·have e:j=k:=by omega
    subst e;rw [hy0] at ht; cases ht;exact hb69
  have hc43:=hb43; simp only [Y6] at hc43;refine .exit (.region (.run 3 rfl ⟨⟨by omega,by omega⟩,trivial⟩ (.nil ?_)));refine ⟨i+1,⟨rfl,rfl,trivial⟩,⟨by (try dsimp only); omega,fun j t hj ht=>?_,hS⟩,by (try dsimp only); omega⟩;rcases Ys j i with h1 | h1
  ·exact hno j t h1 ht
  ·have e:j=i:=by omega
   subst e;rw [hu] at ht; cases ht;have e1:bigU u=false:=hb35;rw [Xde,e1,Y3n,Y2i,Y1d];intro y hy;obtain ⟨q,hq⟩:=Yx.1 hy
   have:=(Y4.1 hq).1
   rw [hny q y (by omega) hq]; rfl
 have hc8:=hb8; simp only [Y6] at hc8;refine .exit (.seq (.region (.run 4 rfl ⟨⟨_,Xob⟩,trivial⟩ (.nil (.ret (X8 Tryz.results72 rfl ?_))))));refine ⟨_,rfl,congrArg Value.bool ?_,hS⟩
 have:l.all Xde=true:=by
  rw [Y1d];intro u hu;obtain ⟨q,hq⟩:=Yx.1 hu
  have:=(Y4.1 hq).1
  exact hno q u (by omega) hq
 rw [fewU,this,Y2i]
set_option maxRecDepth 20000 in
theorem Xs9 (c:Cf) (a:Option Addr) (cap:Nat) (ua:Option Addr) (ucap:Nat) (hcap:c.svs.length≤cap) (hcm:cap≤maxLen) (hun:c.us.length≤9223372036854775807) (hfit:∀ u∈c.us,u.fits) (B w:World) (I:Im) (hl:SvsAt I a c.svs) (hU:UsrsAt I ua c.us) (As:List X6) (hS:Sat B w I As) :
  Cz 31 [.agg (X17 c a cap ua ucap).toArray] w fun v w'=>v=.bool (fewC c)∧Sat B w' I As:=by
 refine calls Tryz.func31 rfl Tryz.ntmps31 rfl (.seq (.region (.boxA (cs:=[_,_,_,_,_,_,_,_,_,_,_,_,_,_,_,_,_,_,_,_,_,_,_,_,_,_,_,_]) hS (.of rfl) rfl ?_)));intro b1 w hS;refine .q 1 rfl (.nil (.seq (.region ?_)));refine .val (.fo 0 rfl Xhi rfl rfl Tryz.sizeOf22 rfl) rfl (.val (.lo rfl hS (k:=0) rfl Tryz.isAgg22 rfl) rfl (.call Tryz.func71 rfl (ec9 rfl X0) rfl (Xuc a cap c.svs hcap hcm B _ I hl _ hS) ?_));rintro _ w ⟨rfl,hS⟩;refine .q 1 rfl (.nil (.seq (.region ?_)));refine .val (.fo 1 rfl Xhi rfl rfl Tryz.sizeOf23 rfl) rfl (.val (.lo rfl hS (k:=0) rfl Tryz.isAgg23 rfl) rfl (.call Tryz.func72 rfl (ec9 rfl X0) rfl (Xrt ua ucap c.us hun hfit B _ I hU _ hS) ?_));rintro _ w ⟨rfl,hS⟩;refine .q 1 rfl (.nil (.seq (.t 2 rfl (.gm rfl rfl rfl rfl (.val (.pa rfl rfl rfl) rfl (.q 1 rfl (.nil (.ret (X8 Tryz.results31 rfl ?_)))))))));exact ⟨_,rfl,rfl,hS.drop (k:=0) rfl⟩
theorem Xcj (k:Int) (B w:World) (I:Im) (As:List X6) (hS:Sat B w I As) :
  Cz 70 [I64 k] w fun v w'=>v=S (Xt7 k)∧Sat B w' I As:=by
 refine calls Tryz.func70 rfl Tryz.ntmps70 rfl (.seq (.q 1 rfl (.seq (.seq (.q 1 rfl (.block (.seq (.q 2 rfl ?_))))))));refine .cond rfl (fun hb4=>?_) fun hb4=>?_
 ·refine .seq (.q 1 rfl (.ret (X8 Xwl rfl ?_)));refine ⟨_,rfl,congrArg S ?_,hS⟩;simp only [beq_iff_eq,beq_eq_false_iff_ne] at *
  subst_vars; rfl
 refine .seq (.q 2 rfl ?_);refine .cond rfl (fun hb6=>?_) fun hb6=>?_
 ·refine .seq (.q 1 rfl (.ret (X8 Xwl rfl ?_)));refine ⟨_,rfl,congrArg S ?_,hS⟩;simp only [beq_iff_eq,beq_eq_false_iff_ne] at *
  subst_vars; rfl
 refine .seq (.q 2 rfl ?_);refine .cond rfl (fun hb8=>?_) fun hb8=>?_
 ·refine .seq (.q 1 rfl (.ret (X8 Xwl rfl ?_)));refine ⟨_,rfl,congrArg S ?_,hS⟩;simp only [beq_iff_eq,beq_eq_false_iff_ne] at *
  subst_vars; rfl
 refine .seq (.q 2 rfl ?_);refine .cond rfl (fun hb10=>?_) fun hb10=>?_
 ·refine .seq (.q 1 rfl (.ret (X8 Xwl rfl ?_)));refine ⟨_,rfl,congrArg S ?_,hS⟩;simp only [beq_iff_eq,beq_eq_false_iff_ne] at *
  subst_vars; rfl
 refine .seq (.q 2 rfl ?_);refine .cond rfl (fun hb12=>?_) fun hb12=>?_
 ·refine .seq (.q 1 rfl (.ret (X8 Xwl rfl ?_)));refine ⟨_,rfl,congrArg S ?_,hS⟩;simp only [beq_iff_eq,beq_eq_false_iff_ne] at *
  subst_vars; rfl
 refine .seq (.q 2 rfl ?_);refine .cond rfl (fun hb14=>?_) fun hb14=>?_
 ·refine .seq (.q 1 rfl (.ret (X8 Xwl rfl ?_)));refine ⟨_,rfl,congrArg S ?_,hS⟩;simp only [beq_iff_eq,beq_eq_false_iff_ne] at *
  subst_vars; rfl
 refine .skip (.seq (.q 1 rfl (.ret (X8 Xwl rfl ?_))));refine ⟨_,rfl,congrArg S ?_,hS⟩;simp only [beq_iff_eq,beq_eq_false_iff_ne] at *
 (rw [Xt7,if_pos (by omega)])
theorem Xps {n:Nat} (h:n<16):(HEXD.drop n).take 1=[dg n]:=(by decide:∀ n:Fin 16,(HEXD.drop n.val).take 1=[dg n.val]) ⟨n,h⟩
theorem X98 (kind:Int) (d:Nat) (hd:d<18446744073709551616) (B w:World) (I:Im) (As:List X6) (hS:Sat B w I As) :
  Cz 92 [I64 kind,U64 (d:Nat)] w fun v w'=>v=(if Xt7 kind=[] then .tuple #[S [],I64 8] else .tuple #[S (Xt7 kind ++ 45::Xhl 16 d),I64 0])∧Sat B w' I As:=by
 refine calls Tryz.func92 rfl Tryz.ntmps92 rfl (.seq (.q 2 rfl (.seq (.t 1 rfl (.call Tryz.func70 rfl (ec9 rfl X0) rfl (Xcj kind B _ I _ hS) ?_)))));rintro _ w ⟨rfl,hS⟩;refine .q 1 rfl (.nil (.seq (.seq (.q 2 rfl ?_))));refine .cond rfl (fun hb13=>?_) fun hb13=>?_
 ·refine .seq (.q 2 rfl (.ret (X2z Tryz.results92 rfl rfl ?_)));exact ⟨_,rfl,by rw [if_pos (by simpa using hb13)],hS⟩
 have hc13:=hb13; simp only [Y6] at hc13;refine .skip (.seq (.q 1 rfl (.seq (.q 1 rfl (.seq (.seq (.q 1 rfl (.block (.loop (σ:=Nat×Nat) (fun ⟨i,e⟩=>[(1,U64 (e:Nat)),(6,S (Xt7 kind)),(7,S HEXD),(8,S (Xhl i d)),(9,I64 (i:Nat))]) (fun ⟨i,e⟩ w=>i≤16∧e=d / 16 ^ i∧Sat B w I As) (fun ⟨i,e⟩=>16 - i) (0,d) ⟨rfl,rfl,rfl,rfl,rfl,trivial⟩ ⟨Yq _,by simp,hS⟩ ?_)))))))));rintro ⟨i,e⟩ w ⟨hi,he,hS⟩;refine .seq (.seq (.q 2 rfl ?_));refine .cond rfl (fun hb15=>?_) fun hb15=>?_
 ·have hc15:=hb15; simp only [Y6] at hc15;refine .skip (.seq (.block (.seq ?_)));have hed:e<18446744073709551616:=by rw [he]; exact Y4g (Nat.div_le_self _ _) hd
  have hdl:=Xbz i d;have hm16:=Y2o e (show 0<16 by decide);have hcast:((e:Nat):Int) % 16=((e % 16:Nat):Int):=by omega
  have htk:=Xps hm16;have hsl:(HEXD.drop ((e:Int) % 16).toNat).take (((e:Int) % 16+1).toNat - ((e:Int) % 16).toNat)=[dg (e % 16)]:=by
   rw [hcast,Ye,show (((e % 16:Nat):Int)+1).toNat - e % 16=1 by omega]; exact htk
  have hcons:[dg (e % 16)] ++ Xhl i d=Xhl (i+1) d:=by rw [Xer,he]; rfl
  have hquo:((e:Nat):Int) / 16=((e / 16:Nat):Int):=by omega
  have hee:e / 16=d / 16 ^ (i+1):=by rw [he,Y3o,Y28]
  refine .t 2 rfl (.val (.rem (.of rfl) (.of rfl) (by omega) (by omega)) rfl (.q 1 rfl (.val (.rem (.of rfl) (.of rfl) (by omega) (by omega)) rfl ?_)));refine .val (.addx (.of rfl) (.of rfl) (by rw [IntKind.wrap_u64]; omega)) rfl (.val (Ex.sub3U (.of rfl) (.of rfl) (.of rfl) (by omega) (by omega) (by show _≤(16:Int); omega) Qu9) rfl ?_);rw [hsl];refine .q 1 rfl (.val (.cat (.of rfl) (.of rfl) (by (try simp only [Y0,List.length_cons,List.length_nil]); omega)) rfl ?_);rw [hcons];refine .q 1 rfl (.nil (.t 1 rfl ?_));refine .val (.quo (.of rfl) (.of rfl) (by omega) (by omega) (by rw [IntKind.wrap_u64]; omega)) rfl ?_;rw [hquo];refine .q 1 rfl (.nil (.region (.run 3 rfl ⟨⟨by omega,by omega⟩,trivial⟩ (.nil ?_))));refine ⟨(i+1,e / 16),⟨rfl,rfl,rfl,rfl,rfl,trivial⟩,⟨by (try dsimp only); omega,hee,hS⟩,by (try dsimp only); omega⟩
 have hc15:=hb15; simp only [Y6] at hc15;refine .exit (.seq ?_);have hpl:=Xv7 kind;have hdl:=Xbz i d;refine .region (.run 6 rfl ⟨by (try simp only [Y0,List.length_cons,List.length_nil]); omega,by (try simp only [Y0,List.length_cons,List.length_nil]); omega,trivial⟩ (.nil (.ret (X2z Tryz.results92 rfl rfl ?_))));have e16:i=16:=by omega
 subst e16;refine ⟨_,rfl,by rw [if_neg (by simpa using hb13),Yc]; rfl,hS⟩
end Go.Proofs.YtbciobiiejpdgaaGreatDoor
namespace Go.Proofs.YtbciobiiejpdgaaGreatDoor
open Gk Pat
theorem Xlz {l:List Sv} (h:few l=true):l.length≤20∧∀ s∈l,s.rel.length≤20:=by
 unfold few at h;simp only [Yn,decide_eq_true_eq] at h
 refine ⟨by omega,fun s hs=>?_⟩
 have:=Y1d.1 h.1 s hs
 unfold Xvq at this;simp only [Y41,Yz,decide_eq_false_iff_not] at this
 omega
theorem Xrz {l:List Sv} (h:∀ s∈l,s.fits):∀ v∈ords l,v<18446744073709551616:=fun v hv=>by
 obtain ⟨s,hs,rfl⟩:=Y1r.1 hv;exact (h s hs).ord
theorem Xqw {l:List Sv} (h:∀ s∈l,s.fits) (hr:∀ s∈l,s.rel.length≤20):∀ s∈l,s.urls.length≤9223372036854775807∧s.calls.length≤9223372036854775807∧s.rel.length≤1000000:=fun s hs=>by
 have h1:=(h s hs).urls;have h2:=(h s hs).calls;have h3:=hr s hs;unfold maxLen at h1 h2;exact ⟨by omega,by omega,by omega⟩
theorem X8e (l:List Sv):∀ (r:List Sv) (i:Nat),(X45 l i r).1=0→∀ (j:Nat) t,r[j]?=some t→bad l (i+j) t=0
 | [],_,_,j,t,h=>by simp at h
 | s::r,i,h,j,t,ht=>by
  rw [X45] at h;split at h
  ·rename_i hb; exact absurd h hb
  ·rename_i hb
   cases j with
   | zero=>simp at ht; subst ht; simpa using hb
   | succ j =>
    have:=X8e l r (i+1) h j t (by simpa using ht)
    rw [show i+(j+1)=i+1+j by omega]; exact this
theorem Xki {l:List Sv} (h:(X59 l).1=0) (j:Nat) (t:Sv) (ht:l[j]?=some t):bad l j t=0:=by
 have:=X8e l l 0 h j t ht
 rw [Yd] at this; exact this
theorem Xrl {l:List Sv} {i:Nat} {s:Sv} (h:bad l i s=0):i≠16∧(l.take i).any (fun t=>t.id == s.id)=false∧(chk s.urls).1=0∧(chk s.calls).1=0:=by
 unfold bad at h;split at h
 ·cases h
 ·rename_i h16
  split at h
  ·cases h
  ·split at h
   ·cases h
   ·rename_i h7
    split at h
    ·cases h
    ·rename_i h8
     simp only [Y1i,not_or,bne_iff_ne,ne_eq,Decidable.not_not] at h8
     exact ⟨h16,by simpa using h7,h8.1,h8.2⟩
theorem Xqo {l:List Sv} (h:(X59 l).1=0):right l:=fun s hs=>by
 obtain ⟨j,hj⟩:=Yx.1 hs;obtain ⟨_,_,h1,h2⟩:=Xrl (Xki h j s hj);exact ⟨Xbm h1,Xbm h2⟩
theorem Xus {l:List Sv} {D:List Int} (s:List UInt8):Xfs l D s=X24 (X4r l D) s:=by
 unfold Xfs X24 X4r;rw [List.find?_map];split
 ·rfl
 ·split
  ·rfl
  ·show (match D.find? (fun d=>(Xal (l.getD d.toNat z0).urls (Ul.nU s).1).1) with
    | none=>(z0,[],31)
    | some d=>(l.getD d.toNat z0,(Ul.nU s).1,0))=(match (D.find? ((fun t=>(Xal t.urls (Ul.nU s).1).1) ∘ fun d=>l.getD d.toNat z0)).map (fun d=>l.getD d.toNat z0) with
    | none=>(z0,[],31)
    | some t=>(t,(Ul.nU s).1,0))
   rw [show ((fun t=>(Xal t.urls (Ul.nU s).1).1) ∘ fun d=>l.getD d.toNat z0)=(fun d:Int=>(Xal (l.getD d.toNat z0).urls (Ul.nU s).1).1) from rfl];cases D.find? (fun d=>(Xal (l.getD d.toNat z0).urls (Ul.nU s).1).1) <;> rfl
end Go.Proofs.YtbciobiiejpdgaaGreatDoor
namespace Go.Proofs.YtbciobiiejpdgaaGreatDoor
open Gk Ul Pc Tk Tr
def X8r (ω:Wd) (r:Rec):Wd:={ ω with l:=add ω.room ω.l r }
theorem Xwc {ω:Wd} (h:Xe3 ω) (r:Rec):Xe3 (X8r ω r):=by
 refine ⟨?_,h.wf.add,h.D,h.now,h.room⟩;show (add ω.room ω.l r).length≤64
 unfold add;split
 ·rename_i e
  have:=(Xta e).2.2.2
  have:=h.room
  rw [Y0,List.length_cons,List.length_nil]; omega
 ·exact h.len
theorem Xck:∀ (l:List Rec) {ω:Wd},Xe3 ω→Xe3 (l.foldl X8r ω)
 | [],_,h=>h
 | r::l,_,h=>Xck l (Xwc h r)
structure CfAt (I:Im) (c:Cf) (a:Option Addr) (cap:Nat) (ua:Option Addr) (ucap:Nat):Prop where
 svs:SvsAt I a c.svs
 us:UsrsAt I ua c.us
 cap:c.svs.length≤cap∧cap≤maxLen
 un:c.us.length≤9223372036854775807
 sfit:∀ s∈c.svs,s.fits
 ufit:∀ u∈c.us,u.fits
theorem CfAt.mono {I J:Im} {c:Cf} {a ua:Option Addr} {cap ucap:Nat} (h:CfAt I c a cap ua ucap) (hl:Le I J):CfAt J c a cap ua ucap:=⟨h.svs.mono hl,h.us.mono hl,h.cap,h.un,h.sfit,h.ufit⟩
theorem Xne {I:Im} {c:Cf} {a ua:Option Addr} {cap ucap:Nat} (h:CfAt I c a cap ua ucap) (hf:fewC c=true):c.fits:=by
 unfold fewC at hf;simp only [Yn] at hf
 have h1:=Xlz hf.1;refine ⟨by omega,Xrz h.sfit,Xqw h.sfit h1.2,h.un,h.ufit⟩
theorem rec_in {α:Type} [BEq α] [LawfulBEq α] {l:List α} {s:α}:l.contains s=true ↔ s∈l:=by simp
def X9h (s:List UInt8):List Value:=[S s]
theorem Xuq (l:List (List UInt8)):X9 X9h l=l.map S:=by
 unfold X9
 induction l with
 | nil=>rfl
 | cons x l ih=>rw [Y1a,Y1j,ih]; rfl
theorem In_any (a:Option Addr) (c:Nat) (l:List (List UInt8)) (hl:l.length≤9223372036854775807) (s:List UInt8) (B w:World) (I:Im) (As:List X6) (hE:∀ w,Sat B w I As→X6q w X9h 1 a l) (hS:Sat B w I As) :
  Cz 50 [.slice a l.length c,S s] w fun v w'=>v=.bool (l.contains s)∧Sat B w' I As:=by
 refine calls Tryz.func50 rfl Tryz.ntmps50 rfl (.seq (.q 1 rfl (.seq (.seq (.q 1 rfl (.block (.loop (σ:=Nat) (fun i=>[(0,.slice a l.length c),(1,S s),(5,I64 (i:Nat))]) (fun i w=>i≤l.length∧(∀ (j:Nat) x,j<i→l[j]?=some x→x≠s)∧Sat B w I As) (fun i=>l.length - i) 0 ⟨rfl,rfl,rfl,trivial⟩ ⟨Yq _,fun _ _ h=>absurd h (by omega),hS⟩ ?_)))))));rintro i w ⟨hi,hno,hS⟩;refine .seq (.seq (.region (.run 4 rfl ⟨⟨_,X1s⟩,trivial⟩ (.nil ?_))));refine .cond rfl (fun hb9=>?_) fun hb9=>?_
 ·have hc9:=hb9; simp only [Y6] at hc9;refine .skip (.seq (.block (.seq ?_)));obtain ⟨x,hx⟩:∃ x,l[i]?=some x:=⟨_,Y5 (by omega)⟩
  obtain ⟨p,rfl,hA⟩:=hE w hS i x hx;have hc0:=hA 0 _ rfl;refine .t 2 rfl (.val (.ii rfl rfl (by omega) (by omega) X1s Qs9) rfl (.val (v:=S x) (.ld1 (.of rfl) (by simpa [Addr.add_add] using hc0) Qg9) rfl (.q 2 rfl (.nil ?_))));refine .cond rfl (fun hb17=>?_) fun hb17=>?_
  ·refine .seq (.q 1 rfl (.ret (X8 Tryz.results50 rfl ?_)));refine ⟨_,rfl,congrArg Value.bool (rec_in.2 ?_).symm,hS⟩;have e:x=s:=by simpa using hb17
   subst e;exact Yl hx
  have hc17:=hb17; simp only [Y6] at hc17;refine .skip (.region (.run 3 rfl ⟨⟨by omega,by omega⟩,trivial⟩ (.nil ?_)));refine ⟨i+1,⟨rfl,rfl,rfl,trivial⟩,⟨by (try dsimp only); omega,fun j y hj hy=>?_,hS⟩,by (try dsimp only); omega⟩;rcases Ys j i with h1 | h1
  ·exact hno j y h1 hy
  ·have e:j=i:=by omega
   subst e;rw [hx] at hy; cases hy;simpa using hb17
 have hc9:=hb9; simp only [Y6] at hc9;refine .exit (.seq (.q 1 rfl (.ret (X8 Tryz.results50 rfl ?_))));refine ⟨_,rfl,congrArg Value.bool (Y40.2 fun h=>?_).symm,hS⟩;obtain ⟨j,hj⟩:=Yx.1 (rec_in.1 h)
 have:=(Y4.1 hj).1
 exact hno j s (by omega) hj rfl
end Go.Proofs.YtbciobiiejpdgaaGreatDoor
namespace Go.Proofs.YtbciobiiejpdgaaGreatDoor
open Gk Ul Pc Tk Tr Go.RowKit Go.WideShapes Go.ChangeShapes
set_option maxRecDepth 100000
theorem Xmm {H:Type} {enc:TypeId×Value→H} {W:World} {spare:Nat→Bool} {held:Bool} {fuel:Nat} {cs:List Value} {x:DataW H×List MemPlace} (h:DataW.trod enc Tryz.prog W 0 spare held fuel 136 cs=some x):∃ z:Pr,cs=X1r z∧X1k z:=by
 obtain ⟨xs,n,_,_,hcl,hxl,hf⟩:=DataW.trod_struct X4f h;rw [show Tryz.prog.cellsOf 136=2 from by kernel_rfl] at hcl;obtain ⟨y0,hy0⟩:∃ y,DataW.trod enc Tryz.prog W 0 spare held n 9 ((cs.drop 0).take (Tryz.prog.cellsOf 9))=some y:=⟨_,(hf 0 _ rfl).trans (Y5 (by rw [hxl]; decide))⟩
 rw [show Tryz.prog.cellsOf 9=1 from by kernel_rfl] at hy0;obtain ⟨y1,hy1⟩:∃ y,DataW.trod enc Tryz.prog W 0 spare held n 9 ((cs.drop 1).take (Tryz.prog.cellsOf 9))=some y:=⟨_,(hf 1 _ rfl).trans (Y5 (by rw [hxl]; decide))⟩
 rw [show Tryz.prog.cellsOf 9=1 from by kernel_rfl] at hy1;obtain ⟨v0,v1,rfl⟩:∃ v0 v1,cs=[v0,v1]:=by
  match cs,hcl with
  | [v0,v1],_=>exact ⟨v0,v1,rfl⟩
 simp only [Y7,Yh,Y1k,Yk] at hy0 hy1
 obtain ⟨z0,e0,_,w0⟩:=DataW.trod_string Qu9 hy0;obtain ⟨z1,e1,_,w1⟩:=DataW.trod_string Qu9 hy1;simp only [List.cons.injEq,and_true] at e0 e1
 subst e0 e1;exact ⟨(z0.data.toList,z1.data.toList),rfl,⟨w0,w1⟩⟩
def Xtg (r:Rec):Prop:=r.name.length≤maxLen∧r.parent.length≤maxLen∧r.user.length≤maxLen∧r.service.length≤maxLen∧r.url.length≤maxLen
theorem Xs7 {H:Type} {enc:TypeId×Value→H} {W:World} {spare:Nat→Bool} {held:Bool} {fuel:Nat} {cs:List Value} {x:DataW H×List MemPlace} (h:DataW.trod enc Tryz.prog W 0 spare held fuel 75 cs=some x):∃ z:Rec,cs=Xf z∧Xtg z:=by
 obtain ⟨xs,n,_,_,hcl,hxl,hf⟩:=DataW.trod_struct X3r h;rw [show Tryz.prog.cellsOf 75=10 from by kernel_rfl] at hcl;obtain ⟨y0,hy0⟩:∃ y,DataW.trod enc Tryz.prog W 0 spare held n 3 ((cs.drop 0).take (Tryz.prog.cellsOf 3))=some y:=⟨_,(hf 0 _ rfl).trans (Y5 (by rw [hxl]; decide))⟩
 rw [show Tryz.prog.cellsOf 3=1 from by kernel_rfl] at hy0;obtain ⟨y1,hy1⟩:∃ y,DataW.trod enc Tryz.prog W 0 spare held n 9 ((cs.drop 1).take (Tryz.prog.cellsOf 9))=some y:=⟨_,(hf 1 _ rfl).trans (Y5 (by rw [hxl]; decide))⟩
 rw [show Tryz.prog.cellsOf 9=1 from by kernel_rfl] at hy1;obtain ⟨y2,hy2⟩:∃ y,DataW.trod enc Tryz.prog W 0 spare held n 9 ((cs.drop 2).take (Tryz.prog.cellsOf 9))=some y:=⟨_,(hf 2 _ rfl).trans (Y5 (by rw [hxl]; decide))⟩
 rw [show Tryz.prog.cellsOf 9=1 from by kernel_rfl] at hy2;obtain ⟨y3,hy3⟩:∃ y,DataW.trod enc Tryz.prog W 0 spare held n 9 ((cs.drop 3).take (Tryz.prog.cellsOf 9))=some y:=⟨_,(hf 3 _ rfl).trans (Y5 (by rw [hxl]; decide))⟩
 rw [show Tryz.prog.cellsOf 9=1 from by kernel_rfl] at hy3;obtain ⟨y4,hy4⟩:∃ y,DataW.trod enc Tryz.prog W 0 spare held n 9 ((cs.drop 4).take (Tryz.prog.cellsOf 9))=some y:=⟨_,(hf 4 _ rfl).trans (Y5 (by rw [hxl]; decide))⟩
 rw [show Tryz.prog.cellsOf 9=1 from by kernel_rfl] at hy4;obtain ⟨y5,hy5⟩:∃ y,DataW.trod enc Tryz.prog W 0 spare held n 9 ((cs.drop 5).take (Tryz.prog.cellsOf 9))=some y:=⟨_,(hf 5 _ rfl).trans (Y5 (by rw [hxl]; decide))⟩
 rw [show Tryz.prog.cellsOf 9=1 from by kernel_rfl] at hy5;obtain ⟨y6,hy6⟩:∃ y,DataW.trod enc Tryz.prog W 0 spare held n 3 ((cs.drop 6).take (Tryz.prog.cellsOf 3))=some y:=⟨_,(hf 6 _ rfl).trans (Y5 (by rw [hxl]; decide))⟩
 rw [show Tryz.prog.cellsOf 3=1 from by kernel_rfl] at hy6;obtain ⟨y7,hy7⟩:∃ y,DataW.trod enc Tryz.prog W 0 spare held n 3 ((cs.drop 7).take (Tryz.prog.cellsOf 3))=some y:=⟨_,(hf 7 _ rfl).trans (Y5 (by rw [hxl]; decide))⟩
 rw [show Tryz.prog.cellsOf 3=1 from by kernel_rfl] at hy7;obtain ⟨y8,hy8⟩:∃ y,DataW.trod enc Tryz.prog W 0 spare held n 3 ((cs.drop 8).take (Tryz.prog.cellsOf 3))=some y:=⟨_,(hf 8 _ rfl).trans (Y5 (by rw [hxl]; decide))⟩
 rw [show Tryz.prog.cellsOf 3=1 from by kernel_rfl] at hy8;obtain ⟨y9,hy9⟩:∃ y,DataW.trod enc Tryz.prog W 0 spare held n 4 ((cs.drop 9).take (Tryz.prog.cellsOf 4))=some y:=⟨_,(hf 9 _ rfl).trans (Y5 (by rw [hxl]; decide))⟩
 rw [show Tryz.prog.cellsOf 4=1 from by kernel_rfl] at hy9;obtain ⟨v0,v1,v2,v3,v4,v5,v6,v7,v8,v9,rfl⟩:∃ v0 v1 v2 v3 v4 v5 v6 v7 v8 v9,cs=[v0,v1,v2,v3,v4,v5,v6,v7,v8,v9]:=by
  match cs,hcl with
  | [v0,v1,v2,v3,v4,v5,v6,v7,v8,v9],_=>exact ⟨v0,v1,v2,v3,v4,v5,v6,v7,v8,v9,rfl⟩
 simp only [Y7,Yh,Y1k,Yk] at hy0 hy1 hy2 hy3 hy4 hy5 hy6 hy7 hy8 hy9
 obtain ⟨z0,e0,_,w0⟩:=DataW.trod_int Qu3 hy0;obtain ⟨z1,e1,_,w1⟩:=DataW.trod_string Qu9 hy1;obtain ⟨z2,e2,_,w2⟩:=DataW.trod_string Qu9 hy2;obtain ⟨z3,e3,_,w3⟩:=DataW.trod_string Qu9 hy3;obtain ⟨z4,e4,_,w4⟩:=DataW.trod_string Qu9 hy4;obtain ⟨z5,e5,_,w5⟩:=DataW.trod_string Qu9 hy5;obtain ⟨z6,e6,_,w6⟩:=DataW.trod_int Qu3 hy6;obtain ⟨z7,e7,_,w7⟩:=DataW.trod_int Qu3 hy7;obtain ⟨z8,e8,_,w8⟩:=DataW.trod_int Qu3 hy8;obtain ⟨z9,e9,_⟩:=DataW.trod_bool Qu4 hy9;simp only [List.cons.injEq,and_true] at e0 e1 e2 e3 e4 e5 e6 e7 e8 e9
 subst e0 e1 e2 e3 e4 e5 e6 e7 e8 e9;exact ⟨⟨z0,z1.data.toList,z2.data.toList,z3.data.toList,z4.data.toList,z5.data.toList,z6,z7,z8,z9⟩,rfl,⟨w1,w2,w3,w4,w5⟩⟩
theorem Xa7 {α:Type} {cells:α→List Value} {c:Nat} {fit:α→Prop} {t e:TypeId} {H:Type} {enc:TypeId×Value→H} {W:World} {spare:Nat→Bool} {held:Bool} {fuel:Nat} {cs:List Value} {x:DataW H×List MemPlace} (ht:Tryz.prog.underlying t=some (.slice e)) (hc:Tryz.prog.cellsOf e=c) (hc0:0<c)
  (one:∀ n cs y,DataW.trod enc Tryz.prog W 0 spare held n e cs=some y→∃ z:α,cs=cells z∧fit z) (h:DataW.trod enc Tryz.prog W 0 spare held fuel t cs=some x) :
  ∃ (a:Option Addr) (cap:Nat) (l:List α),cs=[.slice a l.length cap]∧l.length≤cap∧cap≤maxLen∧RS (im0 W) a c l.length (X9 cells l)∧∀ z∈l,fit z:=by
 obtain ⟨a,cap,L,n,rfl,h1,h2,h3,h4,h5⟩:=X6u ht hc hc0 h;have key:∀ L:List (List Value),(∀ l∈L,∃ y,DataW.trod enc Tryz.prog W 0 spare held n e l=some y)→∃ l:List α,L=l.map cells∧∀ z∈l,fit z:=by
  intro L
  induction L with
  | nil=>intro _; exact ⟨[],rfl,fun z h=>by simp at h⟩
  | cons c L ih =>
   intro h;obtain ⟨y,hy⟩:=h c (by simp);obtain ⟨z,rfl,hf⟩:=one n c y hy;obtain ⟨l,rfl,e2⟩:=ih (fun c hc=>h c (by simp [hc]));exact ⟨z::l,rfl,fun u hu=>by
    rcases Y15.1 hu with e | hu
    ·subst e; exact hf
    ·exact e2 u hu⟩
 obtain ⟨l,rfl,hfit⟩:=key L h5;rw [Y10] at h1 h4;exact ⟨a,cap,l,by rw [Y10],h1,h2,h4,hfit⟩
theorem Xso {H:Type} {enc:TypeId×Value→H} {W:World} {spare:Nat→Bool} {held:Bool} {fuel:Nat} {cs:List Value} {x:DataW H×List MemPlace} (h:DataW.trod enc Tryz.prog W 0 spare held fuel 183 cs=some x):∃ u:Us,UsAt (im0 W) u cs∧u.fits:=by
 obtain ⟨xs,n,_,_,hcl,hxl,hf⟩:=DataW.trod_struct X5z h;rw [show Tryz.prog.cellsOf 183=3 from by kernel_rfl] at hcl;obtain ⟨y0,hy0⟩:∃ y,DataW.trod enc Tryz.prog W 0 spare held n 9 ((cs.drop 0).take (Tryz.prog.cellsOf 9))=some y:=⟨_,(hf 0 _ rfl).trans (Y5 (by rw [hxl]; decide))⟩
 rw [show Tryz.prog.cellsOf 9=1 from by kernel_rfl] at hy0;obtain ⟨y1,hy1⟩:∃ y,DataW.trod enc Tryz.prog W 0 spare held n 9 ((cs.drop 1).take (Tryz.prog.cellsOf 9))=some y:=⟨_,(hf 1 _ rfl).trans (Y5 (by rw [hxl]; decide))⟩
 rw [show Tryz.prog.cellsOf 9=1 from by kernel_rfl] at hy1;obtain ⟨y2,hy2⟩:∃ y,DataW.trod enc Tryz.prog W 0 spare held n 123 ((cs.drop 2).take (Tryz.prog.cellsOf 123))=some y:=⟨_,(hf 2 _ rfl).trans (Y5 (by rw [hxl]; decide))⟩
 rw [show Tryz.prog.cellsOf 123=1 from by kernel_rfl] at hy2;obtain ⟨v0,v1,v2,rfl⟩:∃ v0 v1 v2,cs=[v0,v1,v2]:=by
  match cs,hcl with
  | [v0,v1,v2],_=>exact ⟨v0,v1,v2,rfl⟩
 simp only [Y7,Yh,Y1k,Yk] at hy0 hy1 hy2
 obtain ⟨z0,e0,_,w0⟩:=DataW.trod_string Qu9 hy0;obtain ⟨z1,e1,_,w1⟩:=DataW.trod_string Qu9 hy1;obtain ⟨a,c,l,e2,h1,h2,h3,h4⟩:=Xa7 (cells:=X1r) (c:=2) (fit:=X1k) X2t (by kernel_rfl) (by decide) (fun n cs y h=>Xmm h) hy2;simp only [List.cons.injEq,and_true] at e0 e1 e2
 subst e0 e1 e2;exact ⟨⟨z0.data.toList,z1.data.toList,l⟩,⟨a,c,rfl,h1,h3⟩,⟨w0,w1,Y4e h1 h2,h4⟩⟩
theorem Xlb {H:Type} {enc:TypeId×Value→H} {W:World} {spare:Nat→Bool} {held:Bool} {fuel:Nat} {cs:List Value} {x:DataW H×List MemPlace} (h:DataW.trod enc Tryz.prog W 0 spare held fuel 23 cs=some x):∃ (a:Option Addr) (cap:Nat) (l:List Us),cs=[.slice a l.length cap]∧l.length≤cap∧cap≤maxLen∧UsrsAt (im0 W) a l∧∀ u∈l,u.fits:=by
 obtain ⟨a,cap,L,n,rfl,h1,h2,h3,h4,h5⟩:=X6u (c:=3) Xob (by kernel_rfl) (by decide) h;have key:∀ L:List (List Value),(∀ l∈L,∃ y,DataW.trod enc Tryz.prog W 0 spare held n 183 l=some y)→∃ l:List Us,L.length=l.length∧∀ (i:Nat) (u:Us),l[i]?=some u→u.fits∧∃ c,L[i]?=some c∧UsAt (im0 W) u c:=by
  intro L
  induction L with
  | nil=>intro _; exact ⟨[],rfl,fun i s h=>by simp at h⟩
  | cons c L ih =>
   intro h;obtain ⟨y,hy⟩:=h c (by simp);obtain ⟨s,hs,hf⟩:=Xso hy;obtain ⟨l,e1,e2⟩:=ih (fun c hc=>h c (by simp [hc]));refine ⟨s::l,by simp [e1],fun i u hu=>?_⟩;cases i with
   | zero=>simp at hu; subst hu; exact ⟨hf,c,rfl,hs⟩
   | succ i=>simpa using e2 i u (by simpa using hu)
 obtain ⟨l,e1,e2⟩:=key L h5;refine ⟨a,cap,l,by rw [e1],by rw [← e1]; exact h1,h2,fun i u hu=>?_,fun u hu=>?_⟩
 ·obtain ⟨_,c,hc,ra,rc,rfl,h6,h7⟩:=e2 i u hu;obtain ⟨p,rfl,hp⟩:=h4.2 (by have:=(Y4.1 hc).1; omega);have h8:=X5a (hp.add (i*3)) 3;rw [X1c L h3 i _ hc] at h8;exact ⟨p,ra,rc,rfl,h8,h6,h7⟩
 ·obtain ⟨i,hi⟩:=Yx.1 hu;exact (e2 i u hi).1
theorem Xcs {H:Type} {enc:TypeId×Value→H} {W:World} {spare:Nat→Bool} {held:Bool} {fuel:Nat} {cs:List Value} {x:DataW H×List MemPlace} (h:DataW.trod enc Tryz.prog W 0 spare held fuel 24 cs=some x):∃ l:List Int,l.length=7∧cs=l.map I64:=by
 obtain ⟨xs,n,_,_,hcl,hxl,hf⟩:=DataW.trod_array Qu24 h;rw [show Tryz.prog.cellsOf 24=7 from by kernel_rfl] at hcl;rw [show Tryz.prog.cellsOf 3=1 from by kernel_rfl] at hf;have each:∀ v∈cs,∃ z:Int,v=I64 z:=by
  intro v hv;obtain ⟨i,hi⟩:=Yx.1 hv;have hil:=(Y4.1 hi).1;obtain ⟨y,hy⟩:∃ y,xs[i]?=some y:=⟨_,Y5 (by omega)⟩
  have h2:=(hf i (by omega)).trans hy;obtain ⟨z,e,_⟩:=DataW.trod_int Qu3 h2;rw [Y1c,Y16 hil,Y1k,Yk,(Y4.1 hi).2] at e;exact ⟨z,(List.cons.inj e).1⟩
 have key:∀ cs:List Value,(∀ v∈cs,∃ z:Int,v=I64 z)→∃ l:List Int,cs=l.map I64:=by
  intro cs
  induction cs with
  | nil=>intro _; exact ⟨[],rfl⟩
  | cons v r ih =>
   intro h;obtain ⟨z,rfl⟩:=h v (by simp);obtain ⟨l,rfl⟩:=ih (fun v hv=>h v (by simp [hv]));exact ⟨z::l,rfl⟩
 obtain ⟨l,rfl⟩:=key cs each;exact ⟨l,by simpa using hcl,rfl⟩
theorem psL_of {L:List Int} (h:L.length=21):psL (fun i=>L.getD i 0)=L:=by
 match L,h with
 | [a0,a1,a2,a3,a4,a5,a6,a7,a8,a9,a10,a11,a12,a13,a14,a15,a16,a17,a18,a19,a20],_=>rfl
theorem Xry {H:Type} {enc:TypeId×Value→H} {W:World} {spare:Nat→Bool} {held:Bool} {fuel:Nat} {cs:List Value} {x:DataW H×List MemPlace} (h:DataW.trod enc Tryz.prog W 0 spare held fuel 26 cs=some x):∃ p:Nat→Int,cs=(psL p).map I64:=by
 obtain ⟨xs,n,_,_,hcl,hxl,hf⟩:=DataW.trod_struct Qu26 h;rw [show Tryz.prog.cellsOf 26=21 from by kernel_rfl] at hcl;obtain ⟨y0,hy0⟩:∃ y,DataW.trod enc Tryz.prog W 0 spare held n 24 ((cs.drop 0).take (Tryz.prog.cellsOf 24))=some y:=⟨_,(hf 0 _ rfl).trans (Y5 (by rw [hxl]; decide))⟩
 rw [show Tryz.prog.cellsOf 24=7 from by kernel_rfl] at hy0;obtain ⟨y1,hy1⟩:∃ y,DataW.trod enc Tryz.prog W 0 spare held n 24 ((cs.drop 7).take (Tryz.prog.cellsOf 24))=some y:=⟨_,(hf 1 _ rfl).trans (Y5 (by rw [hxl]; decide))⟩
 rw [show Tryz.prog.cellsOf 24=7 from by kernel_rfl] at hy1;obtain ⟨y2,hy2⟩:∃ y,DataW.trod enc Tryz.prog W 0 spare held n 24 ((cs.drop 14).take (Tryz.prog.cellsOf 24))=some y:=⟨_,(hf 2 _ rfl).trans (Y5 (by rw [hxl]; decide))⟩
 rw [show Tryz.prog.cellsOf 24=7 from by kernel_rfl] at hy2;obtain ⟨v0,v1,v2,v3,v4,v5,v6,v7,v8,v9,v10,v11,v12,v13,v14,v15,v16,v17,v18,v19,v20,rfl⟩:∃ v0 v1 v2 v3 v4 v5 v6 v7 v8 v9 v10 v11 v12 v13 v14 v15 v16 v17 v18 v19 v20,cs=[v0,v1,v2,v3,v4,v5,v6,v7,v8,v9,v10,v11,v12,v13,v14,v15,v16,v17,v18,v19,v20]:=by
  match cs,hcl with
  | [v0,v1,v2,v3,v4,v5,v6,v7,v8,v9,v10,v11,v12,v13,v14,v15,v16,v17,v18,v19,v20],_=>exact ⟨v0,v1,v2,v3,v4,v5,v6,v7,v8,v9,v10,v11,v12,v13,v14,v15,v16,v17,v18,v19,v20,rfl⟩
 simp only [Y7,Yh,Y1k,Yk] at hy0 hy1 hy2
 obtain ⟨l0,h0,e0⟩:=Xcs hy0;obtain ⟨l1,h1,e1⟩:=Xcs hy1;obtain ⟨l2,h2,e2⟩:=Xcs hy2;refine ⟨fun i=>(l0 ++ (l1 ++ l2)).getD i 0,?_⟩;rw [psL_of (by simp only [Y0]; omega),Yu,Yu,← e0,← e1,← e2];rfl
theorem Xsf {H:Type} {enc:TypeId×Value→H} {W:World} {spare:Nat→Bool} {held:Bool} {fuel:Nat} {cs:List Value} {x:DataW H×List MemPlace} (h:DataW.trod enc Tryz.prog W 0 spare held fuel 29 cs=some x):∃ (c:Cf) (a:Option Addr) (cap:Nat) (ua:Option Addr) (ucap:Nat),cs=X17 c a cap ua ucap∧CfAt (im0 W) c a cap ua ucap:=by
 obtain ⟨xs,n,_,_,hcl,hxl,hf⟩:=DataW.trod_struct Xhi h;rw [show Tryz.prog.cellsOf 29=28 from by kernel_rfl] at hcl;obtain ⟨y0,hy0⟩:∃ y,DataW.trod enc Tryz.prog W 0 spare held n 22 ((cs.drop 0).take (Tryz.prog.cellsOf 22))=some y:=⟨_,(hf 0 _ rfl).trans (Y5 (by rw [hxl]; decide))⟩
 rw [show Tryz.prog.cellsOf 22=1 from by kernel_rfl] at hy0;obtain ⟨y1,hy1⟩:∃ y,DataW.trod enc Tryz.prog W 0 spare held n 23 ((cs.drop 1).take (Tryz.prog.cellsOf 23))=some y:=⟨_,(hf 1 _ rfl).trans (Y5 (by rw [hxl]; decide))⟩
 rw [show Tryz.prog.cellsOf 23=1 from by kernel_rfl] at hy1;obtain ⟨y2,hy2⟩:∃ y,DataW.trod enc Tryz.prog W 0 spare held n 26 ((cs.drop 2).take (Tryz.prog.cellsOf 26))=some y:=⟨_,(hf 2 _ rfl).trans (Y5 (by rw [hxl]; decide))⟩
 rw [show Tryz.prog.cellsOf 26=21 from by kernel_rfl] at hy2;obtain ⟨y3,hy3⟩:∃ y,DataW.trod enc Tryz.prog W 0 spare held n 3 ((cs.drop 23).take (Tryz.prog.cellsOf 3))=some y:=⟨_,(hf 3 _ rfl).trans (Y5 (by rw [hxl]; decide))⟩
 rw [show Tryz.prog.cellsOf 3=1 from by kernel_rfl] at hy3;obtain ⟨y4,hy4⟩:∃ y,DataW.trod enc Tryz.prog W 0 spare held n 27 ((cs.drop 24).take (Tryz.prog.cellsOf 27))=some y:=⟨_,(hf 4 _ rfl).trans (Y5 (by rw [hxl]; decide))⟩
 rw [show Tryz.prog.cellsOf 27=1 from by kernel_rfl] at hy4;obtain ⟨y5,hy5⟩:∃ y,DataW.trod enc Tryz.prog W 0 spare held n 27 ((cs.drop 25).take (Tryz.prog.cellsOf 27))=some y:=⟨_,(hf 5 _ rfl).trans (Y5 (by rw [hxl]; decide))⟩
 rw [show Tryz.prog.cellsOf 27=1 from by kernel_rfl] at hy5;obtain ⟨y6,hy6⟩:∃ y,DataW.trod enc Tryz.prog W 0 spare held n 27 ((cs.drop 26).take (Tryz.prog.cellsOf 27))=some y:=⟨_,(hf 6 _ rfl).trans (Y5 (by rw [hxl]; decide))⟩
 rw [show Tryz.prog.cellsOf 27=1 from by kernel_rfl] at hy6;obtain ⟨y7,hy7⟩:∃ y,DataW.trod enc Tryz.prog W 0 spare held n 3 ((cs.drop 27).take (Tryz.prog.cellsOf 3))=some y:=⟨_,(hf 7 _ rfl).trans (Y5 (by rw [hxl]; decide))⟩
 rw [show Tryz.prog.cellsOf 3=1 from by kernel_rfl] at hy7;obtain ⟨v0,v1,v2,v3,v4,v5,v6,v7,v8,v9,v10,v11,v12,v13,v14,v15,v16,v17,v18,v19,v20,v21,v22,v23,v24,v25,v26,v27,rfl⟩:∃ v0 v1 v2 v3 v4 v5 v6 v7 v8 v9 v10 v11 v12 v13 v14 v15 v16 v17 v18 v19 v20 v21 v22 v23 v24 v25 v26 v27,cs=[v0,v1,v2,v3,v4,v5,v6,v7,v8,v9,v10,v11,v12,v13,v14,v15,v16,v17,v18,v19,v20,v21,v22,v23,v24,v25,v26,v27]:=by
  match cs,hcl with
  | [v0,v1,v2,v3,v4,v5,v6,v7,v8,v9,v10,v11,v12,v13,v14,v15,v16,v17,v18,v19,v20,v21,v22,v23,v24,v25,v26,v27],_=>exact ⟨v0,v1,v2,v3,v4,v5,v6,v7,v8,v9,v10,v11,v12,v13,v14,v15,v16,v17,v18,v19,v20,v21,v22,v23,v24,v25,v26,v27,rfl⟩
 simp only [Y7,Yh,Y1k,Yk] at hy0 hy1 hy2 hy3 hy4 hy5 hy6 hy7
 obtain ⟨a,cap,L,l,e0,h1,h2,h3,h4,h5,h6⟩:=Xo0 hy0;obtain ⟨ua,ucap,us,e1,h7,h8,h9,h10⟩:=Xlb hy1;obtain ⟨ps,e2⟩:=Xry hy2;obtain ⟨z3,e3,_⟩:=DataW.trod_int Qu3 hy3;obtain ⟨z4,e4,_⟩:=X4e Qu27 hy4;obtain ⟨z5,e5,_⟩:=X4e Qu27 hy5;obtain ⟨z6,e6,_⟩:=X4e Qu27 hy6;obtain ⟨z7,e7,_⟩:=DataW.trod_int Qu3 hy7;simp only [List.cons.injEq,and_true] at e0 e1 e3 e4 e5 e6 e7
 subst e0 e1 e3 e4 e5 e6 e7;refine ⟨⟨l,us,ps,z3,z4,z5,z6,z7⟩,a,cap,ua,ucap,?_,svs_of h4 h5 (fun i s hs=>(h6 i s hs).2),h9,⟨by rw [← h3]; exact h1,h2⟩,Y4e h7 h8,fun s hs=>?_,h10⟩
 ·show _=Value.slice a l.length cap::Value.slice ua us.length ucap::((psL ps).map I64 ++ _)
  rw [← e2,← h3]; rfl
 ·obtain ⟨i,hi⟩:=Yx.1 hs;exact (h6 i s hi).1
end Go.Proofs.YtbciobiiejpdgaaGreatDoor
namespace Go.Proofs.YtbciobiiejpdgaaGreatDoor
open Gk Ul Pc Tk Tr
structure Op where
 act:Int
 n:Int
 d:List Nat
 a:Int
 b:List UInt8
 c:List UInt8
 f:Bool
 r:Rec
 q:Ak
def Xu7 (o:Op) (da:Option Addr) (dc:Nat):List Value:=[I64 o.act,I64 o.n,.slice da o.d.length dc,I64 o.a,S o.b,S o.c,.bool o.f,I64 o.r.kind,S o.r.name,S o.r.parent,S o.r.user,S o.r.service,S o.r.url,I64 o.r.made,I64 o.r.used,I64 o.r.uses,.bool o.r.fresh,S o.q.service,S o.q.cookie,.bool o.q.has,.bool o.q.renew,.bool o.q.gateway,.bool o.q.warn]
def OpAt (I:Im) (o:Op) (cs:List Value):Prop:=∃ da dc,cs=Xu7 o da dc∧o.d.length≤dc∧dc≤maxLen∧RS I da 1 o.d.length (o.d.map fun d=>U64 (d:Nat))
def OpsAt (I:Im) (a:Option Addr) (l:List Op):Prop:=∃ L:List (List Value),L.length=l.length∧(∀ c∈L,c.length=23)∧RS I a 23 l.length L.flatten∧∀ (i:Nat) (o:Op),l[i]?=some o→∃ cs,L[i]?=some cs∧OpAt I o cs
theorem OpAt.mono {I J:Im} {o:Op} {cs:List Value} (h:OpAt I o cs) (hl:Le I J):OpAt J o cs:=by
 obtain ⟨da,dc,e,h1,h2,h3⟩:=h;exact ⟨da,dc,e,h1,h2,h3.mono hl⟩
theorem OpsAt.mono {I J:Im} {a:Option Addr} {l:List Op} (h:OpsAt I a l) (hl:Le I J):OpsAt J a l:=by
 obtain ⟨L,h1,h2,h3,h4⟩:=h;exact ⟨L,h1,h2,h3.mono hl,fun i o ho=>by
  obtain ⟨cs,h5,h6⟩:=h4 i o ho;exact ⟨cs,h5,h6.mono hl⟩⟩
theorem OpsAt.at {I:Im} {a:Option Addr} {l:List Op} (h:OpsAt I a l) (i:Nat) (u:Op) (hu:l[i]?=some u):∃ p cs,a=some p∧At I (p.add (i*23)) cs∧OpAt I u cs:=by
 obtain ⟨L,h1,h2,h3,h4⟩:=h;obtain ⟨cs,h5,h6⟩:=h4 i u hu;obtain ⟨p,rfl,hp⟩:=h3.2 (by have:=(Y4.1 hu).1; omega);refine ⟨p,cs,rfl,?_,h6⟩;have h8:=X5a (hp.add (i*23)) 23;rw [X1c L h2 i _ h5] at h8;exact h8
structure Op.fits (o:Op):Prop where
 d:∀ x∈o.d,x<18446744073709551616
 b:o.b.length≤maxLen
 c:o.c.length≤maxLen
theorem X1m (cs s:List UInt8):upto cs s ++ X5 cs s=s:=Y4m
theorem Xnr {s t:List UInt8} {k:Nat} (hs:s=pre k ++ 45::t) (hl:t.length=16):s.length=(pre k).length+1+16∧s.take ((pre k).length+1)=pre k ++ [45]∧s.drop ((pre k).length+1)=t:=by
 have e:s=(pre k ++ [45]) ++ t:=by rw [hs]; simp
 have e2:(pre k).length+1=(pre k ++ [45]).length:=by simp
 refine ⟨by rw [hs]; simp [hl],?_,?_⟩
 ·rw [e,e2,Y2c]
 ·rw [e,e2,Y47]
end Go.Proofs.YtbciobiiejpdgaaGreatDoor
namespace Ul
open Pc Gk
theorem Xqa {r t:List UInt8} {v:UInt8} (h:told r=some v):told (r ++ t)=some v:=by
 match r,h with
 | a::b::_,h=>exact h
 | [_],h=>simp [told] at h
 | [],h=>simp [told] at h
theorem Xsz:∀ (n:Nat) (a b a':List UInt8),a.length≤n→X43 a=some a'→X43 (a ++ b)=(X43 b).map (a' ++ ·):=by
 intro n
 induction n with
 | zero =>
  intro a b a' hn h
  have:=Yj (Nat.le_zero.1 hn)
  subst this;rw [X5u] at h; injection h with h; subst h
  rw [Yf];cases hb:X43 b <;> simp
 | succ n ih =>
  intro a b a' hn h;cases a with
  | nil =>
   rw [X5u] at h; injection h with h; subst h
   cases hb:X43 b <;> simp [hb]
  | cons c r =>
   simp only [List.length_cons] at hn
   rw [X1p] at h;rw [Yr,X1p]
   by_cases hc:c=37
   ·rw [if_pos hc] at h ⊢;cases ht:told r with
    | none=>rw [ht] at h; cases h
    | some v =>
     rw [ht] at h;rw [Xqa ht];simp only at h ⊢
     have hl:=X3g ht;obtain ⟨u,hu,rfl⟩:=Y1e.1 h;rw [Y2w hl,ih (r.drop 2) b u (by rw [Yg]; omega) hu,Y5w]
     congr 1
     funext x
     simp
   ·rw [if_neg hc] at h ⊢;obtain ⟨u,hu,rfl⟩:=Y1e.1 h;rw [ih r b u (by omega) hu,Y5w];rfl
def Fix (s:List UInt8):Prop:=X43 s=some s
theorem Fix.nil:Fix []:=X5u
theorem Fix.app {a b:List UInt8} (h:Fix a) (k:Fix b):Fix (a ++ b):=by
 unfold Fix at *;rw [Xsz a.length a b a (Yo _) h,k]; rfl
theorem Fix.cons {c:UInt8} {b:List UInt8} (h:c≠37) (k:Fix b):Fix (c::b):=by
 unfold Fix at *;rw [X1p,if_neg h,k]; rfl
def standQ (c:UInt8):Bool:=X34 c && c != 63
theorem X31 {ats a b:List UInt8} (ha:∀ c∈a,ats.contains c=false) (hb:∀ c,b.head?=some c→ats.contains c=true):upto ats (a ++ b)=a∧X5 ats (a ++ b)=b:=by
 induction a with
 | nil =>
  cases b with
  | nil=>exact ⟨rfl,rfl⟩
  | cons c b =>
   have:=hb c rfl
   unfold upto X5;rw [Yf,Y2q,Y4d,this];exact ⟨rfl,rfl⟩
 | cons c a ih =>
  have h1:=ha c (by simp);obtain ⟨h2,h3⟩:=ih (fun x hx=>ha x (by simp [hx]));simp only [upto,X5] at h2 h3 ⊢
  rw [Yr,Y2q,Y4d,h1];exact ⟨congrArg (c::·) h2,h3⟩
theorem Xtk {p:UInt8→Bool}:∀ {l:List UInt8} {x:UInt8},x∈l.takeWhile p→p x=true
 | [],_,h=>by simp at h
 | a::l,x,h=>by
  rw [Y2q] at h;split at h
  ·rename_i ha
   rcases Y15.1 h with e | e
   ·subst e; exact ha
   ·exact Xtk e
  ·simp at h
theorem X3p:∀ (n:Nat),val (Go.Lib.decDigits n)=n∧(Go.Lib.decDigits n).all X7i=true∧(0<n→(Go.Lib.decDigits n).head?≠some 48)∧Go.Lib.decDigits n≠[]:=by
 have dig:∀ d,d<10→(UInt8.ofNat (48+d)).toNat=48+d∧X7i (UInt8.ofNat (48+d))=true:=fun d hd=>by
  have h:=(by decide:∀ d:Fin 10,(UInt8.ofNat (48+d.val)).toNat=48+d.val∧X7i (UInt8.ofNat (48+d.val))=true) ⟨d,hd⟩
  exact h
 intro n
 induction n using Nat.strongRecOn with
 | _ n ih =>
  rw [Go.Lib.decDigits]
  by_cases h:n<10
  ·rw [dif_pos h];obtain ⟨h1,h2⟩:=dig n h;refine ⟨?_,?_,fun h0=>?_,by simp⟩
   ·simp only [val,Y33,List.foldl_nil,h1]; omega
   ·rw [Y60,h2]; rfl
   ·simp only [Y5v,Option.some.injEq,ne_eq]
    intro e;rw [e] at h1
    have:(48:UInt8).toNat=48:=rfl
    omega
  ·rw [dif_neg h];obtain ⟨h1,h2⟩:=dig (n % 10) (by omega);obtain ⟨i1,i2,i3,i4⟩:=ih (n / 10) (by omega);refine ⟨?_,?_,fun _=>?_,by simp⟩
   ·rw [Xns,i1,h1]; omega
   ·rw [Y59,i2,Y60,h2]; rfl
   ·rw [List.head?_append];cases hd:(Go.Lib.decDigits (n / 10)).head? with
    | none=>exact absurd (List.head?_eq_none_iff.1 hd) i4
    | some x =>
     have:=i3 (by omega)
     rw [hd] at this;exact this
structure Good (u:U):Prop where
 sch:u.sch=Xjk∨u.sch=X7f
 host:X4l u.host=true∧low u.host=u.host
 port:u.port≤65535∧u.port≠Xut u.sch
 path:X8j u.path=u.path∧Fix u.path∧u.path.all standQ=true∧u.path.head?=some 47
 query:Fix u.query∧u.query.all X34=true∧(u.ask=false→u.query=[])
theorem Xeg {ats s:List UInt8} {c:UInt8} (h:(X5 ats s).head?=some c):ats.contains c=true:=by
 unfold X5 at h
 have:=List.head?_dropWhile_not (fun c=>!ats.contains c) s
 rw [h] at this;simpa using this
def enc (s:List UInt8):List UInt8:=s.flatMap one
theorem Xq8 (c:UInt8) (s:List UInt8):enc (c::s)=one c ++ enc s:=rfl
theorem Xwt (c:UInt8):1≤(one c).length∧(one c).length≤3:=by unfold one; split <;> simp [Xin]
theorem X47:∀ (s:List UInt8),(enc s).length≤3*s.length
 | []=>Yo _
 | c::s=>by
  have:=X47 s
  have:=(Xwt c).2
  rw [Xq8,Y0,List.length_cons]; omega
def dB (p:Bool) (c:UInt8):UInt8:=if (p && c == 43)=true then 32 else c
def Xw0 (p:Bool):Nat→List UInt8→Option (List UInt8)
 | 0,_=>some []
 | _+1,[]=>some []
 | f+1,c::r=>if c=37 then match told r with
   | none=>none
   | some v=>(Xw0 p f (r.drop 2)).map (v::·)
  else (Xw0 p f r).map (dB p c::·)
def dec (p:Bool) (s:List UInt8):Option (List UInt8):=Xw0 p (s.length+1) s
theorem X9v (p:Bool):∀ (f g:Nat) (s:List UInt8),s.length<f→s.length<g→Xw0 p f s=Xw0 p g s
 | 0,_,_,h,_=>by omega
 | _+1,0,_,_,h=>by omega
 | f+1,g+1,[],_,_=>rfl
 | f+1,g+1,c::r,hf,hg=>by
  simp only [Xw0]
  split
  ·cases ht:told r with
   | none=>rfl
   | some v =>
    simp only
    have:=X3g ht
    simp only [List.length_cons] at hf hg
    rw [X9v p f g (r.drop 2) (by rw [Yg]; omega) (by rw [Yg]; omega)]
  ·simp only [List.length_cons] at hf hg
   rw [X9v p f g r (by omega) (by omega)]
theorem Xw1 (p:Bool):dec p []=some []:=rfl
theorem Xs8 (p:Bool) (c:UInt8) (r:List UInt8):dec p (c::r)=if c=37 then match told r with
   | none=>none
   | some v=>(dec p (r.drop 2)).map (v::·)
  else (dec p r).map (dB p c::·):=by
 unfold dec;simp only [List.length_cons,Xw0]
 split
 ·cases ht:told r with
  | none=>rfl
  | some v =>
   simp only
   have:=X3g ht
   rw [X9v p (r.length+1) ((r.drop 2).length+1) (r.drop 2) (by rw [Yg]; omega) (by omega)]
 ·rfl
theorem X7q (p:Bool):∀ (s t:List UInt8),dec p s=some t→t.length≤s.length:=by
 intro s
 induction hn:s.length using Nat.strongRecOn generalizing s with
 | _ n ih =>
  intro t h;cases s with
  | nil=>rw [Xw1] at h; injection h with h; subst h; simp
  | cons c r =>
   rw [Xs8] at h;simp only [List.length_cons] at hn
   split at h
   ·cases ht:told r with
    | none=>rw [ht] at h; cases h
    | some v =>
     rw [ht] at h;simp only at h
     cases hr:dec p (r.drop 2) with
     | none=>rw [hr] at h; cases h
     | some u =>
      rw [hr] at h;simp at h
      subst h
      have:=ih (r.drop 2).length (by rw [Yg]; omega) (r.drop 2) rfl u hr
      rw [Yg] at this;simp only [List.length_cons]
      omega
   ·cases hr:dec p r with
    | none=>rw [hr] at h; cases h
    | some u =>
     rw [hr] at h;simp at h
     subst h
     have:=ih r.length (by omega) r rfl u hr
     simp only [List.length_cons]
     omega
end Ul
namespace Xm
open Ul Pc Gk Pat
abbrev Px:=List UInt8×List UInt8
def MK:List Px:=[([38],[38,97,109,112,59]),([60],[38,108,116,59]),([62],[38,103,116,59]),([34],[38,113,117,111,116,59]),([39],[38,35,51,57,59])]
def em (c:UInt8):List UInt8:=if c=38 then [38,97,109,112,59] else if c=60 then [38,108,116,59] else if c=62 then [38,103,116,59] else if c=34 then [38,113,117,111,116,59] else if c=39 then [38,35,51,57,59] else [c]
def esc (s:List UInt8):List UInt8:=s.flatMap em
def Xgx (c:UInt8) (m s:List UInt8):List UInt8:=s.flatMap fun x=>if x=c then m else [x]
theorem Xij (c:UInt8) (m a b:List UInt8):Xgx c m (a ++ b)=Xgx c m a ++ Xgx c m b:=Y1t ..
theorem Xfl {c:UInt8} {m:List UInt8}:∀ {s:List UInt8},(∀ x∈s,x≠c)→Xgx c m s=s
 | [],_=>rfl
 | x::s,h=>by
  show (if x=c then m else [x]) ++ Xgx c m s=x::s
  rw [if_neg (h x (by simp)),Xfl (fun y hy=>h y (by simp [hy]))]; rfl
theorem Xeq (c:UInt8) (m:List UInt8):∀ (n:Nat) (s:List UInt8),s.length≤n→Go.Lib.replaceK [c] m (Go.Lib.count s [c]) s=Xgx c m s:=by
 intro n
 induction n with
 | zero =>
  intro s h
  have:s=[]:=Yj (by omega)
  subst this;have hc:Go.Lib.count ([]:List UInt8) [c]=0:=Go.Lib.count_miss (by rw [Go.Lib.index_one]; rfl);rw [hc]; rfl
 | succ n ih =>
  intro s h;have hge:=Go.Lib.indexByte_ge s c
  by_cases e:Go.Lib.indexByte s c=-1
  ·have hi:Go.Lib.index s [c]=-1:=by rw [Go.Lib.index_one]; exact e
   rw [Go.Lib.count_miss hi];show s=Xgx c m s
   refine (Xfl fun x hx ex=>?_).symm;obtain ⟨k,hk⟩:=Yx.1 hx;exact Go.Lib.indexByte_none e k (by rw [hk,ex])
  ·obtain ⟨i,hk⟩:∃ k:Nat,Go.Lib.indexByte s c=k:=⟨(Go.Lib.indexByte s c).toNat,by omega⟩
   have hi:Go.Lib.index s [c]=i:=by rw [Go.Lib.index_one]; exact hk
   obtain ⟨h1,h2⟩:=Go.Lib.indexByte_some hk;have hlt:i<s.length:=(Y4.1 h1).1;rw [Go.Lib.count_hit (by simp) hi,Y4p 1,Go.Lib.replaceK_hit _ _ _ _ i hi];show s.take i ++ m ++ Go.Lib.replaceK [c] m (Go.Lib.count (s.drop (i+1)) [c]) (s.drop (i+1))=_
   rw [ih (s.drop (i+1)) (by rw [Yg]; omega)];have es:s=s.take i ++ c::s.drop (i+1):=by
    conv=>lhs; rw [← Yw i s]
    rw [Y16 hlt,(Y4.1 h1).2]
   conv=>rhs; rw [es,Xij]
   have hno:Xgx c m (s.take i)=s.take i:=Xfl fun x hx ex=>by
    obtain ⟨k,hk⟩:=Yx.1 hx;rw [Y26] at hk;split at hk
    ·rename_i hki
     exact h2 k hki (by rw [hk,ex])
    ·cases hk
   rw [hno,Yc]
   congr 1
   show _=(if c=c then m else [c]) ++ Xgx c m (s.drop (i+1))
   rw [if_pos rfl]
theorem Xhe (c:UInt8) (m s:List UInt8) (h:([c] == m)=false):Go.Lib.replaceAll s [c] m=Xgx c m s:=by
 unfold Go.Lib.replaceAll Go.Lib.replace Go.Lib.replaceNum;rw [h,if_neg (by decide),if_pos (.inl (by decide))];exact Xeq c m _ s (Yo _)
def Xd9 (s:List UInt8) (m:Px):List UInt8:=Xgx (m.1.headD 0) m.2 s
theorem Xr8 (m:Px) (a b:List UInt8):Xd9 (a ++ b) m=Xd9 a m ++ Xd9 b m:=Xij ..
theorem Xim:∀ (l:List Px) (a b:List UInt8),l.foldl Xd9 (a ++ b)=l.foldl Xd9 a ++ l.foldl Xd9 b
 | [],a,b=>rfl
 | m::l,a,b=>by rw [Y33,Y33,Y33,Xr8,Xim l]
theorem Xi8:∀ (l:List Px),l.foldl Xd9 []=[]
 | []=>rfl
 | m::l=>by rw [Y33]; exact Xi8 l
theorem Xuu (c:UInt8):MK.foldl Xd9 [c]=em c :=
 eq_of_beq (Xh (p:=fun c=>MK.foldl Xd9 [c] == em c) (by decide +kernel) c)
theorem Xhk:∀ (s:List UInt8),MK.foldl Xd9 s=esc s
 | []=>Xi8 MK
 | c::s=>by
  rw [show c::s=[c] ++ s from rfl,Xim,Xuu,Xhk s]; rfl
theorem em_len (c:UInt8):(em c).length≤6:=by
 have:=Xh (p:=fun c=>decide ((em c).length≤6)) (by decide +kernel) c
 simpa using this
theorem Xg0:∀ (s:List UInt8),(esc s).length≤6*s.length
 | []=>Yo _
 | c::s=>by
  have h1:=em_len c;have h2:=Xg0 s;show (em c ++ esc s).length≤_
  rw [Y0,List.length_cons]; omega
theorem Xip (c:UInt8) (m:List UInt8) (hm:m.length≤6):∀ (s:List UInt8),(Xgx c m s).length≤6*s.length
 | []=>Yo _
 | x::s=>by
  have h2:=Xip c m hm s;show ((if x=c then m else [x]) ++ Xgx c m s).length≤_
  rw [Y0,List.length_cons];split
  ·omega
  ·show 1+_≤_; omega
def X52 (t:List UInt8):Option Px:=MK.find? fun m=>Xd t m.2
def unF:Nat→List UInt8→Option (List UInt8)
 | 0,_=>some []
 | _+1,[]=>some []
 | f+1,c::r=>if c=38 then match X52 (c::r) with
   | none=>none
   | some m=>(unF f (r.drop (m.2.length - 1))).map (m.1 ++ ·)
  else (unF f r).map (c::·)
def un0 (s:List UInt8):Option (List UInt8):=unF (s.length+1) s
theorem Xcr:∀ (f g:Nat) (s:List UInt8),s.length<f→s.length<g→unF f s=unF g s
 | 0,_,_,h,_=>by omega
 | _+1,0,_,_,h=>by omega
 | f+1,g+1,[],_,_=>rfl
 | f+1,g+1,c::r,hf,hg=>by
  simp only [List.length_cons] at hf hg
  simp only [unF]
  split
  ·cases ht:X52 (c::r) with
   | none=>rfl
   | some m =>
    simp only
    rw [Xcr f g (r.drop (m.2.length - 1)) (by rw [Yg]; omega) (by rw [Yg]; omega)]
  ·rw [Xcr f g r (by omega) (by omega)]
theorem X95:un0 []=some []:=rfl
theorem X8q (c:UInt8) (r:List UInt8):un0 (c::r)=if c=38 then match X52 (c::r) with
   | none=>none
   | some m=>(un0 (r.drop (m.2.length - 1))).map (m.1 ++ ·)
  else (un0 r).map (c::·):=by
 unfold un0;simp only [List.length_cons,unF]
 split
 ·cases ht:X52 (c::r) with
  | none=>rfl
  | some m =>
   simp only
   rw [Xcr (r.length+1) ((r.drop (m.2.length - 1)).length+1) (r.drop (m.2.length - 1)) (by rw [Yg]; omega) (by omega)]
 ·rfl
theorem X55:∀ (a b:List UInt8),(∀ x∈a,x≠38)→un0 (a ++ b)=(un0 b).map (a ++ ·)
 | [],b,_=>by simp
 | c::a,b,h=>by
  show un0 (c::(a ++ b))=_
  rw [X8q,if_neg (h c (by simp)),X55 a b (fun x hx=>h x (by simp [hx]))];cases un0 b <;> rfl
def SIGNS:List UInt8:=[60,62,34,39]
def X3w (s:List UInt8):Option (List UInt8):=if s.any (fun c=>SIGNS.contains c)=true then none else un0 s
theorem Xc6 {s:List UInt8} (h:∀ x∈s,x≠38∧x≠60∧x≠62∧x≠34∧x≠39):X3w s=some s:=by
 unfold X3w;rw [if_neg,← Y9 s,X55 s [] (fun x hx=>(h x hx).1),X95]
 ·simp
 ·rw [Y4w];rintro ⟨x,hx,hc⟩;obtain ⟨_,h1,h2,h3,h4⟩:=h x hx;simp [SIGNS,h1,h2,h3,h4] at hc
theorem Xee:∀ {s:List UInt8},(∀ x∈s,x≠38∧x≠60∧x≠62∧x≠34∧x≠39)→esc s=s
 | [],_=>rfl
 | c::s,h=>by
  obtain ⟨h0,h1,h2,h3,h4⟩:=h c (by simp);show em c ++ esc s=c::s
  rw [Xee (fun x hx=>h x (by simp [hx])),em,if_neg h0,if_neg h1,if_neg h2,if_neg h3,if_neg h4]; rfl
theorem Xws:∀ (n:Nat) (s t:List UInt8),s.length≤n→un0 s=some t→t.length≤s.length:=by
 intro n
 induction n with
 | zero =>
  intro s t h e
  have:s=[]:=Yj (by omega)
  subst this;rw [X95] at e; cases e; exact Yo _
 | succ n ih =>
  intro s t h e;cases s with
  | nil=>rw [X95] at e; cases e; exact Yo _
  | cons c r =>
   simp only [List.length_cons] at h ⊢
   rw [X8q] at e;split at e
   ·cases hm:X52 (c::r) with
    | none=>rw [hm] at e; cases e
    | some m =>
     rw [hm] at e;simp only at e
     cases hu:un0 (r.drop (m.2.length - 1)) with
     | none=>rw [hu] at e; cases e
     | some u =>
      rw [hu] at e;simp at e
      subst e;have h1:=ih _ u (by rw [Yg]; omega) hu;rw [Yg] at h1;have h2:m.1.length=1:=by
       have:=Y5k hm
       have hall:∀ m∈MK,m.1.length=1:=by decide
       exact hall m this
      rw [Y0]; omega
   ·cases hu:un0 r with
    | none=>rw [hu] at e; cases e
    | some u =>
     rw [hu] at e;simp at e
     subst e
     have:=ih r u (by omega) hu
     simp only [List.length_cons]; omega
theorem Xtc {s t:List UInt8} (h:X3w s=some t):t.length≤s.length:=by
 unfold X3w at h;split at h
 ·cases h
 ·exact Xws _ s t (Yo _) h
def Xqi (c:UInt8):Bool:=(97≤c && c≤122) || (65≤c && c≤90)
def insB (c:UInt8):Bool:=Xqi c || (48≤c && c≤57) || c == 58 || c == 45 || c == 95
def X7u (s:List UInt8):Bool:=!(s == []) && Xqi (s.headD 0) && s.all insB
def shB (c:UInt8):Bool:=!(c == 127 || (c<32 && c != 9 && c != 10))
def X87 (s:List UInt8):Bool:=s.all shB
def X8b:List Px→List Px→Bool
 | _,[]=>true
 | done,a::r=>(X7u a.1 && X87 a.2 && !(done.any fun b=>b.1 == a.1)) && X8b (done ++ [a]) r
inductive Nd where
 | mk (name:List UInt8) (attrs:List Px) (text:List UInt8) (kids:List Nd)
def Nd.name:Nd→List UInt8 | .mk n _ _ _=>n
def Nd.attrs:Nd→List Px | .mk _ a _ _=>a
def Nd.text:Nd→List UInt8 | .mk _ _ t _=>t
def Nd.kids:Nd→List Nd | .mk _ _ _ k=>k
def nd0:Nd:=.mk [] [] [] []
def X3m (f:Int→Nd→Option Int):Int→List Nd→Option Int
 | left,[]=>some left
 | left,k::r=>match f left k with
  | none=>none
  | some l=>X3m f l r
def X2s:Nat→Int→Nd→Option Int
 | 0,_,_=>none
 | d+1,left,n=>if left - 1<0∨X7u n.name=false∨X8b [] n.attrs=false∨X87 n.text=false∨(n.text≠[]∧n.kids≠[]) then none else X3m (X2s d) (left - 1) n.kids
def X6n (a:Px):List UInt8:=32::(a.1 ++ [61,34] ++ esc a.2 ++ [34])
def X32:Nat→Nd→List UInt8
 | 0,_=>[]
 | d+1,n=>60::n.name ++ (n.attrs.map X6n).flatten ++ 62::esc n.text ++ (n.kids.map (X32 d)).flatten ++ 60::47::n.name ++ [62]
def X15:Nat→List UInt8→List Px→Option (List Px×List UInt8)
 | 0,_,_=>none
 | f+1,s,out=>if Xd s [32]=false then some (out,s) else if Xd (X5 [61] (s.drop 1)) [61,34]=false then none else match X3w (upto [34] ((X5 [61] (s.drop 1)).drop 2)) with
  | none=>none
  | some v=>if Xd (X5 [34] ((X5 [61] (s.drop 1)).drop 2)) [34]=false then none else X15 f ((X5 [34] ((X5 [61] (s.drop 1)).drop 2)).drop 1) (out ++ [(upto [61] (s.drop 1),v)])
def X37 (el:Int→List UInt8→Option (Nd×List UInt8×Int)):Nat→Int→List UInt8→List Nd→Option (List Nd×List UInt8×Int)
 | 0,_,_,_=>none
 | f+1,left,s,out=>if Xd s [60,47]=true then some (out,s,left) else match el left s with
  | none=>none
  | some (k,r,l)=>X37 el f l r (out ++ [k])
def X22:Nat→Int→List UInt8→Option (Nd×List UInt8×Int)
 | 0,_,_=>none
 | d+1,left,s=>if left - 1<0∨Xd s [60]=false then none else match X15 ((X5 [32,62] (s.drop 1)).length+1) (X5 [32,62] (s.drop 1)) [] with
  | none=>none
  | some (az,r)=>if Xd r [62]=false then none else match X3w (upto [60] (r.drop 1)) with
   | none=>none
   | some t=>match X37 (X22 d) ((X5 [60] (r.drop 1)).length+1) (left - 1) (X5 [60] (r.drop 1)) [] with
    | none=>none
    | some (ks,q,l)=>if Xd q (60::47::upto [32,62] (s.drop 1) ++ [62])=false then none else some (.mk (upto [32,62] (s.drop 1)) az t ks,q.drop ((upto [32,62] (s.drop 1)).length+3),l)
def Xgm (s:List UInt8):Option Nd:=match X22 8 200 s with
 | none=>none
 | some (n,r,_)=>if r≠[]∨(X2s 8 200 n).isNone=true then none else some n
theorem X4u {s p:List UInt8} (h:Xd s p=true):p.length≤s.length:=by
 unfold Xd at h;simp only [Yn,decide_eq_true_eq] at h
 omega
theorem X30 (p r:List UInt8):Xd (p ++ r) p=true:=by
 unfold Xd;rw [Ye,Y2c]
 simp
 omega
theorem X7r:∀ (f:Nat) (s:List UInt8) (out:List Px) (az:List Px) (r:List UInt8),X15 f s out=some (az,r)→r.length≤s.length
 | 0,_,_,_,_,h=>by cases h
 | f+1,s,out,az,r,h=>by
  rw [X15] at h;split at h
  ·cases h; exact Yo _
  ·split at h
   ·cases h
   ·split at h
    ·cases h
    ·split at h
     ·cases h
     ·have:=X7r f _ _ _ _ h
      have a1:=X2d [34] ((X5 [61] (s.drop 1)).drop 2);have a2:=X2d [61] (s.drop 1);simp only [Yg] at this a1 a2
      omega
theorem Xdp {el:Int→List UInt8→Option (Nd×List UInt8×Int)} (hel:∀ l s k r l2,el l s=some (k,r,l2)→r.length<s.length):∀ (f:Nat) (left:Int) (s:List UInt8) (out ks:List Nd) (r:List UInt8) (l2:Int),X37 el f left s out=some (ks,r,l2)→r.length≤s.length
 | 0,_,_,_,_,_,_,h=>by cases h
 | f+1,left,s,out,ks,r,l2,h=>by
  rw [X37] at h;split at h
  ·cases h; exact Yo _
  ·split at h
   ·cases h
   ·rename_i k r1 l1 he
    have:=hel _ _ _ _ _ he
    have:=Xdp hel f _ _ _ _ _ _ h
    omega
theorem Xah:∀ (d:Nat) (left:Int) (s:List UInt8) (k:Nd) (r:List UInt8) (l2:Int),X22 d left s=some (k,r,l2)→r.length<s.length
 | 0,_,_,_,_,_,h=>by cases h
 | d+1,left,s,k,r,l2,h=>by
  rw [X22] at h;split at h
  ·cases h
  ·rename_i h0
   simp only [not_or,Bool.not_eq_false] at h0
   have h1:=X4u h0.2;split at h
   ·cases h
   ·rename_i az r1 ha
    split at h
    ·cases h
    ·split at h
     ·cases h
     ·split at h
      ·cases h
      ·rename_i ks q l hk
       split at h
       ·cases h
       ·cases h
        have a1:=X7r _ _ _ _ _ ha;have a2:=Xdp (fun _ _ _ _ _ h=>Xah d _ _ _ _ _ h) _ _ _ _ _ _ _ hk;have a3:=X2d [60] (r1.drop 1);have a4:=X2d [32,62] (s.drop 1);simp only [Yg,List.length_cons,List.length_nil] at *
        omega
theorem Xak:∀ (f g:Nat) (s:List UInt8) (out:List Px),s.length<f→s.length<g→X15 f s out=X15 g s out
 | 0,_,_,_,h,_=>by omega
 | _+1,0,_,_,_,h=>by omega
 | f+1,g+1,s,out,hf,hg=>by
  rw [X15,X15];split
  ·rfl
  ·rename_i h0
   have h1:=X4u (Bool.not_eq_false _ ▸ h0);split
   ·rfl
   ·split
    ·rfl
    ·split
     ·rfl
     ·have a1:=X2d [34] ((X5 [61] (s.drop 1)).drop 2);have a2:=X2d [61] (s.drop 1);simp only [Yg,List.length_cons,List.length_nil] at *
      exact Xak f g _ _ (by simp only [Yg]; omega) (by simp only [Yg]; omega)
end Xm
namespace Gk
open Go
section
variable {P:Program} {n:Nat} {K:X3i} {L:Env} {w:World} {ops:Array Oper} {rest:List Oper}
theorem WL.opn {d:Option Nat} {op:Op} {ty:TypeId} {pos:String} {af:Array Edge} {j t:Nat} {want:Bool} (hj:(ops[j]?).bind (·.dst)=some t) (ht:Nat.blt t n=true) (hb:look L t=some (.bool want))
  (h:WL P n ops K (⟨d,op,ty,pos,af,none⟩::rest) L w):WL P n ops K (⟨d,op,ty,pos,af,some (j,want)⟩::rest) L w:=by
 intro a ha;have h1:=h a ha;have hlt:t<a.tmps.size:=by have:=Y21 ht; rw [ha.size]; omega
 have hv:=ha.get t _ hb;have hy:yielded ops a.tmps j=some want:=by
  obtain ⟨o,ho,hdd⟩:=Y2d.1 hj;rw [Y13,Y19 hlt] at hv;simp only [Y2u] at hv
  have h2:a.tmps[t]?=some (.bool want):=by rw [Y19 hlt,hv]
  simp only [yielded,ho,hdd,Y34,h2]
 unfold wpList at h1 ⊢;rw [if_pos (by simp [Region.wanted])] at h1;rw [if_pos (by simp [Region.wanted,hy])];exact h1
end
end Gk
namespace Go.Proofs.YtbciobiiejpdgaaGreatDoor
open Gk Ul Pc Pat Xm Tr
theorem X72 {I:Im} {p:Addr} {vs:List Value} (h:At I p vs) (n:Nat):At I p (vs.take n):=by
 obtain ⟨h1,arr,E,fr,h2,h3⟩:=h;refine ⟨h1,arr,E,fr,h2,fun j v hj=>?_⟩;rw [Y26] at hj;split at hj
 ·exact h3 j v hj
 ·cases hj
theorem Xj1 {α:Type} {cells:α→List Value} {s:Nat} (hc:∀ x,(cells x).length=s) {I:Im} {a:Option Addr} {l:List α} (hR:RS I a s l.length (X9 cells l)) {i:Nat} {x:α} (hx:l[i]?=some x):∃ q,a=some q∧At I (q.add (i*s)) (cells x):=by
 obtain ⟨q,rfl,hq⟩:=hR.2 (by have:=(Y4.1 hx).1; omega);refine ⟨q,rfl,?_⟩;have h3:=X72 (hq.add (i*s)) s;rw [X9,X1c (l.map cells) (fun c h=>by obtain ⟨y,_,rfl⟩:=Y1r.1 h; exact hc y) i (cells x) (by rw [Yt,hx]; rfl)] at h3;exact h3
def Xo (p:Px):List Value:=[S p.1,S p.2]
def MKC:List Value:=X9 Xo MK
structure Kx (I:Im):Prop where
 mks:At I (ad 2 0) MKC
 pow : ∀ (B w : World) (As : List X6), Sat B w I As → Go.Lib.TabIs Tryz.prog w "internal/strconv.uint64pow10" .u64 Go.Lib.pow10Tab
 max:∀ (B w:World) (As:List X6),Sat B w I As→∃ m,w.cell? ⟨6,0,none⟩=some (.int .i64 m)
 syn:∀ (B w:World) (As:List X6),Sat B w I As→∃ te pe,w.cell? ⟨3,0,none⟩=some (.iface te pe)
 rng:∀ (B w:World) (As:List X6),Sat B w I As→∃ te pe,w.cell? ⟨4,0,none⟩=some (.iface te pe)
theorem X5b {B w:World} {I J:Im} {As:List X6} (hl:Le I J):Sat B w J As→Sat B w I As:=fun ⟨g,h1,h2⟩=>⟨g,h1,h2.os,h2.tape,h2.output,fun b o hi=>h2.imm b o (hl b o hi),h2.own,h2.nodup,fun b o hm=>by
  cases hi:I b with
  | none=>rfl
  | some x=>have:=h2.apart b o hm; rw [hl b x hi] at this; cases this⟩
theorem Kx.mono {I J:Im} (h:Kx I) (hl:Le I J):Kx J :=
 ⟨h.mks.mono hl,fun B w As s=>h.pow B w As (X5b hl s),fun B w As s=>h.max B w As (X5b hl s),fun B w As s=>h.syn B w As (X5b hl s),fun B w As s=>h.rng B w As (X5b hl s)⟩
theorem Xi5 (s:List UInt8) (c:UInt8) (hs:s.length≤1000000) (B w:World) (I:Im) (hK:Kx I) (As:List X6) (hS:Sat B w I As):Calls Tryz.prog 187 [S s,S [c]].toArray w (Ret fun v w'=>v=.tuple #[S (upto [c] s),S ((X5 [c] s).drop 1),.bool (!(X5 [c] s).isEmpty)]∧Sat B w' I As):=by
 obtain ⟨m,hm⟩:=hK.max B w As hS;refine (Tryz.strings_Cut ⟨s.toArray⟩ ⟨[c].toArray⟩ m w (by show s.length<_; omega) hm).mono fun e w' he=>?_
 obtain ⟨rfl,n,rfl⟩:=he;refine ⟨_,rfl,?_,X4x hS n⟩;show Value.tuple #[S (Go.Lib.cut s [c]).1,S (Go.Lib.cut s [c]).2.1,.bool (Go.Lib.cut s [c]).2.2]=_
 rw [Xlu]
theorem Xdg (s m:List UInt8) (c:UInt8) (hs:s.length≤100000000) (hm:m.length≤6) (hne:([c] == m)=false) (B w:World) (I:Im) (hK:Kx I) (As:List X6) (hS:Sat B w I As):Calls Tryz.prog 203 [S s,S [c],S m].toArray w (Ret fun v w'=>v=S (Xgx c m s)∧Sat B w' I As):=by
 obtain ⟨q,hq⟩:=hK.max B w As hS;have hcnt:Go.Lib.countB ⟨s.toArray⟩ ⟨[c].toArray⟩≤s.length:=by
  have h:∀ (n:Nat) (s:List UInt8),s.length≤n→Go.Lib.count s [c]≤s.length:=by
   intro n
   induction n with
   | zero =>
    intro s h
    have:s=[]:=Yj (by omega)
    subst this;rw [Go.Lib.count_miss (by rw [Go.Lib.index_one]; rfl)]; exact Yo _
   | succ n ih =>
    intro s h;have hge:=Go.Lib.indexByte_ge s c
    by_cases e:Go.Lib.indexByte s c=-1
    ·rw [Go.Lib.count_miss (by rw [Go.Lib.index_one]; exact e)]; exact Yq _
    ·obtain ⟨i,hk⟩:∃ k:Nat,Go.Lib.indexByte s c=k:=⟨(Go.Lib.indexByte s c).toNat,by omega⟩
     have hlt:i<s.length:=(Y4.1 (Go.Lib.indexByte_some hk).1).1;rw [Go.Lib.count_hit (by simp) (by rw [Go.Lib.index_one]; exact hk)]
     have:=ih (s.drop (i+1)) (by rw [Yg]; omega)
     rw [Yg] at this;show 1+Go.Lib.count (s.drop (i+1)) [c]≤_
     omega
  exact h _ s (Yo _)
 refine (Tryz.strings_ReplaceAll ⟨s.toArray⟩ ⟨[c].toArray⟩ ⟨m.toArray⟩ q w (by show s.length<_; omega) hq (Yo 1) ?_).mono fun e w' he=>?_
 ·show s.length+Go.Lib.countB ⟨s.toArray⟩ ⟨[c].toArray⟩*m.length≤_
  have:Go.Lib.countB ⟨s.toArray⟩ ⟨[c].toArray⟩*m.length≤s.length*6:=Y4o hcnt hm
  omega
 ·obtain ⟨rfl,hb⟩:=he;refine ⟨_,rfl,?_,hS.grown hb⟩;show S (Go.Lib.replaceAll s [c] m)=_
  rw [Xhe c m s hne]
theorem Xvd:∀ (s p:List UInt8),Go.Lib.hasPrefix s p=Xd s p:=by
 intro s p;unfold Go.Lib.hasPrefix Xd;rw [Y3y,Y43,List.prefix_iff_eq_take,Ye];simp only [Yn,decide_eq_true_eq,beq_iff_eq]
 constructor
 ·intro h
  have:=congrArg List.length h
  rw [Yp] at this;exact ⟨by omega,h.symm⟩
 ·exact fun h=>h.2.symm
theorem Xci (s p:List UInt8) (B w:World) (I:Im) (As:List X6) (hS:Sat B w I As):Calls Tryz.prog 190 [S s,S p].toArray w (Ret fun v w'=>v=.tuple #[S (if Xd s p=true then s.drop p.length else s),.bool (Xd s p)]∧Sat B w' I As):=by
 refine (Tryz.strings_CutPrefix ⟨s.toArray⟩ ⟨p.toArray⟩ w).mono fun e w' he=>?_
 obtain ⟨rfl,rfl⟩:=he;refine ⟨_,rfl,?_,hS⟩;show Value.tuple #[S (Go.Lib.trimPrefix s p),.bool (Go.Lib.hasPrefix s p)]=_
 unfold Go.Lib.trimPrefix;rw [Xvd]
theorem Xcb (s:List UInt8) (c:UInt8) (hc:c.toNat<128) (B w:World) (I:Im) (As:List X6) (hS:Sat B w I As):Calls Tryz.prog 191 [S s,S [c]].toArray w (Ret fun v w'=>v=I64 (Go.Lib.indexAny s [c])∧Sat B w' I As):=by
 refine (Tryz.strings_IndexAny_one ⟨s.toArray⟩ ⟨[c].toArray⟩ w rfl (fun j b h=>?_)).mono fun e w' he=>?_
 ·cases j with
  | zero=>have h:some c=some b:=h; cases h; exact hc
  | succ j=>have h:([]:List UInt8)[j]?=some b:=h; simp at h
 ·obtain ⟨rfl,rfl⟩:=he;exact ⟨_,rfl,rfl,hS⟩
theorem Ex.indexArrA {P:Program} {n:Nat} {L:Env} {w:World} {x y:Operand} {t:TypeId} {ty:TypeId} {pos:String} {af:Array Edge} {g:Option (Nat×Bool)} {d:Option Nat} {m s:Nat} {e:TypeId} {vs us:List Value} {i:Int} {q:IntKind} (hx:Ev n L x (.agg vs.toArray)) (hy:Ev n L y (.int q i)) (hi:0≤i) (hl:i<(m:Int)) (ht:P.underlying t=some (.array m e)) (hs:∀ w,(Go.sizeOf e).run P w=.ok s w) (ha:∀ w,(isAgg e).run P w=.ok true w) (hv:(vs.drop (i.toNat*s)).take s=us) (hle:i.toNat*s+s≤vs.length) :
  Ex P n L w ⟨d,.index t x y,ty,pos,af,g⟩ (.agg us.toArray) w:=fun b hb=>by
 subst hv;simp [execOp,hx b hb,hy b hb,Instr.index,run_underlying ht,asIntOf,hi,hl,hs,ha,part,hle]
theorem Xwn (c:UInt8):((decide (97≤(c.toNat:Int)) && decide ((c.toNat:Int)≤122)) || (decide (65≤(c.toNat:Int)) && decide ((c.toNat:Int)≤90)))=Xqi c:=eq_of_beq (Xh (p:=fun c=>((decide (97≤(c.toNat:Int)) && decide ((c.toNat:Int)≤122)) || (decide (65≤(c.toNat:Int)) && decide ((c.toNat:Int)≤90))) == Xqi c) (by decide +kernel) c)
theorem Xun (c:UInt8):((((Xqi c || (decide (48≤(c.toNat:Int)) && decide ((c.toNat:Int)≤57))) || ((c.toNat:Int) == 58)) || ((c.toNat:Int) == 45)) || ((c.toNat:Int) == 95))=insB c:=eq_of_beq (Xh (p:=fun c=>((((Xqi c || (decide (48≤(c.toNat:Int)) && decide ((c.toNat:Int)≤57))) || ((c.toNat:Int) == 58)) || ((c.toNat:Int) == 45)) || ((c.toNat:Int) == 95)) == insB c) (by decide +kernel) c)
theorem Xtf (c:UInt8):(((c.toNat:Int) == 127) || ((decide ((c.toNat:Int)<32) && ((c.toNat:Int) != 9)) && ((c.toNat:Int) != 10)))=!shB c:=eq_of_beq (Xh (p:=fun c=>(((c.toNat:Int) == 127) || ((decide ((c.toNat:Int)<32) && ((c.toNat:Int) != 9)) && ((c.toNat:Int) != 10))) == !shB c) (by decide +kernel) c)
theorem Xgh {s:List UInt8} (h:s≠[]):s.headD 0=at_ s 0:=by
 cases s with
 | nil=>exact absurd rfl h
 | cons a b=>rfl
theorem X9c (c:UInt8) (B w:World) (I:Im) (As:List X6) (hS:Sat B w I As) :
  Cz 237 [U8 c.toNat] w fun v w'=>v=.bool (Xqi c)∧Sat B w' I As:=by
 refine calls Tryz.func237 rfl Tryz.ntmps237 rfl (.seq (.q 1 rfl (.seq (.t 3 rfl (.gm rfl rfl rfl rfl (.gval rfl rfl (fun hg1=>(.leq (.gd hg1 rfl) (.of rfl))) rfl (.val (.pa rfl rfl rfl) rfl (.q 1 rfl (.gm rfl rfl rfl rfl (.gval rfl rfl (fun hg1=>(.geq (.gd hg1 rfl) (.of rfl))) rfl (.gval rfl rfl (fun hg1=>(.move (.gd hg1 rfl))) rfl (.gval2 rfl rfl rfl (fun hg1 hg2=>(.mo rfl)) rfl (.gval2 rfl rfl rfl (fun hg1 hg2=>(.leq (.gd2 hg1 hg2 rfl) (.of rfl))) rfl (.gval rfl rfl (fun hg1=>(.pand (.gd hg1 rfl) (.gd hg1 rfl) (.of rfl))) rfl (.val (.po rfl rfl rfl) rfl (.q 1 rfl (.nil (.ret (X8 Tryz.results237 rfl ?_)))))))))))))))))));exact ⟨_,rfl,congrArg Value.bool (Xwn c),hS⟩
theorem Xft (c:UInt8) (B w:World) (I:Im) (As:List X6) (hS:Sat B w I As) :
  Cz 238 [U8 c.toNat] w fun v w'=>v=.bool (insB c)∧Sat B w' I As:=by
 refine calls Tryz.func238 rfl Tryz.ntmps238 rfl (.seq (.q 1 rfl (.seq (.t 1 rfl (.call Tryz.func237 rfl (ec9 rfl X0) rfl (X9c c B _ I _ hS) ?_)))));rintro _ w ⟨rfl,hS⟩;refine .q 1 rfl (.gm rfl rfl rfl rfl (.gval rfl rfl (fun hg1=>(.geq (.gd hg1 rfl) (.of rfl))) rfl (.gval rfl rfl (fun hg1=>(.move (.gd hg1 rfl))) rfl (.gval2 rfl rfl rfl (fun hg1 hg2=>(.mo rfl)) rfl (.gval2 rfl rfl rfl (fun hg1 hg2=>(.leq (.gd2 hg1 hg2 rfl) (.of rfl))) rfl (.gval rfl rfl (fun hg1=>(.pand (.gd hg1 rfl) (.gd hg1 rfl) (.of rfl))) rfl (.val (.po rfl rfl rfl) rfl (.q 1 rfl (.gm rfl rfl rfl rfl (.gval rfl rfl (fun hg1=>(.eql (.gd hg1 rfl) (.of rfl))) rfl (.val (.po rfl rfl rfl) rfl (.q 1 rfl (.gm rfl rfl rfl rfl (.gval rfl rfl (fun hg1=>(.eql (.gd hg1 rfl) (.of rfl))) rfl (.val (.po rfl rfl rfl) rfl (.q 1 rfl (.gm rfl rfl rfl rfl (.gval rfl rfl (fun hg1=>(.eql (.gd hg1 rfl) (.of rfl))) rfl (.val (.po rfl rfl rfl) rfl (.q 1 rfl (.nil (.ret (X8 Tryz.results238 rfl ?_)))))))))))))))))))))));exact ⟨_,rfl,congrArg Value.bool (Xun c),hS⟩
theorem Xf9 (s:List UInt8) (hl:s.length≤1000000) (B w:World) (I:Im) (As:List X6) (hS:Sat B w I As) :
  Cz 196 [S s] w fun v w'=>v=.bool (X7u s)∧Sat B w' I As:=by
 refine calls Tryz.func196 rfl Tryz.ntmps196 rfl (.seq (.q 1 rfl (.seq (.seq (.t 3 rfl (.gm rfl rfl rfl rfl ?_))))));refine .gval rfl rfl (fun hg1=>.index8 (l:=s) (i:=(0:Int)) (.gd hg1 rfl) (.of rfl) (by omega) (by have:=Y1x.2 (show s≠[] from by simpa using hg1); omega) Qu9) rfl ?_;refine .gcall (T:=fun w=>Sat B w I As) rfl rfl rfl Tryz.func237 rfl (fun hg1=>(Xc (.gd hg1 rfl) X0)) rfl (fun hg1=>X9c (at_ s 0) B _ I _ hS) hS ?_;rintro w hS;refine .gval rfl rfl (fun hg1=>(.not (.gd hg1 rfl))) rfl (.val (.po rfl rfl rfl) rfl (.nil ?_));refine .cond rfl (fun hb11=>?_) fun hb11=>?_
 ·refine .seq (.q 1 rfl (.ret (X8 Xvi rfl ?_)));refine ⟨_,rfl,congrArg Value.bool ?_,hS⟩;unfold X7u
  by_cases hs:s=[]
  ·rw [hs]; rfl
  ·have h:=hb11;rw [show (s == [])=false by simpa using hs,Y39] at h;rw [Xgh hs,show Xqi (at_ s 0)=false by simpa using h,Y49]; rfl
 have hc11:=hb11; simp only [Y6] at hc11;refine .skip (.seq (.seq (.region (.run 3 rfl ⟨Qu9,trivial⟩ (.nil (.block (.loop (σ:=Nat) (fun i=>[(0,S s),(13,I64 (s.length:Nat)),(14,I64 (i:Nat))]) (fun i w=>i≤s.length∧(∀ j,j<i→j<s.length→insB (at_ s (j:Int))=true)∧Sat B w I As) (fun i=>s.length - i) 0 ⟨rfl,rfl,rfl,trivial⟩ ⟨Yq _,fun _ h=>absurd h (by omega),hS⟩ ?_)))))));rintro i w ⟨hi,hok,hS⟩;refine .seq (.q 1 rfl (.seq ?_));refine .cond rfl (fun hb15=>?_) fun hb15=>?_
 ·have hc15:=hb15; simp only [Y6] at hc15;refine .skip (.seq (.block (.seq (.q 2 rfl (.seq (.region (.run 3 rfl ⟨⟨⟨by omega,by omega⟩,Qu9⟩,trivial⟩ (.call Tryz.func238 rfl (ec9 rfl X0) rfl (Xft (at_ s (i:Int)) B _ I _ hS) ?_))))))));rintro _ w ⟨rfl,hS⟩;refine .q 1 rfl (.nil ?_);refine .cond rfl (fun hb21=>?_) fun hb21=>?_
  ·have hc21:=hb21; simp only [Y6] at hc21;refine .seq (.q 1 rfl (.ret (X8 Xvi rfl ?_)));refine ⟨_,rfl,congrArg Value.bool ?_,hS⟩;unfold X7u;rw [X50 (p:=insB) (i:=i) (by omega) (by simpa using hb21),Y49]
  have hc21:=hb21; simp only [Y6] at hc21;refine .skip (.region (.run 2 rfl ⟨⟨by omega,by omega⟩,trivial⟩ (.nil ?_)));refine ⟨i+1,⟨rfl,rfl,rfl,trivial⟩,⟨by omega,fun j hj hjl=>?_,hS⟩,by omega⟩;rcases Ys j i with h1 | h1
  ·exact hok j h1 hjl
  ·have e:j=i:=by omega
   subst e;simpa using hb21
 have hc15:=hb15; simp only [Y6] at hc15;refine .exit (.seq (.q 1 rfl (.ret (X8 Xvi rfl ?_))));refine ⟨_,rfl,congrArg Value.bool ?_,hS⟩;have h:=hb11;simp only [Yz,Y2m] at h
 have hs:s≠[]:=by simpa using h.1
 unfold X7u;rw [Xgh hs,h.1,h.2,X65 hok (by omega)]; rfl
theorem Xb6 (s:List UInt8) (hl:s.length≤1000000) (B w:World) (I:Im) (As:List X6) (hS:Sat B w I As) :
  Cz 198 [S s] w fun v w'=>v=.bool (X87 s)∧Sat B w' I As:=by
 refine calls Tryz.func198 rfl Tryz.ntmps198 rfl (.seq (.q 1 rfl (.seq (.seq (.region (.run 3 rfl ⟨Qu9,trivial⟩ (.nil (.block (.loop (σ:=Nat) (fun i=>[(0,S s),(6,I64 (s.length:Nat)),(7,I64 (i:Nat))]) (fun i w=>i≤s.length∧(∀ j,j<i→j<s.length→shB (at_ s (j:Int))=true)∧Sat B w I As) (fun i=>s.length - i) 0 ⟨rfl,rfl,rfl,trivial⟩ ⟨Yq _,fun _ h=>absurd h (by omega),hS⟩ ?_)))))))));rintro i w ⟨hi,hok,hS⟩;refine .seq (.q 1 rfl (.seq ?_));refine .cond rfl (fun hb8=>?_) fun hb8=>?_
 ·have hc8:=hb8; simp only [Y6] at hc8;refine .skip (.seq (.block (.seq (.q 2 rfl (.seq (.region (.run 4 rfl ⟨⟨⟨by omega,by omega⟩,Qu9⟩,trivial⟩ (.nil (.seq (.t 3 rfl (.gm rfl rfl rfl rfl (.gval rfl rfl (fun hg1=>(.lss (.gd hg1 rfl) (.of rfl))) rfl (.gval rfl rfl (fun hg1=>(.move (.gd hg1 rfl))) rfl (.gval2 rfl rfl rfl (fun hg1 hg2=>(.mo rfl)) rfl (.gval2 rfl rfl rfl (fun hg1 hg2=>(.neq (.gd2 hg1 hg2 rfl) (.of rfl))) rfl (.gval rfl rfl (fun hg1=>(.pand (.gd hg1 rfl) (.gd hg1 rfl) (.of rfl))) rfl (.gval rfl rfl (fun hg1=>(.move (.gd hg1 rfl))) rfl (.gval2 rfl rfl rfl (fun hg1 hg2=>(.mo rfl)) rfl (.gval2 rfl rfl rfl (fun hg1 hg2=>(.neq (.gd2 hg1 hg2 rfl) (.of rfl))) rfl (.gval rfl rfl (fun hg1=>(.pand (.gd hg1 rfl) (.gd hg1 rfl) (.of rfl))) rfl (.val (.po rfl rfl rfl) rfl (.nil ?_))))))))))))))))))))));refine .cond rfl (fun hb26=>?_) fun hb26=>?_
  ·have hc26:=hb26; simp only [Y6] at hc26;refine .seq (.q 1 rfl (.ret (X8 Tryz.results198 rfl ?_)));refine ⟨_,rfl,congrArg Value.bool ?_,hS⟩;have hh:=Xtf (at_ s (i:Int));rw [hb26] at hh;exact (X50 (p:=shB) (i:=i) (by omega) (by simpa using hh.symm)).symm
  have hc26:=hb26; simp only [Y6] at hc26;refine .skip (.region (.run 2 rfl ⟨⟨by omega,by omega⟩,trivial⟩ (.nil ?_)));refine ⟨i+1,⟨rfl,rfl,rfl,trivial⟩,⟨by omega,fun j hj hjl=>?_,hS⟩,by omega⟩;rcases Ys j i with h1 | h1
  ·exact hok j h1 hjl
  ·have e:j=i:=by omega
   subst e;have hh:=Xtf (at_ s (j:Int));rw [hb26] at hh;simpa using hh.symm
 have hc8:=hb8; simp only [Y6] at hc8;refine .exit (.seq (.q 1 rfl (.ret (X8 Tryz.results198 rfl ?_))));exact ⟨_,rfl,congrArg Value.bool (X65 hok (by omega)).symm,hS⟩
theorem X66 (a:Option Addr) (cap:Nat) (l:List (Px)) (hln:l.length≤9223372036854775807) (pr:Px→Bool) (fid:FuncId) (fn:Func) (hfn:Tryz.prog.funcs[fid]?=some fn) (hcal:Xj fn=true) (capv:List Value) (B w:World) (I:Im) (As:List X6) (hE:∀ w,Sat B w I As→X6q w Xo 2 a l) (hf:∀ (r:Px) (hr:r∈l) w,Sat B w I As→Calls Tryz.prog fid ([Value.agg (Xo r).toArray] ++ capv).toArray w (Ret fun v w'=>v=.bool (pr r)∧Sat B w' I As)) (hS:Sat B w I As) :
  Cz 193 [.slice a l.length cap,.func (.func fid) #[] capv.toArray] w fun v w'=>v=I64 (Xt pr l 0)∧Sat B w' I As:=by
 refine calls Xnz rfl Tryz.ntmps193 rfl (.seq (.q 1 rfl (.seq (.seq (.region (.run 3 rfl ⟨⟨_,X2t⟩,trivial⟩ (.nil (.block (.loop (σ:=Nat) (fun i=>[(0,.slice a l.length cap),(1,.func (.func fid) #[] capv.toArray),(7,I64 (l.length:Nat)),(8,I64 (i:Nat))]) (fun i w=>i≤l.length∧(∀ (j:Nat) t,j<i→l[j]?=some t→pr t=false)∧Sat B w I As) (fun i=>l.length - i) 0 ⟨rfl,rfl,rfl,rfl,trivial⟩ ⟨Yq _,fun _ _ h=>absurd h (by omega),hS⟩ ?_)))))))));rintro i w ⟨hi,hno,hS⟩;refine .seq (.q 1 rfl (.seq ?_));refine .cond rfl (fun hb9=>?_) fun hb9=>?_
 ·have hc9:=hb9; try simp only [Y6] at hc9
  refine .skip (.seq (.block (.seq ?_)));obtain ⟨r,hr⟩:∃ r,l[i]?=some r:=⟨_,Y5 (by omega)⟩
  obtain ⟨p,rfl,hx⟩:=hE w hS i r hr;refine .q 2 rfl (.seq (.t 3 rfl ?_));refine .val (.ii rfl rfl (by omega) (by omega) X2t X2w) rfl (.val (.ldR (.of rfl) hx Xll X2w rfl) rfl (.vcall (cap:=capv) hfn hcal (.of rfl) (ec9 rfl X0) rfl (hf r (Yl hr) w hS) ?_));clear hS;rintro _ w ⟨rfl,hS⟩;refine .nil (.cond rfl (fun hb16=>?_) fun hb16=>?_)
  ·refine .seq (.q 2 rfl (.ret (X8 Xsr rfl ?_)));exact ⟨_,rfl,by rw [X2y hno hr hb16],hS⟩
  have hc16:=hb16; try simp only [Y6] at hc16
  refine .skip (.region (.run 2 rfl ⟨⟨by omega,by omega⟩,trivial⟩ (.nil ?_)));refine ⟨i+1,⟨rfl,rfl,rfl,rfl,trivial⟩,⟨by (try dsimp only); omega,fun j t hj ht=>?_,hS⟩,by (try dsimp only); omega⟩;rcases Ys j i with h1 | h1
  ·exact hno j t h1 ht
  ·have e:j=i:=by omega
   subst e;rw [hr] at ht; cases ht;exact hb16
 have hc9:=hb9; try simp only [Y6] at hc9
 refine .exit (.seq (.q 1 rfl (.ret (X8 Xsr rfl ?_))));exact ⟨_,rfl,by rw [X2g (fun j t ht=>hno j t (by have:=(Y4.1 ht).1; omega) ht)],hS⟩
theorem X7n (a:Option Addr) (cap:Nat) (l:List (Px)) (hln:l.length≤9223372036854775807) (pr:Px→Bool) (fid:FuncId) (fn:Func) (hfn:Tryz.prog.funcs[fid]?=some fn) (hcal:Xj fn=true) (capv:List Value) (B w:World) (I:Im) (As:List X6) (hE:∀ w,Sat B w I As→X6q w Xo 2 a l) (hf:∀ (r:Px) (hr:r∈l) w,Sat B w I As→Calls Tryz.prog fid ([Value.agg (Xo r).toArray] ++ capv).toArray w (Ret fun v w'=>v=.bool (pr r)∧Sat B w' I As)) (hS:Sat B w I As) :
  Cz 169 [.slice a l.length cap,.func (.func fid) #[] capv.toArray] w fun v w'=>v=.bool (l.any pr)∧Sat B w' I As:=by
 refine calls Xsv rfl Tryz.ntmps169 rfl (.seq (.q 1 rfl (.seq (.t 2 rfl (.call Xnz rfl (ec9 rfl (ec9 rfl X0)) rfl (X66 a cap l hln pr fid fn hfn hcal capv B _ I As hE hf hS) ?_)))));rintro _ w ⟨rfl,hS⟩;refine .q 2 rfl (.nil (.ret (X8 Tryz.results169 rfl ?_)));exact ⟨_,rfl,by rw [← X20 pr l 0],hS⟩
theorem Xjw (r a:Px) (b4:Nat) (B w:World) (I:Im) (As:List X6) (hS:Sat B w I (blk b4 [S a.1,S a.2] 136::As)) :
  Cz 239 [.agg (Xo r).toArray,ptr b4 0] w fun v w'=>v=.bool (r.1 == a.1)∧Sat B w' I (blk b4 [S a.1,S a.2] 136::As):=by
 refine calls Tryz.func239 rfl Tryz.ntmps239 rfl (.seq (.region (.boxA (cs:=[_,_]) hS (.of rfl) rfl ?_)));intro b2 w hS;refine .q 1 rfl (.nil (.seq (.region ?_)));refine .val (.fo 0 rfl X4f rfl rfl Qs9 rfl) rfl (.val (.lo rfl hS (k:=0) rfl Qg9 rfl) rfl (.val (.fo 0 rfl X4f rfl rfl Qs9 rfl) rfl (.val (.lo rfl hS (k:=1) rfl Qg9 rfl) rfl (.q 2 rfl (.nil (.ret (X8 Tryz.results239 rfl ?_)))))));exact ⟨_,rfl,rfl,hS.drop (k:=0) rfl⟩
theorem Xw5 {I:Im} {a:Option Addr} {l:List Px} (h:RS I a 2 l.length (X9 Xo l)) (k:Nat) (hk:k≤l.length):RS I a 2 (l.take k).length (X9 Xo (l.take k)):=by
 refine ⟨X1t (cells:=Xo) (s:=2) (fun _=>rfl) _,fun h0=>?_⟩;obtain ⟨p,rfl,hA⟩:=h.2 (by rw [Yp] at h0; omega);refine ⟨p,rfl,?_⟩;have h9:=X72 hA (X9 Xo (l.take k)).length;have e:(X9 Xo l).take (X9 Xo (l.take k)).length=X9 Xo (l.take k):=by
  have e2:X9 Xo l=X9 Xo (l.take k) ++ X9 Xo (l.drop k):=by
   conv=>lhs; rw [← Yw k l]
   unfold X9; rw [Yu,Y27]
  conv=>lhs; rw [e2]
  exact Y2c
 rw [e] at h9; exact h9
set_option maxRecDepth 20000 in
theorem Xk2 (sa:Option Addr) (cap:Nat) (l:List Px) (hcap:l.length≤cap) (hll:l.length≤9223372036854775807) (hsm:∀ a∈l,a.1.length≤1000000∧a.2.length≤1000000) (B w:World) (I:Im) (hR:RS I sa 2 l.length (X9 Xo l)) (As:List X6) (hS:Sat B w I As) :
  Cz 197 [.slice sa l.length cap] w fun v w'=>v=.bool (X8b [] l)∧Sat B w' I As:=by
 refine calls Tryz.func197 rfl Tryz.ntmps197 rfl (.seq (.q 1 rfl (.seq (.seq (.region (.run 3 rfl ⟨⟨_,X2t⟩,trivial⟩ (.nil (.block (.loop (σ:=Nat) (fun i=>[(0,.slice sa l.length cap),(5,.slice sa l.length cap),(6,I64 (l.length:Nat)),(7,I64 (i:Nat))]) (fun i w=>i≤l.length∧X8b [] l=X8b (l.take i) (l.drop i)∧Sat B w I As) (fun i=>l.length - i) 0 ⟨rfl,rfl,rfl,rfl,trivial⟩ ⟨Yq _,rfl,hS⟩ ?_)))))))));rintro i w ⟨hi,hok,hS⟩;refine .seq (.q 1 rfl (.seq ?_));refine .cond rfl (fun hb8=>?_) fun hb8=>?_
 ·have hc8:=hb8; simp only [Y6] at hc8;refine .skip (.seq (.block (.seq ?_)));obtain ⟨a,ha⟩:∃ a,l[i]?=some a:=⟨_,Y5 (by omega)⟩
  obtain ⟨p,hp9,hx⟩:=Xj1 (cells:=Xo) (s:=2) (fun _=>rfl) hR ha;subst hp9;unfold Xo at hx;have hal:=hsm a (Yl ha);have hdr:l.drop i=a::l.drop (i+1):=by rw [Y16 (by omega),(Y4.1 ha).2]
  rw [hdr] at hok;have htl:(l.take i).length=i:=by rw [Yp]; omega
  refine .t 1 rfl (.val (.ii rfl rfl (by omega) (by omega) X2t X2w) rfl (.val (.ldsI (.of rfl) hS hx Xll X2w rfl (fun _ _ h=>h)) rfl (.allocA (cs:=[_,_]) hS Xcv rfl ?_)));intro b4 w hS;refine .q 1 rfl (.so hS (k:=0) rfl rfl rfl rfl X2w rfl (by simp) ?_);intro w hS;try simp only [Yk,Yf,Y9,Y7,Yh,Ym,Yd] at hS
  refine .nil (.seq (.region ?_));refine .val (.fo 0 rfl X4f rfl rfl Qs9 rfl) rfl (.val (.lo rfl hS (k:=0) rfl Qg9 rfl) rfl (.call Tryz.func196 rfl (ec9 rfl X0) rfl (Xf9 a.1 hal.1 B _ I _ hS) ?_));rintro _ w ⟨rfl,hS⟩;refine .q 2 rfl (.gval rfl rfl (fun hg1=>(by exact .fo 1 rfl X4f rfl rfl Qs9 rfl)) rfl ?_);refine .gval rfl rfl (fun hg1=>(by exact (.ld (.gd hg1 rfl) hS (k:=0) rfl Qg9 rfl))) rfl ?_;refine .gcall (T:=fun w=>Sat B w I (blk b4 [S a.1,S a.2] 136::As)) rfl rfl rfl Tryz.func198 rfl (fun hg1=>(Xc (.gd hg1 rfl) X0)) rfl (fun hg1=>Xb6 a.2 hal.2 B _ I _ hS) hS ?_;rintro w hS;refine .gval rfl rfl (fun hg1=>(.not (.gd hg1 rfl))) rfl (.val (.po rfl rfl rfl) rfl (.q 1 rfl (.gm rfl rfl rfl rfl (.gm rfl rfl rfl rfl (.gval rfl rfl (fun hg1=>.slcTo (.gd hg1 rfl) (.gd hg1 rfl) (by omega) (by omega) X2t X2w) rfl ?_)))));rw [show ((i:Nat):Int).toNat=(l.take i).length by rw [htl,Ye],X48];refine .gval rfl rfl (fun hg1=>(.makeFunc (ec9 rfl X0))) rfl ?_;have hcf:∀ w,Sat B w I (blk b4 [S a.1,S a.2] 136::As)→Calls Tryz.prog 169 [.slice (some p) (l.take i).length cap,.func (.func 239) #[] [ptr b4 0].toArray].toArray w (Ret fun v w'=>v=.bool ((l.take i).any fun b=>b.1 == a.1)∧Sat B w' I (blk b4 [S a.1,S a.2] 136::As)):=fun w hS=>X7n (some p) cap (l.take i) (by omega) (fun b=>b.1 == a.1) 239 _ Tryz.func239 rfl [ptr b4 0] B w I (blk b4 [S a.1,S a.2] 136::As) (fun w h=>X68 (cells:=Xo) (s:=2) (fun _=>rfl) h (Xw5 hR i (by omega))) (fun r hr w h=>Xjw r a b4 B w I As h) hS
  refine .gcall (T:=fun w=>Sat B w I (blk b4 [S a.1,S a.2] 136::As)) rfl rfl rfl Xsv rfl (fun hg1=>(Xc (.gd hg1 rfl) (Xc (.gd hg1 rfl) X0))) rfl (fun hg1=>hcf w hS) hS ?_;rintro w hS;refine .val (.po rfl rfl rfl) rfl (.nil ?_);refine .cond rfl (fun hb28=>?_) fun hb28=>?_
  ·refine .seq (.q 1 rfl (.ret (X8 Tryz.results197 rfl ?_)));refine ⟨_,rfl,congrArg Value.bool ?_,hS.drop (k:=0) rfl⟩;rw [hok,X8b]
   revert hb28
   cases X7u a.1 <;> cases X87 a.2 <;> cases ((l.take i).any fun b=>b.1 == a.1) <;> simp
  have hc28:=hb28; simp only [Y6] at hc28;refine .skip (.region (.run 2 rfl ⟨⟨by omega,by omega⟩,trivial⟩ (.nil ?_)));refine ⟨i+1,⟨rfl,rfl,rfl,rfl,trivial⟩,⟨by omega,?_,hS.drop (k:=0) rfl⟩,by omega⟩;rw [hok,X8b,Y12,ha,Y1n];simp only [Yz,Y2m] at hb28
  rw [hb28.1.1,hb28.1.2,hb28.2]; rfl
 have hc8:=hb8; simp only [Y6] at hc8;refine .exit (.seq (.q 1 rfl (.ret (X8 Tryz.results197 rfl ?_))));exact ⟨_,rfl,congrArg Value.bool (by rw [hok,Y14 (by omega)]; rfl),hS⟩
theorem X7g {i:Nat} {m:Px} (h:MK[i]?=some m):(MKC.drop (i*2)).take 2=[S m.1,S m.2]∧(∃ c,m.1=[c])∧m.2.length≤6∧([m.1.headD 0] == m.2)=false:=by
 match i,h with
 | 0,h=>cases h; exact ⟨rfl,⟨_,rfl⟩,by decide,by decide⟩
 | 1,h=>cases h; exact ⟨rfl,⟨_,rfl⟩,by decide,by decide⟩
 | 2,h=>cases h; exact ⟨rfl,⟨_,rfl⟩,by decide,by decide⟩
 | 3,h=>cases h; exact ⟨rfl,⟨_,rfl⟩,by decide,by decide⟩
 | 4,h=>cases h; exact ⟨rfl,⟨_,rfl⟩,by decide,by decide⟩
 | i+5,h=>simp [MK] at h
theorem mk_len (s:List UInt8) (hl:s.length≤10000):∀ (i:Nat),i≤5→((MK.take i).foldl Xd9 s).length≤100000000:=by
 have h:∀ (i:Nat),i≤5→((MK.take i).foldl Xd9 s).length≤6 ^ i*s.length:=by
  intro i
  induction i with
  | zero=>intro _; simp
  | succ i ih =>
   intro hi;obtain ⟨m,hm⟩:∃ m,MK[i]?=some m:=⟨_,Y5 (by show i<5; omega)⟩
   rw [Y12,hm,Y1n,Y31];show (Xgx _ m.2 _).length≤_
   have h1:=Xip (m.1.headD 0) m.2 (X7g hm).2.2.1 ((MK.take i).foldl Xd9 s);have h2:=ih (by omega);have h3:6*((MK.take i).foldl Xd9 s).length≤6*(6 ^ i*s.length):=Nat.mul_le_mul_left 6 h2;rw [Y28]
   calc _≤_:=h1
    _≤_:=h3
    _=_:=by rw [← Y23,Y2f 6]
 intro i hi;have h1:=h i hi;have h2:6 ^ i≤6 ^ 5:=Y1y (by decide) hi;have h3:6 ^ i*s.length≤6 ^ 5*10000:=Y4o h2 hl;have h4:6 ^ 5*10000≤100000000:=by decide
 omega
theorem Xf7 (s:List UInt8) (m:Px) {i:Nat} (hm:MK[i]?=some m) (hs:s.length≤100000000) (B w:World) (I:Im) (hK:Kx I) (As:List X6) (hS:Sat B w I As):Calls Tryz.prog 203 [S s,S m.1,S m.2].toArray w (Ret fun v w'=>v=S (Xd9 s m)∧Sat B w' I As):=by
 obtain ⟨_,⟨c,hc⟩,h2,h3⟩:=X7g hm;unfold Xd9;rw [hc] at h3 ⊢;exact Xdg s m.2 c hs h2 h3 B w I hK As hS
theorem Xaf (s:List UInt8) (hl:s.length≤10000) (B w:World) (I:Im) (hK:Kx I) (As:List X6) (hS:Sat B w I As) :
  Cz 156 [S s] w fun v w'=>v=S (esc s)∧Sat B w' I As:=by
 refine calls Tryz.func156 rfl Tryz.ntmps156 rfl (.seq (.q 1 rfl (.seq (.seq (.region (.val (.ldsI (us:=MKC) (.of rfl) hS hK.mks Tryz.isAgg258 Tryz.sizeOf258 rfl (fun _ _ h=>h)) rfl (.q 1 rfl (.nil (.block (.loop (σ:=Nat) (fun i=>[(0,S ((MK.take i).foldl Xd9 s)),(5,.agg MKC.toArray),(6,I64 (i:Nat))]) (fun i w=>i≤5∧Sat B w I As) (fun i=>5 - i) 0 ⟨rfl,rfl,rfl,trivial⟩ ⟨Yq _,hS⟩ ?_))))))))));rintro i w ⟨hi,hS⟩;refine .seq (.q 1 rfl (.seq ?_));refine .cond rfl (fun hb7=>?_) fun hb7=>?_
 ·have hc7:=hb7; simp only [Y6] at hc7;refine .skip (.seq (.block (.seq ?_)));obtain ⟨m,hm⟩:∃ m,MK[i]?=some m:=⟨_,Y5 (by show i<5; omega)⟩
  have hmm:=X7g hm;have hfl:((MK.take i).foldl Xd9 s).length≤100000000:=mk_len s hl i (by omega);refine .region ?_;refine .val (Ex.indexArrA (m:=5) (s:=2) (vs:=MKC) (us:=[S m.1,S m.2]) (.of rfl) (.of rfl) (by omega) (by omega) Xo1 X2w Xll (by rw [Ye]; exact hmm.1) (by rw [Ye]; show i*2+2≤10; omega)) rfl ?_;refine .allocA (cs:=[_,_]) hS Xcv rfl ?_;intro b4 w hS;refine .so hS (k:=0) rfl rfl rfl rfl X2w rfl (by simp) ?_;intro w hS;try simp only [Yk,Yf,Y9,Y7,Yh,Ym,Yd] at hS
  refine .nil (.t 1 rfl ?_);refine .val (.fo 0 rfl X4f rfl rfl Qs9 rfl) rfl (.val (.lo rfl hS (k:=0) rfl Qg9 rfl) rfl (.val (.fo 1 rfl X4f rfl rfl Qs9 rfl) rfl (.val (.lo rfl hS (k:=0) rfl Qg9 rfl) rfl (.call Tryz.func203 rfl (ec9 rfl (ec9 rfl (ec9 rfl X0))) rfl (Xf7 _ m hm hfl B _ I hK _ hS) ?_))));rintro _ w ⟨rfl,hS⟩;refine .q 1 rfl (.nil (.region (.run 2 rfl ⟨⟨by omega,by omega⟩,trivial⟩ (.nil ?_))));refine ⟨i+1,⟨?_,rfl,rfl,trivial⟩,⟨by omega,hS.drop (k:=0) rfl⟩,by omega⟩;show some (S _)=some _
  rw [Y12,hm,Y1n,Y31]; rfl
 have hc7:=hb7; simp only [Y6] at hc7;refine .exit (.seq (.q 2 rfl (.ret (X8 Tryz.results156 rfl ?_))));refine ⟨_,rfl,?_,hS⟩;rw [show i=5 by omega,← Xhk]; rfl
theorem Xj4 (m:Px) (hm:m.2.length≤6) (rs:List UInt8) (hrs:rs.length≤1000000) (b6:Nat) (B w:World) (I:Im) (As:List X6) (hS:Sat B w I (blk b6 [S rs] 9::As)) :
  Cz 194 [.agg (Xo m).toArray,ptr b6 0] w fun v w'=>v=.bool (Xd (38::rs) m.2)∧Sat B w' I (blk b6 [S rs] 9::As):=by
 refine calls Tryz.func194 rfl Tryz.ntmps194 rfl (.seq (.region (.boxA (cs:=[_,_]) hS (.of rfl) rfl ?_)));intro b2 w hS;refine .q 1 rfl (.nil (.seq (.region ?_)));refine .val (.lo rfl hS (k:=1) rfl Qg9 rfl) rfl (.val (.cat (l:=[38]) (m:=rs) (.of rfl) (.of rfl) (by simp only [List.length_cons,List.length_nil]; omega)) rfl ?_);rw [show [38] ++ rs=38::rs from rfl];refine .val (.fo 1 rfl X4f rfl rfl Qs9 rfl) rfl (.val (.lo rfl hS (k:=0) rfl Qg9 rfl) rfl (.call Xge rfl (ec9 rfl (ec9 rfl X0)) rfl (X1q (38::rs) m.2 _ (by simp only [List.length_cons]; omega) (by omega)) ?_));rintro _ _ ⟨rfl,rfl⟩;refine .q 1 rfl (.nil (.ret (X8 Tryz.results194 rfl ?_)));exact ⟨_,rfl,rfl,hS.drop (k:=0) rfl⟩
theorem Xtu (cs:List UInt8):∀ (s:List UInt8),decide (0≤Go.Lib.indexAny s cs)=s.any (fun c=>cs.contains c)
 | []=>rfl
 | b::l=>by
  rw [Go.Lib.indexAny,Y5z,← Xtu cs l];split
  ·rename_i hb; rw [hb]; rfl
  ·rename_i hb
   rw [show cs.contains b=false by simpa using hb,Y39]
   have:=Go.Lib.indexAny_ge cs l
   split
   ·rename_i h; rw [beq_iff_eq.1 h]
   ·rename_i h
    have h9:Go.Lib.indexAny l cs≠-1:=fun e=>h (beq_iff_eq.2 e)
    rw [decide_eq_true (by omega),decide_eq_true (by omega)]
theorem Xag (s cs:List UInt8) (hs:s.length≤1000000) (hca:Asc cs) (hl:cs.length≤1000) (h2:2≤cs.length) (B w:World) (I:Im) (As:List X6) (hS:Sat B w I As) :
  Cz 192 [S s,S cs] w fun v w'=>v=.bool (s.any fun c=>cs.contains c)∧Sat B w' I As:=by
 refine calls Tryz.func192 rfl Tryz.ntmps192 rfl (.seq (.q 1 rfl (.seq (.t 2 rfl (.call Qf191 rfl (ec9 rfl (ec9 rfl X0)) rfl (X5e s cs hs hca hl h2 B _ I _ hS) ?_)))));rintro _ w ⟨rfl,hS⟩;refine .q 2 rfl (.nil (.ret (X8 Tryz.results192 rfl ?_)));exact ⟨_,rfl,congrArg Value.bool (Xtu cs s),hS⟩
theorem Xnk:Asc SIGNS:=fun j b h=>by
 match j,h with
 | 0,h=>cases h; decide
 | 1,h=>cases h; decide
 | 2,h=>cases h; decide
 | 3,h=>cases h; decide
 | _+4,h=>simp [SIGNS] at h
theorem Xka {t:List UInt8} {i:Nat} (h:Xt (fun m:Px=>Xd t m.2) MK 0=(i:Int)):∃ m,MK[i]?=some m∧X52 t=some m:=by
 unfold X52;have key:∀ (l:List Px) (k:Nat),(Xt (fun m:Px=>Xd t m.2) l k=-1∧l.find? (fun m=>Xd t m.2)=none)∨∃ j m,Xt (fun m:Px=>Xd t m.2) l k=((k+j:Nat):Int)∧l[j]?=some m∧l.find? (fun m=>Xd t m.2)=some m:=by
  intro l
  induction l with
  | nil=>intro k; exact .inl ⟨rfl,rfl⟩
  | cons a l ih =>
   intro k;rw [Xt,Y2s];cases ha:Xd t a.2 with
   | true=>exact .inr ⟨0,a,by simp,rfl,rfl⟩
   | false =>
    rcases ih (k+1) with ⟨h1,h2⟩ | ⟨j,m,h1,h2,h3⟩
    ·exact .inl ⟨by simpa using h1,by simpa using h2⟩
    ·exact .inr ⟨j+1,m,by simp only [Y1m,if_false]; rw [h1]; congr 1; omega,by simpa using h2,by simpa using h3⟩
 rcases key MK 0 with ⟨h1,_⟩ | ⟨j,m,h1,h2,h3⟩
 ·rw [h1] at h; omega
 ·rw [h1] at h
  have:j=i:=by omega
  subst this;exact ⟨m,h2,h3⟩
theorem Xl1 {t:List UInt8} (h:Xt (fun m:Px=>Xd t m.2) MK 0<0):X52 t=none:=by
 cases hm:X52 t with
 | none=>rfl
 | some m =>
  exfalso
  unfold X52 at hm;obtain ⟨i,hi⟩:=Yx.1 (Y5k hm);have hp:=List.find?_some hm;have h9:=X20 (fun m:Px=>Xd t m.2) MK 0;rw [decide_eq_false (by omega)] at h9
  have:=Y5n.1 h9.symm m (Yl hi)
  exact this hp
theorem mkc_rs {I:Im} (h:At I (ad 2 0) MKC):RS I (some (ad 2 0)) 2 5 (X9 Xo MK):=⟨rfl,fun _=>⟨_,rfl,h⟩⟩
theorem mk_pos {i:Nat} {m:Px} (h:MK[i]?=some m):1≤m.2.length:=by
 match i,h with
 | 0,h=>cases h; decide
 | 1,h=>cases h; decide
 | 2,h=>cases h; decide
 | 3,h=>cases h; decide
 | 4,h=>cases h; decide
 | i+5,h=>simp [MK] at h
theorem mk_mem {m:Px} (h:m∈MK):m.2.length≤6:=by
 obtain ⟨i,hi⟩:=Yx.1 h;exact (X7g hi).2.2.1
theorem Ex.slcArrX {P:Program} {n:Nat} {L:Env} {w:World} {d:Option Nat} {ty:TypeId} {pos:String} {af:Array Edge} {gg:Option (Nat×Bool)} {t e:TypeId} {x:Operand} {p:Addr} {m s:Nat} (hx:Ev n L x (.pointer (some p))) (ht:P.underlying t=some (.array m e)) (hs:∀ w,(Go.sizeOf e).run P w=.ok s w) (hm:m≠0) :
  Ex P n L w ⟨d,.slice t x none none none,ty,pos,af,gg⟩ (.slice (some p) m m) w:=fun a ha=>by
 obtain ⟨e1,e2⟩:=Xbx ht;have h:=run_sliceAt_array_all (P:=P) w t p (by rw [e1,e2]; exact ht);rw [e1,e2,hs] at h;simp [execOp,hx a ha,h,slicedAt,hm]
 rfl
set_option maxRecDepth 4000 in
theorem X6v (s:List UInt8) (hl:s.length≤10000) (B w:World) (I:Im) (hK:Kx I) (As:List X6) (hS:Sat B w I As) :
  Cz 147 [S s] w fun v w'=>∃ n1 e1,v=.tuple #[S n1,I64 (e1:Nat)]∧(match X3w s with | none=>n1=[]∧e1=10 | some t=>n1=t∧e1=0)∧Sat B w' I As:=by
 refine calls Tryz.func147 rfl Tryz.ntmps147 rfl (.seq (.q 2 rfl (.seq (.seq (.t 1 rfl (.call Tryz.func192 rfl (ec9 rfl (ec9 rfl X0)) rfl (Xag s SIGNS (by omega) Xnk (by decide) (by decide) B _ I _ hS) ?_))))));clear hS;rintro _ w ⟨rfl,hS⟩;refine .nil (.cond rfl (fun hb10=>?_) fun hb10=>?_)
 ·refine .seq (.q 2 rfl (.ret (X2z Xrs rfl rfl ?_)));refine ⟨_,rfl,[],10,rfl,?_,hS⟩;unfold X3w;rw [if_pos hb10];exact ⟨rfl,rfl⟩
 have hc10:=hb10; try simp only [Y6] at hc10
 refine .skip (.seq (.region (.allocA (cs:=[_,_]) hS Xqg rfl ?_)));clear hS; intro b4 w hS;refine .nil (.seq (.block ?_));replace hS:=(hS.vecNil 5 1).pick 1 rfl;refine .loop (σ:=List UInt8×Value×Value×List UInt8) (fun ⟨out,p,v,t⟩=>[(0,S t),(4,ptr b4 0)]) (fun ⟨out,p,v,t⟩ w=>out.length+t.length≤s.length∧un0 s=(un0 t).map (out ++ ·)∧(p=.pointer none∨p=ptr b4 0)∧(out=[]→v=.slice none 0 0)∧Sat B w I (blk b4 [p,v] 178::Vec 5 1 v (out).length (bcs (out))::As)) (fun ⟨out,p,v,t⟩=>t.length) ([],.pointer none,.slice none 0 0,s) ⟨rfl,rfl,trivial⟩ ⟨by simp,by simp,.inl rfl,fun _=>rfl,hS⟩ ?_;rintro ⟨out,p,v,t⟩ w ⟨hol,hno,hp,hpv,hS⟩;refine .seq (.seq (.q 2 rfl ?_));refine .cond rfl (fun hb12=>?_) fun hb12=>?_
 ·have hc12:=hb12; try simp only [Y6] at hc12
  refine .skip (.block (.seq ?_));have hul:=Xx [38] t;have hnp:∀ x∈upto [38] t,x≠38:=fun x hx=>by have:=Xtk hx; simpa using this
  refine .t 1 rfl (.call Qf187 rfl (ec9 rfl (ec9 rfl X0)) rfl (Xi5 t 38 (by omega) B _ I hK _ hS) ?_);clear hS;rintro _ w ⟨rfl,hS⟩;refine .q 4 rfl (.alloc1 hS Qz9 rfl rfl ?_);clear hS; intro b6 w hS;refine .q 1 rfl (.s1 hS (k:=0) rfl rfl rfl rfl Qs9 (by simp) ?_);clear hS; intro w hS;refine .q 1 rfl (.nil (.seq (.t 1 rfl (.call Qf155 rfl (ec9 rfl (ec9 rfl X0)) rfl (Xv b4 p v out (upto [38] t) hp B _ I _ ((hS.pick 2 rfl).pick 2 rfl) (by omega)) ?_))));clear hS;rintro _ w ⟨rfl,v2,hS⟩;try dsimp only [List.eraseIdx] at hS
  refine .nil (.seq (.seq (.q 2 rfl ?_)));refine .cond rfl (fun hb22=>?_) fun hb22=>?_
  ·refine .exit (.seq ?_);have hz:X5 [38] t=[]:=by
    cases hf:X5 [38] t with
    | nil=>rfl
    | cons a r=>rw [hf] at hb22; simp at hb22
   have ht9:t=upto [38] t:=by have:=X1m [38] t; rw [hz,Y9] at this; exact this.symm
   have hne8:¬ out ++ upto [38] t=[]:=by
    rw [← ht9];intro h9;have h8:=(Y4j.1 h9).2;rw [h8] at hb12;simp at hb12
   refine .region (.call Qf111 rfl (ec9 rfl X0) rfl (X5r b4 (ptr b4 0) v2 (out ++ upto [38] t) (fun h=>absurd h hne8) B _ I _ ((hS.pick 1 rfl).pick 1 rfl)) ?_);clear hS;rintro _ w ⟨rfl,hS⟩;refine .q 2 rfl (.nil (.ret (X2z Xrs rfl rfl ?_)));refine ⟨_,rfl,_,0,rfl,?_,(hS.drop (k:=0) rfl)⟩;have hu:un0 t=some (upto [38] t):=by
    conv=>lhs; rw [ht9,← Y9 (upto [38] t),X55 _ _ hnp,X95]
    simp
   unfold X3w;rw [if_neg (by rw [hb10]; decide),hno,hu];exact ⟨rfl,rfl⟩
  have hc22:=hb22; try simp only [Y6] at hc22
  refine .skip (.seq ?_);have hf38:X5 [38] t=38::(X5 [38] t).drop 1:=by
   cases hf:X5 [38] t with
   | nil=>rw [hf] at hb22; simp at hb22
   | cons a r =>
    have:=Xeg (ats:=[38]) (s:=t) (c:=a) (by rw [hf]; rfl)
    have e:a=38:=by simpa using this
    rw [e]; rfl
  have ht38:t=upto [38] t ++ 38::(X5 [38] t).drop 1:=by rw [← hf38,X1m]
  refine .region (.val (Ex.slcArrX (m:=5) (s:=2) (.of rfl) Xo1 X2w (by decide)) rfl (.val (.makeFunc (ec9 rfl X0)) rfl ?_));refine .call Xnz rfl (ec9 rfl (ec9 rfl X0)) rfl (X66 (some (ad 2 0)) 5 MK (by decide) (fun m=>Xd (38::((X5 [38] t).drop 1)) m.2) 194 _ Tryz.func194 rfl [ptr b6 0] B _ I _ (fun w h=>X68 (cells:=Xo) (s:=2) (fun _=>rfl) h (mkc_rs hK.mks)) (fun r hr w h=>Xj4 r (mk_mem hr) ((X5 [38] t).drop 1) (by have:=X2d [38] t; rw [Yg]; omega) b6 B w I _ h) (hS.pick 2 rfl)) ?_;clear hS;rintro _ w ⟨rfl,hS⟩;try dsimp only [List.eraseIdx] at hS
  refine .q 1 rfl (.nil (.seq (.seq (.q 2 rfl ?_))));refine .cond rfl (fun hb27=>?_) fun hb27=>?_
  ·have hc27:=hb27; try simp only [Y6] at hc27
   refine .seq (.q 2 rfl (.ret (X2z Xrs rfl rfl ?_)));refine ⟨_,rfl,[],10,rfl,?_,(((hS.drop (k:=0) rfl).drop (k:=0) rfl).drop (k:=0) rfl)⟩;have hmk:X52 (38::(X5 [38] t).drop 1)=none:=Xl1 (by have h9:=hc27; omega);have hu:un0 t=none:=by
    conv=>lhs; rw [ht38,X55 _ _ hnp,X8q,if_pos rfl,hmk]
    rfl
   unfold X3w;rw [if_neg (by rw [hb10]; decide),hno,hu];exact ⟨rfl,rfl⟩
  have hc27:=hb27; try simp only [Y6] at hc27
  refine .skip (.seq ?_);obtain ⟨k,hk⟩:∃ k:Nat,Xt (fun m:Px=>Xd (38::(X5 [38] t).drop 1) m.2) MK 0=k:=⟨(Xt (fun m:Px=>Xd (38::(X5 [38] t).drop 1) m.2) MK 0).toNat,by have h9:=hc27; omega⟩
  obtain ⟨m,hm,hmk⟩:=Xka hk;have hmm:=X7g hm;have hk5:k<5:=(Y4.1 hm).1;have hmp:m.2.length≤(38::(X5 [38] t).drop 1).length:=X4u (List.find?_some (p:=fun m:Px=>Xd (38::(X5 [38] t).drop 1) m.2) hmk);simp only [List.length_cons] at hmp
  have hm2:1≤m.2.length:=mk_pos hm;have hdl:(((X5 [38] t).drop 1).drop (m.2.length - 1)).length+(upto [38] t).length+m.1.length≤t.length∧(((X5 [38] t).drop 1).drop (m.2.length - 1)).length<t.length:=by
   have h1:=congrArg List.length hf38;obtain ⟨c,hc⟩:=hmm.2.1;rw [hc];simp only [Yg,List.length_cons,List.length_nil] at h1 ⊢
   omega
  rw [hk];have hx0:=hK.mks;have hxk:At I ((ad 2 0).add (k*2)) [S m.1,S m.2]:=by
   have h9:=X72 (hK.mks.add (k*2)) 2;rw [hmm.1] at h9; exact h9
  refine .t 1 rfl (.val (.arrAddrI (i:=((k:Nat):Int)) (.of rfl) (.of rfl) (by omega) (by omega) Xo1 X2w) rfl ?_);rw [Ye];refine .val (.fi 0 rfl X4f rfl rfl Qs9 rfl) rfl (.val (.ldI (.of rfl) hS (At.add hxk _) Qg9 rfl) rfl ?_);refine .call Qf155 rfl (ec9 rfl (ec9 rfl X0)) rfl (Xv b4 _ v2 (out ++ upto [38] t) m.1 (.inr rfl) B _ I _ ((hS.pick 2 rfl).pick 2 rfl) (by obtain ⟨c,hc⟩:=hmm.2.1; rw [hc]; simp only [Y0,List.length_cons,List.length_nil]; omega)) ?_;clear hS;rintro _ w ⟨rfl,v3,hS⟩;refine .nil (.drawn (fun w=>∃ R,Sat B w I (blk b6 [S ((X5 [38] t).drop 1)] 9::R)) (fun j=>!([].contains j)) (by kernel_rfl) ?_);replace hS:=hS.drew; generalize w.drew=w at hS ⊢;have hH:=(hS.pick 2 rfl)
  refine .tk (i:=0) rfl (by kernel_rfl) ⟨_,hH⟩ (fun w ⟨R,hS⟩=>((.lo rfl hS (k:=0) rfl Qg9 rfl))) rfl (.tp (i:=1) rfl (by kernel_rfl) (fun w=>(.mo rfl)) rfl (.tp (i:=2) rfl (by kernel_rfl) (fun w=>(.arrAddrI (i:=((k:Nat):Int)) (.of rfl) (.of rfl) (by omega) (by omega) Xo1 X2w)) rfl ?_));rw [Ye];refine .tp (i:=3) rfl (by kernel_rfl) (fun w=>(.fi 1 rfl X4f rfl rfl Qs9 rfl)) rfl (.tk (i:=4) rfl (by kernel_rfl) ⟨_,hH⟩ (fun w ⟨R,hS⟩=>((.ldI (.of rfl) hS (At.add hxk _) Qg9 rfl))) rfl (.tp (i:=5) rfl (by kernel_rfl) (fun w=>(.len (.of rfl) Qu9)) rfl (.tp (i:=6) rfl (by kernel_rfl) (fun w=>(.sub (.of rfl) (.of rfl) ⟨by omega,by omega⟩)) rfl (.tp (i:=7) rfl (by kernel_rfl) (fun w=>(.subFrom (.of rfl) (.of rfl) (by omega) (by omega) Qu9)) rfl (.tp (i:=8) rfl (by kernel_rfl) (fun w=>(.ao rfl)) rfl (.done (by kernel_rfl) ?_))))));rw [show (((m.2.length:Nat):Int) - 1).toNat=m.2.length - 1 by omega];refine ⟨(out ++ upto [38] t ++ m.1,_,_,((X5 [38] t).drop 1).drop (m.2.length - 1)),⟨rfl,rfl,trivial⟩,⟨by (try dsimp only); simp only [Y0]; have:=hdl; omega,?_,.inr rfl,fun h=>absurd h (by obtain ⟨c,hc⟩:=hmm.2.1; rw [hc]; simp),(((hS.pick 1 rfl).pick 1 rfl).drop (k:=2) rfl)⟩,by (try dsimp only); have:=hdl; omega⟩;have hu:un0 t=(un0 (((X5 [38] t).drop 1).drop (m.2.length - 1))).map (fun x=>upto [38] t ++ (m.1 ++ x)):=by
   conv=>lhs; rw [ht38,X55 _ _ hnp,X8q,if_pos rfl,hmk]
   dsimp only
   cases un0 (((X5 [38] t).drop 1).drop (m.2.length - 1)) <;> rfl
  rw [hno,hu];cases un0 (((X5 [38] t).drop 1).drop (m.2.length - 1)) <;> simp [Yc]
 refine .exit (.seq ?_);refine .region (.call Qf111 rfl (ec9 rfl X0) rfl (X5r b4 p v out hpv B _ I _ ((hS.pick 1 rfl).pick 1 rfl)) ?_);clear hS;rintro _ w ⟨rfl,hS⟩;refine .q 2 rfl (.nil (.ret (X2z Xrs rfl rfl ?_)));refine ⟨_,rfl,_,0,rfl,?_,hS⟩;have ht9:t=[]:=by simpa using hb12
 subst ht9;unfold X3w;rw [if_neg (by rw [hb10]; decide),hno,X95];exact ⟨by simp,rfl⟩
def NdV:Nat→Im→List Value→Nd→Prop
 | 0,_,_,_=>False
 | d+1,I,cs,n=>n.name.length≤10000∧n.text.length≤10000∧n.attrs.length≤10000∧n.kids.length≤10000∧(∀ a∈n.attrs,a.1.length≤10000∧a.2.length≤10000)∧∃ (aa:Option Addr) (ca:Nat) (ka:Option Addr) (ck:Nat) (xs:List (List Value)),cs=[S n.name,.slice aa n.attrs.length ca,S n.text,.slice ka n.kids.length ck]∧n.attrs.length≤ca∧n.kids.length≤ck∧RS I aa 2 n.attrs.length (X9 Xo n.attrs)∧RS I ka 4 n.kids.length xs.flatten∧xs.length=n.kids.length∧(∀ x∈xs,x.length=4)∧∀ (i:Nat) x k,xs[i]?=some x→n.kids[i]?=some k→NdV d I x k
theorem NdV.mono {I J:Im} (hl:Le I J):∀ {d:Nat} {cs:List Value} {n:Nd},NdV d I cs n→NdV d J cs n
 | 0,_,_,h=>h
 | d+1,cs,n,h=>by
  obtain ⟨h1,h2,h3,h4,h5,aa,ca,ka,ck,xs,h6,h7,h8,h9,h10,h11,h12,h13⟩:=h;exact ⟨h1,h2,h3,h4,h5,aa,ca,ka,ck,xs,h6,h7,h8,h9.mono hl,h10.mono hl,h11,h12,fun i x k hx hk=>(h13 i x k hx hk).mono hl⟩
theorem NdV.cells {I:Im}:∀ {d:Nat} {cs:List Value} {n:Nd},NdV d I cs n→∃ (s1:List UInt8) (a1:Option Addr) (n1 m1:Nat) (s2:List UInt8) (a2:Option Addr) (n2 m2:Nat),cs=[S s1,.slice a1 n1 m1,S s2,.slice a2 n2 m2]
 | 0,_,_,h=>h.elim
 | d+1,cs,n,h=>by
  obtain ⟨h1,h2,h3,h4,h5,aa,ca,ka,ck,xs,h6,_⟩:=h;exact ⟨_,_,_,_,_,_,_,_,h6⟩
theorem X8f {I:Im} {ka:Option Addr} {m:Nat} {xs:List (List Value)} (hR:RS I ka 4 m xs.flatten) (hm:xs.length=m) (h4:∀ x∈xs,x.length=4) {i:Nat} {x:List Value} (hx:xs[i]?=some x):∃ q,ka=some q∧At I (q.add (i*4)) x:=by
 obtain ⟨q,rfl,hq⟩:=hR.2 (by have:=(Y4.1 hx).1; omega);refine ⟨q,rfl,?_⟩;have h3:=X72 (hq.add (i*4)) 4;rw [X1c xs h4 i x hx] at h3;exact h3
theorem Xb8 {f:Int→Nd→Option Int} (hf:∀ l n m,0≤l→f l n=some m→0≤m∧m≤l):∀ (ks:List Nd) (l m:Int),0≤l→X3m f l ks=some m→0≤m∧m≤l
 | [],l,m,h0,h=>by cases h; exact ⟨h0,Y3x _⟩
 | k::r,l,m,h0,h=>by
  rw [X3m] at h;split at h
  ·cases h
  ·rename_i l2 h2
   have h3:=hf _ _ _ h0 h2;have h4:=Xb8 hf r l2 m h3.1 h;exact ⟨h4.1,by omega⟩
theorem Xie:∀ (d:Nat) (l:Int) (n:Nd) (m:Int),0≤l→X2s d l n=some m→0≤m∧m≤l
 | 0,_,_,_,_,h=>by cases h
 | d+1,l,n,m,h0,h=>by
  rw [X2s] at h;split at h
  ·cases h
  ·rename_i hc
   have:=Xb8 (fun l n m h0 h=>Xie d l n m h0 h) n.kids (l - 1) m (by omega) h
   exact ⟨this.1,by omega⟩
set_option maxRecDepth 4000 in
theorem Xjg:∀ (d:Nat) (n:Nd) (cs:List Value) (deep left:Int) (lb:Nat) (B w:World) (I:Im) (As:List X6),1≤deep→deep+(d:Int)=9→0≤left→left≤1000→NdV d I cs n→Sat B w I (blk lb [I64 (left)] 3::As) →
  Cz 149 [.agg cs.toArray,I64 deep,ptr lb 0] w fun v w'=>∃ l2,v=.bool (X2s d left n).isSome∧(X2s d left n=none∨X2s d left n=some l2)∧Sat B w' I (blk lb [I64 (l2)] 3::As):=by
 intro d
 induction d with
 | zero=>intro n cs deep left lb B w I As _ _ _ _ hN; exact hN.elim
 | succ d ih =>
  intro n cs deep left lb B w I As hp hd h0 h1 hN hS;obtain ⟨hnl,htl,hal,hkl,hat,aa,ca,ka,ck,xs,rfl,hca,hck,hRa,hRk,hxl,hx4,hKD⟩:=hN;refine calls Tryz.func149 rfl Tryz.ntmps149 rfl (.seq (.region (.boxA (cs:=[_,_,_,_]) hS (.of rfl) rfl ?_)));clear hS; intro b3 w hS;refine .q 1 rfl (.nil (.seq (.t 2 rfl ?_)));refine .val (.lo rfl hS (k:=1) rfl Qg3 rfl) rfl (.run 2 rfl ⟨⟨by omega,by omega⟩,trivial⟩ (.s1 hS (k:=1) rfl rfl rfl rfl Qs3 (by simp) ?_));clear hS; intro w hS;refine .nil (.seq (.seq (.t 3 rfl (.gm rfl rfl rfl rfl (.gval rfl rfl (fun hg1=>(.nilCheck (.gd hg1 rfl))) rfl ?_)))));refine .gval rfl rfl (fun hg1=>(by exact (.ld (.gd hg1 rfl) hS (k:=1) rfl Qg3 rfl))) rfl ?_;refine .gval rfl rfl (fun hg1=>(.lss (.gd hg1 rfl) (.of rfl))) rfl (.val (.po rfl rfl rfl) rfl (.q 1 rfl ?_));refine .gval rfl rfl (fun hg1=>(by exact .fo 0 rfl X38 rfl rfl Qs9 rfl)) rfl ?_;refine .gval rfl rfl (fun hg1=>(by exact (.ld (.gd hg1 rfl) hS (k:=0) rfl Qg9 rfl))) rfl ?_;refine .gcall (T:=fun w=>Sat B w I (blk b3 [S n.name,.slice aa n.attrs.length ca,S n.text,.slice ka n.kids.length ck] 126::blk lb [I64 (left - 1)] 3::As)) rfl rfl rfl Tryz.func196 rfl (fun hg1=>(Xc (.gd hg1 rfl) X0)) rfl (fun hg1=>Xf9 n.name (by omega) B _ I _ hS) hS ?_;clear hS; rintro w hS;refine .gval rfl rfl (fun hg1=>(.not (.gd hg1 rfl))) rfl (.val (.po rfl rfl rfl) rfl (.q 1 rfl ?_));refine .gval rfl rfl (fun hg1=>(by exact .fo 1 rfl X38 rfl rfl X6e rfl)) rfl ?_;refine .gval rfl rfl (fun hg1=>(by exact (.ld (.gd hg1 rfl) hS (k:=0) rfl Xaa rfl))) rfl ?_;refine .gcall (T:=fun w=>Sat B w I (blk b3 [S n.name,.slice aa n.attrs.length ca,S n.text,.slice ka n.kids.length ck] 126::blk lb [I64 (left - 1)] 3::As)) rfl rfl rfl Tryz.func197 rfl (fun hg1=>(Xc (.gd hg1 rfl) X0)) rfl (fun hg1=>Xk2 aa ca n.attrs hca (by omega) (fun a h=>by have:=hat a h; omega) B _ I hRa _ hS) hS ?_;clear hS; rintro w hS;refine .gval rfl rfl (fun hg1=>(.not (.gd hg1 rfl))) rfl (.val (.po rfl rfl rfl) rfl (.q 1 rfl ?_));refine .gval rfl rfl (fun hg1=>(by exact .fo 2 rfl X38 rfl rfl Qs9 rfl)) rfl ?_;refine .gval rfl rfl (fun hg1=>(by exact (.ld (.gd hg1 rfl) hS (k:=0) rfl Qg9 rfl))) rfl ?_;refine .gcall (T:=fun w=>Sat B w I (blk b3 [S n.name,.slice aa n.attrs.length ca,S n.text,.slice ka n.kids.length ck] 126::blk lb [I64 (left - 1)] 3::As)) rfl rfl rfl Tryz.func198 rfl (fun hg1=>(Xc (.gd hg1 rfl) X0)) rfl (fun hg1=>Xb6 n.text (by omega) B _ I _ hS) hS ?_;clear hS; rintro w hS;refine .gval rfl rfl (fun hg1=>(.not (.gd hg1 rfl))) rfl (.val (.po rfl rfl rfl) rfl (.q 1 rfl ?_));refine .gval rfl rfl (fun hg1=>(by exact .fo 2 rfl X38 rfl rfl Qs9 rfl)) rfl ?_;refine .gval rfl rfl (fun hg1=>(by exact (.ld (.gd hg1 rfl) hS (k:=0) rfl Qg9 rfl))) rfl ?_;refine .gval rfl rfl (fun hg1=>(.nes (.gd hg1 rfl) (.of rfl))) rfl (.gval rfl rfl (fun hg1=>(.move (.gd hg1 rfl))) rfl ?_);refine .gval2 rfl rfl rfl (fun hg1 hg2=>(by exact .fo 3 rfl X38 rfl rfl Xej rfl)) rfl ?_;refine .gval2 rfl rfl rfl (fun hg1 hg2=>(by exact (.ld (.gd2 hg1 hg2 rfl) hS (k:=0) rfl Xkb rfl))) rfl ?_;refine .gval2 rfl rfl rfl (fun hg1 hg2=>(.lenSlice (.gd2 hg1 hg2 rfl) X83)) rfl (.gval2 rfl rfl rfl (fun hg1 hg2=>(.gtr (.gd2 hg1 hg2 rfl) (.of rfl))) rfl (.gval rfl rfl (fun hg1=>(.pand (.gd hg1 rfl) (.gd hg1 rfl) (.of rfl))) rfl (.val (.po rfl rfl rfl) rfl (.nil ?_))));refine .cond rfl (fun hb50=>?_) fun hb50=>?_
  ·refine .seq (.q 1 rfl (.ret (X8 Xw7 rfl ?_)));have hF:X2s (d+1) left n=none:=by
    rw [X2s,if_pos];simp only [Y1i,Yn,Y41,decide_eq_true_eq] at hb50
    rcases hb50 with (((h | h) | h) | h) | h
    ·rcases h with h | h
     ·push_cast at hd; omega
     ·left; omega
    ·exact .inr (.inl h)
    ·exact .inr (.inr (.inl h))
    ·exact .inr (.inr (.inr (.inl h)))
    ·refine .inr (.inr (.inr (.inr ⟨by simpa using h.1,fun e=>?_⟩)));have h2:=h.2;rw [e] at h2; simp at h2
   refine ⟨_,rfl,left - 1,by rw [hF]; rfl,.inl hF,hS.drop (k:=0) rfl⟩
  have hc50:=hb50; simp only [Y6] at hc50;refine .skip (.seq (.seq (.region ?_)));refine .val (.fo 3 rfl X38 rfl rfl Xej rfl) rfl (.val (.lo rfl hS (k:=0) rfl Xkb rfl) rfl (.run 2 rfl ⟨⟨_,X83⟩,trivial⟩ (.nil (.block ?_))));simp only [Yz,Y3a,Y2m,decide_eq_false_iff_not] at hb50
  have hF:X2s (d+1) left n=X3m (X2s d) (left - 1) n.kids:=by
   rw [X2s,if_neg];rintro (e | e | e | e | ⟨e1,e2⟩)
   ·omega
   ·rw [e] at hb50; simp at hb50
   ·rw [e] at hb50; simp at hb50
   ·rw [e] at hb50; simp at hb50
   ·rcases hb50.2 with e3 | e3
    ·simp at e3; exact e1 e3
    ·have:=Y1x.2 e2; omega
  replace hS:Sat B w I (blk lb [I64 (left - 1)] 3::As):=hS.drop (k:=0) rfl;refine .loop (σ:=Nat×Int) (fun ⟨i,l⟩=>[(1,I64 deep),(2,ptr lb 0),(52,.slice ka n.kids.length ck),(53,I64 (n.kids.length:Nat)),(54,I64 (i:Nat))]) (fun ⟨i,l⟩ w=>i≤n.kids.length∧X3m (X2s d) (left - 1) n.kids=X3m (X2s d) l (n.kids.drop i)∧0≤l∧l≤1000∧Sat B w I (blk lb [I64 (l)] 3::As)) (fun ⟨i,l⟩=>n.kids.length - i) (0,left - 1) ⟨rfl,rfl,rfl,rfl,rfl,trivial⟩ ⟨Yq _,rfl,by omega,by omega,hS⟩ ?_;rintro ⟨i,l⟩ w ⟨hi,hok,h0l,h1l,hS⟩;refine .seq (.q 1 rfl (.seq ?_));refine .cond rfl (fun hb55=>?_) fun hb55=>?_
  ·have hc55:=hb55; simp only [Y6] at hc55;refine .skip (.seq (.block (.seq ?_)));obtain ⟨k,hk⟩:∃ k,n.kids[i]?=some k:=⟨_,Y5 (by omega)⟩
   obtain ⟨x,hxi⟩:∃ x,xs[i]?=some x:=⟨_,Y5 (by omega)⟩
   have hNk:=hKD i x k hxi hk;obtain ⟨q,hq9,hx⟩:=X8f hRk hxl hx4 hxi;subst hq9;obtain ⟨s1,a1,n1,m1,s2,a2,n2,m2,hc9⟩:=hNk.cells;subst hc9;have hdr:n.kids.drop i=k::n.kids.drop (i+1):=by rw [Y16 (by omega),(Y4.1 hk).2]
   refine .region (.val (.ii rfl rfl (by omega) (by omega) X83 Xy) rfl ?_);rw [Ye];refine .val (.ldsI (us:=[S s1,.slice a1 n1 m1,S s2,.slice a2 n2 m2]) (.of rfl) hS hx X2u Xy rfl (fun _ _ h=>h)) rfl (.allocA (cs:=[_,_,_,_]) hS X6b rfl ?_);clear hS; intro b8 w hS;refine .so hS (k:=0) rfl rfl rfl rfl Xy rfl (by simp) ?_;clear hS; intro w hS;try simp only [Yk,Yf,Y9,Y7,Yh,Ym,Yd] at hS
   refine .nil (.seq (.region ?_));refine .val (.ldsW (cs:=[_,_,_,_]) (.of rfl) hS (k:=0) rfl X2u Xy rfl) rfl (.run 3 rfl ⟨⟨by omega,by omega⟩,trivial⟩ (.call Tryz.func149 rfl (ec9 rfl (ec9 rfl (ec9 rfl X0))) rfl (ih k [S s1,.slice a1 n1 m1,S s2,.slice a2 n2 m2] (deep+1) l lb B _ I _ (by omega) (by push_cast at hd; omega) h0l h1l hNk (hS.pick 1 rfl)) ?_));clear hS;rintro _ w ⟨l2,rfl,hl2,hS⟩;try dsimp only [List.eraseIdx] at hS
   refine .q 1 rfl (.nil ?_);refine .cond rfl (fun hb63=>?_) fun hb63=>?_
   ·refine .seq (.q 1 rfl (.ret (X8 Xw7 rfl ?_)));have hl3:X2s d l k=none:=by
     cases he:X2s d l k with
     | none=>rfl
     | some z=>rw [he] at hb63; simp at hb63
    have hF2:X2s (d+1) left n=none:=by rw [hF,hok,hdr,X3m,hl3]
    exact ⟨_,rfl,l2,by rw [hF2]; rfl,.inl hF2,(hS.drop (k:=1) rfl)⟩
   have hc63:=hb63; simp only [Y6] at hc63;refine .skip (.region (.run 2 rfl ⟨⟨by omega,by omega⟩,trivial⟩ (.nil ?_)));have hl3:X2s d l k=some l2:=by
    rcases hl2 with e | e
    ·rw [e] at hb63; simp at hb63
    ·exact e
   have hle:=Xie d l k l2 h0l hl3;refine ⟨(i+1,l2),⟨rfl,rfl,rfl,rfl,rfl,trivial⟩,⟨by (try dsimp only); omega,?_,hle.1,by (try dsimp only); omega,(hS.drop (k:=1) rfl)⟩,by (try dsimp only); omega⟩;rw [hok,hdr,X3m,hl3]
  have hc55:=hb55; simp only [Y6] at hc55;refine .exit (.seq (.q 1 rfl (.ret (X8 Xw7 rfl ?_))));have hF2:X2s (d+1) left n=some l:=by rw [hF,hok,Y14 (by omega)]; rfl
  exact ⟨_,rfl,l,by rw [hF2]; rfl,.inr hF2,hS⟩
theorem Xb7 (n:Nd) (cs:List Value) (B w:World) (I:Im) (hN:NdV 8 I cs n) (As:List X6) (hS:Sat B w I As) :
  Cz 105 [.agg cs.toArray] w fun v w'=>v=.bool (X2s 8 200 n).isSome∧Sat B w' I As:=by
 obtain ⟨s1,a1,n1,m1,s2,a2,n2,m2,hc9⟩:=hN.cells;subst hc9;refine calls Tryz.func105 rfl Tryz.ntmps105 rfl (.seq (.region (.boxA (cs:=[_,_,_,_]) hS (.of rfl) rfl ?_)));intro b1 w hS;refine .q 1 rfl (.nil (.seq (.region (.alloc1 hS Qz3 rfl rfl ?_))));intro b3 w hS;refine .s1 hS (k:=0) rfl rfl rfl rfl Qs3 (by simp) ?_;intro w hS;refine .nil (.seq (.region ?_));refine .val (.ldsW (cs:=[_,_,_,_]) (.of rfl) hS (k:=1) rfl X2u Xy rfl) rfl (.call Tryz.func149 rfl (ec9 rfl (ec9 rfl (ec9 rfl X0))) rfl (Xjg 8 n [S s1,.slice a1 n1 m1,S s2,.slice a2 n2 m2] 1 200 b3 B _ I _ (by decide) (by decide) (by decide) (by decide) hN hS) ?_);rintro _ w ⟨l2,rfl,hl2,hS⟩;refine .q 1 rfl (.nil (.ret (X8 Tryz.results105 rfl ?_)));exact ⟨_,rfl,rfl,((hS.drop (k:=0) rfl).drop (k:=0) rfl)⟩
theorem Xni {I:Im} {a:Option Addr} {l:List Px} (hR:RS I a 2 l.length (X9 Xo l)) {i:Nat} {x:Px} (hx:l[i]?=some x):∃ q,a=some q∧At I (q.add (i*2)) [S x.1,S x.2]:=Xj1 (cells:=Xo) (s:=2) (fun _=>rfl) hR hx
set_option maxRecDepth 4000 in
theorem Xrn:∀ (d:Nat) (n:Nd) (cs:List Value) (bb:Nat) (p v:Value) (out:List UInt8) (B w:World) (I:Im) (As:List X6),Kx I→NdV d I cs n→(p=.pointer none∨p=ptr bb 0)→(out ++ X32 d n).length≤1000000→Sat B w I (blk bb [p,v] 178::Vec 5 1 v (out).length (bcs (out))::As) →
  Calls Tryz.prog 110 [ptr bb 0,.agg cs.toArray].toArray w (Ret fun u w'=>u=.tuple #[]∧∃ v',Sat B w' I (blk bb [ptr bb 0,v'] 178::Vec 5 1 v' (out ++ X32 d n).length (bcs (out ++ X32 d n))::As)):=by
 intro d
 induction d with
 | zero=>intro n cs bb p v out B w I As _ hN; exact hN.elim
 | succ d ih =>
  intro n cs bb p v out B w I As hK hN hp hT hS;obtain ⟨hnl,htl,hal,hkl,hat,aa,ca,ka,ck,xs,rfl,hca,hck,hRa,hRk,hxl,hx4,hKD⟩:=hN;have hT1:(out ++ ([60] ++ n.name) ++ (n.attrs.map X6n).flatten).length≤1000000:=by simp only [X32,Y0,List.length_cons,List.length_nil] at hT ⊢; omega
  have hT2:((out ++ ([60] ++ n.name) ++ (n.attrs.map X6n).flatten) ++ ([62] ++ esc n.text) ++ (n.kids.map (X32 d)).flatten).length≤1000000:=by simp only [X32,Y0,List.length_cons,List.length_nil] at hT ⊢; omega
  refine calls Tryz.func110 rfl Tryz.ntmps110 rfl (.seq (.region (.boxA (cs:=[_,_,_,_]) hS (.of rfl) rfl ?_)));intro b3 w hS;refine .nil (.seq (.t 1 rfl ?_));refine .val (.fo 0 rfl X38 rfl rfl Qs9 rfl) rfl (.val (.lo rfl hS (k:=0) rfl Qg9 rfl) rfl (.run 1 rfl ⟨by (try simp only [Y0,List.length_cons,List.length_nil]); omega,trivial⟩ (.call Qf155 rfl (ec9 rfl (ec9 rfl X0)) rfl (Xv bb p v out ([60] ++ n.name) hp B _ I _ ((hS.pick 2 rfl).pick 2 rfl) (by simp only [Y0,List.length_cons,List.length_nil] at hT1 ⊢; omega)) ?_)));rintro _ w ⟨rfl,v1,hS⟩;try dsimp only [List.eraseIdx] at hS
  refine .nil (.seq (.seq (.region ?_)));refine .val (.fo 1 rfl X38 rfl rfl X6e rfl) rfl (.val (.lo rfl hS (k:=2) rfl Xaa rfl) rfl (.run 2 rfl ⟨⟨_,X2t⟩,trivial⟩ (.nil (.block ?_))));have hS0:=hS; clear hS;refine .loop (σ:=Nat×List UInt8×Value) (fun ⟨i,q,v⟩=>[(0,ptr bb 0),(3,ptr b3 0),(14,.slice aa n.attrs.length ca),(15,I64 (n.attrs.length:Nat)),(16,I64 (i:Nat))]) (fun ⟨i,q,v⟩ w=>i≤n.attrs.length∧q ++ ((n.attrs.drop i).map X6n).flatten=(out ++ ([60] ++ n.name) ++ (n.attrs.map X6n).flatten)∧Sat B w I (blk bb [ptr bb 0,v] 178::Vec 5 1 v (q).length (bcs (q))::blk b3 [S n.name,.slice aa n.attrs.length ca,S n.text,.slice ka n.kids.length ck] 126::As)) (fun ⟨i,q,v⟩=>n.attrs.length - i) (0,out ++ ([60] ++ n.name),v1) ⟨rfl,rfl,rfl,rfl,rfl,trivial⟩ ⟨Yq _,rfl,hS0⟩ ?_;rintro ⟨i,q,v⟩ w ⟨hi,hok,hS⟩;clear hS0;refine .seq (.q 1 rfl (.seq ?_));refine .cond rfl (fun hb17=>?_) fun hb17=>?_
  ·have hc17:=hb17; simp only [Y6] at hc17;refine .skip (.seq (.block (.seq ?_)));obtain ⟨a,ha⟩:∃ a,n.attrs[i]?=some a:=⟨_,Y5 (by omega)⟩
   obtain ⟨qa,hq9,hx⟩:=Xni hRa ha;subst hq9;have hal9:=hat a (Yl ha);have he9:=Xg0 a.2;have hdr:n.attrs.drop i=a::n.attrs.drop (i+1):=by rw [Y16 (by omega),(Y4.1 ha).2]
   have hql:q.length≤1000000:=by have:=congrArg List.length hok; simp only [Y0] at this hT1; omega
   refine .region (.val (.ii rfl rfl (by omega) (by omega) X2t X2w) rfl ?_);rw [Ye];refine .val (.ldsI (us:=[S a.1,S a.2]) (.of rfl) hS hx Xll X2w rfl (fun _ _ h=>h)) rfl (.allocA (cs:=[_,_]) hS Xcv rfl ?_);intro b5 w hS;refine .so hS (k:=0) rfl rfl rfl rfl X2w rfl (by simp) ?_;intro w hS;try simp only [Yk,Yf,Y9,Y7,Yh,Ym,Yd] at hS
   refine .nil (.drawn (fun w=>∃ R,Sat B w I (blk b5 [S a.1,S a.2] 136::R)) (fun j=>!([].contains j)) (by kernel_rfl) ?_);replace hS:=hS.drew; generalize w.drew=w at hS ⊢;have hH:=(hS.pick 0 rfl)
   refine .tp (i:=0) rfl (by kernel_rfl) (fun w=>(.mo rfl)) rfl (.tp (i:=1) rfl (by kernel_rfl) (fun w=>(.fo 0 rfl X4f rfl rfl Qs9 rfl)) rfl (.tk (i:=2) rfl (by kernel_rfl) ⟨_,hH⟩ (fun w ⟨R,hS⟩=>(.lo rfl hS (k:=0) rfl Qg9 rfl)) rfl (.tp (i:=3) rfl (by kernel_rfl) (fun w=>(.cat (.of rfl) (.of rfl) (by (try simp only [Y0,List.length_cons,List.length_nil]); omega))) rfl (.tp (i:=4) rfl (by kernel_rfl) (fun w=>(.cat (.of rfl) (.of rfl) (by (try simp only [Y0,List.length_cons,List.length_nil]); omega))) rfl (.tp (i:=5) rfl (by kernel_rfl) (fun w=>(.fo 1 rfl X4f rfl rfl Qs9 rfl)) rfl (.tk (i:=6) rfl (by kernel_rfl) ⟨_,hH⟩ (fun w ⟨R,hS⟩=>(.lo rfl hS (k:=0) rfl Qg9 rfl)) rfl (.b1 7 (by kernel_rfl) rfl (.call Tryz.func156 rfl (ec9 rfl X0) rfl (Xaf a.2 (by omega) B _ I hK _ hS) ?_))))))));rintro _ w ⟨rfl,hS⟩;refine .nil ?_;clear hH;have hH:=(hS.pick 0 rfl)
   refine ⟨fun _ _=>⟨_,hH⟩,?_⟩;refine .tp (i:=8) rfl (by kernel_rfl) (fun w=>(.cat (.of rfl) (.of rfl) (by (try simp only [Y0,List.length_cons,List.length_nil]); omega))) rfl (.tp (i:=9) rfl (by kernel_rfl) (fun w=>(.cat (.of rfl) (.of rfl) (by (try simp only [Y0,List.length_cons,List.length_nil]); omega))) rfl (.b1 10 (by kernel_rfl) rfl (.call Qf155 rfl (ec9 rfl (ec9 rfl X0)) rfl (Xv bb (ptr bb 0) v q (((([32] ++ a.1) ++ [61,34]) ++ esc a.2) ++ [34]) (.inr rfl) B _ I _ ((hS.pick 2 rfl).pick 2 rfl) (by simp only [Y0,List.length_cons,List.length_nil]; omega)) ?_)));rintro _ w ⟨rfl,v2,hS⟩;try dsimp only [List.eraseIdx] at hS
   refine .nil ?_;clear hH;have hH:=(hS.pick 2 rfl)
   refine ⟨fun _ _=>⟨_,hH⟩,?_⟩;refine .done (by kernel_rfl) (.region (.run 2 rfl ⟨⟨by omega,by omega⟩,trivial⟩ (.nil ?_)));refine ⟨(i+1,q ++ (((([32] ++ a.1) ++ [61,34]) ++ esc a.2) ++ [34]),v2),⟨rfl,rfl,rfl,rfl,rfl,trivial⟩,⟨by (try dsimp only); omega,?_,((((hS.pick 3 rfl).pick 2 rfl).pick 2 rfl).drop (k:=3) rfl)⟩,by (try dsimp only); omega⟩;rw [← hok,hdr];simp [X6n]
  have hc17:=hb17; simp only [Y6] at hc17;refine .exit (.seq ?_);have hq1:q=(out ++ ([60] ++ n.name) ++ (n.attrs.map X6n).flatten):=by rw [← hok,Y14 (by omega)]; simp
  subst hq1;have het:=Xg0 n.text;refine .t 1 rfl (.val (.fo 2 rfl X38 rfl rfl Qs9 rfl) rfl (.val (.lo rfl hS (k:=2) rfl Qg9 rfl) rfl (.call Tryz.func156 rfl (ec9 rfl X0) rfl (Xaf n.text (by omega) B _ I hK _ hS) ?_)));rintro _ w ⟨rfl,hS⟩;refine .run 1 rfl ⟨by (try simp only [Y0,List.length_cons,List.length_nil]); omega,trivial⟩ (.call Qf155 rfl (ec9 rfl (ec9 rfl X0)) rfl (Xv bb (ptr bb 0) v (out ++ ([60] ++ n.name) ++ (n.attrs.map X6n).flatten) ([62] ++ esc n.text) (.inr rfl) B _ I _ ((hS.pick 1 rfl).pick 1 rfl) (by simp only [Y0,List.length_cons,List.length_nil] at hT1 ⊢; omega)) ?_);rintro _ w ⟨rfl,v3,hS⟩;try dsimp only [List.eraseIdx] at hS
  refine .nil (.seq (.seq (.region ?_)));refine .val (.fo 3 rfl X38 rfl rfl Xej rfl) rfl (.val (.lo rfl hS (k:=2) rfl Xkb rfl) rfl (.run 2 rfl ⟨⟨_,X83⟩,trivial⟩ (.nil (.block ?_))));have hS0:=hS; clear hS;refine .loop (σ:=Nat×List UInt8×Value) (fun ⟨i,q,v⟩=>[(0,ptr bb 0),(3,ptr b3 0),(39,.slice ka n.kids.length ck),(40,I64 (n.kids.length:Nat)),(41,I64 (i:Nat))]) (fun ⟨i,q,v⟩ w=>i≤n.kids.length∧q ++ ((n.kids.drop i).map (X32 d)).flatten=((out ++ ([60] ++ n.name) ++ (n.attrs.map X6n).flatten) ++ ([62] ++ esc n.text) ++ (n.kids.map (X32 d)).flatten)∧Sat B w I (blk bb [ptr bb 0,v] 178::Vec 5 1 v (q).length (bcs (q))::blk b3 [S n.name,.slice aa n.attrs.length ca,S n.text,.slice ka n.kids.length ck] 126::As)) (fun ⟨i,q,v⟩=>n.kids.length - i) (0,(out ++ ([60] ++ n.name) ++ (n.attrs.map X6n).flatten) ++ ([62] ++ esc n.text),v3) ⟨rfl,rfl,rfl,rfl,rfl,trivial⟩ ⟨Yq _,rfl,hS0⟩ ?_;rintro ⟨i,q,v⟩ w ⟨hi,hok,hS⟩;clear hS0;refine .seq (.q 1 rfl (.seq ?_));refine .cond rfl (fun hb42=>?_) fun hb42=>?_
  ·have hc42:=hb42; simp only [Y6] at hc42;refine .skip (.seq (.block (.seq ?_)));obtain ⟨k,hk⟩:∃ k,n.kids[i]?=some k:=⟨_,Y5 (by omega)⟩
   obtain ⟨x,hxi⟩:∃ x,xs[i]?=some x:=⟨_,Y5 (by omega)⟩
   have hNk:=hKD i x k hxi hk;obtain ⟨qa,hq9,hx⟩:=X8f hRk hxl hx4 hxi;subst hq9;obtain ⟨s1,a1,n1,m1,s2,a2,n2,m2,hc9⟩:=hNk.cells;subst hc9;have hdr:n.kids.drop i=k::n.kids.drop (i+1):=by rw [Y16 (by omega),(Y4.1 hk).2]
   have hql:(q ++ X32 d k).length≤1000000:=by have:=congrArg List.length hok; rw [hdr] at this; simp only [Y1a,Y1j,Y0] at this hT2 ⊢; omega
   refine .region (.val (.ii rfl rfl (by omega) (by omega) X83 Xy) rfl ?_);rw [Ye];refine .val (.ldsI (us:=[S s1,.slice a1 n1 m1,S s2,.slice a2 n2 m2]) (.of rfl) hS hx X2u Xy rfl (fun _ _ h=>h)) rfl (.allocA (cs:=[_,_,_,_]) hS X6b rfl ?_);intro b7 w hS;refine .so hS (k:=0) rfl rfl rfl rfl Xy rfl (by simp) ?_;intro w hS;try simp only [Yk,Yf,Y9,Y7,Yh,Ym,Yd] at hS
   refine .nil (.t 1 rfl ?_);refine .val (.ldsW (cs:=[_,_,_,_]) (.of rfl) hS (k:=0) rfl X2u Xy rfl) rfl (.call Tryz.func110 rfl (ec9 rfl (ec9 rfl X0)) rfl (ih k [S s1,.slice a1 n1 m1,S s2,.slice a2 n2 m2] bb (ptr bb 0) v q B _ I _ hK hNk (.inr rfl) hql ((hS.pick 2 rfl).pick 2 rfl)) ?_);rintro _ w ⟨rfl,v2,hS⟩;try dsimp only [List.eraseIdx] at hS
   refine .nil (.region (.run 2 rfl ⟨⟨by omega,by omega⟩,trivial⟩ (.nil ?_)));refine ⟨(i+1,q ++ X32 d k,v2),⟨rfl,rfl,rfl,rfl,rfl,trivial⟩,⟨by (try dsimp only); omega,?_,((((hS.pick 3 rfl).pick 2 rfl).pick 2 rfl).drop (k:=3) rfl)⟩,by (try dsimp only); omega⟩;rw [← hok,hdr];simp [X6n]
  have hc42:=hb42; simp only [Y6] at hc42;refine .exit ?_;have hq2:q=((out ++ ([60] ++ n.name) ++ (n.attrs.map X6n).flatten) ++ ([62] ++ esc n.text) ++ (n.kids.map (X32 d)).flatten):=by rw [← hok,Y14 (by omega)]; simp
  subst hq2;refine .t 1 rfl (.val (.fo 0 rfl X38 rfl rfl Qs9 rfl) rfl (.val (.lo rfl hS (k:=2) rfl Qg9 rfl) rfl (.run 2 rfl ⟨by (try simp only [Y0,List.length_cons,List.length_nil]); omega,by (try simp only [Y0,List.length_cons,List.length_nil]); omega,trivial⟩ (.call Qf155 rfl (ec9 rfl (ec9 rfl X0)) rfl (Xv bb (ptr bb 0) v ((out ++ ([60] ++ n.name) ++ (n.attrs.map X6n).flatten) ++ ([62] ++ esc n.text) ++ (n.kids.map (X32 d)).flatten) (([60,47] ++ n.name) ++ [62]) (.inr rfl) B _ I _ ((hS.pick 1 rfl).pick 1 rfl) (by simp only [Y0,List.length_cons,List.length_nil] at hT2 ⊢; omega)) ?_))));rintro _ w ⟨rfl,v5,hS⟩;refine .nil (Xam Tryz.results110 ?_);have he:((out ++ ([60] ++ n.name) ++ (n.attrs.map X6n).flatten) ++ ([62] ++ esc n.text) ++ (n.kids.map (X32 d)).flatten) ++ (([60,47] ++ n.name) ++ [62])=out ++ X32 (d+1) n:=by simp [X32]
  rw [he] at hS;exact ⟨_,rfl,rfl,v5,hS.drop (k:=2) rfl⟩
theorem Xja (n:Nd) (cs:List Value) (B w:World) (I:Im) (hK:Kx I) (hN:NdV 8 I cs n) (hT:(X32 8 n).length≤1000000) (As:List X6) (hS:Sat B w I As) :
  Cz 66 [.agg cs.toArray] w fun v w'=>v=.tuple #[S (if (X2s 8 200 n).isSome=true then X32 8 n else []),I64 (if (X2s 8 200 n).isSome=true then 0 else 1)]∧Sat B w' I As:=by
 obtain ⟨s1,a1,n1,m1,s2,a2,n2,m2,hc9⟩:=hN.cells;subst hc9;refine calls Qf66 rfl Tryz.ntmps66 rfl (.seq (.region (.boxA (cs:=[_,_,_,_]) hS (.of rfl) rfl ?_)));intro b1 w hS;refine .q 2 rfl (.nil (.seq (.seq (.region ?_))));refine .val (.ldsW (cs:=[_,_,_,_]) (.of rfl) hS (k:=0) rfl X2u Xy rfl) rfl (.call Tryz.func105 rfl (ec9 rfl X0) rfl (Xb7 n [S s1,.slice a1 n1 m1,S s2,.slice a2 n2 m2] B _ I hN _ hS) ?_);rintro _ w ⟨rfl,hS⟩;refine .q 1 rfl (.nil ?_);refine .cond rfl (fun hb7=>?_) fun hb7=>?_
 ·refine .seq (.q 2 rfl (.ret (X2z Tryz.results66 rfl rfl ?_)));refine ⟨_,rfl,?_,(hS.drop (k:=0) rfl)⟩;rw [if_neg (by simpa using hb7),if_neg (by simpa using hb7)]
 refine .skip (.seq (.region (.allocA (cs:=[_,_]) hS Xqg rfl ?_)));intro b4 w hS;refine .nil (.seq ?_);replace hS:=(hS.vecNil 5 1).pick 1 rfl;refine .region (.val (.ldsW (cs:=[_,_,_,_]) (.of rfl) hS (k:=2) rfl X2u Xy rfl) rfl ?_);refine .call Tryz.func110 rfl (ec9 rfl (ec9 rfl X0)) rfl (Xrn 8 n [S s1,.slice a1 n1 m1,S s2,.slice a2 n2 m2] b4 _ _ [] B _ I _ hK hN (.inl rfl) (by rw [Yf]; exact hT) ((hS.pick 1 rfl).pick 1 rfl)) ?_;rintro _ w ⟨rfl,v2,hS⟩;rw [Yf] at hS;refine .nil (.seq ?_);have he9:X32 8 n≠[]:=by simp [X32]
 refine .region (.call Qf111 rfl (ec9 rfl X0) rfl (X5r b4 _ v2 (X32 8 n) (fun h=>absurd h he9) B _ I _ hS) ?_);rintro _ w ⟨rfl,hS⟩;refine .q 2 rfl (.nil (.ret (X2z Tryz.results66 rfl rfl ?_)));refine ⟨_,rfl,?_,(hS.drop (k:=0) rfl)⟩;rw [if_pos (by simpa using hb7),if_pos (by simpa using hb7)]
theorem X9t (rb:Nat) (t x:List UInt8) (l:Int) (B w:World) (I:Im) (As:List X6) (hS:Sat B w I (blk rb [S (t),I64 (l)] 171::As)) :
  Cz 144 [ptr rb 0,S x] w fun v w'=>v=.bool (Xd t x)∧Sat B w' I (blk rb [S (if Xd t x=true then t.drop x.length else t),I64 (l)] 171::As):=by
 refine calls Xkc rfl Tryz.ntmps144 rfl (.seq (.q 1 rfl (.seq (.t 2 rfl ?_))));refine .val (.fo 0 rfl X4d rfl rfl Qs9 rfl) rfl (.val (.lo rfl hS (k:=0) rfl Qg9 rfl) rfl (.q 1 rfl (.call Tryz.func190 rfl (ec9 rfl (ec9 rfl X0)) rfl (Xci t x B _ I _ hS) ?_)));rintro _ w ⟨rfl,hS⟩;refine .q 5 rfl (.nil (.seq (.t 3 rfl ?_)));refine .val (.fo 0 rfl X4d rfl rfl Qs9 rfl) rfl (.s1 hS (k:=0) rfl rfl rfl rfl Qs9 (by simp) ?_);intro w hS;refine .nil (.seq (.q 2 rfl (.ret (X8 Tryz.results144 rfl ?_))));exact ⟨_,rfl,rfl,hS⟩
theorem Xiy (rb:Nat) (t ats:List UInt8) (hl:t.length≤1000000) (l:Int) (B w:World) (I:Im) (As:List X6) (hI:∀ w,Sat B w I (blk rb [S (t),I64 (l)] 171::As)→Calls Tryz.prog 191 [S t,S ats].toArray w (Ret fun v w'=>v=I64 (Go.Lib.indexAny t ats)∧Sat B w' I (blk rb [S (t),I64 (l)] 171::As))) (hS:Sat B w I (blk rb [S (t),I64 (l)] 171::As)) :
  Cz 145 [ptr rb 0,S ats] w fun v w'=>v=S (upto ats t)∧Sat B w' I (blk rb [S (X5 ats t),I64 (l)] 171::As):=by
 refine calls Xmk rfl Tryz.ntmps145 rfl (.seq (.q 1 rfl (.seq (.t 2 rfl ?_))));refine .val (.fo 0 rfl X4d rfl rfl Qs9 rfl) rfl (.val (.lo rfl hS (k:=0) rfl Qg9 rfl) rfl (.q 1 rfl (.call Qf191 rfl (ec9 rfl (ec9 rfl X0)) rfl (hI _ hS) ?_)));rintro _ w ⟨rfl,hS⟩;have hix:Go.Lib.indexAny t ats=-1∧upto ats t=t∧X5 ats t=[]∨∃ k:Nat,Go.Lib.indexAny t ats=k∧upto ats t=t.take k∧X5 ats t=t.drop k∧k<t.length:=by
  have hge:=Go.Lib.indexAny_ge ats t
  by_cases e:Go.Lib.indexAny t ats=-1
  ·exact .inl ⟨e,X6z e⟩
  ·obtain ⟨k,hk⟩:∃ k:Nat,Go.Lib.indexAny t ats=k:=⟨(Go.Lib.indexAny t ats).toNat,by omega⟩
   exact .inr ⟨k,hk,Xa4 hk⟩
 generalize Go.Lib.indexAny t ats=ix at hix;refine .q 1 rfl (.nil (.seq (.seq (.q 2 rfl ?_))));refine .cond rfl (fun hb14=>?_) fun hb14=>?_
 ·have hc14:=hb14; simp only [Y6] at hc14;refine .t 2 rfl (.val (.fo 0 rfl X4d rfl rfl Qs9 rfl) rfl (.val (.lo rfl hS (k:=0) rfl Qg9 rfl) rfl (.run 2 rfl ⟨Qu9,trivial⟩ (.nil (.seq ?_)))));have hix1:ix=-1∧upto ats t=t∧X5 ats t=[]:=by
   rcases hix with h | ⟨k,h,_⟩
   ·exact h
   ·rw [h] at hc14; omega
  refine .t 2 rfl (.val (.fo 0 rfl X4d rfl rfl Qs9 rfl) rfl (.val (.lo rfl hS (k:=0) rfl Qg9 rfl) rfl (.q 1 rfl (.val (.subTo (.of rfl) (.of rfl) (by omega) (by omega) Qu9) rfl (.q 1 rfl (.nil (.seq (.t 3 rfl ?_))))))));refine .val (.fo 0 rfl X4d rfl rfl Qs9 rfl) rfl (.val (.lo rfl hS (k:=0) rfl Qg9 rfl) rfl (.q 1 rfl (.val (.subFrom (.of rfl) (.of rfl) (by omega) (by omega) Qu9) rfl (.q 1 rfl ?_))));refine .val (.fo 0 rfl X4d rfl rfl Qs9 rfl) rfl (.s1 hS (k:=0) rfl rfl rfl rfl Qs9 (by simp) ?_);intro w hS;refine .nil (.seq (.q 2 rfl (.ret (X8 Tryz.results145 rfl ?_))));refine ⟨_,rfl,?_,?_⟩
  ·rw [hix1.2.1,Ye,Y17]
  ·rw [hix1.2.2]; rw [Ye,Y37] at hS; exact hS
 have hc14:=hb14; simp only [Y6] at hc14;refine .skip (.seq ?_);obtain ⟨k,hk,hk1,hk2,hk3⟩:∃ k:Nat,ix=k∧upto ats t=t.take k∧X5 ats t=t.drop k∧k<t.length:=by
  rcases hix with ⟨h,_⟩ | h
  ·rw [h] at hc14; omega
  ·exact h
 subst hk;refine .t 2 rfl (.val (.fo 0 rfl X4d rfl rfl Qs9 rfl) rfl (.val (.lo rfl hS (k:=0) rfl Qg9 rfl) rfl (.q 1 rfl (.val (.subTo (.of rfl) (.of rfl) (by omega) (by omega) Qu9) rfl (.q 1 rfl (.nil (.seq (.t 3 rfl ?_))))))));refine .val (.fo 0 rfl X4d rfl rfl Qs9 rfl) rfl (.val (.lo rfl hS (k:=0) rfl Qg9 rfl) rfl (.q 1 rfl (.val (.subFrom (.of rfl) (.of rfl) (by omega) (by omega) Qu9) rfl (.q 1 rfl ?_))));refine .val (.fo 0 rfl X4d rfl rfl Qs9 rfl) rfl (.s1 hS (k:=0) rfl rfl rfl rfl Qs9 (by simp) ?_);intro w hS;refine .nil (.seq (.q 2 rfl (.ret (X8 Tryz.results145 rfl ?_))));refine ⟨_,rfl,?_,?_⟩
 ·rw [hk1,Ye]
 ·rw [hk2]; rw [Ye] at hS; exact hS
theorem Xp4 (rb:Nat) (t:List UInt8) (c:UInt8) (hc:c.toNat<128) (hl:t.length≤1000000) (l:Int) (B w:World) (I:Im) (As:List X6) (hS:Sat B w I (blk rb [S (t),I64 (l)] 171::As)):Calls Tryz.prog 145 [ptr rb 0,S [c]].toArray w (Ret fun v w'=>v=S (upto [c] t)∧Sat B w' I (blk rb [S (X5 [c] t),I64 (l)] 171::As)):=Xiy rb t [c] hl l B w I As (fun w h=>Xcb t c hc B w I _ h) hS
theorem xword2 (rb:Nat) (t:List UInt8) (hl:t.length≤1000000) (l:Int) (B w:World) (I:Im) (As:List X6) (hS:Sat B w I (blk rb [S (t),I64 (l)] 171::As)):Calls Tryz.prog 145 [ptr rb 0,S [32,62]].toArray w (Ret fun v w'=>v=S (upto [32,62] t)∧Sat B w' I (blk rb [S (X5 [32,62] t),I64 (l)] 171::As)):=Xiy rb t [32,62] hl l B w I As (fun w h=>X5e t [32,62] hl (fun j b h=>by
  match j,h with
  | 0,h=>cases h; decide
  | 1,h=>cases h; decide
  | _+2,h=>simp at h) (by decide) (by decide) B w I _ h) hS
end Go.Proofs.YtbciobiiejpdgaaGreatDoor
namespace Xm
open Ul Pc Gk Pat Tk Tr
def LREQ:List UInt8:=[115,97,109,108,112,58,76,111,103,111,117,116,82,101,113,117,101,115,116]
def ID_:List UInt8:=[73,68]
def LR_:List UInt8:=[76,82,45]
def VER:List UInt8:=[86,101,114,115,105,111,110]
def V20:List UInt8:=[50,46,48]
def Xoo:List UInt8:=[73,115,115,117,101,73,110,115,116,97,110,116]
def NID:List UInt8:=[115,97,109,108,58,78,97,109,101,73,68]
def Xl4:List UInt8:=[64,78,79,84,95,85,83,69,68,64]
def SIX:List UInt8:=[115,97,109,108,112,58,83,101,115,115,105,111,110,73,110,100,101,120]
def M1:List UInt8:=[60,115,97,109,108,112,58,76,111,103,111,117,116,82,101,113,117,101,115,116,32,73,68,61,34,76,82,45]
def M2:List UInt8:=[34,32,86,101,114,115,105,111,110,61,34,50,46,48,34,32,73,115,115,117,101,73,110,115,116,97,110,116,61,34]
def M3:List UInt8:=[34,62,60,115,97,109,108,58,78,97,109,101,73,68,62,64,78,79,84,95,85,83,69,68,64,60,47,115,97,109,108,58,78,97,109,101,73,68,62,60,115,97,109,108,112,58,83,101,115,115,105,111,110,73,110,100,101,120,62]
def M4:List UInt8:=[60,47,115,97,109,108,112,58,83,101,115,115,105,111,110,73,110,100,101,120,62,60,47,115,97,109,108,112,58,76,111,103,111,117,116,82,101,113,117,101,115,116,62]
def Xto (c:UInt8):Bool:=Xqi c || (48≤c && c≤57) || c == 45
def Tok (s:List UInt8):Prop:=∀ c∈s,Xto c=true
theorem X36 (c:UInt8) (h:Xto c=true):(c≠38∧c≠60∧c≠62∧c≠34∧c≠39)∧shB c=true∧c≠32:=by
 have:=Xh (p:=fun c=>!Xto c || ((c != 38 && c != 60 && c != 62 && c != 34 && c != 39) && shB c && c != 32)) (by decide +kernel) c
 rw [h] at this;simp only [Bool.not_true,Y39,Yn,bne_iff_ne,ne_eq] at this
 obtain ⟨⟨⟨⟨⟨⟨h1,h2⟩,h3⟩,h4⟩,h5⟩,h6⟩,h7⟩:=this;exact ⟨⟨h1,h2,h3,h4,h5⟩,h6,h7⟩
theorem hx_tok {c:UInt8} {d:Nat} (h:hx c=some d):Xto c=true:=by
 have:=Xh (p:=fun c=>!(hx c).isSome || Xto c) (by decide +kernel) c
 rw [h] at this;simpa using this
theorem Xlo:∀ (s:List UInt8) (n d:Nat),hxS n s=some d→Tok s
 | [],_,_,_=>fun c hc=>by simp at hc
 | c::r,n,d,h=>by
  rw [hxS] at h;cases hc:hx c with
  | none=>rw [hc] at h; cases h
  | some x =>
   rw [hc] at h;intro y hy;rcases Y15.1 hy with rfl | hy
   ·exact hx_tok hc
   ·exact Xlo r _ _ h y hy
theorem Xn6 {s:List UInt8} {k d:Nat} (h:X1e s=some (k,d)):Tok s:=by
 unfold X1e at h;split at h
 ·cases h
 ·rename_i hk
  obtain ⟨x,hx,e⟩:=Y1e.1 h;have hl:=Xm5 (upto [45] s);have h1:Tok (upto [45] s):=by
   rw [Xno hk]
   have:=(by decide:∀ k:Fin 7,∀ c∈pre k.val,Xto c=true) ⟨X3t (upto [45] s),by omega⟩
   exact this
  unfold X51 at hx;split at hx
  ·rename_i h16
   have h2:=Xlo _ _ _ hx;intro c hc;rw [← X1m [45] s] at hc;rcases Y11.1 hc with hc | hc
   ·exact h1 c hc
   ·cases hf:X5 [45] s with
    | nil=>rw [hf] at h16; simp at h16
    | cons a r =>
     rw [hf] at hc h2;rcases Y15.1 hc with rfl | hc
     ·have:=Xeg (ats:=[45]) (s:=s) (c:=c) (by rw [hf]; rfl)
      have:c=45:=by simpa using this
      rw [this]; decide
     ·exact h2 c hc
  ·cases hx
theorem Xgn (n:Nat):Tok (Go.Lib.decDigits n):=by
 intro c hc
 have:=Y1d.1 (X3p n).2.1 c hc
 unfold Xto;unfold X7i at this;rw [this]; simp
theorem Tok.esc {s:List UInt8} (h:Tok s):esc s=s:=Xee fun c hc=>(X36 c (h c hc)).1
theorem Tok.un {s:List UInt8} (h:Tok s):X3w s=some s:=Xc6 fun c hc=>(X36 c (h c hc)).1
theorem Tok.sh {s:List UInt8} (h:Tok s):X87 s=true:=Y1d.2 fun c hc=>(X36 c (h c hc)).2.1
theorem Xov {t:List UInt8} (h:Tok t):Tok (LR_ ++ t):=fun c hc=>by
 rcases Y11.1 hc with hc | hc
 ·exact (by decide:∀ c∈LR_,Xto c=true) c hc
 ·exact h c hc
def X8l (t:List UInt8) (n:Nat):Nd:=.mk LREQ [(ID_,LR_ ++ t),(VER,V20),(Xoo,Go.Lib.decDigits n)] [] [.mk NID [] Xl4 [],.mk SIX [] t []]
def MSG (t:List UInt8) (n:Nat):List UInt8:=M1 ++ t ++ M2 ++ Go.Lib.decDigits n ++ M3 ++ t ++ M4
theorem Xig {t:List UInt8} (h:Tok t) (n:Nat):X32 8 (X8l t n)=MSG t n:=by
 have h1:=h.esc;have h2:=(Xov h).esc;have h3:=(Xgn n).esc;have h4:esc V20=V20:=by decide +kernel
 have h5:esc Xl4=Xl4:=by decide +kernel
 have h6:esc []=[]:=rfl;simp only [X32,X8l,Nd.name,Nd.attrs,Nd.text,Nd.kids,Y1a,Y38,X6n,h1,h2,h3,h4,h5,h6]
 unfold MSG LREQ ID_ LR_ VER V20 Xoo NID Xl4 SIX M1 M2 M3 M4
 simp
theorem Xnw {t:List UInt8} (h:Tok t) (n:Nat):X2s 8 200 (X8l t n)=some 197:=by
 have h1:=h.sh;have h2:=(Xov h).sh;have h3:=(Xgn n).sh;have k1:X7u LREQ=true:=by decide +kernel
 have k2:X7u NID=true:=by decide +kernel
 have k3:X7u SIX=true:=by decide +kernel
 have k4:X87 Xl4=true:=by decide +kernel
 have k5:X87 []=true:=rfl;have k6:X7u ID_=true:=by decide +kernel
 have k7:X7u VER=true:=by decide +kernel
 have k8:X7u Xoo=true:=by decide +kernel
 have k9:X87 V20=true:=by decide +kernel
 have j1:(ID_ == VER)=false:=by decide
 have j2:(ID_ == Xoo)=false:=by decide
 have j3:(VER == Xoo)=false:=by decide
 simp [X2s,X3m,X8l,Nd.name,Nd.attrs,Nd.text,Nd.kids,X8b,h1,h2,h3,k1,k2,k3,k4,k5,k6,k7,k8,k9,j1,j2,j3]
theorem Xnr {a b:UInt8} (h:a≠b) (r p:List UInt8):Xd (a::r) (b::p)=false:=by
 unfold Xd;simp [h]
theorem Xn9 {a b:UInt8} (h:a≠b) (c:UInt8) (r p:List UInt8):Xd (c::a::r) (c::b::p)=false:=by
 unfold Xd;rw [Ye,List.length_cons,List.length_cons,Y1k,Y1k,show (c::a::r.take p.length == c::b::p)=false from beq_eq_false_iff_ne.2 fun e=>by injection e with _ e; injection e with e _; exact h e,Y49]
theorem Xcn (a r:List UInt8):(a ++ r).drop a.length=r:=by simp
theorem Xf5 {nm tx:List UInt8} (rest:List UInt8) (d:Nat) (left:Int) (hl:1≤left) (hnm:∀ c∈nm,c≠32∧c≠62) (htx:∀ x∈tx,x≠38∧x≠60∧x≠62∧x≠34∧x≠39) :
  X22 (d+1) left (60::(nm ++ 62::(tx ++ 60::47::(nm ++ 62::rest))))=some (.mk nm [] tx [],rest,left - 1):=by
 have u1:=X31 (ats:=[32,62]) (a:=nm) (b:=62::(tx ++ 60::47::(nm ++ 62::rest))) (fun c hc=>by have:=hnm c hc; simp [this.1,this.2]) (fun c hc=>by simp at hc; subst hc; decide);have u2:=X31 (ats:=[60]) (a:=tx) (b:=60::47::(nm ++ 62::rest)) (fun c hc=>by have:=htx c hc; simp [this.2.1]) (fun c hc=>by simp at hc; subst hc; decide);rw [X22,if_neg (by rintro (e | e) <;> first | omega | (rw [show (60::(nm ++ 62::(tx ++ 60::47::(nm ++ 62::rest))))=[60] ++ (nm ++ 62::(tx ++ 60::47::(nm ++ 62::rest))) from rfl,X30] at e; cases e))];rw [Y7,Yh,u1.1,u1.2,X15,if_pos (Xnr (by decide) _ _)];dsimp only
 rw [if_neg (by rw [show (62::(tx ++ 60::47::(nm ++ 62::rest)))=[62] ++ (tx ++ 60::47::(nm ++ 62::rest)) from rfl,X30]; decide),Y7,Yh,u2.1,u2.2,Xc6 htx];dsimp only
 rw [X37,if_pos (by rw [show (60::47::(nm ++ 62::rest))=[60,47] ++ (nm ++ 62::rest) from rfl,X30])];dsimp only
 rw [if_neg (by rw [show (60::47::(nm ++ 62::rest))=(60::47::nm ++ [62]) ++ rest by simp,X30]; decide)];have e:(60::47::(nm ++ 62::rest)).drop (nm.length+3)=rest:=by
  rw [show (60::47::(nm ++ 62::rest))=(60::47::nm ++ [62]) ++ rest by simp,show nm.length+3=(60::47::nm ++ [62]).length by simp,Xcn]
 rw [e]
theorem X9q {key v:List UInt8} (rest:List UInt8) (f:Nat) (out:List Px) (hk:∀ c∈key,c≠61) (hv:∀ x∈v,x≠38∧x≠60∧x≠62∧x≠34∧x≠39) :
  X15 (f+1) (32::(key ++ 61::34::(v ++ 34::rest))) out=X15 f rest (out ++ [(key,v)]):=by
 have u1:=X31 (ats:=[61]) (a:=key) (b:=61::34::(v ++ 34::rest)) (fun c hc=>by have:=hk c hc; simp [this]) (fun c hc=>by simp at hc; subst hc; decide);have u2:=X31 (ats:=[34]) (a:=v) (b:=34::rest) (fun c hc=>by have:=hv c hc; simp [this.2.2.2.1]) (fun c hc=>by simp at hc; subst hc; decide);rw [X15,if_neg (by rw [show (32::(key ++ 61::34::(v ++ 34::rest)))=[32] ++ (key ++ 61::34::(v ++ 34::rest)) from rfl,X30]; decide)];rw [Y7,Yh,u1.1,u1.2,if_neg (by rw [show (61::34::(v ++ 34::rest))=[61,34] ++ (v ++ 34::rest) from rfl,X30]; decide)];rw [Y7,Y7,Yh,u2.1,u2.2,Xc6 hv];dsimp only
 rw [if_neg (by rw [show (34::rest)=[34] ++ rest from rfl,X30]; decide),Y7,Yh]
theorem Xnt (a:UInt8) (ha:a≠32) (rest:List UInt8) (f:Nat) (out:List Px):X15 (f+1) (a::rest) out=some (out,a::rest):=by
 rw [X15,if_pos (Xnr ha _ _)]
theorem Xet {f:Nat} (g:Nat) {s:List UInt8} {out:List Px} (hf:s.length<f) (hg:s.length<g):X15 f s out=X15 g s out:=Xak f g s out hf hg
theorem Xq0 {t:List UInt8} (h:Tok t) (n:Nat):X22 8 200 (MSG t n)=some (X8l t n,[],197):=by
 have ht:∀ x∈t,x≠38∧x≠60∧x≠62∧x≠34∧x≠39:=fun c hc=>(X36 c (h c hc)).1
 have hlr:∀ x∈LR_ ++ t,x≠38∧x≠60∧x≠62∧x≠34∧x≠39:=fun c hc=>(X36 c (Xov h c hc)).1
 have hd:∀ x∈Go.Lib.decDigits n,x≠38∧x≠60∧x≠62∧x≠34∧x≠39:=fun c hc=>(X36 c (Xgn n c hc)).1
 obtain ⟨K3,hK3⟩:∃ K,K=60::47::(LREQ ++ [62]):=⟨_,rfl⟩
 obtain ⟨K2,hK2⟩:∃ K,K=60::(SIX ++ 62::(t ++ 60::47::(SIX ++ 62::K3))):=⟨_,rfl⟩
 obtain ⟨K1,hK1⟩:∃ K,K=60::(NID ++ 62::(Xl4 ++ 60::47::(NID ++ 62::K2))):=⟨_,rfl⟩
 obtain ⟨R3,hR3⟩:∃ K,K=32::(Xoo ++ 61::34::(Go.Lib.decDigits n ++ 34::62::K1)):=⟨_,rfl⟩
 obtain ⟨R2,hR2⟩:∃ K,K=32::(VER ++ 61::34::(V20 ++ 34::R3)):=⟨_,rfl⟩
 obtain ⟨R1,hR1⟩:∃ K,K=32::(ID_ ++ 61::34::((LR_ ++ t) ++ 34::R2)):=⟨_,rfl⟩
 have hM:MSG t n=60::(LREQ ++ R1):=by
  rw [hR1,hR2,hR3,hK1,hK2,hK3];unfold MSG LREQ ID_ LR_ VER V20 Xoo NID Xl4 SIX M1 M2 M3 M4
  simp
 have u1:=X31 (ats:=[32,62]) (a:=LREQ) (b:=R1) (by decide) (fun c hc=>by rw [hR1] at hc; simp at hc; subst hc; decide);have hA:X15 (R1.length+1) R1 []=some ([(ID_,LR_ ++ t),(VER,V20),(Xoo,Go.Lib.decDigits n)],62::K1):=by
  rw [Xet (R1.length+4) (by omega) (by omega)]
  conv=>lhs; rw [show R1.length+4=(R1.length+3)+1 from rfl,hR1,X9q R2 _ _ (by decide) hlr]
  rw [hR2,X9q R3 _ _ (by decide) (by decide),hR3,X9q (62::K1) _ _ (by decide) hd,Xnt 62 (by decide)];rfl
 have e1:X22 7 199 K1=some (.mk NID [] Xl4 [],K2,198):=by rw [hK1]; exact Xf5 K2 6 199 (by decide) (by decide) (by decide)
 have e2:X22 7 198 K2=some (.mk SIX [] t [],K3,197):=by rw [hK2]; exact Xf5 K3 6 198 (by decide) (by decide) ht
 have n1:Xd K1 [60,47]=false:=by rw [hK1]; exact Xn9 (by decide) _ _ _
 have n2:Xd K2 [60,47]=false:=by rw [hK2]; exact Xn9 (by decide) _ _ _
 have n3:Xd K3 [60,47]=true:=by rw [hK3]; exact X30 [60,47] _
 have l1:2≤K1.length:=by rw [hK1]; simp only [List.length_cons,Y0]; omega
 have hKd:X37 (X22 7) (K1.length+1) 199 K1 []=some ([.mk NID [] Xl4 [],.mk SIX [] t []],K3,197):=by
  obtain ⟨f,hf⟩:∃ f,K1.length=f+2:=⟨K1.length - 2,by omega⟩
  rw [hf,X37,n1,if_neg (by decide),e1];dsimp only
  rw [X37,n2,if_neg (by decide),e2];dsimp only
  rw [X37,n3,if_pos rfl]; rfl
 have u2:upto [60] K1=[]∧X5 [60] K1=K1:=by
  have:=X31 (ats:=[60]) (a:=[]) (b:=K1) (by simp) (fun c hc=>by rw [hK1] at hc; simp at hc; subst hc; decide)
  simpa using this
 rw [hM,X22,if_neg (by rintro (e | e) <;> first | omega | (rw [show (60::(LREQ ++ R1))=[60] ++ (LREQ ++ R1) from rfl,X30] at e; cases e))];rw [Y7,Yh,u1.1,u1.2,hA];dsimp only
 rw [if_neg (by rw [show (62::K1)=[62] ++ K1 from rfl,X30]; decide),Y7,Yh,u2.1,u2.2,show X3w []=some [] from by decide];dsimp only
 rw [show (200:Int) - 1=199 from rfl,hKd];dsimp only
 rw [if_neg (by rw [hK3,show (60::47::(LREQ ++ [62]))=(60::47::LREQ ++ [62]) ++ [] by simp,X30]; decide),hK3];rfl
theorem Xi1 {t:List UInt8} (h:Tok t) (n:Nat):Xgm (MSG t n)=some (X8l t n):=by
 unfold Xgm;rw [Xq0 h n];dsimp only
 rw [if_neg (by rw [Xnw h n]; simp)]
structure Nt where
 ticket:List UInt8
 url:List UInt8
 tries:Int
 next:Int
deriving DecidableEq
def X4k (t:List UInt8):Bool:=isT t 2 || isT t 3
def X1l (n:Nt):Bool:=X4k n.ticket && decide ((n.url.length:Int)≤100) && decide (0≤n.tries) && decide (n.tries≤9) && decide (0≤n.next) && decide (n.next≤1099511627776)
theorem X28 {t:List UInt8} (h:X4k t=true):Tok t∧t.length≤23:=by
 unfold X4k isT at h;cases hp:X1e t with
 | none=>rw [hp] at h; simp at h
 | some x=>obtain ⟨k,d⟩:=x; exact ⟨Xn6 hp,(X3o hp).2.2.2.1⟩
def idOf (s:List UInt8):List UInt8:=upto [34] (s.drop M1.length)
def Xqh (s:List UInt8):List UInt8:=(s.drop (M1.length+(idOf s).length+M2.length)).takeWhile X7i
def Xa6 (s:List UInt8):Option (List UInt8):=if X4k (idOf s)=true∧val (Xqh s)≤1099511627776∧s=MSG (idOf s) (val (Xqh s)) then some (idOf s) else none
theorem Xhx {t:List UInt8} (h:Tok t) (n:Nat):idOf (MSG t n)=t:=by
 have e:MSG t n=M1 ++ (t ++ (M2 ++ Go.Lib.decDigits n ++ M3 ++ t ++ M4)):=by unfold MSG; simp only [Yc]
 unfold idOf;rw [e,Xcn];exact (X31 (ats:=[34]) (a:=t) (b:=M2 ++ Go.Lib.decDigits n ++ M3 ++ t ++ M4) (fun c hc=>by have:=(X36 c (h c hc)).1; simp [this.2.2.2.1]) (fun c hc=>by unfold M2 at hc; simp at hc; subst hc; decide)).1
theorem Xex:∀ (a b:List UInt8),a.all X7i=true→(∀ c,b.head?=some c→X7i c=false)→(a ++ b).takeWhile X7i=a
 | [],[],_,_=>rfl
 | [],c::b,_,h=>by rw [Yf,Y2q,h c rfl]; rfl
 | c::a,b,h,h2=>by
  simp only [Y60,Yn] at h
  rw [Yr,Y2q,h.1,Xex a b h.2 h2]; rfl
theorem Xpf {t:List UInt8} (h:Tok t) (n:Nat):Xqh (MSG t n)=Go.Lib.decDigits n:=by
 unfold Xqh;rw [Xhx h n];have e:MSG t n=(M1 ++ t ++ M2) ++ (Go.Lib.decDigits n ++ (M3 ++ t ++ M4)):=by unfold MSG; simp only [Yc]
 have hl:M1.length+t.length+M2.length=(M1 ++ t ++ M2).length:=by simp only [Y0]
 rw [e,hl,Xcn];exact Xex _ _ (X3p n).2.1 (fun c hc=>by unfold M3 at hc; simp at hc; subst hc; decide)
theorem Xeo {t:List UInt8} (h:X4k t=true) {n:Nat} (hn:n≤1099511627776):Xa6 (MSG t n)=some t:=by
 have ht:=(X28 h).1;unfold Xa6;rw [Xhx ht,Xpf ht,(X3p n).1,if_pos ⟨h,hn,rfl⟩]
theorem Xjp {s t:List UInt8} (h:Xa6 s=some t):X4k t=true∧∃ n,n≤1099511627776∧s=MSG t n:=by
 unfold Xa6 at h;split at h
 ·rename_i hc
  cases h
  exact ⟨hc.1,_,hc.2.1,hc.2.2⟩
 ·cases h
theorem Xfc {s:List UInt8} (h:∀ t n,X4k t=true→n≤1099511627776→s≠MSG t n):Xa6 s=none:=by
 cases hr:Xa6 s with
 | none=>rfl
 | some t =>
  obtain ⟨h1,n,h2,h3⟩:=Xjp hr;exact absurd h3 (h t n h1 h2)
end Xm
namespace Gk
open Go Go.Lib
section
variable {P:Program} {n:Nat} {K:X3i} {L:Env} {w:World} {ops:Array Oper} {rest:List Oper}
theorem WL.gcallT {d j t:Nat} {b want:Bool} {ty:TypeId} {pos:String} {af:Array Edge} {v0:Value} {f:FuncId} {fn:Func} {xs:List Operand} {ts:Array TypeId} {vs:List Value} {T:World→Prop}
  (hj:(ops[j]?).bind (·.dst)=some t) (ht:Nat.blt t n=true) (hb:look L t=some (.bool b)) (hf:P.funcs[f]?=some fn) (hc:Xj fn=true)
  (hx:b=want→∀ a,Holds n L a→xs.map a.eval=vs) (hd:Nat.blt d n=true)
  (hcall:b=want→Calls P f vs.toArray w (Ret fun v w'=>v=v0∧T w')) (h0:b≠want→T w)
  (h:∀ w',T w'→WL P n ops K rest ((d,gd b want v0)::L) w'):WL P n ops K (⟨some d,.call ⟨.value (.func f),xs.toArray,ts⟩,ty,pos,af,some (j,want)⟩::rest) L w:=by
 by_cases e:b=want
 ·subst e;refine .opn hj ht hb (WL.call hf hc (hx rfl) hd (hcall rfl) ?_);rintro v w' ⟨rfl,hT⟩
  have:=h w' hT
  simpa [gd] using this
 ·exact WL.gcall (v0:=v0) (T:=fun w'=>w'=w) hj ht hb hf hc hx hd (fun h=>absurd h e) rfl (fun w' hw=>hw.symm ▸ h w (h0 e))
end
theorem Ex.slNil {P:Program} {n:Nat} {L:Env} {w:World} {ty t':TypeId} {pos:String} {af:Array Edge} {g:Option (Nat×Bool)} {t e:TypeId} {x y:Operand} {d:Option Nat} {a:Option Addr} {m c:Nat} (hx:Ev n L x (.slice a m c)) (hy:Ev n L y (.slice none 0 0)) (hT:P.underlying t=some (.slice e)):Ex P n L w ⟨d,.binOp .eql t x y t',ty,pos,af,g⟩ (.bool a.isNone) w :=
 X11 hx hy (fun _ _=>by unfold eqGuard; split <;> simp) (run_eql_slice_nil w t e a m c hT)
theorem WL.clear {P:Program} {n:Nat} {ops:Array Oper} {K:X3i} {rest:List Oper} {L:Env} {w B:World} {I:Im} {As:List X6} {k b o m cap s:Nat} {cs:List Value} {E e t ty:TypeId} {x:Operand} {z:Value} {pos:String} {af:Array Edge} (hS:Sat B w I As) (hk:As[k]?=some (blk b cs E)) (hx:Ev n L x (.slice (some (ad b o)) m cap)) (ht:P.underlying t=some (.slice e)) (hz:∀ w,(zeroValue e).run P w=.ok z w) (hs:z.cells.size=s) (h1:∀ v∈z.cells,v.oneCell'=true) (ho:o+m*s≤cs.length)
  (h:∀ w' cs',cs'.length=cs.length→cs'.take o=cs.take o→Sat B w' I (As.set k (blk b cs' E))→WL P n ops K rest L w'):WL P n ops K (⟨none,.call ⟨.builtin .clear,#[x],#[t]⟩,ty,pos,af,none⟩::rest) L w:=by
 subst hs;have go:∀ w' v,(∀ a,Holds n L a→(execOp a.eval (⟨none,.call ⟨.builtin .clear,#[x],#[t]⟩,ty,pos,af,none⟩:Oper)).run P w=.ok (.value v) w')→WL P n ops K rest L w'→WL P n ops K (⟨none,.call ⟨.builtin .clear,#[x],#[t]⟩,ty,pos,af,none⟩::rest) L w:=by
  intro w' v hx h a ha;refine wpList_plain rfl fun K' hK=>?_
  unfold Oper.wp;rw [hx a ha];exact hK _ _ (h _ (ha.skip v))
 have hb:=hS.block hk;have hzl:(Builtin.zeroCells z.cells m).toList.length=m*z.cells.size:=by rw [Y3j,size_zeroCells]
 have hst:=run_storeCells_at P b o E (Builtin.zeroCells z.cells m).toList 0 cs.toArray w hb (by simp only [Y25,hzl,Y4l]; exact ho) (fun v hv=>by
  rw [Array.mem_toList_iff] at hv;unfold Builtin.zeroCells at hv;obtain ⟨i,hi,rfl⟩:=Array.mem_map.1 hv;have hi2:i<m*z.cells.size:=by simpa using hi
  have hp:0<z.cells.size:=Y5i fun e=>by rw [e] at hi2; omega
  have hlt:=Y2o i hp;rw [getElem!_pos z.cells (i % z.cells.size) hlt];exact h1 _ (Array.getElem_mem hlt))
 simp only [Y25] at hst
 cases m with
 | zero =>
  refine go w (.tuple #[]) (fun a ha=>?_) (h w cs rfl rfl ?_)
  ·simp [execOp,resolve,invoke,builtin,hx a ha,Builtin.clear_,run_underlying ht]
  ·have e:As.set k (blk b cs E)=As:=by
    apply Y2e
    intro i;rw [Y20];split
    ·rename_i e; subst e
     split
     ·exact hk.symm
     ·rename_i hlt; rw [Y2b (by omega)]
    ·rfl
   rw [e]; exact hS
 | succ m =>
  refine go (w.setRow b _) (.tuple #[]) (fun a ha=>?_) (h _ _ ?_ ?_ (hS.write (o':=Xl (cs.take o ++ (Builtin.zeroCells z.cells (m+1)).toList ++ cs.drop (o+(Builtin.zeroCells z.cells (m+1)).toList.length)) E) hk rfl rfl rfl (setRow_heap w b _ _ E _ hb) fun c hc=>setRow_other w b c _ hc))
  ·simp [execOp,resolve,invoke,builtin,hx a ha,Builtin.clear_,run_underlying ht,hz,hst]
  ·simp only [Y0,Yp,Yg,hzl]; omega
  ·rw [Yc,Y2j (by rw [Yp]; omega),Y5j,Nat.min_self]
theorem Ex.slc3 {P:Program} {n:Nat} {L:Env} {w:World} {ty:TypeId} {pos:String} {af:Array Edge} {g:Option (Nat×Bool)} {t e:TypeId} {x y z u:Operand} {d:Option Nat} {a0:Option Addr} {len cap s:Nat} {lo hi mx:Int} (hx:Ev n L x (.slice a0 len cap)) (hy:Ev n L y (I64 lo)) (hz:Ev n L z (I64 hi)) (hu:Ev n L u (I64 mx)) (h0:0≤lo) (h1:lo≤hi) (h2:hi≤mx) (h3:mx≤cap) (ht:P.underlying t=some (.slice e)) (hs:∀ w,(Go.sizeOf e).run P w=.ok s w) :
  Ex P n L w ⟨d,.slice t x (some y) (some z) (some u),ty,pos,af,g⟩ (sliced a0 lo.toNat hi.toNat mx.toNat s) w:=fun a ha=>by
 have hT:P.underlying t=some (.slice (P.elem t)):=by rw [X2f ht]; exact ht
 have h:=run_slice_lhm (P:=P) w t a0 len cap hT .i64 .i64 .i64 lo hi mx h0 h1 h2 h3;rw [X2f ht,hs] at h;simp [execOp,hx a ha,hy a ha,hz a ha,hu a ha,run_sliceAt_slice w t _ _ _ _ hT,h,Result.andThen]
theorem WL.appendSelf {P:Program} {n:Nat} {ops:Array Oper} {K:X3i} {rest:List Oper} {L:Env} {w B:World} {I:Im} {As:List X6} {d k b o len m cap c size:Nat} {cs:List Value} {E t ty:TypeId} {x y:Operand} {i:TypeInfo} {p:Addr} {pos:String} {af:Array Edge} (hS:Sat B w I As) (hk:As[k]?=some (blk b cs E)) (hx:Ev n L x (.slice (some (ad b 0)) len cap)) (hy:Ev n L y (.slice (some p) m c)) (hp:0<m→p=ad b o) (ht:P.underlying t=some (.slice E)) (hi:P.info? E=some i) (hsize:i.size=size)
  (ho:o+m*size≤cs.length) (h1:∀ v∈(cs.drop o).take (m*size),v.oneCell'=true) (hroom:len+m≤cap) (hfit:len*size+m*size≤cs.length) (hd:Nat.blt d n=true)
  (h:∀ w',Sat B w' I (As.set k (blk b (cs.take (len*size) ++ (cs.drop o).take (m*size) ++ cs.drop (len*size+m*size)) E))→WL P n ops K rest ((d,.slice (some (ad b 0)) (len+m) cap)::L) w') :
  WL P n ops K (⟨some d,.call ⟨.builtin .append,#[x,y],#[t,t]⟩,ty,pos,af,none⟩::rest) L w:=by
 subst hsize;have hb:=hS.block hk;have hl:((cs.drop o).take (m*i.size)).length=m*i.size:=by rw [Yp,Yg]; omega
 have hr:=run_append_room (P:=P) w t ty E i ht hi b len cap cs.toArray hb p m c ((cs.drop o).take (m*i.size)) hl (fun j u hu=>by
  have hj:j<m*i.size:=by have:=(Y4.1 hu).1; omega
  have hm:0<m:=Y5i fun e=>by rw [e] at hj; omega
  rw [hp hm,X12];refine X16 hb ?_;rw [Y26,if_pos hj,Y1f] at hu;exact hu) h1 hroom (by rw [hl]; simpa using hfit)
 rw [hl] at hr;simp only [] at hr
 refine .val (w':=w.setRow b _) (fun a ha=>?_) hd (h _ (hS.write (o':=Xl (cs.take (len*i.size) ++ (cs.drop o).take (m*i.size) ++ cs.drop (len*i.size+m*i.size)) E) hk rfl rfl rfl (setRow_heap w b _ _ E _ hb) fun c hc=>setRow_other w b c _ hc));simp [execOp,resolve,invoke,builtin,hx a ha,hy a ha,hr]
end Gk
