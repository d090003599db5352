/- Part 6 of what the proof stands on. -/
import Derived.Test.YtbciobiiejpdgaaGreatDoorMEE
import Derived.KernelRfl
import Derived.Laws.StructEq
import Derived.OpenShut
import Derived.Lib.Replace
import Derived.Lib.CountLaws
set_option linter.unusedVariables false
set_option linter.unusedSimpArgs false
namespace Go.Proofs.YtbciobiiejpdgaaGreatDoor
open Gk Ul Pc Tk Tr
theorem Ex.bytesStr {P:Program} {n:Nat} {L:Env} {B w:World} {I:Im} {As:List X7} {k:Nat} {ty:TypeId} {pos:String} {af:Array Edge} {g:Option (Nat×Bool)} {x:Operand} {d:Option Nat} {src dst E:TypeId} {b o cap m:Nat} {l:List UInt8} {cs:List Value} (hx:Ev n L x (.slice (some (ad b o)) m cap)) (hm:l.length=m) (hS:Sat B w I As) (hk:As[k]?=some (blk b cs E)) (hs:P.underlying src=some (.slice E)) (he:P.underlying E=some (.int .u8)) (hd:P.underlying dst=some .string)
  (hc:∀ j (hj:j<l.length),cs[o+j]?=some (U8 (l[j].toNat:Int))):Ex P n L w ⟨d,.convert src dst x,ty,pos,af,g⟩ (S l) w:=fun a ha=>by
 subst hm;have hb:=hS.block hk;have h:=run_convert_bytes_back (P:=P) w src dst E (ad b o) cap l hs he hd (fun j hj=>by rw [X15]; exact X1b hb (hc j hj));simp [execOp,hx a ha,h]
theorem Xpg (k:Int):(Xqi k).length<=6:=by
 unfold Xqi;split
 ·simp
 ·rename_i h
  have:k=1\/k=2\/k=3\/k=4\/k=5\/k=6:=by omega
  rcases this with e | e | e | e | e | e <;> (subst e; decide)
def dg (n:Nat):UInt8:=if n<10 then UInt8.ofNat (48+n) else UInt8.ofNat (87+n)
theorem Xf5:∀ (k n:Nat),Xky (k+1) n=dg (n / 16 ^ k % 16)::Xky k n
 | 0,n=>by simp [Xky,dg]
 | k+1,n=>by
  rw [Xky,Xf5 k (n / 16),Y3r,<- Nat.pow_succ',Ys,Xky]
end Go.Proofs.YtbciobiiejpdgaaGreatDoor
namespace Gk
open Go
def Xna (E:TypeId) (v:Value) (xs:List Value):X7:=fun h =>
 (v=.slice none 0 0/\xs=[]/\h=[]) \/
  (∃ g cs p,v=.slice (some p) 0 0/\xs=[]/\h=[(g,Xl cs E)])\/∃ g cap ys rest,v=.slice (some ⟨g,List.length ys,none⟩) xs.length cap/\h=[(g,Xl (ys ++ xs ++ rest) E)]/\xs.length<=cap/\cap<=maxLen/\xs.length+rest.length=cap
section
variable {P:Program} {B w w':World} {I:Im} {As:List X7} {k:Nat} {E:TypeId} {v:Value} {xs:List Value}
theorem Sat.vecoNil (hS:Sat B w I As) (E:Nat):Sat B w I (Xna E (.slice none 0 0) []::As):=by
 obtain ⟨h,hs,hg⟩:=hS;exact ⟨h,⟨[],h,rfl,.inl ⟨rfl,rfl,rfl⟩,hs⟩,hg⟩
end
end Gk
namespace Go.Proofs.YtbciobiiejpdgaaGreatDoor
open Gk Ul Pc Tk Tr
theorem Xkr:Bld Tryz.prog 203 [(0,1)] [.slice none 0 0]:=X23 Tryz.underlying203 Tryz.zeroValue203 (fun w=>by simp [go_sem])
theorem Xk4 (B w:World) (I:Im) (As:List X7) (hS:Sat B w I As) :
  Cz 120 [.slice none 0 0] w fun v w'=>v=.slice none 0 0/\Sat B w' I As:=by
 refine calls Tryz.func120 rfl Tryz.ntmps120 rfl (.seq (.q 1 rfl (.seq (.seq (.t 1 rfl (.val (Ex.slNil (.of rfl) (.of rfl) Tryz.underlying97) rfl (.nil (.condT (rfl) (.seq (.q 1 rfl (.ret (Xc Tryz.results120 rfl ?_))))))))))));exact ⟨_,rfl,rfl,hS⟩
theorem Xhl (B w:World) (I:Im) (As:List X7) (hS:Sat B w I As) :
  Cz 77 [.slice none 0 0] w fun v w'=>∃ mb,v=ptr mb 0/\Sat B w' I (blk mb [.slice none (([]:List Nat)).length 0] 203::Xna 62 (.slice none (([]:List Nat)).length 0) ((([]:List Nat)).map fun d=>U64 (d:Nat))::As):=by
 refine calls Tryz.func77 rfl Tryz.ntmps77 rfl (.seq (.q 1 rfl (.seq (.t 1 rfl (.call Tryz.func120 rfl (ec9 rfl X0) rfl (Xk4 B _ I _ hS) ?_)))));rintro _ w ⟨rfl,hS⟩;refine .val (.build (cs:=[_]) (pc9 rfl X4) Xkr rfl) rfl (.boxA (cs:=[_]) hS (.of rfl) rfl ?_);intro b6 w hS;refine .q 1 rfl (.nil (.ret (Xc Tryz.results77 rfl ?_)));exact ⟨_,rfl,_,rfl,(hS.vecoNil 62).pick 1 rfl⟩
def psL (p:Nat->Int):List Int:=[p 0,p 1,p 2,p 3,p 4,p 5,p 6,p 7,p 8,p 9,p 10,p 11,p 12,p 13,p 14,p 15,p 16,p 17,p 18,p 19,p 20]
structure Wp where
 wb:Nat
 tb:Nat
 mb:Nat
 ub:Nat
 pr:Addr
 lo:List Sv
 us:List Us
 ps:Nat->Int
structure Wd where
 room:Int
 l:List Rec
 D:List Nat
 now:Int
def wdC (p:Wp) (Z:Wd):List Value:=ptr p.tb 0::ptr p.mb 0::.pointer (some p.pr)::ptr p.ub 0::((psL p.ps).map I64 ++ [I64 Z.now])
def wdT (p:Wp) (Z:Wd):Option Addr×Nat×Option Addr×Nat->List X7:=fun ⟨a,c,ma,mc⟩=>[blk p.wb (wdC p Z) 81,blk p.tb [I64 Z.room,.slice a Z.l.length c] 155,Vec 75 10 (.slice a Z.l.length c) Z.l.length (Xr Z.l),blk p.mb [.slice ma Z.D.length mc] 203,Xna 62 (.slice ma Z.D.length mc) (Z.D.map fun d=>U64 (d:Nat))]
def wdA (p:Wp) (Z:Wd):X7:=Box (wdT p Z)
structure WpOk (I:Im) (p:Wp):Prop where
 reg:RegAt I p.pr p.lo
 tab:TabAt I p.ub p.us
 lo:p.lo.length<=100000
 rel:∀ s∈p.lo,s.rel.length<=1000000
 fit:∀ u∈p.us,u.fits
 att:∀ u∈p.us,u.attrs.length<=8
 known:Known I
 pre:PreAt I
theorem RegAt.mono {I J:Im} {pr:Addr} {lo:List Sv} (h:RegAt I pr lo) (hl:Le I J):RegAt J pr lo:=by
 obtain ⟨a,c,E,h1,h2,h3⟩:=h;exact ⟨a,c,E,h1.mono hl,h2,h3.mono hl⟩
theorem WpOk.mono {I J:Im} {p:Wp} (h:WpOk I p) (hl:Le I J):WpOk J p:=⟨h.reg.mono hl,h.tab.mono hl,h.lo,h.rel,h.fit,h.att,h.known.mono hl,h.pre.mono hl⟩
structure Xc2 (Z:Wd):Prop where
 len:Z.l.length<=64
 wf:Wf Z.l
 D:∀ d∈Z.D,d<18446744073709551616
 now:0<=Z.now/\Z.now<=1099511627776
 room:Z.room<=64
def Xc3 (n:Int):Bool:=decide (n<0) || decide (1099511627776<n)
def iC (n:Int):List Value:=[I64 n]
def Xaq (p:Nat->Int):Bool:=(!((psL p).take 7).any Xc3 && !(((psL p).drop 7).take 7).any Xc3) && !((psL p).drop 14).any Xc3
theorem Xdt {B w:World} {I:Im} {As:List X7} {k b E:Nat} {cs:List Value} {o:Nat} {l:List Int} (hS:Sat B w I As) (hk:As[k]?=some (blk b cs E)) (h:∀ (i:Nat) n,l[i]?=some n->cs[o+i]?=some (I64 n)):X6y w iC 1 (some (ad b o)) l:=fun i n hn=>by
 refine ⟨_,rfl,fun j v hj=>?_⟩;have hb:=hS.block (b:=b) (o:=Xl cs E) hk
 match j,hj with
 | 0,hj =>
  cases hj
  rw [X15,X15];refine X1b hb ?_;rw [Y1n];exact h i n hn
 | j+1,hj=>simp [iC] at hj
theorem Xbj (a:Option Addr) (cap:Nat) (l:List (Int)) (hln:l.length<=9223372036854775807) (pr:Int->Bool) (fid:FuncId) (fn:Func) (hfn:Tryz.prog.funcs[fid]?=some fn) (hcal:Xj fn=true) (capv:List Value) (B w:World) (I:Im) (As:List X7) (hE:∀ w,Sat B w I As->X6y w iC 1 a l) (hf:∀ (r:Int) (hr:r∈l) w,Sat B w I As->Calls Tryz.prog fid ([I64 r] ++ capv).toArray w (Ret fun v w'=>v=.bool (pr r)/\Sat B w' I As)) (hS:Sat B w I As) :
  Cz 170 [.slice a l.length cap,.func (.func fid) #[] capv.toArray] w fun v w'=>v=I64 (Xx pr l 0)/\Sat B w' I As:=by
 refine calls Tryz.func170 rfl Tryz.ntmps170 rfl (.seq (.q 1 rfl (.seq (.seq (.region (.run 3 rfl ⟨⟨_,Xf⟩,trivial⟩ (.nil (.block (.loop (σ:=Nat) (fun i=>[(0,.slice a l.length cap),(1,.func (.func fid) #[] capv.toArray),(7,I64 (l.length:Nat)),(8,I64 (i:Nat))]) (fun i w=>i<=l.length/\(∀ (j:Nat) t,j<i->l[j]?=some t->pr t=false)/\Sat B w I As) (fun i=>l.length - i) 0 ⟨rfl,rfl,rfl,rfl,trivial⟩ ⟨Yo _,fun _ _ h=>absurd h (by omega),hS⟩ ?_)))))))));rintro i w ⟨hi,hno,hS⟩;refine .seq (.q 1 rfl (.seq ?_));refine .cond rfl (fun hb9=>?_) fun hb9=>?_
 ·have hc9:=hb9; try simp only [Y6] at hc9
  refine .skip (.seq (.block (.seq ?_)));obtain ⟨r,hr⟩:∃ r,l[i]?=some r:=⟨_,Y4 (by omega)⟩
  obtain ⟨p,rfl,hx⟩:=hE w hS i r hr;refine .q 2 rfl (.seq (.t 3 rfl ?_));refine .val (.ii rfl rfl (by omega) (by omega) Xf Qs3) rfl ?_;refine .val (.ld1 (.of rfl) (by have h9:=hx 0 _ rfl; simpa [Addr.add_add] using h9) Qg3) rfl ?_;refine .vcall (cap:=capv) hfn hcal (.of rfl) (ec9 rfl X0) rfl (hf r (Yl hr) w hS) ?_;clear hS;rintro _ w ⟨rfl,hS⟩;refine .nil (.cond rfl (fun hb16=>?_) fun hb16=>?_)
  ·refine .seq (.q 2 rfl (.ret (Xc Tryz.results170 rfl ?_)));exact ⟨_,rfl,by rw [X2k hno hr hb16],hS⟩
  have hc16:=hb16; try simp only [Y6] at hc16
  refine .skip (.region (.run 2 rfl ⟨⟨by omega,by omega⟩,trivial⟩ (.nil ?_)));refine ⟨i+1,⟨rfl,rfl,rfl,rfl,trivial⟩,⟨by (try dsimp only); omega,fun j t hj ht=>?_,hS⟩,by (try dsimp only); omega⟩;rcases Yp j i with h1 | h1
  ·exact hno j t h1 ht
  ·have e:j=i:=by omega
   subst e;rw [hr] at ht; cases ht;exact hb16
 have hc9:=hb9; try simp only [Y6] at hc9
 refine .exit (.seq (.q 1 rfl (.ret (Xc Tryz.results170 rfl ?_))));exact ⟨_,rfl,by rw [X21 (fun j t ht=>hno j t (by have:=(Y5.1 ht).1; omega) ht)],hS⟩
theorem X2h (a:Option Addr) (cap:Nat) (l:List (Int)) (hln:l.length<=9223372036854775807) (pr:Int->Bool) (fid:FuncId) (fn:Func) (hfn:Tryz.prog.funcs[fid]?=some fn) (hcal:Xj fn=true) (capv:List Value) (B w:World) (I:Im) (As:List X7) (hE:∀ w,Sat B w I As->X6y w iC 1 a l) (hf:∀ (r:Int) (hr:r∈l) w,Sat B w I As->Calls Tryz.prog fid ([I64 r] ++ capv).toArray w (Ret fun v w'=>v=.bool (pr r)/\Sat B w' I As)) (hS:Sat B w I As) :
  Cz 119 [.slice a l.length cap,.func (.func fid) #[] capv.toArray] w fun v w'=>v=.bool (l.any pr)/\Sat B w' I As:=by
 refine calls Xqr rfl Tryz.ntmps119 rfl (.seq (.q 1 rfl (.seq (.t 2 rfl (.call Tryz.func170 rfl (ec9 rfl (ec9 rfl X0)) rfl (Xbj a cap l hln pr fid fn hfn hcal capv B _ I As hE hf hS) ?_)))));rintro _ w ⟨rfl,hS⟩;refine .q 2 rfl (.nil (.ret (Xc Tryz.results119 rfl ?_)));exact ⟨_,rfl,by rw [<- X24 pr l 0],hS⟩
theorem Xd0 (n:Int) (B w:World) (I:Im) (As:List X7) (hS:Sat B w I As) :
  Cz 118 [I64 n] w fun v w'=>v=.bool (Xc3 n)/\Sat B w' I As:=by
 refine calls Xqq rfl Tryz.ntmps118 rfl (.seq (.q 1 rfl (.seq (.t 3 rfl (.gm rfl rfl rfl rfl (.gval rfl rfl (fun hg1=>(.gtr (.gd hg1 rfl) (.of rfl))) rfl (.val (.po rfl rfl rfl) rfl (.q 1 rfl (.nil (.ret (Xc Tryz.results118 rfl ?_)))))))))));exact ⟨_,rfl,rfl,hS⟩
theorem Xls (p:Nat->Int) (B w:World) (I:Im) (As:List X7) (hS:Sat B w I As) :
  Cz 75 [.agg ((psL p).map I64).toArray] w fun v w'=>v=.bool (Xaq p)/\Sat B w' I As:=by
 refine calls Tryz.func75 rfl Tryz.ntmps75 rfl (.seq (.region (.boxA (cs:=(psL p).map I64) hS (.of rfl) rfl ?_)));intro b1 w hS;refine .q 1 rfl (.nil (.seq (.q 1 rfl (.seq (.region ?_)))));refine .val (.fo 0 rfl Xqe rfl rfl Xr6 rfl) rfl (.val (Ex.slcArr (.of rfl) Xqd Qs3) rfl (.q 1 rfl (.call Xqr rfl (ec9 rfl (ec9 rfl X0)) rfl (X2h (some (ad b1 0)) 7 ((psL p).take 7) (show (7:Nat)<=9223372036854775807 by decide) Xc3 118 _ Xqq rfl [] B _ I _ (fun w h=>Xdt h (k:=0) rfl (fun i n hn=>by match i,hn with | 0,hn=>exact congrArg (Option.map I64) hn | 1,hn=>exact congrArg (Option.map I64) hn | 2,hn=>exact congrArg (Option.map I64) hn | 3,hn=>exact congrArg (Option.map I64) hn | 4,hn=>exact congrArg (Option.map I64) hn | 5,hn=>exact congrArg (Option.map I64) hn | 6,hn=>exact congrArg (Option.map I64) hn | i+7,hn=>cases hn)) (fun n hn w h=>Xd0 n B w I _ h) hS) ?_)));rintro _ w ⟨rfl,hS⟩;refine .q 2 rfl (.gval rfl rfl (fun hg1=>(by exact .fo 7 rfl Xqe rfl rfl Xr6 rfl)) rfl ?_);refine .gval rfl rfl (fun hg1=>(Ex.slcArr (.gd hg1 rfl) Xqd Qs3)) rfl (.gm rfl rfl rfl rfl (.gcall (T:=fun w=>Sat B w I (blk b1 ((psL p).map I64) 26::As)) rfl rfl rfl Xqr rfl (fun hg1=>(Xd (.gd hg1 rfl) (Xd (.gd hg1 rfl) X0))) rfl (fun hg1=>X2h (some (ad b1 7)) 7 (((psL p).drop 7).take 7) (show (7:Nat)<=9223372036854775807 by decide) Xc3 118 _ Xqq rfl [] B _ I _ (fun w h=>Xdt h (k:=0) rfl (fun i n hn=>by match i,hn with | 0,hn=>exact congrArg (Option.map I64) hn | 1,hn=>exact congrArg (Option.map I64) hn | 2,hn=>exact congrArg (Option.map I64) hn | 3,hn=>exact congrArg (Option.map I64) hn | 4,hn=>exact congrArg (Option.map I64) hn | 5,hn=>exact congrArg (Option.map I64) hn | 6,hn=>exact congrArg (Option.map I64) hn | i+7,hn=>cases hn)) (fun n hn w h=>Xd0 n B w I _ h) hS) hS ?_));rintro w hS;refine .gval rfl rfl (fun hg1=>(.not (.gd hg1 rfl))) rfl (.val (.pa rfl rfl rfl) rfl (.q 1 rfl ?_));refine .gval rfl rfl (fun hg1=>(by exact .fo 14 rfl Xqe rfl rfl Xr6 rfl)) rfl ?_;refine .gval rfl rfl (fun hg1=>(Ex.slcArr (.gd hg1 rfl) Xqd Qs3)) rfl (.gm rfl rfl rfl rfl (.gcall (T:=fun w=>Sat B w I (blk b1 ((psL p).map I64) 26::As)) rfl rfl rfl Xqr rfl (fun hg1=>(Xd (.gd hg1 rfl) (Xd (.gd hg1 rfl) X0))) rfl (fun hg1=>X2h (some (ad b1 14)) 7 ((psL p).drop 14) (show (7:Nat)<=9223372036854775807 by decide) Xc3 118 _ Xqq rfl [] B _ I _ (fun w h=>Xdt h (k:=0) rfl (fun i n hn=>by match i,hn with | 0,hn=>exact congrArg (Option.map I64) hn | 1,hn=>exact congrArg (Option.map I64) hn | 2,hn=>exact congrArg (Option.map I64) hn | 3,hn=>exact congrArg (Option.map I64) hn | 4,hn=>exact congrArg (Option.map I64) hn | 5,hn=>exact congrArg (Option.map I64) hn | 6,hn=>exact congrArg (Option.map I64) hn | i+7,hn=>cases hn)) (fun n hn w h=>Xd0 n B w I _ h) hS) hS ?_));rintro w hS;refine .gval rfl rfl (fun hg1=>(.not (.gd hg1 rfl))) rfl (.val (.pa rfl rfl rfl) rfl (.q 1 rfl (.nil (.ret (Xc Tryz.results75 rfl ?_)))));exact ⟨_,rfl,rfl,hS.y 0 1⟩
def Xun (Z:Wd) (n:Int):Wd:={ Z with now:=min (Z.now+max 0 (min n 1099511627776)) 1099511627776 }
theorem Xxk {Z:Wd} (h:Xc2 Z) (n:Int):Xc2 (Xun Z n):=⟨h.len,h.wf,h.D,by have:=h.now; unfold Xun; (try dsimp only); omega,h.room⟩
theorem Xre (p:Wp) (Z:Wd) (n:Int) (hZ:Xc2 Z) (B w:World) (I:Im) (As:List X7) (hS:Sat B w I (wdA p Z::As)) :
  Cz 37 [ptr p.wb 0,I64 n] w fun v w'=>v=.tuple #[]/\Sat B w' I (wdA p (Xun Z n)::As):=by
 refine calls Tryz.func37 rfl Tryz.ntmps37 rfl ?_;obtain ⟨⟨a,c,ma,mc⟩,hS⟩:=Sat.unbox hS;replace hS:Sat B _ _ (blk p.wb (wdC p Z) 81::blk p.tb [I64 Z.room,.slice a Z.l.length c] 155::Vec 75 10 (.slice a Z.l.length c) Z.l.length (Xr Z.l)::blk p.mb [.slice ma Z.D.length mc] 203::Xna 62 (.slice ma Z.D.length mc) (Z.D.map fun d=>U64 (d:Nat))::As):=hS;have hnow:=hZ.now;refine .t 3 rfl (.val (.fo 25 rfl Xn4 rfl rfl Qs3 rfl) rfl (.val (.lo rfl hS (k:=0) rfl Qg3 rfl) rfl (.q 1 rfl (.val (.min2 (.of rfl) (.of rfl)) rfl (.val (.max2 (.of rfl) (.of rfl)) rfl (.run 1 rfl ⟨⟨by omega,by omega⟩,trivial⟩ (.val (.min2 (.of rfl) (.of rfl)) rfl (.q 1 rfl ?_))))))));refine .val (.fo 25 rfl Xn4 rfl rfl Qs3 rfl) rfl (.s1 hS (k:=0) rfl rfl rfl rfl Qs3 (show 25<26 by decide) ?_);intro w hS;refine .nil (X9d Tryz.results37 ?_);exact ⟨_,rfl,rfl,Sat.box (T:=wdT p _) (a,c,ma,mc) hS⟩
theorem Xpj {r:Rec} (h:Xw r=true):r.name.length<=23/\r.parent.length<=23:=by
 unfold Xw at h;simp only [Yn] at h
 obtain ⟨⟨_,h1⟩,h2⟩:=h;constructor
 ·unfold isT at h1;cases hp:Xt r.name with
  | none=>rw [hp] at h1; cases h1
  | some x=>exact (X35 (k:=x.1) (d:=x.2) hp).2.2.2.1
 ·unfold X3n at h2;split at h2
  ·rename_i e; rw [e]; simp
  ·cases hp:Xt r.parent with
   | none=>rw [hp] at h2; cases h2
   | some x=>exact (X35 (k:=x.1) (d:=x.2) hp).2.2.2.1
theorem Xag {l:List Rec} (hw:Wf l) (name:List UInt8):(get l name=none/\getD l name=r0)\/(get l name=some (getD l name)/\Xw (getD l name)=true/\(getD l name).name=name):=by
 rcases Tr.get_at l name with ⟨_,h⟩ | ⟨j,r,_,h2,h3,h4⟩
 ·exact .inl ⟨h,by rw [getD,h]; rfl⟩
 ·have e:getD l name=r:=by rw [getD,h4]; rfl
  exact .inr ⟨by rw [e]; exact h4,by rw [e]; exact hw.right r (Yl h2),by rw [e]; exact h3⟩
theorem Xl8 {l:List Rec} (hw:Wf l) (name:List UInt8):(getD l name).name.length<=23/\(getD l name).parent.length<=23/\0<=(getD l name).uses/\(getD l name).uses<=255:=by
 rcases Xag hw name with ⟨_,e⟩ | ⟨_,h,_⟩
 ·rw [e]; decide
 ·have h1:=Xpj h;have h2:=Xi7 h;exact ⟨h1.1,h1.2,h2.2.2⟩
def Xo6 (Z:Wd) (name:List UInt8):Wd:={ Z with l:=drop Z.l name }
theorem Xs1 {Z:Wd} (h:Xc2 Z) (name:List UInt8):Xc2 (Xo6 Z name):=⟨Y3x (Xs2 Z.l name).length_le h.len,h.wf.drop name,h.D,h.now,h.room⟩
structure Ak where
 service:List UInt8
 cookie:List UInt8
 has:Bool
 renew:Bool
 gateway:Bool
 warn:Bool
theorem Xmc (s:List UInt8) (hs:s.length<=1000000) (p:Wp) (B w:World) (I:Im) (hI:WpOk I p) (As:List X7) (hS:Sat B w I As) :
  Cz 86 [.pointer (some p.pr),S s] w fun v w'=>∃ J ra rc,Le I J/\v=.tuple #[.agg (X1o (X20 p.lo s).1 ra rc).toArray,S (X20 p.lo s).2.1,I64 (((X20 p.lo s).2.2:Nat):Int)]/\(X20 p.lo s).1.rel.length<=rc/\RS J ra 1 (X20 p.lo s).1.rel.length ((X20 p.lo s).1.rel.map S)/\Sat B w' J As:=by
 obtain ⟨a,c,E,h1,h2,h3⟩:=hI.reg;refine (Xgx p.pr p.lo hI.lo hI.rel s hs a c E B w I hI.known h1 h3 As hS).mono fun e w' ⟨v,he,J,u,cs,n,e2,hJ,hv,⟨ra,rc,hcs,h4,h5⟩,hf,hS⟩=>⟨v,he,J,ra,rc,hJ,?_⟩
 rw [hf]; subst hcs;exact ⟨hv,h4,h5,hS⟩
theorem Xin (s:List UInt8) (hs:s.length<=1000000) (p:Wp) (B w:World) (I:Im) (hI:WpOk I p) (As:List X7) (hS:Sat B w I As) :
  Calls Tryz.prog 86 [.pointer (some p.pr),S s].toArray w (Ret fun v w'=>∃ ra rc,v=.tuple #[.agg (X1o (X20 p.lo s).1 ra rc).toArray,S (X20 p.lo s).2.1,I64 (((X20 p.lo s).2.2:Nat):Int)]/\Sat B w' I As) :=
 (Xmc s hs p B w I hI As hS).mono fun e w' ⟨v,he,J,ra,rc,hJ,hv,_,_,hS⟩=>⟨v,he,ra,rc,hv,hS.weaken hJ⟩
theorem Xrt:Bld Tryz.prog 81 [(0,1),(1,1),(2,1),(3,1),(4,21),(25,1)] [.pointer none,.pointer none,.pointer none,.pointer none,.int .i64 0,.int .i64 0,.int .i64 0,.int .i64 0,.int .i64 0,.int .i64 0,.int .i64 0,.int .i64 0,.int .i64 0,.int .i64 0,.int .i64 0,.int .i64 0,.int .i64 0,.int .i64 0,.int .i64 0,.int .i64 0,.int .i64 0,.int .i64 0,.int .i64 0,.int .i64 0,.int .i64 0,.int .i64 0]:=X23 Xn4 Tryz.zeroValue81 (fun w=>by simp [go_sem])
structure Cf where
 svs:List Sv
 us:List Us
 ps:Nat->Int
 room:Int
 base:Nat
 factor:Nat
 most:Nat
 tries:Int
def X1v (c:Cf) (a:Option Addr) (cap:Nat) (ua:Option Addr) (ucap:Nat):List Value:=.slice a c.svs.length cap::.slice ua c.us.length ucap::((psL c.ps).map I64 ++ [I64 c.room,F64 c.base,F64 c.factor,F64 c.most,I64 c.tries])
structure Cf.fits (c:Cf):Prop where
 svs:c.svs.length<=100000
 ords:∀ v∈ords c.svs,v<18446744073709551616
 sfit:∀ s∈c.svs,s.urls.length<=9223372036854775807/\s.calls.length<=9223372036854775807/\s.rel.length<=1000000
 us:c.us.length<=9223372036854775807
 ufit:∀ u∈c.us,u.fits
def X8g (c:Cf):Nat:=if (X4a c.svs).1≠0 then (X4a c.svs).1 else if (X59 c.us 0 []).1≠0 then (X59 c.us 0 []).1 else if Xaq c.ps=false then 1 else 0
theorem Xp3:∀ (l:List Us) (i:Nat) (acc:List Us),(X59 l i acc).1=0->∀ u∈l,X7u u=true
 | [],_,_,_,u,h=>by simp at h
 | t::l,i,acc,h,u,hu=>by
  rw [X59] at h;split at h
  ·cases h
  ·split at h
   ·cases h
   ·rename_i h1
    split at h
    ·cases h
    ·rcases Y17.1 hu with e | hu
     ·subst e; simpa using h1
     ·exact Xp3 l (i+1) _ h u hu
theorem Xoz {l:List Sv} {D:List Int} (hO:Srt.Ord (kx (ords l)) l.length D):∀ s∈X4w l D,s∈l:=by
 intro s hs;unfold X4w at hs;obtain ⟨d,hd,rfl⟩:=Y2b.1 hs;obtain ⟨h1,h2⟩:=Srt.upto_mem.1 (hO.2.mem_iff.1 hd);rw [Y8,Y4 (by omega)];exact Y36 _
theorem Xp0 {A vs C:List Value} {j:Nat} {v:Value} (h:vs[j]?=some v):(A ++ (vs ++ C))[A.length+j]?=some v:=by
 rw [Yt (by omega),Y3n,Yi (Y5.1 h).1];exact h
def w0 (c:Cf):Wd:=⟨Xpk c.room,[],[],0⟩
theorem Xq7 (c:Cf):Xc2 (w0 c):=⟨by simp [w0],Wf.nil,fun d h=>by simp [w0] at h,by simp [w0],by unfold w0 Xpk; (try dsimp only); omega⟩
set_option maxRecDepth 20000 in
theorem Xff (c:Cf) (hc:c.fits) (a:Option Addr) (cap:Nat) (ua:Option Addr) (ucap:Nat) (B w:World) (I:Im) (hK:Known I) (hP:PreAt I) (hl:SvsAt I a c.svs) (hU:UsrsAt I ua c.us) (As:List X7) (hS:Sat B w I As) :
  Cz 32 [.agg (X1v c a cap ua ucap).toArray] w fun v w'=>∃ J,Le I J/\((X8g c≠0/\v=.tuple #[.pointer none,I64 (X8g c:Nat)]/\Sat B w' J As)\/(X8g c=0/\∃ p D,Srt.Ord (kx (ords c.svs)) c.svs.length D/\p.lo=X4w c.svs D/\p.us=c.us/\p.ps=c.ps/\v=.tuple #[ptr p.wb 0,I64 0]/\WpOk J p/\Sat B w' J (wdA p (w0 c)::As))):=by
 refine calls Tryz.func32 rfl Tryz.ntmps32 rfl (.seq (.region (.boxA (cs:=[_,_,_,_,_,_,_,_,_,_,_,_,_,_,_,_,_,_,_,_,_,_,_,_,_,_,_,_]) hS (.of rfl) rfl ?_)));intro b1 w hS;refine .q 2 rfl (.nil (.seq (.region ?_)));refine .val (.fo 0 rfl Xe5 rfl rfl Qs22 rfl) rfl (.val (.lo rfl hS (k:=0) rfl Qg22 rfl) rfl (.call Tryz.func73 rfl (ec9 rfl X0) rfl (Xux a cap c.svs hc.svs hc.ords hc.sfit B _ I hl _ hS) ?_));rintro v w ⟨J,hJ,hS,hor⟩;obtain ⟨pv,e9,i9,rfl,he9,hz9⟩:∃ (pv:Value) (e9 i9:Nat),v=.tuple #[pv,I64 (e9:Nat),I64 (i9:Nat)]/\e9=(X4a c.svs).1/\(e9=0->∃ pr D,pv=.pointer (some pr)/\Srt.Ord (kx (ords c.svs)) c.svs.length D/\RegAt J pr (X4w c.svs D)):=by
  rcases hor with ⟨h1,h2⟩ | ⟨h1,pr,D,h2,h3,h4⟩
  ·exact ⟨_,_,_,h2,rfl,fun h=>absurd h h1⟩
  ·exact ⟨_,0,0,h2,h1.symm,fun _=>⟨pr,D,rfl,h3,h4⟩⟩
 refine .q 7 rfl (.nil (.seq (.seq (.q 2 rfl ?_))));refine .cond rfl (fun hb17=>?_) fun hb17=>?_
 ·refine .seq (.q 3 rfl (.ret (X1t Qr32 rfl rfl ?_)));have hne:(X4a c.svs).1≠0:=by rw [<- he9]; simpa using hb17
  have hE:X8g c=e9:=by rw [X8g,if_pos hne,he9]
  exact ⟨_,rfl,J,hJ,.inl ⟨by rw [hE,he9]; exact hne,by rw [hE]; rfl,hS.y 0 1⟩⟩
 refine .skip (.seq (.region ?_));refine .val (.fo 1 rfl Xe5 rfl rfl Tryz.sizeOf23 rfl) rfl (.val (.lo rfl hS (k:=0) rfl Tryz.isAgg23 rfl) rfl (.call Tryz.func74 rfl (ec9 rfl X0) rfl (Xgc ua ucap c.us hc.us hc.ufit B _ J (hU.mono hJ) _ hS) ?_));rintro v w ⟨J2,hJ2,hor2,hS⟩;have hw0:(X4a c.svs).1=0:=by rw [<- he9]; simpa using hb17
 obtain ⟨pr,D,rfl,hOrd,hreg⟩:=hz9 (by omega);obtain ⟨uv,f9,j9,rfl,hf9,hy9⟩:∃ (uv:Value) (f9 j9:Nat),v=.tuple #[uv,I64 (f9:Nat),I64 (j9:Nat)]/\f9=(X59 c.us 0 []).1/\(f9=0->∃ ub,uv=ptr ub 0/\TabAt J2 ub c.us):=by
  rcases hor2 with ⟨h1,ub,h2,h3⟩ | ⟨h1,h2⟩
  ·exact ⟨_,0,0,h2,h1.symm,fun _=>⟨ub,rfl,h3⟩⟩
  ·exact ⟨_,_,_,h2,rfl,fun h=>absurd h h1⟩
 refine .q 7 rfl (.nil (.seq (.seq (.q 2 rfl ?_))));refine .cond rfl (fun hb27=>?_) fun hb27=>?_
 ·refine .seq (.q 3 rfl (.ret (X1t Qr32 rfl rfl ?_)));have hne:(X59 c.us 0 []).1≠0:=by rw [<- hf9]; simpa using hb27
  have hE:X8g c=f9:=by rw [X8g,if_neg (by rw [hw0]; decide),if_pos hne,hf9]
  exact ⟨_,rfl,J2,hJ.trans hJ2,.inl ⟨by rw [hE,hf9]; exact hne,by rw [hE]; rfl,hS.y 0 1⟩⟩
 refine .skip (.seq (.seq (.region ?_)));refine .val (.fo 2 rfl Xe5 rfl rfl Qs26 rfl) rfl (.val (.lds (vs:=[I64 (c.ps 0),I64 (c.ps 1),I64 (c.ps 2),I64 (c.ps 3),I64 (c.ps 4),I64 (c.ps 5),I64 (c.ps 6),I64 (c.ps 7),I64 (c.ps 8),I64 (c.ps 9),I64 (c.ps 10),I64 (c.ps 11),I64 (c.ps 12),I64 (c.ps 13),I64 (c.ps 14),I64 (c.ps 15),I64 (c.ps 16),I64 (c.ps 17),I64 (c.ps 18),I64 (c.ps 19),I64 (c.ps 20)]) (.of rfl) hS (k:=0) rfl Tryz.isAgg26 Qs26 rfl (fun j v hj=>Xp0 (A:=[.slice a c.svs.length cap,.slice ua c.us.length ucap]) (C:=[I64 c.room,F64 c.base,F64 c.factor,F64 c.most,I64 c.tries]) hj)) rfl (.call Tryz.func75 rfl (ec9 rfl X0) rfl (Xls c.ps B _ J2 _ hS) ?_));rintro _ w ⟨rfl,hS⟩;have hu0:(X59 c.us 0 []).1=0:=by rw [<- hf9]; simpa using hb27
 obtain ⟨ub,rfl,hTab⟩:=hy9 (by omega);refine .q 1 rfl (.nil ?_);refine .cond rfl (fun hb32=>?_) fun hb32=>?_
 ·refine .seq (.q 2 rfl (.ret (X1t Qr32 rfl rfl ?_)));have hE:X8g c=1:=by rw [X8g,if_neg (by rw [hw0]; decide),if_neg (by rw [hu0]; decide),if_pos (by simpa using hb32)]
  exact ⟨_,rfl,J2,hJ.trans hJ2,.inl ⟨by rw [hE]; decide,by rw [hE]; rfl,hS.y 0 1⟩⟩
 refine .skip (.seq (.dw (fun w=>∃ R,Sat B w J2 (blk b1 [.slice a c.svs.length cap,.slice ua c.us.length ucap,I64 (c.ps 0),I64 (c.ps 1),I64 (c.ps 2),I64 (c.ps 3),I64 (c.ps 4),I64 (c.ps 5),I64 (c.ps 6),I64 (c.ps 7),I64 (c.ps 8),I64 (c.ps 9),I64 (c.ps 10),I64 (c.ps 11),I64 (c.ps 12),I64 (c.ps 13),I64 (c.ps 14),I64 (c.ps 15),I64 (c.ps 16),I64 (c.ps 17),I64 (c.ps 18),I64 (c.ps 19),I64 (c.ps 20),I64 c.room,F64 c.base,F64 c.factor,F64 c.most,I64 c.tries] 29::R)) (fun j=>!([].contains j)) ?_));replace hS:=hS.drew; generalize w.drew=w at hS ⊢;have hH:=(hS.x [0])
 refine .tp 0 rfl (fun w=>(.fo 23 rfl Xe5 rfl rfl Qs3 rfl)) (.tk 1 rfl ⟨_,hH⟩ (fun w ⟨R,hS⟩=>(.lo rfl hS (k:=0) rfl Qg3 rfl)) (.tp 4 rfl (fun w=>(.mo rfl)) (.tp 5 rfl (fun w=>(.mo rfl)) ?_)));refine .tp 6 rfl (fun w=>(.fo 2 rfl Xe5 rfl rfl Qs26 rfl)) (.tk 7 rfl ⟨_,hH⟩ (fun w ⟨R,hS⟩=>.lds (vs:=[I64 (c.ps 0),I64 (c.ps 1),I64 (c.ps 2),I64 (c.ps 3),I64 (c.ps 4),I64 (c.ps 5),I64 (c.ps 6),I64 (c.ps 7),I64 (c.ps 8),I64 (c.ps 9),I64 (c.ps 10),I64 (c.ps 11),I64 (c.ps 12),I64 (c.ps 13),I64 (c.ps 14),I64 (c.ps 15),I64 (c.ps 16),I64 (c.ps 17),I64 (c.ps 18),I64 (c.ps 19),I64 (c.ps 20)]) (.of rfl) hS (k:=0) rfl Tryz.isAgg26 Qs26 rfl (fun j v hj=>Xp0 (A:=[.slice a c.svs.length cap,.slice ua c.us.length ucap]) (C:=[I64 c.room,F64 c.base,F64 c.factor,F64 c.most,I64 c.tries]) hj)) (.b1 2 rfl (.call Tryz.func76 rfl (ec9 rfl X0) rfl (Xid c.room B _ J2 _ hS) ?_)));rintro _ w ⟨tb,rfl,hS⟩;refine .nil ?_;clear hH;have hH:=(hS.x [2])
 refine ⟨fun _ _=>⟨_,hH⟩,?_⟩;refine .b1 3 rfl (.call Tryz.func77 rfl (ec9 rfl X0) rfl (Xhl B _ J2 _ hS) ?_);rintro _ w ⟨mb,rfl,hS⟩;refine .nil ?_;clear hH;have hH:=(hS.x [4])
 refine ⟨fun _ _=>⟨_,hH⟩,?_⟩;refine .tp 8 rfl (fun w=>(.build (cs:=[_,_,_,_,_,_,_,_,_,_,_,_,_,_,_,_,_,_,_,_,_,_,_,_,_,_]) (pc9 rfl (pc9 rfl (pc9 rfl (pc9 rfl (pc9 rfl X4))))) Xrt rfl)) (.b1 9 rfl (.boxA (cs:=[_,_,_,_,_,_,_,_,_,_,_,_,_,_,_,_,_,_,_,_,_,_,_,_,_,_]) hS (.of rfl) rfl ?_));intro b42 w hS;refine .nil ?_;clear hH;have hH:=(hS.x [5])
 refine ⟨fun _ _=>⟨_,hH⟩,?_⟩;refine .tp 10 rfl (fun w=>(.ao rfl)) (.tp 11 rfl (fun w=>(.ao rfl)) (.dn (.ret (X1t Qr32 rfl rfl ?_))));have hE:X8g c=0:=by rw [X8g,if_neg (by rw [hw0]; decide),if_neg (by rw [hu0]; decide),if_neg (by simpa using hb32)]
 have hp:=Xoz hOrd;refine ⟨_,rfl,J2,hJ.trans hJ2,.inr ⟨hE,⟨b42,tb,mb,ub,pr,X4w c.svs D,c.us,c.ps⟩,D,hOrd,rfl,rfl,rfl,rfl,⟨hreg.mono hJ2,hTab,?_,fun s hs=>(hc.sfit s (hp s hs)).2.2,hc.ufit,fun u hu=>Xba (Xp3 c.us 0 [] hu0 u hu),(hK.mono hJ).mono hJ2,(hP.mono hJ).mono hJ2⟩,?_⟩⟩
 ·show (X4w c.svs D).length<=100000
  rw [X4w,Y14,hOrd.len]; exact hc.svs
 ·exact Sat.box (T:=wdT ⟨b42,tb,mb,ub,pr,X4w c.svs D,c.us,c.ps⟩ (w0 c)) (none,0,none,0) (hS.z [2,2,4,4,4] 5 1)
structure Sx where
 user:List UInt8
 attrs:List Pr
 proxies:List (List UInt8)
 iou:List UInt8
def SxAt (J:Im) (x:Sx) (cs:List Value):Prop:=∃ ka kc pa pc,cs=[S x.user,.slice ka x.attrs.length kc,.slice pa x.proxies.length pc,S x.iou]/\x.attrs.length<=kc/\RS J ka 2 x.attrs.length (X9 X1i x.attrs)/\x.proxies.length<=pc/\RS J pa 1 x.proxies.length (x.proxies.map S)
theorem SxAt.mono {I J:Im} {x:Sx} {cs:List Value} (h:SxAt I x cs) (hl:Le I J):SxAt J x cs:=by
 obtain ⟨ka,kc,pa,pc,e,h1,h2,h3,h4⟩:=h;exact ⟨ka,kc,pa,pc,e,h1,h2.mono hl,h3,h4.mono hl⟩
theorem Ex.sub3U {P:Program} {n:Nat} {L:Env} {w:World} {d:Option Nat} {ty t:TypeId} {pos:String} {af:Array Edge} {g:Option (Nat×Bool)} {x y z:Operand} {l:List UInt8} {i j:Int} (hx:Ev n L x (S l)) (hy:Ev n L y (U64 i)) (hz:Ev n L z (U64 j)) (h0:0<=i) (h1:i<=j) (h2:j<=(l.length:Int)) (hT:P.underlying t=some .string) :
  Ex P n L w ⟨d,.slice t x (some y) (some z) none,ty,pos,af,g⟩ (S ((l.drop i.toNat).take (j.toNat - i.toNat))) w:=fun a ha=>by
 have h:=run_slice_string (P:=P) w t ⟨l.toArray⟩ .u64 .u64 i j hT h0 h1 h2;rw [Xb2] at h;simp [execOp,hx a ha,hy a ha,hz a ha,run_sliceAt_string w t _ _ _ _ hT,h]
def Xfa (r:Rec):Bool:=(((decide ((r.name.length:Int)<=60) && decide ((r.parent.length:Int)<=60)) && decide ((r.user.length:Int)<=120)) && decide ((r.service.length:Int)<=120)) && decide ((r.url.length:Int)<=120)
def bigP (y:Pr):Bool:=decide ((80:Int)<(y.1.length:Int)) || decide ((80:Int)<(y.2.length:Int))
def bigU (u:Us):Bool:=(decide ((20:Int)<(u.attrs.length:Int)) || decide ((80:Int)<(u.name.length:Int))) || decide ((80:Int)<(u.pw.length:Int))
def Xfb (u:Us):Bool:=!bigU u && u.attrs.all fun y=>!bigP y
def fewU (l:List Us):Bool:=l.all Xfb && decide ((l.length:Int)<=20)
def fewC (c:Cf):Bool:=few c.svs && fewU c.us
theorem X9f {α:Type} {cells:α->List Value} {s:Nat} (hc:∀ x,(cells x).length=s) {I:Im} {a:Option Addr} {l:List α} (hR:RS I a s l.length (X9 cells l)) {i:Nat} {x:α} (hx:l[i]?=some x):∃ q,a=some q/\At I (q.add (i*s)) (cells x):=by
 obtain ⟨q,rfl,hq⟩:=hR.2 (by have:=(Y5.1 hx).1; omega);refine ⟨q,rfl,?_⟩;have h3:=X50 (hq.add (i*s)) s;rw [X9,X1f (l.map cells) (fun c h=>by obtain ⟨y,_,rfl⟩:=Y2b.1 h; exact hc y) i (cells x) (by rw [Yu,hx]; rfl)] at h3;exact h3
theorem Xl0 (r:Rec) (B w:World) (I:Im) (As:List X7) (hS:Sat B w I As) :
  Cz 34 [.agg (X5 r).toArray] w fun v w'=>v=.bool (Xfa r)/\Sat B w' I As:=by
 refine calls Tryz.func34 rfl Tryz.ntmps34 rfl (.seq (.region (.boxA (cs:=[_,_,_,_,_,_,_,_,_,_]) hS (.of rfl) rfl ?_)));intro b1 w hS;refine .q 1 rfl (.nil (.seq (.region ?_)));refine .val (.fo 1 rfl X27 rfl rfl Qs9 rfl) rfl (.val (.lo rfl hS (k:=0) rfl Qg9 rfl) rfl (.run 3 rfl ⟨Qu9,trivial⟩ (.gval rfl rfl (fun hg1=>(by exact .fo 2 rfl X27 rfl rfl Qs9 rfl)) rfl ?_)));refine .gval rfl rfl (fun hg1=>(by exact (.ld (.gd hg1 rfl) hS (k:=0) rfl Qg9 rfl))) rfl ?_;refine .gval rfl rfl (fun hg1=>(.len (.gd hg1 rfl) Qu9)) rfl (.gval rfl rfl (fun hg1=>(.leq (.gd hg1 rfl) (.of rfl))) rfl (.val (.pa rfl rfl rfl) rfl (.q 1 rfl ?_)));refine .gval rfl rfl (fun hg1=>(by exact .fo 3 rfl X27 rfl rfl Qs9 rfl)) rfl ?_;refine .gval rfl rfl (fun hg1=>(by exact (.ld (.gd hg1 rfl) hS (k:=0) rfl Qg9 rfl))) rfl ?_;refine .gval rfl rfl (fun hg1=>(.len (.gd hg1 rfl) Qu9)) rfl (.gval rfl rfl (fun hg1=>(.leq (.gd hg1 rfl) (.of rfl))) rfl (.val (.pa rfl rfl rfl) rfl (.q 1 rfl ?_)));refine .gval rfl rfl (fun hg1=>(by exact .fo 4 rfl X27 rfl rfl Qs9 rfl)) rfl ?_;refine .gval rfl rfl (fun hg1=>(by exact (.ld (.gd hg1 rfl) hS (k:=0) rfl Qg9 rfl))) rfl ?_;refine .gval rfl rfl (fun hg1=>(.len (.gd hg1 rfl) Qu9)) rfl (.gval rfl rfl (fun hg1=>(.leq (.gd hg1 rfl) (.of rfl))) rfl (.val (.pa rfl rfl rfl) rfl (.q 1 rfl ?_)));refine .gval rfl rfl (fun hg1=>(by exact .fo 5 rfl X27 rfl rfl Qs9 rfl)) rfl ?_;refine .gval rfl rfl (fun hg1=>(by exact (.ld (.gd hg1 rfl) hS (k:=0) rfl Qg9 rfl))) rfl ?_;refine .gval rfl rfl (fun hg1=>(.len (.gd hg1 rfl) Qu9)) rfl (.gval rfl rfl (fun hg1=>(.leq (.gd hg1 rfl) (.of rfl))) rfl (.val (.pa rfl rfl rfl) rfl (.q 1 rfl (.nil (.ret (Xc Tryz.results34 rfl ?_))))));exact ⟨_,rfl,rfl,hS.y 0 1⟩
theorem Xsd (a:Option Addr) (cap:Nat) (l:List Us) (hln:l.length<=9223372036854775807) (hfit:∀ u∈l,u.fits) (B w:World) (I:Im) (hU:UsrsAt I a l) (As:List X7) (hS:Sat B w I As) :
  Cz 72 [.slice a l.length cap] w fun v w'=>v=.bool (fewU l)/\Sat B w' I As:=by
 refine calls Tryz.func72 rfl Tryz.ntmps72 rfl (.seq (.q 1 rfl (.seq (.seq (.q 1 rfl (.block (.loop (σ:=Nat) (fun i=>[(0,.slice a l.length cap),(3,I64 (i:Nat))]) (fun i w=>i<=l.length/\(∀ (j:Nat) u,j<i->l[j]?=some u->Xfb u=true)/\Sat B w I As) (fun i=>l.length - i) 0 ⟨rfl,rfl,trivial⟩ ⟨Yo _,fun _ _ h=>absurd h (by omega),hS⟩ ?_)))))));rintro i w ⟨hi,hno,hS⟩;refine .seq (.seq (.region (.run 4 rfl ⟨⟨_,Xgs⟩,trivial⟩ (.nil ?_))));refine .cond rfl (fun hb8=>?_) fun hb8=>?_
 ·have hc8:=hb8; simp only [Y6] at hc8;refine .skip (.seq (.block (.seq (.seq ?_))));obtain ⟨u,hu⟩:∃ u,l[i]?=some u:=⟨_,Y4 (by omega)⟩
  obtain ⟨p,ra,rc,hap,hx,hrc,hRR⟩:=hU i u hu;have hfu:=(hfit u (Yl hu)).attrs.1;subst hap;unfold X3t at hx;refine .t 2 rfl (.val (.ii rfl rfl (by omega) (by omega) Xgs X62) rfl (.val (.fi 2 rfl X2t rfl rfl X4u rfl) rfl (.val (.ldI (.of rfl) hS (At.add hx _) X6x rfl) rfl (.run 3 rfl ⟨⟨_,X2e⟩,trivial⟩ (.gm rfl rfl rfl rfl (.gm rfl rfl rfl rfl ?_))))));refine .gval rfl rfl (fun hg1=>(by exact .indexAddrI (.gd hg1 rfl) (.gd hg1 rfl) (by (try simp only [Y6] at hg1); omega) (by (try simp only [Y6] at hg1); omega) Xgs X62)) rfl ?_;refine .gval rfl rfl (fun hg1=>(by exact .fieldAddrI 0 (.gd hg1 rfl) X2t rfl rfl Qs9 rfl)) rfl ?_;refine .gval rfl rfl (fun hg1=>(by exact (.ldI (.gd hg1 rfl) hS (At.add hx _) Qg9 rfl))) rfl ?_;refine .gval rfl rfl (fun hg1=>(.len (.gd hg1 rfl) Qu9)) rfl (.gval rfl rfl (fun hg1=>(.gtr (.gd hg1 rfl) (.of rfl))) rfl (.val (.po rfl rfl rfl) rfl (.q 1 rfl (.gm rfl rfl rfl rfl (.gm rfl rfl rfl rfl ?_)))));refine .gval rfl rfl (fun hg1=>(by exact .indexAddrI (.gd hg1 rfl) (.gd hg1 rfl) (by (try simp only [Y6] at hg1); omega) (by (try simp only [Y6] at hg1); omega) Xgs X62)) rfl ?_;refine .gval rfl rfl (fun hg1=>(by exact .fieldAddrI 1 (.gd hg1 rfl) X2t rfl rfl Qs9 rfl)) rfl ?_;refine .gval rfl rfl (fun hg1=>(by exact (.ldI (.gd hg1 rfl) hS (At.add hx _) Qg9 rfl))) rfl ?_;refine .gval rfl rfl (fun hg1=>(.len (.gd hg1 rfl) Qu9)) rfl (.gval rfl rfl (fun hg1=>(.gtr (.gd hg1 rfl) (.of rfl))) rfl (.val (.po rfl rfl rfl) rfl (.nil ?_)));refine .cond rfl (fun hb35=>?_) fun hb35=>?_
  ·refine .seq (.q 1 rfl (.ret (Xc Tryz.results72 rfl ?_)));refine ⟨_,rfl,congrArg Value.bool ?_,hS⟩
   have:l.all Xfb=false:=Y33.2 ⟨u,Yl hu,by
    rw [Xfb,show bigU u=true from hb35,Bool.not_true,Y5s]; decide⟩
   rw [fewU,this]; rfl
  have hc35:=hb35; simp only [Y6] at hc35;refine .skip (.seq (.q 1 rfl (.block (.loop (σ:=Nat) (fun k=>[(0,.slice (some p) l.length cap),(3,I64 (i:Nat)),(4,I64 (k:Nat))]) (fun k w=>k<=u.attrs.length/\(∀ (j:Nat) y,j<k->u.attrs[j]?=some y->bigP y=false)/\Sat B w I As) (fun k=>u.attrs.length - k) 0 ⟨rfl,rfl,rfl,trivial⟩ ⟨Yo _,fun _ _ h=>absurd h (by omega),hS⟩ ?_))));rintro k w ⟨hk,hny,hS⟩;refine .seq (.seq (.t 3 rfl ?_));refine .val (.ii rfl rfl (by omega) (by omega) Xgs X62) rfl (.val (.fi 2 rfl X2t rfl rfl X4u rfl) rfl (.val (.ldI (.of rfl) hS (At.add hx _) X6x rfl) rfl (.run 2 rfl ⟨⟨_,X2e⟩,trivial⟩ (.nil ?_))));refine .cond rfl (fun hb43=>?_) fun hb43=>?_
  ·have hc43:=hb43; simp only [Y6] at hc43;refine .skip (.seq (.block (.seq ?_)));obtain ⟨y,hy0⟩:∃ y,u.attrs[k]?=some y:=⟨_,Y4 (by omega)⟩
   obtain ⟨q,hq9,hy⟩:=X9f (cells:=X1i) (s:=2) (fun _=>rfl) hRR hy0;subst hq9;unfold X1i at hy;refine .t 2 rfl (.val (.ii rfl rfl (by omega) (by omega) Xgs X62) rfl (.val (.fi 2 rfl X2t rfl rfl X4u rfl) rfl (.val (.ldI (.of rfl) hS (At.add hx _) X6x rfl) rfl (.q 1 rfl (.val (.ii rfl rfl (by omega) (by omega) X2e X2i) rfl (.val (.fi 0 rfl X3j rfl rfl Qs9 rfl) rfl (.val (.ldI (.of rfl) hS (At.add hy _) Qg9 rfl) rfl (.run 3 rfl ⟨Qu9,trivial⟩ (.gm rfl rfl rfl rfl (.gm rfl rfl rfl rfl ?_))))))))));refine .gval rfl rfl (fun hg1=>(by exact .indexAddrI (.gd hg1 rfl) (.gd hg1 rfl) (by (try simp only [Y6] at hg1); omega) (by (try simp only [Y6] at hg1); omega) Xgs X62)) rfl ?_;refine .gval rfl rfl (fun hg1=>(by exact .fieldAddrI 2 (.gd hg1 rfl) X2t rfl rfl X4u rfl)) rfl ?_;refine .gval rfl rfl (fun hg1=>(by exact (.ldI (.gd hg1 rfl) hS (At.add hx _) X6x rfl))) rfl ?_;refine .gm rfl rfl rfl rfl (.gval rfl rfl (fun hg1=>(by exact .indexAddrI (.gd hg1 rfl) (.gd hg1 rfl) (by (try simp only [Y6] at hg1); omega) (by (try simp only [Y6] at hg1); omega) X2e X2i)) rfl ?_);refine .gval rfl rfl (fun hg1=>(by exact .fieldAddrI 1 (.gd hg1 rfl) X3j rfl rfl Qs9 rfl)) rfl ?_;refine .gval rfl rfl (fun hg1=>(by exact (.ldI (.gd hg1 rfl) hS (At.add hy _) Qg9 rfl))) rfl ?_;refine .gval rfl rfl (fun hg1=>(.len (.gd hg1 rfl) Qu9)) rfl (.gval rfl rfl (fun hg1=>(.gtr (.gd hg1 rfl) (.of rfl))) rfl (.val (.po rfl rfl rfl) rfl (.nil ?_)));refine .cond rfl (fun hb69=>?_) fun hb69=>?_
   ·refine .seq (.q 1 rfl (.ret (Xc Tryz.results72 rfl ?_)));refine ⟨_,rfl,congrArg Value.bool ?_,hS⟩
    have:l.all Xfb=false:=Y33.2 ⟨u,Yl hu,by
     have:u.attrs.all (fun y=>!bigP y)=false:=Y33.2 ⟨y,Yl hy0,by
      rw [show bigP y=true from hb69]; decide⟩
     rw [Xfb,this,Y43]; decide⟩
    rw [fewU,this]; rfl
   have hc69:=hb69; simp only [Y6] at hc69;refine .skip (.region (.run 3 rfl ⟨⟨by omega,by omega⟩,trivial⟩ (.nil ?_)));refine ⟨k+1,⟨rfl,rfl,rfl,trivial⟩,⟨by (try dsimp only); omega,fun j t hj ht=>?_,hS⟩,by (try dsimp only); omega⟩;rcases Yp j k with h1 | h1
   ·exact hny j t h1 ht
   ·have e:j=k:=by omega
    subst e;rw [hy0] at ht; cases ht;exact hb69
  have hc43:=hb43; simp only [Y6] at hc43;refine .exit (.region (.run 3 rfl ⟨⟨by omega,by omega⟩,trivial⟩ (.nil ?_)));refine ⟨i+1,⟨rfl,rfl,trivial⟩,⟨by (try dsimp only); omega,fun j t hj ht=>?_,hS⟩,by (try dsimp only); omega⟩;rcases Yp j i with h1 | h1
  ·exact hno j t h1 ht
  ·have e:j=i:=by omega
   subst e;rw [hu] at ht; cases ht;have e1:bigU u=false:=hb35;rw [Xfb,e1,Y3q,Y2n,Y1c];intro y hy;obtain ⟨q,hq⟩:=Yy.1 hy
   have:=(Y5.1 hq).1
   rw [hny q y (by omega) hq]; rfl
 have hc8:=hb8; simp only [Y6] at hc8;refine .exit (.seq (.region (.run 4 rfl ⟨⟨_,Xgs⟩,trivial⟩ (.nil (.ret (Xc Tryz.results72 rfl ?_))))));refine ⟨_,rfl,congrArg Value.bool ?_,hS⟩
 have:l.all Xfb=true:=by
  rw [Y1c];intro u hu;obtain ⟨q,hq⟩:=Yy.1 hu
  have:=(Y5.1 hq).1
  exact hno q u (by omega) hq
 rw [fewU,this,Y2n]
set_option maxRecDepth 20000 in
theorem Xsc (c:Cf) (a:Option Addr) (cap:Nat) (ua:Option Addr) (ucap:Nat) (hcap:c.svs.length<=cap) (hcm:cap<=maxLen) (hun:c.us.length<=9223372036854775807) (hfit:∀ u∈c.us,u.fits) (B w:World) (I:Im) (hl:SvsAt I a c.svs) (hU:UsrsAt I ua c.us) (As:List X7) (hS:Sat B w I As) :
  Cz 31 [.agg (X1v c a cap ua ucap).toArray] w fun v w'=>v=.bool (fewC c)/\Sat B w' I As:=by
 refine calls Tryz.func31 rfl Tryz.ntmps31 rfl (.seq (.region (.boxA (cs:=[_,_,_,_,_,_,_,_,_,_,_,_,_,_,_,_,_,_,_,_,_,_,_,_,_,_,_,_]) hS (.of rfl) rfl ?_)));intro b1 w hS;refine .q 1 rfl (.nil (.seq (.region ?_)));refine .val (.fo 0 rfl Xe5 rfl rfl Qs22 rfl) rfl (.val (.lo rfl hS (k:=0) rfl Qg22 rfl) rfl (.call Tryz.func71 rfl (ec9 rfl X0) rfl (Xuw a cap c.svs hcap hcm B _ I hl _ hS) ?_));rintro _ w ⟨rfl,hS⟩;refine .q 1 rfl (.nil (.seq (.region ?_)));refine .val (.fo 1 rfl Xe5 rfl rfl Tryz.sizeOf23 rfl) rfl (.val (.lo rfl hS (k:=0) rfl Tryz.isAgg23 rfl) rfl (.call Tryz.func72 rfl (ec9 rfl X0) rfl (Xsd ua ucap c.us hun hfit B _ I hU _ hS) ?_));rintro _ w ⟨rfl,hS⟩;refine .q 1 rfl (.nil (.seq (.t 2 rfl (.gm rfl rfl rfl rfl (.val (.pa rfl rfl rfl) rfl (.q 1 rfl (.nil (.ret (Xc Tryz.results31 rfl ?_)))))))));exact ⟨_,rfl,rfl,hS.y 0 1⟩
theorem X7i (k:Int) (B w:World) (I:Im) (As:List X7) (hS:Sat B w I As) :
  Cz 70 [I64 k] w fun v w'=>v=S (Xqi k)/\Sat B w' I As:=by
 refine calls Tryz.func70 rfl Tryz.ntmps70 rfl (.seq (.q 1 rfl (.seq (.seq (.q 1 rfl (.block (.seq (.q 2 rfl ?_))))))));refine .cond rfl (fun hb4=>?_) fun hb4=>?_
 ·refine .seq (.q 1 rfl (.ret (Xc Xve rfl ?_)));refine ⟨_,rfl,congrArg S ?_,hS⟩;simp only [beq_iff_eq,beq_eq_false_iff_ne] at *
  subst_vars; rfl
 refine .seq (.q 2 rfl ?_);refine .cond rfl (fun hb6=>?_) fun hb6=>?_
 ·refine .seq (.q 1 rfl (.ret (Xc Xve rfl ?_)));refine ⟨_,rfl,congrArg S ?_,hS⟩;simp only [beq_iff_eq,beq_eq_false_iff_ne] at *
  subst_vars; rfl
 refine .seq (.q 2 rfl ?_);refine .cond rfl (fun hb8=>?_) fun hb8=>?_
 ·refine .seq (.q 1 rfl (.ret (Xc Xve rfl ?_)));refine ⟨_,rfl,congrArg S ?_,hS⟩;simp only [beq_iff_eq,beq_eq_false_iff_ne] at *
  subst_vars; rfl
 refine .seq (.q 2 rfl ?_);refine .cond rfl (fun hb10=>?_) fun hb10=>?_
 ·refine .seq (.q 1 rfl (.ret (Xc Xve rfl ?_)));refine ⟨_,rfl,congrArg S ?_,hS⟩;simp only [beq_iff_eq,beq_eq_false_iff_ne] at *
  subst_vars; rfl
 refine .seq (.q 2 rfl ?_);refine .cond rfl (fun hb12=>?_) fun hb12=>?_
 ·refine .seq (.q 1 rfl (.ret (Xc Xve rfl ?_)));refine ⟨_,rfl,congrArg S ?_,hS⟩;simp only [beq_iff_eq,beq_eq_false_iff_ne] at *
  subst_vars; rfl
 refine .seq (.q 2 rfl ?_);refine .cond rfl (fun hb14=>?_) fun hb14=>?_
 ·refine .seq (.q 1 rfl (.ret (Xc Xve rfl ?_)));refine ⟨_,rfl,congrArg S ?_,hS⟩;simp only [beq_iff_eq,beq_eq_false_iff_ne] at *
  subst_vars; rfl
 refine .skip (.seq (.q 1 rfl (.ret (Xc Xve rfl ?_))));refine ⟨_,rfl,congrArg S ?_,hS⟩;simp only [beq_iff_eq,beq_eq_false_iff_ne] at *
 (rw [Xqi,if_pos (by omega)])
theorem Xsj {n:Nat} (h:n<16):(HEXD.drop n).take 1=[dg n]:=(by decide:∀ n:Fin 16,(HEXD.drop n.val).take 1=[dg n.val]) ⟨n,h⟩
theorem Xhx (kind:Int) (d:Nat) (hd:d<18446744073709551616) (B w:World) (I:Im) (As:List X7) (hS:Sat B w I As) :
  Cz 92 [I64 kind,U64 (d:Nat)] w fun v w'=>v=(if Xqi kind=[] then .tuple #[S [],I64 8] else .tuple #[S (Xqi kind ++ 45::Xky 16 d),I64 0])/\Sat B w' I As:=by
 refine calls Tryz.func92 rfl Tryz.ntmps92 rfl (.seq (.q 2 rfl (.seq (.t 1 rfl (.call Tryz.func70 rfl (ec9 rfl X0) rfl (X7i kind B _ I _ hS) ?_)))));rintro _ w ⟨rfl,hS⟩;refine .q 1 rfl (.nil (.seq (.seq (.q 2 rfl ?_))));refine .cond rfl (fun hb13=>?_) fun hb13=>?_
 ·refine .seq (.q 2 rfl (.ret (X1t Tryz.results92 rfl rfl ?_)));exact ⟨_,rfl,by rw [if_pos (by simpa using hb13)],hS⟩
 have hc13:=hb13; simp only [Y6] at hc13;refine .skip (.seq (.q 1 rfl (.seq (.q 1 rfl (.seq (.seq (.q 1 rfl (.block (.loop (σ:=Nat×Nat) (fun ⟨i,e⟩=>[(1,U64 (e:Nat)),(6,S (Xqi kind)),(7,S HEXD),(8,S (Xky i d)),(9,I64 (i:Nat))]) (fun ⟨i,e⟩ w=>i<=16/\e=d / 16 ^ i/\Sat B w I As) (fun ⟨i,e⟩=>16 - i) (0,d) ⟨rfl,rfl,rfl,rfl,rfl,trivial⟩ ⟨Yo _,by simp,hS⟩ ?_)))))))));rintro ⟨i,e⟩ w ⟨hi,he,hS⟩;refine .seq (.seq (.q 2 rfl ?_));refine .cond rfl (fun hb15=>?_) fun hb15=>?_
 ·have hc15:=hb15; simp only [Y6] at hc15;refine .skip (.seq (.block (.seq ?_)));have hed:e<18446744073709551616:=by rw [he]; exact Y4d (Nat.div_le_self _ _) hd
  have hdl:=Xd6 i d;have hm16:=Y2p e (show 0<16 by decide);have hcast:((e:Nat):Int) % 16=((e % 16:Nat):Int):=by omega
  have htk:=Xsj hm16;have hsl:(HEXD.drop ((e:Int) % 16).toNat).take (((e:Int) % 16+1).toNat - ((e:Int) % 16).toNat)=[dg (e % 16)]:=by
   rw [hcast,Yf,show (((e % 16:Nat):Int)+1).toNat - e % 16=1 by omega]; exact htk
  have hcons:[dg (e % 16)] ++ Xky i d=Xky (i+1) d:=by rw [Xf5,he]; rfl
  have hquo:((e:Nat):Int) / 16=((e / 16:Nat):Int):=by omega
  have hee:e / 16=d / 16 ^ (i+1):=by rw [he,Y3r,Y22]
  refine .t 2 rfl (.val (.rem (.of rfl) (.of rfl) (by omega) (by omega)) rfl (.q 1 rfl (.val (.rem (.of rfl) (.of rfl) (by omega) (by omega)) rfl ?_)));refine .val (.addx (.of rfl) (.of rfl) (by rw [IntKind.wrap_u64]; omega)) rfl (.val (Ex.sub3U (.of rfl) (.of rfl) (.of rfl) (by omega) (by omega) (by show _<=(16:Int); omega) Qu9) rfl ?_);rw [hsl];refine .q 1 rfl (.val (.cat (.of rfl) (.of rfl) (by (try simp only [Y0,List.length_cons,List.length_nil]); omega)) rfl ?_);rw [hcons];refine .q 1 rfl (.nil (.t 1 rfl ?_));refine .val (.quo (.of rfl) (.of rfl) (by omega) (by omega) (by rw [IntKind.wrap_u64]; omega)) rfl ?_;rw [hquo];refine .q 1 rfl (.nil (.region (.run 3 rfl ⟨⟨by omega,by omega⟩,trivial⟩ (.nil ?_))));refine ⟨(i+1,e / 16),⟨rfl,rfl,rfl,rfl,rfl,trivial⟩,⟨by (try dsimp only); omega,hee,hS⟩,by (try dsimp only); omega⟩
 have hc15:=hb15; simp only [Y6] at hc15;refine .exit (.seq ?_);have hpl:=Xpg kind;have hdl:=Xd6 i d;refine .region (.run 6 rfl ⟨by (try simp only [Y0,List.length_cons,List.length_nil]); omega,by (try simp only [Y0,List.length_cons,List.length_nil]); omega,trivial⟩ (.nil (.ret (X1t Tryz.results92 rfl rfl ?_))));have e16:i=16:=by omega
 subst e16;refine ⟨_,rfl,by rw [if_neg (by simpa using hb13),Yd]; rfl,hS⟩
end Go.Proofs.YtbciobiiejpdgaaGreatDoor
namespace Go.Proofs.YtbciobiiejpdgaaGreatDoor
open Gk Pat
theorem Xod {l:List Sv} (h:few l=true):l.length<=20/\∀ s∈l,s.rel.length<=20:=by
 unfold few at h;simp only [Yn,decide_eq_true_eq] at h
 refine ⟨by omega,fun s hs=>?_⟩
 have:=Y1c.1 h.1 s hs
 unfold Xwa at this;simp only [Y3h,Y10,decide_eq_false_iff_not] at this
 omega
theorem Xsg {l:List Sv} (h:∀ s∈l,s.fits):∀ v∈ords l,v<18446744073709551616:=fun v hv=>by
 obtain ⟨s,hs,rfl⟩:=Y2b.1 hv;exact (h s hs).ord
theorem Xsf {l:List Sv} (h:∀ s∈l,s.fits) (hr:∀ s∈l,s.rel.length<=20):∀ s∈l,s.urls.length<=9223372036854775807/\s.calls.length<=9223372036854775807/\s.rel.length<=1000000:=fun s hs=>by
 have h1:=(h s hs).urls;have h2:=(h s hs).calls;have h3:=hr s hs;unfold maxLen at h1 h2;exact ⟨by omega,by omega,by omega⟩
theorem X98 (l:List Sv):∀ (r:List Sv) (i:Nat),(X4s l i r).1=0->∀ (j:Nat) t,r[j]?=some t->bad l (i+j) t=0
 | [],_,_,j,t,h=>by simp at h
 | s::r,i,h,j,t,ht=>by
  rw [X4s] at h;split at h
  ·rename_i hb; exact absurd h hb
  ·rename_i hb
   cases j with
   | zero=>simp at ht; subst ht; simpa using hb
   | succ j =>
    have:=X98 l r (i+1) h j t (by simpa using ht)
    rw [show i+(j+1)=i+1+j by omega]; exact this
theorem Xm1 {l:List Sv} (h:(X4a l).1=0) (j:Nat) (t:Sv) (ht:l[j]?=some t):bad l j t=0:=by
 have:=X98 l l 0 h j t ht
 rw [Yc] at this; exact this
theorem Xro {l:List Sv} {i:Nat} {s:Sv} (h:bad l i s=0):i≠16/\(l.take i).any (fun t=>t.id == s.id)=false/\(chk s.urls).1=0/\(chk s.calls).1=0:=by
 unfold bad at h;split at h
 ·cases h
 ·rename_i h16
  split at h
  ·cases h
  ·split at h
   ·cases h
   ·rename_i h7
    split at h
    ·cases h
    ·rename_i h8
     simp only [Y1j,not_or,bne_iff_ne,ne_eq,Decidable.not_not] at h8
     exact ⟨h16,by simpa using h7,h8.1,h8.2⟩
theorem Xtm {l:List Sv} (h:(X4a l).1=0):right l:=fun s hs=>by
 obtain ⟨j,hj⟩:=Yy.1 hs;obtain ⟨_,_,h1,h2⟩:=Xro (Xm1 h j s hj);exact ⟨Xc6 h1,Xc6 h2⟩
theorem Xwb {l:List Sv} {D:List Int} (s:List UInt8):Xha l D s=X20 (X4w l D) s:=by
 unfold Xha X20 X4w;rw [List.find?_map];split
 ·rfl
 ·split
  ·rfl
  ·show (match D.find? (fun d=>(Xbg (l.getD d.toNat z0).urls (Ul.nU s).1).1) with
    | none=>(z0,[],31)
    | some d=>(l.getD d.toNat z0,(Ul.nU s).1,0))=(match (D.find? ((fun t=>(Xbg t.urls (Ul.nU s).1).1) ∘ fun d=>l.getD d.toNat z0)).map (fun d=>l.getD d.toNat z0) with
    | none=>(z0,[],31)
    | some t=>(t,(Ul.nU s).1,0))
   rw [show ((fun t=>(Xbg t.urls (Ul.nU s).1).1) ∘ fun d=>l.getD d.toNat z0)=(fun d:Int=>(Xbg (l.getD d.toNat z0).urls (Ul.nU s).1).1) from rfl];cases D.find? (fun d=>(Xbg (l.getD d.toNat z0).urls (Ul.nU s).1).1) <;> rfl
end Go.Proofs.YtbciobiiejpdgaaGreatDoor
namespace Go.Proofs.YtbciobiiejpdgaaGreatDoor
open Gk Ul Pc Tk Tr
def X4b (Z:Wd) (r:Rec):Wd:={ Z with l:=add Z.room Z.l r }
theorem Xvq {Z:Wd} (h:Xc2 Z) (r:Rec):Xc2 (X4b Z r):=by
 refine ⟨?_,h.wf.add,h.D,h.now,h.room⟩;show (add Z.room Z.l r).length<=64
 unfold add;split
 ·rename_i e
  have:=(Xu3 e).2.2.2
  have:=h.room
  rw [Y0,List.length_cons,List.length_nil]; omega
 ·exact h.len
theorem X5q:∀ (l:List Rec) {Z:Wd},Xc2 Z->Xc2 (l.foldl X4b Z)
 | [],_,h=>h
 | r::l,_,h=>X5q l (Xvq h r)
def X17 (c:Cf) (l:List Rec) (now:Int):Wd:=Xun (l.foldl X4b (w0 c)) now
theorem Xsw (c:Cf) (l:List Rec) (now:Int):Xc2 (X17 c l now):=Xxk (X5q l (Xq7 c)) now
structure CfAt (I:Im) (c:Cf) (a:Option Addr) (cap:Nat) (ua:Option Addr) (ucap:Nat):Prop where
 svs:SvsAt I a c.svs
 us:UsrsAt I ua c.us
 cap:c.svs.length<=cap/\cap<=maxLen
 un:c.us.length<=9223372036854775807
 sfit:∀ s∈c.svs,s.fits
 ufit:∀ u∈c.us,u.fits
theorem CfAt.mono {I J:Im} {c:Cf} {a ua:Option Addr} {cap ucap:Nat} (h:CfAt I c a cap ua ucap) (hl:Le I J):CfAt J c a cap ua ucap:=⟨h.svs.mono hl,h.us.mono hl,h.cap,h.un,h.sfit,h.ufit⟩
theorem Xab {I:Im} {c:Cf} {a ua:Option Addr} {cap ucap:Nat} (h:CfAt I c a cap ua ucap) (hf:fewC c=true):c.fits:=by
 unfold fewC at hf;simp only [Yn] at hf
 have h1:=Xod hf.1;refine ⟨by omega,Xsg h.sfit,Xsf h.sfit h1.2,h.un,h.ufit⟩
theorem Xpi (r s:Rec) (w:World):(Op.equalIn 10000 75 (.agg (X5 r).toArray) (.agg (X5 s).toArray)).run Tryz.prog w=.ok (decide (r=s)) w:=by
 have hS:Tryz.prog.underlying 75=some (.struct (Tryz.prog.fieldsOf 75)):=by kernel_rfl
 have hp:Tryz.prog.stoodInHeld 75=false:=by kernel_rfl
 have ui:=Qu3;have ai:=Qg3;have us:=Qu9;have as9:=Qg9;have ub:=Qu4;have ab:=Qg4;rw [show (10000:Nat)=9999+1 from rfl,run_equalIn_agg w 9999 75 _ _ hS hp];simp only [Program.fieldsOf,X27]
 obtain ⟨k,n,pa,u,sv,ur,m,us',uc,f⟩:=r;obtain ⟨k',n',pa',u',sv',ur',m',us'',uc',f'⟩:=s;unfold X5
 go_simp
 repeat' split
 all_goals simp_all
theorem Ex.neRec {n:Nat} {L:Env} {w:World} {d:Option Nat} {ty t':TypeId} {pos:String} {af:Array Edge} {g:Option (Nat×Bool)} {x y:Operand} {r s:Rec} (hx:Ev n L x (.agg (X5 r).toArray)) (hy:Ev n L y (.agg (X5 s).toArray)):Ex Tryz.prog n L w ⟨d,.binOp .neq 75 x y t',ty,pos,af,g⟩ (.bool (!decide (r=s))) w :=
 X16 hx hy (fun p q=>run_eqGuard_agg w _ _ _ _ _ _ (by kernel_rfl)) (by rw [run_neq_struct,Xpi]; rfl)
theorem rec_in {α:Type} [BEq α] [LawfulBEq α] {l:List α} {s:α}:l.contains s=true ↔ s∈l:=by simp
def Xb3 (s:List UInt8):List Value:=[S s]
theorem Xx8 (l:List (List UInt8)):X9 Xb3 l=l.map S:=by
 unfold X9
 induction l with
 | nil=>rfl
 | cons x l ih=>rw [Y1b,Y1q,ih]; rfl
theorem In_any (a:Option Addr) (c:Nat) (l:List (List UInt8)) (hl:l.length<=9223372036854775807) (s:List UInt8) (B w:World) (I:Im) (As:List X7) (hE:∀ w,Sat B w I As->X6y w Xb3 1 a l) (hS:Sat B w I As) :
  Cz 50 [.slice a l.length c,S s] w fun v w'=>v=.bool (l.contains s)/\Sat B w' I As:=by
 refine calls Tryz.func50 rfl Tryz.ntmps50 rfl (.seq (.q 1 rfl (.seq (.seq (.q 1 rfl (.block (.loop (σ:=Nat) (fun i=>[(0,.slice a l.length c),(1,S s),(5,I64 (i:Nat))]) (fun i w=>i<=l.length/\(∀ (j:Nat) x,j<i->l[j]?=some x->x≠s)/\Sat B w I As) (fun i=>l.length - i) 0 ⟨rfl,rfl,rfl,trivial⟩ ⟨Yo _,fun _ _ h=>absurd h (by omega),hS⟩ ?_)))))));rintro i w ⟨hi,hno,hS⟩;refine .seq (.seq (.region (.run 4 rfl ⟨⟨_,X1u⟩,trivial⟩ (.nil ?_))));refine .cond rfl (fun hb9=>?_) fun hb9=>?_
 ·have hc9:=hb9; simp only [Y6] at hc9;refine .skip (.seq (.block (.seq ?_)));obtain ⟨x,hx⟩:∃ x,l[i]?=some x:=⟨_,Y4 (by omega)⟩
  obtain ⟨p,rfl,hA⟩:=hE w hS i x hx;have hc0:=hA 0 _ rfl;refine .t 2 rfl (.val (.ii rfl rfl (by omega) (by omega) X1u Qs9) rfl (.val (v:=S x) (.ld1 (.of rfl) (by simpa [Addr.add_add] using hc0) Qg9) rfl (.q 2 rfl (.nil ?_))));refine .cond rfl (fun hb17=>?_) fun hb17=>?_
  ·refine .seq (.q 1 rfl (.ret (Xc Tryz.results50 rfl ?_)));refine ⟨_,rfl,congrArg Value.bool (rec_in.2 ?_).symm,hS⟩;have e:x=s:=by simpa using hb17
   subst e;exact Yl hx
  have hc17:=hb17; simp only [Y6] at hc17;refine .skip (.region (.run 3 rfl ⟨⟨by omega,by omega⟩,trivial⟩ (.nil ?_)));refine ⟨i+1,⟨rfl,rfl,rfl,trivial⟩,⟨by (try dsimp only); omega,fun j y hj hy=>?_,hS⟩,by (try dsimp only); omega⟩;rcases Yp j i with h1 | h1
  ·exact hno j y h1 hy
  ·have e:j=i:=by omega
   subst e;rw [hx] at hy; cases hy;simpa using hb17
 have hc9:=hb9; simp only [Y6] at hc9;refine .exit (.seq (.q 1 rfl (.ret (Xc Tryz.results50 rfl ?_))));refine ⟨_,rfl,congrArg Value.bool (Y4i.2 fun h=>?_).symm,hS⟩;obtain ⟨j,hj⟩:=Yy.1 (rec_in.1 h)
 have:=(Y5.1 hj).1
 exact hno j s (by omega) hj rfl
end Go.Proofs.YtbciobiiejpdgaaGreatDoor
namespace Go.Proofs.YtbciobiiejpdgaaGreatDoor
open Gk Ul Pc Tk Tr Go.RowKit Go.WideShapes Go.ChangeShapes
set_option maxRecDepth 100000
theorem Xp6 {H:Type} {enc:TypeId×Value->H} {W:World} {spare:Nat->Bool} {held:Bool} {fuel:Nat} {cs:List Value} {x:DataW H×List MemPlace} (h:DataW.trod enc Tryz.prog W 0 spare held fuel 136 cs=some x):∃ z:Pr,cs=X1i z/\X1n z:=by
 obtain ⟨xs,n,_,_,hcl,hxl,hf⟩:=DataW.trod_struct X3j h;rw [show Tryz.prog.cellsOf 136=2 from by kernel_rfl] at hcl;obtain ⟨y0,hy0⟩:∃ y,DataW.trod enc Tryz.prog W 0 spare held n 9 ((cs.drop 0).take (Tryz.prog.cellsOf 9))=some y:=⟨_,(hf 0 _ rfl).trans (Y4 (by rw [hxl]; decide))⟩
 rw [show Tryz.prog.cellsOf 9=1 from by kernel_rfl] at hy0;obtain ⟨y1,hy1⟩:∃ y,DataW.trod enc Tryz.prog W 0 spare held n 9 ((cs.drop 1).take (Tryz.prog.cellsOf 9))=some y:=⟨_,(hf 1 _ rfl).trans (Y4 (by rw [hxl]; decide))⟩
 rw [show Tryz.prog.cellsOf 9=1 from by kernel_rfl] at hy1;obtain ⟨v0,v1,rfl⟩:∃ v0 v1,cs=[v0,v1]:=by
  match cs,hcl with
  | [v0,v1],_=>exact ⟨v0,v1,rfl⟩
 simp only [Y7,Yh,Y1l,Yk] at hy0 hy1
 obtain ⟨z0,e0,_,w0⟩:=DataW.trod_string Qu9 hy0;obtain ⟨z1,e1,_,w1⟩:=DataW.trod_string Qu9 hy1;simp only [List.cons.injEq,and_true] at e0 e1
 subst e0 e1;exact ⟨(z0.data.toList,z1.data.toList),rfl,⟨w0,w1⟩⟩
def Xuk (r:Rec):Prop:=r.name.length<=maxLen/\r.parent.length<=maxLen/\r.user.length<=maxLen/\r.service.length<=maxLen/\r.url.length<=maxLen
theorem Xtd {H:Type} {enc:TypeId×Value->H} {W:World} {spare:Nat->Bool} {held:Bool} {fuel:Nat} {cs:List Value} {x:DataW H×List MemPlace} (h:DataW.trod enc Tryz.prog W 0 spare held fuel 75 cs=some x):∃ z:Rec,cs=X5 z/\Xuk z:=by
 obtain ⟨xs,n,_,_,hcl,hxl,hf⟩:=DataW.trod_struct X27 h;rw [show Tryz.prog.cellsOf 75=10 from by kernel_rfl] at hcl;obtain ⟨y0,hy0⟩:∃ y,DataW.trod enc Tryz.prog W 0 spare held n 3 ((cs.drop 0).take (Tryz.prog.cellsOf 3))=some y:=⟨_,(hf 0 _ rfl).trans (Y4 (by rw [hxl]; decide))⟩
 rw [show Tryz.prog.cellsOf 3=1 from by kernel_rfl] at hy0;obtain ⟨y1,hy1⟩:∃ y,DataW.trod enc Tryz.prog W 0 spare held n 9 ((cs.drop 1).take (Tryz.prog.cellsOf 9))=some y:=⟨_,(hf 1 _ rfl).trans (Y4 (by rw [hxl]; decide))⟩
 rw [show Tryz.prog.cellsOf 9=1 from by kernel_rfl] at hy1;obtain ⟨y2,hy2⟩:∃ y,DataW.trod enc Tryz.prog W 0 spare held n 9 ((cs.drop 2).take (Tryz.prog.cellsOf 9))=some y:=⟨_,(hf 2 _ rfl).trans (Y4 (by rw [hxl]; decide))⟩
 rw [show Tryz.prog.cellsOf 9=1 from by kernel_rfl] at hy2;obtain ⟨y3,hy3⟩:∃ y,DataW.trod enc Tryz.prog W 0 spare held n 9 ((cs.drop 3).take (Tryz.prog.cellsOf 9))=some y:=⟨_,(hf 3 _ rfl).trans (Y4 (by rw [hxl]; decide))⟩
 rw [show Tryz.prog.cellsOf 9=1 from by kernel_rfl] at hy3;obtain ⟨y4,hy4⟩:∃ y,DataW.trod enc Tryz.prog W 0 spare held n 9 ((cs.drop 4).take (Tryz.prog.cellsOf 9))=some y:=⟨_,(hf 4 _ rfl).trans (Y4 (by rw [hxl]; decide))⟩
 rw [show Tryz.prog.cellsOf 9=1 from by kernel_rfl] at hy4;obtain ⟨y5,hy5⟩:∃ y,DataW.trod enc Tryz.prog W 0 spare held n 9 ((cs.drop 5).take (Tryz.prog.cellsOf 9))=some y:=⟨_,(hf 5 _ rfl).trans (Y4 (by rw [hxl]; decide))⟩
 rw [show Tryz.prog.cellsOf 9=1 from by kernel_rfl] at hy5;obtain ⟨y6,hy6⟩:∃ y,DataW.trod enc Tryz.prog W 0 spare held n 3 ((cs.drop 6).take (Tryz.prog.cellsOf 3))=some y:=⟨_,(hf 6 _ rfl).trans (Y4 (by rw [hxl]; decide))⟩
 rw [show Tryz.prog.cellsOf 3=1 from by kernel_rfl] at hy6;obtain ⟨y7,hy7⟩:∃ y,DataW.trod enc Tryz.prog W 0 spare held n 3 ((cs.drop 7).take (Tryz.prog.cellsOf 3))=some y:=⟨_,(hf 7 _ rfl).trans (Y4 (by rw [hxl]; decide))⟩
 rw [show Tryz.prog.cellsOf 3=1 from by kernel_rfl] at hy7;obtain ⟨y8,hy8⟩:∃ y,DataW.trod enc Tryz.prog W 0 spare held n 3 ((cs.drop 8).take (Tryz.prog.cellsOf 3))=some y:=⟨_,(hf 8 _ rfl).trans (Y4 (by rw [hxl]; decide))⟩
 rw [show Tryz.prog.cellsOf 3=1 from by kernel_rfl] at hy8;obtain ⟨y9,hy9⟩:∃ y,DataW.trod enc Tryz.prog W 0 spare held n 4 ((cs.drop 9).take (Tryz.prog.cellsOf 4))=some y:=⟨_,(hf 9 _ rfl).trans (Y4 (by rw [hxl]; decide))⟩
 rw [show Tryz.prog.cellsOf 4=1 from by kernel_rfl] at hy9;obtain ⟨v0,v1,v2,v3,v4,v5,v6,v7,v8,v9,rfl⟩:∃ v0 v1 v2 v3 v4 v5 v6 v7 v8 v9,cs=[v0,v1,v2,v3,v4,v5,v6,v7,v8,v9]:=by
  match cs,hcl with
  | [v0,v1,v2,v3,v4,v5,v6,v7,v8,v9],_=>exact ⟨v0,v1,v2,v3,v4,v5,v6,v7,v8,v9,rfl⟩
 simp only [Y7,Yh,Y1l,Yk] at hy0 hy1 hy2 hy3 hy4 hy5 hy6 hy7 hy8 hy9
 obtain ⟨z0,e0,_,w0⟩:=DataW.trod_int Qu3 hy0;obtain ⟨z1,e1,_,w1⟩:=DataW.trod_string Qu9 hy1;obtain ⟨z2,e2,_,w2⟩:=DataW.trod_string Qu9 hy2;obtain ⟨z3,e3,_,w3⟩:=DataW.trod_string Qu9 hy3;obtain ⟨z4,e4,_,w4⟩:=DataW.trod_string Qu9 hy4;obtain ⟨z5,e5,_,w5⟩:=DataW.trod_string Qu9 hy5;obtain ⟨z6,e6,_,w6⟩:=DataW.trod_int Qu3 hy6;obtain ⟨z7,e7,_,w7⟩:=DataW.trod_int Qu3 hy7;obtain ⟨z8,e8,_,w8⟩:=DataW.trod_int Qu3 hy8;obtain ⟨z9,e9,_⟩:=DataW.trod_bool Qu4 hy9;simp only [List.cons.injEq,and_true] at e0 e1 e2 e3 e4 e5 e6 e7 e8 e9
 subst e0 e1 e2 e3 e4 e5 e6 e7 e8 e9;exact ⟨⟨z0,z1.data.toList,z2.data.toList,z3.data.toList,z4.data.toList,z5.data.toList,z6,z7,z8,z9⟩,rfl,⟨w1,w2,w3,w4,w5⟩⟩
theorem Xfo {α:Type} {cells:α->List Value} {c:Nat} {fit:α->Prop} {t e:TypeId} {H:Type} {enc:TypeId×Value->H} {W:World} {spare:Nat->Bool} {held:Bool} {fuel:Nat} {cs:List Value} {x:DataW H×List MemPlace} (ht:Tryz.prog.underlying t=some (.slice e)) (hc:Tryz.prog.cellsOf e=c) (hc0:0<c)
  (one:∀ n cs y,DataW.trod enc Tryz.prog W 0 spare held n e cs=some y->∃ z:α,cs=cells z/\fit z) (h:DataW.trod enc Tryz.prog W 0 spare held fuel t cs=some x) :
  ∃ (a:Option Addr) (cap:Nat) (l:List α),cs=[.slice a l.length cap]/\l.length<=cap/\cap<=maxLen/\RS (im0 W) a c l.length (X9 cells l)/\∀ z∈l,fit z:=by
 obtain ⟨a,cap,L,n,rfl,h1,h2,h3,h4,h5⟩:=X7e ht hc hc0 h;have key:∀ L:List (List Value),(∀ l∈L,∃ y,DataW.trod enc Tryz.prog W 0 spare held n e l=some y)->∃ l:List α,L=l.map cells/\∀ z∈l,fit z:=by
  intro L
  induction L with
  | nil=>intro _; exact ⟨[],rfl,fun z h=>by simp at h⟩
  | cons c L ih =>
   intro h;obtain ⟨y,hy⟩:=h c (by simp);obtain ⟨z,rfl,hf⟩:=one n c y hy;obtain ⟨l,rfl,e2⟩:=ih (fun c hc=>h c (by simp [hc]));exact ⟨z::l,rfl,fun u hu=>by
    rcases Y17.1 hu with e | hu
    ·subst e; exact hf
    ·exact e2 u hu⟩
 obtain ⟨l,rfl,hfit⟩:=key L h5;rw [Y14] at h1 h4;exact ⟨a,cap,l,by rw [Y14],h1,h2,h4,hfit⟩
theorem Xtf {H:Type} {enc:TypeId×Value->H} {W:World} {spare:Nat->Bool} {held:Bool} {fuel:Nat} {cs:List Value} {x:DataW H×List MemPlace} (h:DataW.trod enc Tryz.prog W 0 spare held fuel 183 cs=some x):∃ u:Us,UsAt (im0 W) u cs/\u.fits:=by
 obtain ⟨xs,n,_,_,hcl,hxl,hf⟩:=DataW.trod_struct X2t h;rw [show Tryz.prog.cellsOf 183=3 from by kernel_rfl] at hcl;obtain ⟨y0,hy0⟩:∃ y,DataW.trod enc Tryz.prog W 0 spare held n 9 ((cs.drop 0).take (Tryz.prog.cellsOf 9))=some y:=⟨_,(hf 0 _ rfl).trans (Y4 (by rw [hxl]; decide))⟩
 rw [show Tryz.prog.cellsOf 9=1 from by kernel_rfl] at hy0;obtain ⟨y1,hy1⟩:∃ y,DataW.trod enc Tryz.prog W 0 spare held n 9 ((cs.drop 1).take (Tryz.prog.cellsOf 9))=some y:=⟨_,(hf 1 _ rfl).trans (Y4 (by rw [hxl]; decide))⟩
 rw [show Tryz.prog.cellsOf 9=1 from by kernel_rfl] at hy1;obtain ⟨y2,hy2⟩:∃ y,DataW.trod enc Tryz.prog W 0 spare held n 123 ((cs.drop 2).take (Tryz.prog.cellsOf 123))=some y:=⟨_,(hf 2 _ rfl).trans (Y4 (by rw [hxl]; decide))⟩
 rw [show Tryz.prog.cellsOf 123=1 from by kernel_rfl] at hy2;obtain ⟨v0,v1,v2,rfl⟩:∃ v0 v1 v2,cs=[v0,v1,v2]:=by
  match cs,hcl with
  | [v0,v1,v2],_=>exact ⟨v0,v1,v2,rfl⟩
 simp only [Y7,Yh,Y1l,Yk] at hy0 hy1 hy2
 obtain ⟨z0,e0,_,w0⟩:=DataW.trod_string Qu9 hy0;obtain ⟨z1,e1,_,w1⟩:=DataW.trod_string Qu9 hy1;obtain ⟨a,c,l,e2,h1,h2,h3,h4⟩:=Xfo (cells:=X1i) (c:=2) (fit:=X1n) X2e (by kernel_rfl) (by decide) (fun n cs y h=>Xp6 h) hy2;simp only [List.cons.injEq,and_true] at e0 e1 e2
 subst e0 e1 e2;exact ⟨⟨z0.data.toList,z1.data.toList,l⟩,⟨a,c,rfl,h1,h3⟩,⟨w0,w1,Y3x h1 h2,h4⟩⟩
theorem Xp8 {H:Type} {enc:TypeId×Value->H} {W:World} {spare:Nat->Bool} {held:Bool} {fuel:Nat} {cs:List Value} {x:DataW H×List MemPlace} (h:DataW.trod enc Tryz.prog W 0 spare held fuel 23 cs=some x):∃ (a:Option Addr) (cap:Nat) (l:List Us),cs=[.slice a l.length cap]/\l.length<=cap/\cap<=maxLen/\UsrsAt (im0 W) a l/\∀ u∈l,u.fits:=by
 obtain ⟨a,cap,L,n,rfl,h1,h2,h3,h4,h5⟩:=X7e (c:=3) Xgs (by kernel_rfl) (by decide) h;have key:∀ L:List (List Value),(∀ l∈L,∃ y,DataW.trod enc Tryz.prog W 0 spare held n 183 l=some y)->∃ l:List Us,L.length=l.length/\∀ (i:Nat) (u:Us),l[i]?=some u->u.fits/\∃ c,L[i]?=some c/\UsAt (im0 W) u c:=by
  intro L
  induction L with
  | nil=>intro _; exact ⟨[],rfl,fun i s h=>by simp at h⟩
  | cons c L ih =>
   intro h;obtain ⟨y,hy⟩:=h c (by simp);obtain ⟨s,hs,hf⟩:=Xtf hy;obtain ⟨l,e1,e2⟩:=ih (fun c hc=>h c (by simp [hc]));refine ⟨s::l,by simp [e1],fun i u hu=>?_⟩;cases i with
   | zero=>simp at hu; subst hu; exact ⟨hf,c,rfl,hs⟩
   | succ i=>simpa using e2 i u (by simpa using hu)
 obtain ⟨l,e1,e2⟩:=key L h5;refine ⟨a,cap,l,by rw [e1],by rw [<- e1]; exact h1,h2,fun i u hu=>?_,fun u hu=>?_⟩
 ·obtain ⟨_,c,hc,ra,rc,rfl,h6,h7⟩:=e2 i u hu;obtain ⟨p,rfl,hp⟩:=h4.2 (by have:=(Y5.1 hc).1; omega);have h8:=X50 (hp.add (i*3)) 3;rw [X1f L h3 i _ hc] at h8;exact ⟨p,ra,rc,rfl,h8,h6,h7⟩
 ·obtain ⟨i,hi⟩:=Yy.1 hu;exact (e2 i u hi).1
theorem Xdk {H:Type} {enc:TypeId×Value->H} {W:World} {spare:Nat->Bool} {held:Bool} {fuel:Nat} {cs:List Value} {x:DataW H×List MemPlace} (h:DataW.trod enc Tryz.prog W 0 spare held fuel 24 cs=some x):∃ l:List Int,l.length=7/\cs=l.map I64:=by
 obtain ⟨xs,n,_,_,hcl,hxl,hf⟩:=DataW.trod_array Xqd h;rw [show Tryz.prog.cellsOf 24=7 from by kernel_rfl] at hcl;rw [show Tryz.prog.cellsOf 3=1 from by kernel_rfl] at hf;have each:∀ v∈cs,∃ z:Int,v=I64 z:=by
  intro v hv;obtain ⟨i,hi⟩:=Yy.1 hv;have hil:=(Y5.1 hi).1;obtain ⟨y,hy⟩:∃ y,xs[i]?=some y:=⟨_,Y4 (by omega)⟩
  have h2:=(hf i (by omega)).trans hy;obtain ⟨z,e,_⟩:=DataW.trod_int Qu3 h2;rw [Y1n,Y13 hil,Y1l,Yk,(Y5.1 hi).2] at e;exact ⟨z,(List.cons.inj e).1⟩
 have key:∀ cs:List Value,(∀ v∈cs,∃ z:Int,v=I64 z)->∃ l:List Int,cs=l.map I64:=by
  intro cs
  induction cs with
  | nil=>intro _; exact ⟨[],rfl⟩
  | cons v r ih =>
   intro h;obtain ⟨z,rfl⟩:=h v (by simp);obtain ⟨l,rfl⟩:=ih (fun v hv=>h v (by simp [hv]));exact ⟨z::l,rfl⟩
 obtain ⟨l,rfl⟩:=key cs each;exact ⟨l,by simpa using hcl,rfl⟩
theorem psL_of {L:List Int} (h:L.length=21):psL (fun i=>L.getD i 0)=L:=by
 match L,h with
 | [a0,a1,a2,a3,a4,a5,a6,a7,a8,a9,a10,a11,a12,a13,a14,a15,a16,a17,a18,a19,a20],_=>rfl
theorem Xtc {H:Type} {enc:TypeId×Value->H} {W:World} {spare:Nat->Bool} {held:Bool} {fuel:Nat} {cs:List Value} {x:DataW H×List MemPlace} (h:DataW.trod enc Tryz.prog W 0 spare held fuel 26 cs=some x):∃ p:Nat->Int,cs=(psL p).map I64:=by
 obtain ⟨xs,n,_,_,hcl,hxl,hf⟩:=DataW.trod_struct Xqe h;rw [show Tryz.prog.cellsOf 26=21 from by kernel_rfl] at hcl;obtain ⟨y0,hy0⟩:∃ y,DataW.trod enc Tryz.prog W 0 spare held n 24 ((cs.drop 0).take (Tryz.prog.cellsOf 24))=some y:=⟨_,(hf 0 _ rfl).trans (Y4 (by rw [hxl]; decide))⟩
 rw [show Tryz.prog.cellsOf 24=7 from by kernel_rfl] at hy0;obtain ⟨y1,hy1⟩:∃ y,DataW.trod enc Tryz.prog W 0 spare held n 24 ((cs.drop 7).take (Tryz.prog.cellsOf 24))=some y:=⟨_,(hf 1 _ rfl).trans (Y4 (by rw [hxl]; decide))⟩
 rw [show Tryz.prog.cellsOf 24=7 from by kernel_rfl] at hy1;obtain ⟨y2,hy2⟩:∃ y,DataW.trod enc Tryz.prog W 0 spare held n 24 ((cs.drop 14).take (Tryz.prog.cellsOf 24))=some y:=⟨_,(hf 2 _ rfl).trans (Y4 (by rw [hxl]; decide))⟩
 rw [show Tryz.prog.cellsOf 24=7 from by kernel_rfl] at hy2;obtain ⟨v0,v1,v2,v3,v4,v5,v6,v7,v8,v9,v10,v11,v12,v13,v14,v15,v16,v17,v18,v19,v20,rfl⟩:∃ v0 v1 v2 v3 v4 v5 v6 v7 v8 v9 v10 v11 v12 v13 v14 v15 v16 v17 v18 v19 v20,cs=[v0,v1,v2,v3,v4,v5,v6,v7,v8,v9,v10,v11,v12,v13,v14,v15,v16,v17,v18,v19,v20]:=by
  match cs,hcl with
  | [v0,v1,v2,v3,v4,v5,v6,v7,v8,v9,v10,v11,v12,v13,v14,v15,v16,v17,v18,v19,v20],_=>exact ⟨v0,v1,v2,v3,v4,v5,v6,v7,v8,v9,v10,v11,v12,v13,v14,v15,v16,v17,v18,v19,v20,rfl⟩
 simp only [Y7,Yh,Y1l,Yk] at hy0 hy1 hy2
 obtain ⟨l0,h0,e0⟩:=Xdk hy0;obtain ⟨l1,h1,e1⟩:=Xdk hy1;obtain ⟨l2,h2,e2⟩:=Xdk hy2;refine ⟨fun i=>(l0 ++ (l1 ++ l2)).getD i 0,?_⟩;rw [psL_of (by simp only [Y0]; omega),Yw,Yw,<- e0,<- e1,<- e2];rfl
theorem Xtb {H:Type} {enc:TypeId×Value->H} {W:World} {spare:Nat->Bool} {held:Bool} {fuel:Nat} {cs:List Value} {x:DataW H×List MemPlace} (h:DataW.trod enc Tryz.prog W 0 spare held fuel 29 cs=some x):∃ (c:Cf) (a:Option Addr) (cap:Nat) (ua:Option Addr) (ucap:Nat),cs=X1v c a cap ua ucap/\CfAt (im0 W) c a cap ua ucap:=by
 obtain ⟨xs,n,_,_,hcl,hxl,hf⟩:=DataW.trod_struct Xe5 h;rw [show Tryz.prog.cellsOf 29=28 from by kernel_rfl] at hcl;obtain ⟨y0,hy0⟩:∃ y,DataW.trod enc Tryz.prog W 0 spare held n 22 ((cs.drop 0).take (Tryz.prog.cellsOf 22))=some y:=⟨_,(hf 0 _ rfl).trans (Y4 (by rw [hxl]; decide))⟩
 rw [show Tryz.prog.cellsOf 22=1 from by kernel_rfl] at hy0;obtain ⟨y1,hy1⟩:∃ y,DataW.trod enc Tryz.prog W 0 spare held n 23 ((cs.drop 1).take (Tryz.prog.cellsOf 23))=some y:=⟨_,(hf 1 _ rfl).trans (Y4 (by rw [hxl]; decide))⟩
 rw [show Tryz.prog.cellsOf 23=1 from by kernel_rfl] at hy1;obtain ⟨y2,hy2⟩:∃ y,DataW.trod enc Tryz.prog W 0 spare held n 26 ((cs.drop 2).take (Tryz.prog.cellsOf 26))=some y:=⟨_,(hf 2 _ rfl).trans (Y4 (by rw [hxl]; decide))⟩
 rw [show Tryz.prog.cellsOf 26=21 from by kernel_rfl] at hy2;obtain ⟨y3,hy3⟩:∃ y,DataW.trod enc Tryz.prog W 0 spare held n 3 ((cs.drop 23).take (Tryz.prog.cellsOf 3))=some y:=⟨_,(hf 3 _ rfl).trans (Y4 (by rw [hxl]; decide))⟩
 rw [show Tryz.prog.cellsOf 3=1 from by kernel_rfl] at hy3;obtain ⟨y4,hy4⟩:∃ y,DataW.trod enc Tryz.prog W 0 spare held n 27 ((cs.drop 24).take (Tryz.prog.cellsOf 27))=some y:=⟨_,(hf 4 _ rfl).trans (Y4 (by rw [hxl]; decide))⟩
 rw [show Tryz.prog.cellsOf 27=1 from by kernel_rfl] at hy4;obtain ⟨y5,hy5⟩:∃ y,DataW.trod enc Tryz.prog W 0 spare held n 27 ((cs.drop 25).take (Tryz.prog.cellsOf 27))=some y:=⟨_,(hf 5 _ rfl).trans (Y4 (by rw [hxl]; decide))⟩
 rw [show Tryz.prog.cellsOf 27=1 from by kernel_rfl] at hy5;obtain ⟨y6,hy6⟩:∃ y,DataW.trod enc Tryz.prog W 0 spare held n 27 ((cs.drop 26).take (Tryz.prog.cellsOf 27))=some y:=⟨_,(hf 6 _ rfl).trans (Y4 (by rw [hxl]; decide))⟩
 rw [show Tryz.prog.cellsOf 27=1 from by kernel_rfl] at hy6;obtain ⟨y7,hy7⟩:∃ y,DataW.trod enc Tryz.prog W 0 spare held n 3 ((cs.drop 27).take (Tryz.prog.cellsOf 3))=some y:=⟨_,(hf 7 _ rfl).trans (Y4 (by rw [hxl]; decide))⟩
 rw [show Tryz.prog.cellsOf 3=1 from by kernel_rfl] at hy7;obtain ⟨v0,v1,v2,v3,v4,v5,v6,v7,v8,v9,v10,v11,v12,v13,v14,v15,v16,v17,v18,v19,v20,v21,v22,v23,v24,v25,v26,v27,rfl⟩:∃ v0 v1 v2 v3 v4 v5 v6 v7 v8 v9 v10 v11 v12 v13 v14 v15 v16 v17 v18 v19 v20 v21 v22 v23 v24 v25 v26 v27,cs=[v0,v1,v2,v3,v4,v5,v6,v7,v8,v9,v10,v11,v12,v13,v14,v15,v16,v17,v18,v19,v20,v21,v22,v23,v24,v25,v26,v27]:=by
  match cs,hcl with
  | [v0,v1,v2,v3,v4,v5,v6,v7,v8,v9,v10,v11,v12,v13,v14,v15,v16,v17,v18,v19,v20,v21,v22,v23,v24,v25,v26,v27],_=>exact ⟨v0,v1,v2,v3,v4,v5,v6,v7,v8,v9,v10,v11,v12,v13,v14,v15,v16,v17,v18,v19,v20,v21,v22,v23,v24,v25,v26,v27,rfl⟩
 simp only [Y7,Yh,Y1l,Yk] at hy0 hy1 hy2 hy3 hy4 hy5 hy6 hy7
 obtain ⟨a,cap,L,l,e0,h1,h2,h3,h4,h5,h6⟩:=Xp7 hy0;obtain ⟨ua,ucap,us,e1,h7,h8,h9,h10⟩:=Xp8 hy1;obtain ⟨ps,e2⟩:=Xtc hy2;obtain ⟨z3,e3,_⟩:=DataW.trod_int Qu3 hy3;obtain ⟨z4,e4,_⟩:=X4q Qu27 hy4;obtain ⟨z5,e5,_⟩:=X4q Qu27 hy5;obtain ⟨z6,e6,_⟩:=X4q Qu27 hy6;obtain ⟨z7,e7,_⟩:=DataW.trod_int Qu3 hy7;simp only [List.cons.injEq,and_true] at e0 e1 e3 e4 e5 e6 e7
 subst e0 e1 e3 e4 e5 e6 e7;refine ⟨⟨l,us,ps,z3,z4,z5,z6,z7⟩,a,cap,ua,ucap,?_,svs_of h4 h5 (fun i s hs=>(h6 i s hs).2),h9,⟨by rw [<- h3]; exact h1,h2⟩,Y3x h7 h8,fun s hs=>?_,h10⟩
 ·show _=Value.slice a l.length cap::Value.slice ua us.length ucap::((psL ps).map I64 ++ _)
  rw [<- e2,<- h3]; rfl
 ·obtain ⟨i,hi⟩:=Yy.1 hs;exact (h6 i s hi).1
end Go.Proofs.YtbciobiiejpdgaaGreatDoor
namespace Go.Proofs.YtbciobiiejpdgaaGreatDoor
open Gk Ul Pc Tk Tr
structure Op where
 act:Int
 n:Int
 d:List Nat
 a:Int
 b:List UInt8
 c:List UInt8
 f:Bool
 r:Rec
 q:Ak
def Xww (o:Op) (da:Option Addr) (dc:Nat):List Value:=[I64 o.act,I64 o.n,.slice da o.d.length dc,I64 o.a,S o.b,S o.c,.bool o.f,I64 o.r.kind,S o.r.name,S o.r.parent,S o.r.user,S o.r.service,S o.r.url,I64 o.r.made,I64 o.r.used,I64 o.r.uses,.bool o.r.fresh,S o.q.service,S o.q.cookie,.bool o.q.has,.bool o.q.renew,.bool o.q.gateway,.bool o.q.warn]
def OpAt (I:Im) (o:Op) (cs:List Value):Prop:=∃ da dc,cs=Xww o da dc/\o.d.length<=dc/\dc<=maxLen/\RS I da 1 o.d.length (o.d.map fun d=>U64 (d:Nat))
def OpsAt (I:Im) (a:Option Addr) (l:List Op):Prop:=∃ L:List (List Value),L.length=l.length/\(∀ c∈L,c.length=23)/\RS I a 23 l.length L.flatten/\∀ (i:Nat) (o:Op),l[i]?=some o->∃ cs,L[i]?=some cs/\OpAt I o cs
theorem OpAt.mono {I J:Im} {o:Op} {cs:List Value} (h:OpAt I o cs) (hl:Le I J):OpAt J o cs:=by
 obtain ⟨da,dc,e,h1,h2,h3⟩:=h;exact ⟨da,dc,e,h1,h2,h3.mono hl⟩
theorem OpsAt.mono {I J:Im} {a:Option Addr} {l:List Op} (h:OpsAt I a l) (hl:Le I J):OpsAt J a l:=by
 obtain ⟨L,h1,h2,h3,h4⟩:=h;exact ⟨L,h1,h2,h3.mono hl,fun i o ho=>by
  obtain ⟨cs,h5,h6⟩:=h4 i o ho;exact ⟨cs,h5,h6.mono hl⟩⟩
theorem OpsAt.at {I:Im} {a:Option Addr} {l:List Op} (h:OpsAt I a l) (i:Nat) (u:Op) (hu:l[i]?=some u):∃ p cs,a=some p/\At I (p.add (i*23)) cs/\OpAt I u cs:=by
 obtain ⟨L,h1,h2,h3,h4⟩:=h;obtain ⟨cs,h5,h6⟩:=h4 i u hu;obtain ⟨p,rfl,hp⟩:=h3.2 (by have:=(Y5.1 hu).1; omega);refine ⟨p,cs,rfl,?_,h6⟩;have h8:=X50 (hp.add (i*23)) 23;rw [X1f L h2 i _ h5] at h8;exact h8
structure Op.fits (o:Op):Prop where
 d:∀ x∈o.d,x<18446744073709551616
 b:o.b.length<=maxLen
 c:o.c.length<=maxLen
theorem Xeq (a b:Option Addr) (ca cb:Nat) (la lb:List Rec) (hla:la.length<=9223372036854775807) (B w:World) (I:Im) (hA:RS I a 10 la.length (X9 X5 la)) (hB:RS I b 10 lb.length (X9 X5 lb)) (As:List X7) (hS:Sat B w I As) :
  Cz 44 [.slice a la.length ca,.slice b lb.length cb] w fun v w'=>v=.bool (decide (la=lb))/\Sat B w' I As:=by
 refine calls Tryz.func44 rfl Tryz.ntmps44 rfl (.seq (.q 1 rfl (.seq (.seq (.region (.run 5 rfl ⟨⟨_,X2y⟩,⟨_,X2y⟩,trivial⟩ (.nil ?_)))))));refine .cond rfl (fun hb10=>?_) fun hb10=>?_
 ·refine .seq (.q 1 rfl (.ret (Xc Tryz.results44 rfl ?_)));refine ⟨_,rfl,congrArg Value.bool (decide_eq_false fun e=>?_).symm,hS⟩;subst e;simp at hb10
 have hc10:=hb10; simp only [Y6] at hc10;refine .skip (.seq (.seq (.q 1 rfl (.block (.loop (σ:=Nat) (fun i=>[(0,.slice a la.length ca),(1,.slice b lb.length cb),(5,I64 (i:Nat))]) (fun i w=>i<=la.length/\(∀ (j:Nat),j<i->la[j]?=lb[j]?)/\Sat B w I As) (fun i=>la.length - i) 0 ⟨rfl,rfl,rfl,trivial⟩ ⟨Yo _,fun _ h=>absurd h (by omega),hS⟩ ?_)))));rintro i w ⟨hi,hsm,hS⟩;refine .seq (.seq (.region (.run 4 rfl ⟨⟨_,X2y⟩,trivial⟩ (.nil ?_))));refine .cond rfl (fun hb14=>?_) fun hb14=>?_
 ·have hc14:=hb14; simp only [Y6] at hc14;refine .skip (.seq (.block (.seq ?_)));obtain ⟨x,hx0⟩:∃ x,la[i]?=some x:=⟨_,Y4 (by omega)⟩
  obtain ⟨y,hy0⟩:∃ y,lb[i]?=some y:=⟨_,Y4 (by omega)⟩
  obtain ⟨p,hp9,hx⟩:=X9f (cells:=X5) (s:=10) (fun _=>rfl) hA hx0;obtain ⟨p2,hp8,hy⟩:=X9f (cells:=X5) (s:=10) (fun _=>rfl) hB hy0;subst hp9;subst hp8;refine .qt hS (.val (fun w hS=>(.mo rfl)) rfl (.val (fun w hS=>(.mo rfl)) rfl ?_));refine .val (fun w hS=>(by exact .ii rfl rfl (by omega) (by omega) X2y X29)) rfl ?_;refine .val (fun w hS=>.ldsI (.of rfl) hS hx Xbn X29 rfl (fun _ _ h=>h)) rfl (.val (fun w hS=>(.mo rfl)) rfl (.val (fun w hS=>(.mo rfl)) rfl ?_));refine .val (fun w hS=>(by exact .ii rfl rfl (by omega) (by omega) X2y X29)) rfl ?_;refine .val (fun w hS=>.ldsI (.of rfl) hS hy Xbn X29 rfl (fun _ _ h=>h)) rfl (.val (fun w hS=>Ex.neRec (r:=x) (s:=y) (.of rfl) (.of rfl)) rfl (.nil ?_));intro w hS;refine .cond rfl (fun hb25=>?_) fun hb25=>?_
  ·refine .seq (.q 1 rfl (.ret (Xc Tryz.results44 rfl ?_)));refine ⟨_,rfl,congrArg Value.bool (decide_eq_false fun e=>?_).symm,hS⟩;subst e;rw [hx0] at hy0;cases hy0
   simp at hb25
  have hc25:=hb25; simp only [Y6] at hc25;refine .skip (.region (.run 3 rfl ⟨⟨by omega,by omega⟩,trivial⟩ (.nil ?_)));refine ⟨i+1,⟨rfl,rfl,rfl,trivial⟩,⟨by (try dsimp only); omega,fun j hj=>?_,hS⟩,by (try dsimp only); omega⟩;rcases Yp j i with h1 | h1
  ·exact hsm j h1
  ·have e:j=i:=by omega
   subst e;rw [hx0,hy0,show x=y by simpa using hb25]
 have hc14:=hb14; simp only [Y6] at hc14;refine .exit (.seq (.q 1 rfl (.ret (Xc Tryz.results44 rfl ?_))));refine ⟨_,rfl,congrArg Value.bool (decide_eq_true ?_).symm,hS⟩;refine Y1x fun j=>?_
 rcases Yp j i with h1 | h1
 ·exact hsm j h1
 ·rw [Y1g (by omega),Y1g (by omega)]
theorem Xdd (s:List UInt8) (c:UInt8) (n:Nat):hxS n (s ++ [c])=(hxS n s).bind fun m=>(hx c).map fun d=>16*m+d:=by
 rw [Xhd]
 congr 1
 funext m
 rw [hxS];cases hx c with
 | none=>rfl
 | some d=>rfl
theorem Xaf {c:UInt8} {r:List UInt8}:∀ {s:List UInt8},X6 [45] s=c::r->c=45
 | [],h=>by simp [X6] at h
 | x::s,h=>by
  unfold X6 at h;rw [Y34] at h;split at h
  ·exact Xaf h
  ·rename_i h1
   cases h
   simpa using h1
theorem X1l (cs s:List UInt8):upto cs s ++ X6 cs s=s:=Y4l
theorem Xfr {s t:List UInt8} {k:Nat} (hs:s=pre k ++ 45::t) (hl:t.length=16):s.length=(pre k).length+1+16/\s.take ((pre k).length+1)=pre k ++ [45]/\s.drop ((pre k).length+1)=t:=by
 have e:s=(pre k ++ [45]) ++ t:=by rw [hs]; simp
 have e2:(pre k).length+1=(pre k ++ [45]).length:=by simp
 refine ⟨by rw [hs]; simp [hl],?_,?_⟩
 ·rw [e,e2,Y2d]
 ·rw [e,e2,Y45]
theorem Xjl {s:List UInt8} {k d:Nat} (h:Xt s=some (k,d)):∃ t,s=pre k ++ 45::t/\t.length=16/\hxS 0 t=some d:=by
 unfold Xt at h;split at h
 ·cases h
 ·rename_i hk
  obtain ⟨x,hx,e⟩:=Y1f.1 h;simp only [Prod.mk.injEq] at e
  obtain ⟨e1,rfl⟩:=e;have h1:=Xhi hk;rw [e1] at h1;unfold X41 at hx;split at hx
  ·rename_i hl
   have h2:=X1l [45] s;cases e3:X6 [45] s with
   | nil=>rw [e3] at hl; cases hl
   | cons c r =>
    rw [e3] at hl hx;have h3:c=45:=Xaf e3;subst h3;exact ⟨r,by rw [<- h1]; rw [e3] at h2; exact h2.symm,hl,hx⟩
  ·cases hx
theorem Xtg {k d:Nat} {t:List UInt8} (h1:1<=k) (h2:k<=6) (hl:t.length=16) (hd:hxS 0 t=some d):Xt (pre k ++ 45::t)=some (k,d):=by
 unfold Xt;obtain ⟨e1,e2⟩:=Xrw (p:=pre k) (r:=t) Xtj;rw [e1,e2,Xsp h1 h2,if_neg (by omega),Y7,Yh,X41,if_pos hl,hd];rfl
theorem Xti {k:Nat} (h1:1<=k) (h2:k<=6):Xqi (k:Int)=pre k:=by
 unfold Xqi;rw [if_neg (by omega),Yf]
theorem hx_num {c:UInt8} (h1:48<=c.toNat) (h2:c.toNat<=57):hx c=some (c.toNat - 48):=by
 unfold hx;rw [if_pos];simp only [Yn,decide_eq_true_eq,Y1o]
 exact ⟨h1,h2⟩
theorem hx_let {c:UInt8} (h1:97<=c.toNat) (h2:c.toNat<=102):hx c=some (c.toNat - 87):=by
 unfold hx;rw [if_neg,if_pos]
 ·simp only [Yn,decide_eq_true_eq,Y1o]
  exact ⟨h1,h2⟩
 ·simp only [Yn,decide_eq_true_eq,Y1o]
  intro h
  have:c.toNat<=57:=h.2
  omega
theorem hx_no {c:UInt8} (h1:¬(48<=c.toNat/\c.toNat<=57)) (h2:¬(97<=c.toNat/\c.toNat<=102)):hx c=none:=by
 unfold hx;rw [if_neg,if_neg]
 ·simp only [Yn,decide_eq_true_eq,Y1o]; exact h2
 ·simp only [Yn,decide_eq_true_eq,Y1o]; exact h1
theorem Xb4 {s:List UInt8} {n i:Nat} (h1:n<=i) (h2:i<s.length):(s.drop n).take (i+1 - n)=(s.drop n).take (i - n) ++ [at_ s (i:Int)]:=by
 have e:i+1 - n=(i - n)+1:=by omega
 rw [e,Yz,Y1d,show n+(i - n)=i by omega,Xy h2];rfl
theorem Xdq (s:List UInt8) (hsl:s.length<=9223372036854775000) (B w:World) (I:Im) (As:List X7) (hS:Sat B w I As) :
  Cz 30 [S s] w fun v w'=>v=(match Xt s with | some (k,d)=>.tuple #[I64 (k:Nat),U64 (d:Nat),.bool true] | none=>.tuple #[I64 0,U64 0,.bool false])/\Sat B w' I As:=by
 refine calls Tryz.func30 rfl Tryz.ntmps30 rfl (.seq (.q 3 rfl (.seq (.seq (.q 1 rfl (.block ?_))))));refine .loop (σ:=Nat) (fun k=>[(0,S s),(5,I64 (k:Nat))]) (fun k w=>1<=k/\k<=7/\(∀ (j d:Nat),j<k->Xt s≠some (j,d))/\Sat B w I As) (fun k=>7 - k) 1 ⟨rfl,rfl,trivial⟩ ⟨Yq _,by decide,fun j d hj h=>by have:=(X35 h).1; omega,hS⟩ ?_;rintro k w ⟨hk0,hk7,hno,hS⟩;refine .seq (.seq (.q 2 rfl ?_));refine .cond rfl (fun hb13=>?_) fun hb13=>?_
 ·have hc13:=hb13; try simp only [Y6] at hc13
  refine .skip (.seq (.block (.seq ?_)));have hk1:1<=k/\k<=6:=by omega
  have hpr:=Xti hk1.1 hk1.2;have hp6:(pre k).length<=6:=by rw [<- hpr]; exact Xpg _
  have hn9:(pre k ++ [45]).length=(pre k).length+1:=by simp
  refine .t 1 rfl (.call Tryz.func70 rfl (ec9 rfl X0) rfl (X7i (k:Int) B _ I _ hS) ?_);clear hS;rintro _ w ⟨rfl,hS⟩;rw [hpr];refine .run 2 rfl ⟨by (try simp only [Y0,List.length_cons,List.length_nil]); omega,trivial⟩ (.nil (.seq (.region (.run 3 rfl ⟨Qu9,trivial⟩ (.nil (.seq (.seq ?_)))))));rw [hn9];refine .region (.run 6 rfl ⟨Qu9,⟨by omega,by omega⟩,trivial⟩ (.gm rfl rfl rfl rfl (.gm rfl rfl rfl rfl ?_)));refine .gval rfl rfl (fun hg1=>(.subTo (.gd hg1 rfl) (.gd hg1 rfl) (by (try simp only [Y6] at hg1); omega) (by (try simp only [Y6] at hg1); omega) Qu9)) rfl ?_;refine .gm rfl rfl rfl rfl (.gval rfl rfl (fun hg1=>(.nes (.gd hg1 rfl) (.gd hg1 rfl))) rfl (.val (.po rfl rfl rfl) rfl (.nil ?_)));refine .cond rfl (fun hb32=>?_) fun hb32=>?_
  ·refine .exit (.region (.run 3 rfl ⟨⟨by omega,by omega⟩,trivial⟩ (.nil ?_)));refine ⟨k+1,⟨rfl,rfl,trivial⟩,⟨by (try dsimp only); omega,by (try dsimp only); omega,fun j d hj h=>?_,hS⟩,by (try dsimp only); omega⟩;rcases Yp j k with h1 | h1
   ·exact hno j d h1 h
   ·have e:k=j:=by omega
    subst e;obtain ⟨t,ht,htl,hth⟩:=Xjl h;obtain ⟨g1,g2,g3⟩:=Xfr ht htl
    first
    | (have h3:=hb32; simp [g1,g2] at h3; done)
    | (have h3:=hb32; simp [g1,g2] at h3; omega)
    | (have h3:hxS 0 ((s.drop ((pre k).length+1)).take (s.length - ((pre k).length+1)))=some d:=(by (rw [g3,Yx (by omega)]; exact hth)); rw [show i=s.length by omega] at hhx; rw [hhx] at h3; simp [hb70] at h3)
  have hc32:=hb32; try simp only [Y6] at hc32
  refine .skip (.seq ?_);obtain ⟨hle,hpf⟩:s.length=(pre k).length+1+16/\s.take ((pre k).length+1)=pre k ++ [45]:=by
   have h:=hb32;simp at h
   refine ⟨by omega,?_⟩;simpa using h.2
  refine .q 1 rfl (.seq (.q 1 rfl (.seq (.seq (.q 2 rfl (.block ?_))))));refine .loop (σ:=Nat×Nat×Bool) (fun ⟨i,d,b⟩=>[(0,S s),(5,I64 (k:Nat)),(8,U64 (d:Nat)),(9,.bool b),(10,I64 (i:Nat))]) (fun ⟨i,d,b⟩ w=>((pre k).length+1)<=i/\i<=s.length/\d<16 ^ (i - ((pre k).length+1))/\hxS 0 ((s.drop ((pre k).length+1)).take (i - ((pre k).length+1)))=(if b=true then some d else none)/\Sat B w I As) (fun ⟨i,d,b⟩=>s.length - i) (((pre k).length+1),0,true) ⟨rfl,rfl,rfl,rfl,rfl,trivial⟩ ⟨Yq _,by (try dsimp only); omega,by (try dsimp only); exact Nat.pow_pos (by decide),by (try dsimp only); rw [Y3k]; rfl,hS⟩ ?_;rintro ⟨i,d,b⟩ w ⟨hni,hi,hdp,hhx,hS⟩;refine .seq (.seq (.region (.run 4 rfl ⟨Qu9,trivial⟩ (.nil ?_))));refine .cond rfl (fun hb37=>?_) fun hb37=>?_
  ·have hc37:=hb37; try simp only [Y6] at hc37
   refine .skip (.seq (.block (.seq ?_)));have hp15:d<1152921504606846976:=Y2f hdp (Y3x (Y1w (by decide) (show i - ((pre k).length+1)<=15 by omega)) (by decide));refine .region (.run 4 rfl ⟨⟨⟨by omega,by omega⟩,Qu9⟩,trivial⟩ (.nil (.block (.seq (.t 3 rfl (.gm rfl rfl rfl rfl (.gval rfl rfl (fun hg1=>(.leq (.gd hg1 rfl) (.of rfl))) rfl (.val (.pa rfl rfl rfl) rfl (.q 1 rfl (.nil ?_))))))))));refine .cond rfl (fun hb43=>?_) fun hb43=>?_
   ·have hc43:=hb43; try simp only [Y6] at hc43
    refine .t 1 rfl (.val (.mulx (.of rfl) (.of rfl) (by rw [IntKind.wrap_u64]; omega)) rfl (.q 1 rfl ?_));refine .val (.subx (.of rfl) (.of rfl) (by rw [IntKind.wrap_u8]; simp at hb43; omega)) rfl ?_;refine .val (.cvi (.of rfl) Qu5 Xn3 (by rw [IntKind.wrap_u64]; omega)) rfl (.val (.addx (.of rfl) (.of rfl) (by rw [IntKind.wrap_u64]; omega)) rfl ?_);rw [show (16*(d:Int)+(((at_ s (i:Int)).toNat:Int) - 48))=((16*d+((at_ s (i:Int)).toNat - 48):Nat):Int) by simp at hb43; omega];refine .q 1 rfl (.nil (.region (.run 3 rfl ⟨⟨by omega,by omega⟩,trivial⟩ (.nil ?_))));refine ⟨(i+1,16*d+((at_ s (i:Int)).toNat - 48),b),⟨rfl,rfl,rfl,rfl,rfl,trivial⟩,⟨by (try dsimp only); omega,by (try dsimp only); omega,by (try dsimp only); exact Y2f (show 16*d+((at_ s (i:Int)).toNat - 48)<16*16 ^ (i - ((pre k).length+1)) by have h9:(at_ s (i:Int)).toNat<=57:=(by simp at hb43; omega); omega) (by rw [show i+1 - ((pre k).length+1)=(i - ((pre k).length+1))+1 by omega,Y22]; omega),?_,hS⟩,by (try dsimp only); omega⟩;try dsimp only
    rw [Xb4 hni (by omega),Xdd,hhx,hx_num (by simp at hb43; omega) (by simp at hb43; omega)];cases b with
     | true=>simp
     | false=>simp
   have hc43:=hb43; try simp only [Y6] at hc43
   refine .seq (.t 3 rfl (.gm rfl rfl rfl rfl (.gval rfl rfl (fun hg1=>(.leq (.gd hg1 rfl) (.of rfl))) rfl (.val (.pa rfl rfl rfl) rfl (.q 1 rfl (.nil ?_))))));refine .cond rfl (fun hb56=>?_) fun hb56=>?_
   ·have hc56:=hb56; try simp only [Y6] at hc56
    refine .t 1 rfl (.val (.mulx (.of rfl) (.of rfl) (by rw [IntKind.wrap_u64]; omega)) rfl (.q 1 rfl ?_));refine .val (.subx (.of rfl) (.of rfl) (by rw [IntKind.wrap_u8]; simp at hb56; omega)) rfl ?_;refine .val (.cvi (.of rfl) Qu5 Xn3 (by rw [IntKind.wrap_u64]; omega)) rfl (.val (.addx (.of rfl) (.of rfl) (by rw [IntKind.wrap_u64]; omega)) rfl (.val (.addx (.of rfl) (.of rfl) (by rw [IntKind.wrap_u64]; omega)) rfl ?_));rw [show (16*(d:Int)+(((at_ s (i:Int)).toNat:Int) - 97)+10)=((16*d+((at_ s (i:Int)).toNat - 97)+10:Nat):Int) by simp at hb56; omega];refine .q 1 rfl (.nil (.region (.run 3 rfl ⟨⟨by omega,by omega⟩,trivial⟩ (.nil ?_))));refine ⟨(i+1,16*d+((at_ s (i:Int)).toNat - 97)+10,b),⟨rfl,rfl,rfl,rfl,rfl,trivial⟩,⟨by (try dsimp only); omega,by (try dsimp only); omega,by (try dsimp only); exact Y2f (show 16*d+((at_ s (i:Int)).toNat - 97)+10<16*16 ^ (i - ((pre k).length+1)) by have h9:(at_ s (i:Int)).toNat<=102:=(by simp at hb56; omega); have h8:97<=(at_ s (i:Int)).toNat:=(by simp at hb56; omega); omega) (by rw [show i+1 - ((pre k).length+1)=(i - ((pre k).length+1))+1 by omega,Y22]; omega),?_,hS⟩,by (try dsimp only); omega⟩;try dsimp only
    rw [Xb4 hni (by omega),Xdd,hhx,hx_let (by simp at hb56; omega) (by simp at hb56; omega)];cases b with
     | true=>simp; omega
     | false=>simp
   have hc56:=hb56; try simp only [Y6] at hc56
   refine .q 1 rfl (.region (.run 3 rfl ⟨⟨by omega,by omega⟩,trivial⟩ (.nil ?_)));refine ⟨(i+1,d,false),⟨rfl,rfl,rfl,rfl,rfl,trivial⟩,⟨by (try dsimp only); omega,by (try dsimp only); omega,by (try dsimp only); exact Y2f (show d<16*16 ^ (i - ((pre k).length+1)) by omega) (by rw [show i+1 - ((pre k).length+1)=(i - ((pre k).length+1))+1 by omega,Y22]; omega),?_,hS⟩,by (try dsimp only); omega⟩;try dsimp only
   rw [Xb4 hni (by omega),Xdd,hhx,hx_no (fun h=>by have h1:=h.1; have h2:=h.2; simp at hb43; omega) (fun h=>by have h1:=h.1; have h2:=h.2; simp at hb56; omega)];cases b <;> simp
  have hc37:=hb37; try simp only [Y6] at hc37
  refine .exit (.seq (.q 1 rfl ?_));refine .cond rfl (fun hb70=>?_) fun hb70=>?_
  ·have hc70:=hb70; try simp only [Y6] at hc70
   refine .seq (.q 5 rfl (.ret (Xap Tryz.results30 rfl rfl rfl ?_)));have hs9:s=pre k ++ 45::s.drop ((pre k).length+1):=by
    have h:=Yv ((pre k).length+1) s;rw [hpf,Yd] at h;exact h.symm
   have hil:i=s.length:=by omega
   have hh:hxS 0 (s.drop ((pre k).length+1))=some d:=by
    rw [hil,Yx (by rw [Yg]; omega),hb70] at hhx;exact hhx
   have hP:Xt s=some (k,d):=by
    rw [hs9];exact Xtg hk1.1 hk1.2 (by rw [Yg]; omega) hh
   rw [hP];exact ⟨_,rfl,rfl,hS⟩
  have hc70:=hb70; try simp only [Y6] at hc70
  refine .skip (.region (.run 3 rfl ⟨⟨by omega,by omega⟩,trivial⟩ (.nil ?_)));refine ⟨k+1,⟨rfl,rfl,trivial⟩,⟨by (try dsimp only); omega,by (try dsimp only); omega,fun j d hj h=>?_,hS⟩,by (try dsimp only); omega⟩;rcases Yp j k with h1 | h1
  ·exact hno j d h1 h
  ·have e:k=j:=by omega
   subst e;obtain ⟨t,ht,htl,hth⟩:=Xjl h;obtain ⟨g1,g2,g3⟩:=Xfr ht htl
   first
   | (have h3:=hb32; simp [g1,g2] at h3; done)
   | (have h3:=hb32; simp [g1,g2] at h3; omega)
   | (have h3:hxS 0 ((s.drop ((pre k).length+1)).take (s.length - ((pre k).length+1)))=some d:=(by (rw [g3,Yx (by omega)]; exact hth)); rw [show i=s.length by omega] at hhx; rw [hhx] at h3; simp [hb70] at h3)
 have hc13:=hb13; try simp only [Y6] at hc13
 refine .exit (.seq (.q 3 rfl (.ret (Xap Tryz.results30 rfl rfl rfl ?_))));have hP:Xt s=none:=by
  cases h:Xt s with
  | none=>rfl
  | some x =>
   obtain ⟨j,d⟩:=x
   have:=X35 h
   exact absurd h (hno j d (by omega))
 rw [hP];exact ⟨_,rfl,rfl,hS⟩
def PL:List (Int×Int):=[(1,0),(6,0),(2,1),(3,4),(4,2),(4,3),(5,4)]
set_option maxRecDepth 20000 in
theorem Xfv (kind of9:Int) (B w:World) (I:Im) (As:List X7) (hS:Sat B w I As) :
  Cz 174 [I64 kind,I64 of9] w fun v w'=>v=.bool (X73 kind of9)/\Sat B w' I As:=by
 refine calls Tryz.func174 rfl Tryz.ntmps174 rfl (.seq (.q 1 rfl (.seq (.region (.buildSlice (cs:=[_,_]) hS (pc9 rfl (pc9 rfl X4)) Xf Qs3 Qz3 rfl rfl rfl rfl ?_)))));intro b7 w hS;refine .buildSlice (cs:=[_,_]) hS (pc9 rfl (pc9 rfl X4)) Xf Qs3 Qz3 rfl rfl rfl rfl ?_;intro b8 w hS;refine .buildSlice (cs:=[_,_]) hS (pc9 rfl (pc9 rfl X4)) Xf Qs3 Qz3 rfl rfl rfl rfl ?_;intro b9 w hS;refine .buildSlice (cs:=[_,_]) hS (pc9 rfl (pc9 rfl X4)) Xf Qs3 Qz3 rfl rfl rfl rfl ?_;intro b10 w hS;refine .buildSlice (cs:=[_,_]) hS (pc9 rfl (pc9 rfl X4)) Xf Qs3 Qz3 rfl rfl rfl rfl ?_;intro b11 w hS;refine .buildSlice (cs:=[_,_]) hS (pc9 rfl (pc9 rfl X4)) Xf Qs3 Qz3 rfl rfl rfl rfl ?_;intro b12 w hS;refine .buildSlice (cs:=[_,_]) hS (pc9 rfl (pc9 rfl X4)) Xf Qs3 Qz3 rfl rfl rfl rfl ?_;intro b13 w hS;refine .buildSlice (cs:=[_,_,_,_,_,_,_]) hS (pc9 rfl (pc9 rfl (pc9 rfl (pc9 rfl (pc9 rfl (pc9 rfl (pc9 rfl X4))))))) X2a X1c Xra rfl rfl rfl rfl ?_;intro b14 w hS;refine .q 1 rfl (.nil (.seq (.seq (.q 1 rfl (.block (.loop (σ:=Nat) (fun i=>[(0,I64 kind),(1,I64 of9),(5,.slice (some (ad b14 0)) 7 7),(6,I64 (i:Nat))]) (fun i w=>i<=7/\(∀ (j:Nat) p,j<i->PL[j]?=some p->(p.1 == kind && p.2 == of9)=false)/\Sat B w I (blk b14 [.slice (some (ad b7 0)) 2 2,.slice (some (ad b8 0)) 2 2,.slice (some (ad b9 0)) 2 2,.slice (some (ad b10 0)) 2 2,.slice (some (ad b11 0)) 2 2,.slice (some (ad b12 0)) 2 2,.slice (some (ad b13 0)) 2 2] 109::blk b13 [I64 5,I64 4] 3::blk b12 [I64 4,I64 3] 3::blk b11 [I64 4,I64 2] 3::blk b10 [I64 3,I64 4] 3::blk b9 [I64 2,I64 1] 3::blk b8 [I64 6,I64 0] 3::blk b7 [I64 1,I64 0] 3::As)) (fun i=>7 - i) 0 ⟨rfl,rfl,rfl,rfl,trivial⟩ ⟨Yo _,fun _ _ h=>absurd h (by omega),hS⟩ ?_))))));rintro i w ⟨hi,hno,hS⟩;refine .seq (.seq (.region (.run 4 rfl ⟨⟨_,X2a⟩,trivial⟩ (.nil ?_))));refine .cond rfl (fun hb18=>?_) fun hb18=>?_
 ·have hc18:=hb18; simp only [Y6] at hc18;refine .skip (.seq (.block (.seq (.region ?_))));rcases (by omega:i=0\/i=1\/i=2\/i=3\/i=4\/i=5\/i=6) with rfl | rfl | rfl | rfl | rfl | rfl | rfl
  ·refine .vm rfl rfl (.q 1 rfl ?_);refine .val (.io rfl rfl (by omega) (by omega) X2a X1c) rfl (.val (.lo rfl hS (k:=0) rfl X3i rfl) rfl (.val (.io rfl rfl (by omega) (by omega) Xf Qs3) rfl (.val (.lo rfl hS (k:=7) rfl Qg3 rfl) rfl (.q 3 rfl (.gm rfl rfl rfl rfl (.gm rfl rfl rfl rfl ?_))))));refine .gval rfl rfl (fun hg1=>(by exact .indexAddr (.gd hg1 rfl) (.gd hg1 rfl) (by (try simp only [Y6] at hg1); omega) (by (try simp only [Y6] at hg1); omega) X2a X1c)) rfl ?_;refine .gval rfl rfl (fun hg1=>(by exact (.ld (.gd hg1 rfl) hS (k:=0) rfl X3i rfl))) rfl ?_;refine .gval rfl rfl (fun hg1=>(by exact .indexAddr (.gd hg1 rfl) (.of rfl) (by (try simp only [Y6] at hg1); omega) (by (try simp only [Y6] at hg1); omega) Xf Qs3)) rfl ?_;refine .gval rfl rfl (fun hg1=>(by exact (.ld (.gd hg1 rfl) hS (k:=7) rfl Qg3 rfl))) rfl ?_;refine .gm rfl rfl rfl rfl (.gval rfl rfl (fun hg1=>(.eql (.gd hg1 rfl) (.gd hg1 rfl))) rfl (.val (.pa rfl rfl rfl) rfl (.nil ?_)));refine .cond rfl (fun hb38=>?_) fun hb38=>?_
   ·refine .seq (.q 1 rfl (.ret (Xc Xen rfl ?_)));refine ⟨_,rfl,congrArg Value.bool ?_,(hS.y 0 8)⟩;simp at hb38
    obtain ⟨h1,h2⟩:=hb38;subst h1 h2;rfl
   refine .skip (.region (.run 3 rfl ⟨⟨by omega,by omega⟩,trivial⟩ (.nil ?_)));refine ⟨1,⟨rfl,rfl,rfl,rfl,trivial⟩,⟨by decide,fun j p hj hp=>?_,hS⟩,by decide⟩;rcases Yp j 0 with h1 | h1
   ·exact hno j p h1 hp
   ·have e:j=0:=by omega
    subst e;cases hp
    simpa using hb38
  ·refine .vm rfl rfl (.q 1 rfl ?_);refine .val (.io rfl rfl (by omega) (by omega) X2a X1c) rfl (.val (.lo rfl hS (k:=0) rfl X3i rfl) rfl (.val (.io rfl rfl (by omega) (by omega) Xf Qs3) rfl (.val (.lo rfl hS (k:=6) rfl Qg3 rfl) rfl (.q 3 rfl (.gm rfl rfl rfl rfl (.gm rfl rfl rfl rfl ?_))))));refine .gval rfl rfl (fun hg1=>(by exact .indexAddr (.gd hg1 rfl) (.gd hg1 rfl) (by (try simp only [Y6] at hg1); omega) (by (try simp only [Y6] at hg1); omega) X2a X1c)) rfl ?_;refine .gval rfl rfl (fun hg1=>(by exact (.ld (.gd hg1 rfl) hS (k:=0) rfl X3i rfl))) rfl ?_;refine .gval rfl rfl (fun hg1=>(by exact .indexAddr (.gd hg1 rfl) (.of rfl) (by (try simp only [Y6] at hg1); omega) (by (try simp only [Y6] at hg1); omega) Xf Qs3)) rfl ?_;refine .gval rfl rfl (fun hg1=>(by exact (.ld (.gd hg1 rfl) hS (k:=6) rfl Qg3 rfl))) rfl ?_;refine .gm rfl rfl rfl rfl (.gval rfl rfl (fun hg1=>(.eql (.gd hg1 rfl) (.gd hg1 rfl))) rfl (.val (.pa rfl rfl rfl) rfl (.nil ?_)));refine .cond rfl (fun hb38=>?_) fun hb38=>?_
   ·refine .seq (.q 1 rfl (.ret (Xc Xen rfl ?_)));refine ⟨_,rfl,congrArg Value.bool ?_,(hS.y 0 8)⟩;simp at hb38
    obtain ⟨h1,h2⟩:=hb38;subst h1 h2;rfl
   refine .skip (.region (.run 3 rfl ⟨⟨by omega,by omega⟩,trivial⟩ (.nil ?_)));refine ⟨2,⟨rfl,rfl,rfl,rfl,trivial⟩,⟨by decide,fun j p hj hp=>?_,hS⟩,by decide⟩;rcases Yp j 1 with h1 | h1
   ·exact hno j p h1 hp
   ·have e:j=1:=by omega
    subst e;cases hp
    simpa using hb38
  ·refine .vm rfl rfl (.q 1 rfl ?_);refine .val (.io rfl rfl (by omega) (by omega) X2a X1c) rfl (.val (.lo rfl hS (k:=0) rfl X3i rfl) rfl (.val (.io rfl rfl (by omega) (by omega) Xf Qs3) rfl (.val (.lo rfl hS (k:=5) rfl Qg3 rfl) rfl (.q 3 rfl (.gm rfl rfl rfl rfl (.gm rfl rfl rfl rfl ?_))))));refine .gval rfl rfl (fun hg1=>(by exact .indexAddr (.gd hg1 rfl) (.gd hg1 rfl) (by (try simp only [Y6] at hg1); omega) (by (try simp only [Y6] at hg1); omega) X2a X1c)) rfl ?_;refine .gval rfl rfl (fun hg1=>(by exact (.ld (.gd hg1 rfl) hS (k:=0) rfl X3i rfl))) rfl ?_;refine .gval rfl rfl (fun hg1=>(by exact .indexAddr (.gd hg1 rfl) (.of rfl) (by (try simp only [Y6] at hg1); omega) (by (try simp only [Y6] at hg1); omega) Xf Qs3)) rfl ?_;refine .gval rfl rfl (fun hg1=>(by exact (.ld (.gd hg1 rfl) hS (k:=5) rfl Qg3 rfl))) rfl ?_;refine .gm rfl rfl rfl rfl (.gval rfl rfl (fun hg1=>(.eql (.gd hg1 rfl) (.gd hg1 rfl))) rfl (.val (.pa rfl rfl rfl) rfl (.nil ?_)));refine .cond rfl (fun hb38=>?_) fun hb38=>?_
   ·refine .seq (.q 1 rfl (.ret (Xc Xen rfl ?_)));refine ⟨_,rfl,congrArg Value.bool ?_,(hS.y 0 8)⟩;simp at hb38
    obtain ⟨h1,h2⟩:=hb38;subst h1 h2;rfl
   refine .skip (.region (.run 3 rfl ⟨⟨by omega,by omega⟩,trivial⟩ (.nil ?_)));refine ⟨3,⟨rfl,rfl,rfl,rfl,trivial⟩,⟨by decide,fun j p hj hp=>?_,hS⟩,by decide⟩;rcases Yp j 2 with h1 | h1
   ·exact hno j p h1 hp
   ·have e:j=2:=by omega
    subst e;cases hp
    simpa using hb38
  ·refine .vm rfl rfl (.q 1 rfl ?_);refine .val (.io rfl rfl (by omega) (by omega) X2a X1c) rfl (.val (.lo rfl hS (k:=0) rfl X3i rfl) rfl (.val (.io rfl rfl (by omega) (by omega) Xf Qs3) rfl (.val (.lo rfl hS (k:=4) rfl Qg3 rfl) rfl (.q 3 rfl (.gm rfl rfl rfl rfl (.gm rfl rfl rfl rfl ?_))))));refine .gval rfl rfl (fun hg1=>(by exact .indexAddr (.gd hg1 rfl) (.gd hg1 rfl) (by (try simp only [Y6] at hg1); omega) (by (try simp only [Y6] at hg1); omega) X2a X1c)) rfl ?_;refine .gval rfl rfl (fun hg1=>(by exact (.ld (.gd hg1 rfl) hS (k:=0) rfl X3i rfl))) rfl ?_;refine .gval rfl rfl (fun hg1=>(by exact .indexAddr (.gd hg1 rfl) (.of rfl) (by (try simp only [Y6] at hg1); omega) (by (try simp only [Y6] at hg1); omega) Xf Qs3)) rfl ?_;refine .gval rfl rfl (fun hg1=>(by exact (.ld (.gd hg1 rfl) hS (k:=4) rfl Qg3 rfl))) rfl ?_;refine .gm rfl rfl rfl rfl (.gval rfl rfl (fun hg1=>(.eql (.gd hg1 rfl) (.gd hg1 rfl))) rfl (.val (.pa rfl rfl rfl) rfl (.nil ?_)));refine .cond rfl (fun hb38=>?_) fun hb38=>?_
   ·refine .seq (.q 1 rfl (.ret (Xc Xen rfl ?_)));refine ⟨_,rfl,congrArg Value.bool ?_,(hS.y 0 8)⟩;simp at hb38
    obtain ⟨h1,h2⟩:=hb38;subst h1 h2;rfl
   refine .skip (.region (.run 3 rfl ⟨⟨by omega,by omega⟩,trivial⟩ (.nil ?_)));refine ⟨4,⟨rfl,rfl,rfl,rfl,trivial⟩,⟨by decide,fun j p hj hp=>?_,hS⟩,by decide⟩;rcases Yp j 3 with h1 | h1
   ·exact hno j p h1 hp
   ·have e:j=3:=by omega
    subst e;cases hp
    simpa using hb38
  ·refine .vm rfl rfl (.q 1 rfl ?_);refine .val (.io rfl rfl (by omega) (by omega) X2a X1c) rfl (.val (.lo rfl hS (k:=0) rfl X3i rfl) rfl (.val (.io rfl rfl (by omega) (by omega) Xf Qs3) rfl (.val (.lo rfl hS (k:=3) rfl Qg3 rfl) rfl (.q 3 rfl (.gm rfl rfl rfl rfl (.gm rfl rfl rfl rfl ?_))))));refine .gval rfl rfl (fun hg1=>(by exact .indexAddr (.gd hg1 rfl) (.gd hg1 rfl) (by (try simp only [Y6] at hg1); omega) (by (try simp only [Y6] at hg1); omega) X2a X1c)) rfl ?_;refine .gval rfl rfl (fun hg1=>(by exact (.ld (.gd hg1 rfl) hS (k:=0) rfl X3i rfl))) rfl ?_;refine .gval rfl rfl (fun hg1=>(by exact .indexAddr (.gd hg1 rfl) (.of rfl) (by (try simp only [Y6] at hg1); omega) (by (try simp only [Y6] at hg1); omega) Xf Qs3)) rfl ?_;refine .gval rfl rfl (fun hg1=>(by exact (.ld (.gd hg1 rfl) hS (k:=3) rfl Qg3 rfl))) rfl ?_;refine .gm rfl rfl rfl rfl (.gval rfl rfl (fun hg1=>(.eql (.gd hg1 rfl) (.gd hg1 rfl))) rfl (.val (.pa rfl rfl rfl) rfl (.nil ?_)));refine .cond rfl (fun hb38=>?_) fun hb38=>?_
   ·refine .seq (.q 1 rfl (.ret (Xc Xen rfl ?_)));refine ⟨_,rfl,congrArg Value.bool ?_,(hS.y 0 8)⟩;simp at hb38
    obtain ⟨h1,h2⟩:=hb38;subst h1 h2;rfl
   refine .skip (.region (.run 3 rfl ⟨⟨by omega,by omega⟩,trivial⟩ (.nil ?_)));refine ⟨5,⟨rfl,rfl,rfl,rfl,trivial⟩,⟨by decide,fun j p hj hp=>?_,hS⟩,by decide⟩;rcases Yp j 4 with h1 | h1
   ·exact hno j p h1 hp
   ·have e:j=4:=by omega
    subst e;cases hp
    simpa using hb38
  ·refine .vm rfl rfl (.q 1 rfl ?_);refine .val (.io rfl rfl (by omega) (by omega) X2a X1c) rfl (.val (.lo rfl hS (k:=0) rfl X3i rfl) rfl (.val (.io rfl rfl (by omega) (by omega) Xf Qs3) rfl (.val (.lo rfl hS (k:=2) rfl Qg3 rfl) rfl (.q 3 rfl (.gm rfl rfl rfl rfl (.gm rfl rfl rfl rfl ?_))))));refine .gval rfl rfl (fun hg1=>(by exact .indexAddr (.gd hg1 rfl) (.gd hg1 rfl) (by (try simp only [Y6] at hg1); omega) (by (try simp only [Y6] at hg1); omega) X2a X1c)) rfl ?_;refine .gval rfl rfl (fun hg1=>(by exact (.ld (.gd hg1 rfl) hS (k:=0) rfl X3i rfl))) rfl ?_;refine .gval rfl rfl (fun hg1=>(by exact .indexAddr (.gd hg1 rfl) (.of rfl) (by (try simp only [Y6] at hg1); omega) (by (try simp only [Y6] at hg1); omega) Xf Qs3)) rfl ?_;refine .gval rfl rfl (fun hg1=>(by exact (.ld (.gd hg1 rfl) hS (k:=2) rfl Qg3 rfl))) rfl ?_;refine .gm rfl rfl rfl rfl (.gval rfl rfl (fun hg1=>(.eql (.gd hg1 rfl) (.gd hg1 rfl))) rfl (.val (.pa rfl rfl rfl) rfl (.nil ?_)));refine .cond rfl (fun hb38=>?_) fun hb38=>?_
   ·refine .seq (.q 1 rfl (.ret (Xc Xen rfl ?_)));refine ⟨_,rfl,congrArg Value.bool ?_,(hS.y 0 8)⟩;simp at hb38
    obtain ⟨h1,h2⟩:=hb38;subst h1 h2;rfl
   refine .skip (.region (.run 3 rfl ⟨⟨by omega,by omega⟩,trivial⟩ (.nil ?_)));refine ⟨6,⟨rfl,rfl,rfl,rfl,trivial⟩,⟨by decide,fun j p hj hp=>?_,hS⟩,by decide⟩;rcases Yp j 5 with h1 | h1
   ·exact hno j p h1 hp
   ·have e:j=5:=by omega
    subst e;cases hp
    simpa using hb38
  refine .vm rfl rfl (.q 1 rfl ?_);refine .val (.io rfl rfl (by omega) (by omega) X2a X1c) rfl (.val (.lo rfl hS (k:=0) rfl X3i rfl) rfl (.val (.io rfl rfl (by omega) (by omega) Xf Qs3) rfl (.val (.lo rfl hS (k:=1) rfl Qg3 rfl) rfl (.q 3 rfl (.gm rfl rfl rfl rfl (.gm rfl rfl rfl rfl ?_))))));refine .gval rfl rfl (fun hg1=>(by exact .indexAddr (.gd hg1 rfl) (.gd hg1 rfl) (by (try simp only [Y6] at hg1); omega) (by (try simp only [Y6] at hg1); omega) X2a X1c)) rfl ?_;refine .gval rfl rfl (fun hg1=>(by exact (.ld (.gd hg1 rfl) hS (k:=0) rfl X3i rfl))) rfl ?_;refine .gval rfl rfl (fun hg1=>(by exact .indexAddr (.gd hg1 rfl) (.of rfl) (by (try simp only [Y6] at hg1); omega) (by (try simp only [Y6] at hg1); omega) Xf Qs3)) rfl ?_;refine .gval rfl rfl (fun hg1=>(by exact (.ld (.gd hg1 rfl) hS (k:=1) rfl Qg3 rfl))) rfl ?_;refine .gm rfl rfl rfl rfl (.gval rfl rfl (fun hg1=>(.eql (.gd hg1 rfl) (.gd hg1 rfl))) rfl (.val (.pa rfl rfl rfl) rfl (.nil ?_)));refine .cond rfl (fun hb38=>?_) fun hb38=>?_
  ·refine .seq (.q 1 rfl (.ret (Xc Xen rfl ?_)));refine ⟨_,rfl,congrArg Value.bool ?_,(hS.y 0 8)⟩;simp at hb38
   obtain ⟨h1,h2⟩:=hb38;subst h1 h2;rfl
  refine .skip (.region (.run 3 rfl ⟨⟨by omega,by omega⟩,trivial⟩ (.nil ?_)));refine ⟨7,⟨rfl,rfl,rfl,rfl,trivial⟩,⟨by decide,fun j p hj hp=>?_,hS⟩,by decide⟩;rcases Yp j 6 with h1 | h1
  ·exact hno j p h1 hp
  ·have e:j=6:=by omega
   subst e;cases hp
   simpa using hb38
 have hc18:=hb18; simp only [Y6] at hc18;refine .exit (.seq (.q 1 rfl (.ret (Xc Xen rfl ?_))));have e7:i=7:=by omega
 subst e7;refine ⟨_,rfl,congrArg Value.bool ?_,(hS.y 0 8)⟩;cases h:X73 kind of9 with
 | false=>rfl
 | true =>
  exfalso
  have h0:=hno 0 _ (by decide) rfl;have h1:=hno 1 _ (by decide) rfl;have h2:=hno 2 _ (by decide) rfl;have h3:=hno 3 _ (by decide) rfl;have h4:=hno 4 _ (by decide) rfl;have h5:=hno 5 _ (by decide) rfl;have h6:=hno 6 _ (by decide) rfl;simp at h0 h1 h2 h3 h4 h5 h6
  simp [X73] at h
  omega
def kdT (s:List UInt8):Int:=match Xt s with
 | some (k,_)=>(k:Nat)
 | none=>0
def drT (s:List UInt8):Nat:=match Xt s with
 | some (_,d)=>d
 | none=>0
theorem Xq2 (s:List UInt8):(match Xt s with | some (k,d)=>Value.tuple #[I64 (k:Nat),U64 (d:Nat),.bool true] | none=>.tuple #[I64 0,U64 0,.bool false])=.tuple #[I64 (kdT s),U64 (drT s:Nat),.bool (Xt s).isSome]:=by
 unfold kdT drT;cases Xt s with
 | none=>rfl
 | some x=>rfl
theorem Xon (s:List UInt8) (k:Int):isT s k=((Xt s).isSome && decide (kdT s=k)):=by
 unfold isT kdT;cases Xt s with
 | none=>rfl
 | some x=>obtain ⟨a,b⟩:=x; rfl
theorem Xhp (k:Int) (s:List UInt8):X3n k s=(((Xt s).isSome || decide (s=[])) && X73 k (kdT s)):=by
 unfold X3n
 by_cases h:s=[]
 ·subst h; rfl
 ·rw [if_neg h];unfold kdT;cases Xt s with
  | none=>simp [h]
  | some x=>obtain ⟨a,b⟩:=x; simp
theorem X6b (s:List UInt8) (hsl:s.length<=9223372036854775000) (B w:World) (I:Im) (As:List X7) (hS:Sat B w I As) :
  Calls Tryz.prog 30 [S s].toArray w (Ret fun v w'=>v=.tuple #[I64 (kdT s),U64 (drT s:Nat),.bool (Xt s).isSome]/\Sat B w' I As) :=
 (Xdq s hsl B w I As hS).mono fun e w' ⟨v,he,hv,hS⟩=>⟨v,he,by rw [hv,Xq2],hS⟩
theorem Xg1 (r:Rec) (hn:r.name.length<=9223372036854775000) (hp:r.parent.length<=9223372036854775000) (B w:World) (I:Im) (As:List X7) (hS:Sat B w I As) :
  Cz 126 [.agg (X5 r).toArray] w fun v w'=>v=.bool (Xw r)/\Sat B w' I As:=by
 refine calls Tryz.func126 rfl Tryz.ntmps126 rfl (.seq (.region (.boxA (cs:=[_,_,_,_,_,_,_,_,_,_]) hS (.of rfl) rfl ?_)));intro b1 w hS;refine .q 1 rfl (.nil (.seq (.region ?_)));refine .val (.fo 1 rfl X27 rfl rfl Qs9 rfl) rfl (.val (.lo rfl hS (k:=0) rfl Qg9 rfl) rfl (.call Tryz.func30 rfl (ec9 rfl X0) rfl (X6b r.name hn B _ I _ hS) ?_));rintro _ w ⟨rfl,hS⟩;refine .q 7 rfl (.nil (.seq (.seq (.t 3 rfl (.gm rfl rfl rfl rfl ?_)))));refine .gval rfl rfl (fun hg1=>(by exact .fo 0 rfl X27 rfl rfl Qs3 rfl)) rfl ?_;refine .gval rfl rfl (fun hg1=>(.ld (.gd hg1 rfl) hS (k:=0) rfl Qg3 rfl)) rfl (.gval rfl rfl (fun hg1=>(.neq (.gd hg1 rfl) (.gd hg1 rfl))) rfl (.val (.po rfl rfl rfl) rfl (.q 1 rfl ?_)));refine .gval rfl rfl (fun hg1=>(by exact .fo 3 rfl X27 rfl rfl Qs9 rfl)) rfl ?_;refine .gval rfl rfl (fun hg1=>(.ld (.gd hg1 rfl) hS (k:=0) rfl Qg9 rfl)) rfl (.gval rfl rfl (fun hg1=>(.len (.gd hg1 rfl) Qu9)) rfl (.gval rfl rfl (fun hg1=>(.gtr (.gd hg1 rfl) (.of rfl))) rfl (.val (.po rfl rfl rfl) rfl (.q 1 rfl ?_))));refine .gval rfl rfl (fun hg1=>(by exact .fo 4 rfl X27 rfl rfl Qs9 rfl)) rfl ?_;refine .gval rfl rfl (fun hg1=>(.ld (.gd hg1 rfl) hS (k:=0) rfl Qg9 rfl)) rfl (.gval rfl rfl (fun hg1=>(.len (.gd hg1 rfl) Qu9)) rfl (.gval rfl rfl (fun hg1=>(.gtr (.gd hg1 rfl) (.of rfl))) rfl (.val (.po rfl rfl rfl) rfl (.q 1 rfl ?_))));refine .gval rfl rfl (fun hg1=>(by exact .fo 5 rfl X27 rfl rfl Qs9 rfl)) rfl ?_;refine .gval rfl rfl (fun hg1=>(.ld (.gd hg1 rfl) hS (k:=0) rfl Qg9 rfl)) rfl (.gval rfl rfl (fun hg1=>(.len (.gd hg1 rfl) Qu9)) rfl (.gval rfl rfl (fun hg1=>(.gtr (.gd hg1 rfl) (.of rfl))) rfl (.val (.po rfl rfl rfl) rfl (.nil ?_))));refine .cond rfl (fun hb41=>?_) fun hb41=>?_
 ·refine .seq (.q 1 rfl (.ret (Xc Xv1 rfl ?_)));refine ⟨_,rfl,congrArg Value.bool ?_,hS.y 0 1⟩;cases h:Xw r with
  | false=>rfl
  | true =>
   exfalso
   unfold Xw at h;simp only [Yn,decide_eq_true_eq,Xon] at h
   obtain ⟨⟨⟨⟨⟨h1,h2⟩,h3⟩,_⟩,h4,h5⟩,_⟩:=h;simp [h4,h5] at hb41
   omega
 refine .skip (.seq (.seq (.region ?_)));refine .val (.fo 6 rfl X27 rfl rfl Qs3 rfl) rfl (.val (.lo rfl hS (k:=0) rfl Qg3 rfl) rfl (.q 2 rfl ?_));refine .gval rfl rfl (fun hg1=>(by exact .fo 7 rfl X27 rfl rfl Qs3 rfl)) rfl ?_;refine .gval rfl rfl (fun hg1=>(.ld (.gd hg1 rfl) hS (k:=0) rfl Qg3 rfl)) rfl (.gval rfl rfl (fun hg1=>(by exact .fo 6 rfl X27 rfl rfl Qs3 rfl)) rfl ?_);refine .gval rfl rfl (fun hg1=>(.ld (.gd hg1 rfl) hS (k:=0) rfl Qg3 rfl)) rfl (.gval rfl rfl (fun hg1=>(.lss (.gd hg1 rfl) (.gd hg1 rfl))) rfl (.val (.po rfl rfl rfl) rfl (.q 1 rfl ?_)));refine .gval rfl rfl (fun hg1=>(by exact .fo 7 rfl X27 rfl rfl Qs3 rfl)) rfl ?_;refine .gval rfl rfl (fun hg1=>(.ld (.gd hg1 rfl) hS (k:=0) rfl Qg3 rfl)) rfl (.gval rfl rfl (fun hg1=>(.gtr (.gd hg1 rfl) (.of rfl))) rfl (.val (.po rfl rfl rfl) rfl (.q 1 rfl ?_)));refine .gval rfl rfl (fun hg1=>(by exact .fo 8 rfl X27 rfl rfl Qs3 rfl)) rfl ?_;refine .gval rfl rfl (fun hg1=>(.ld (.gd hg1 rfl) hS (k:=0) rfl Qg3 rfl)) rfl (.gval rfl rfl (fun hg1=>(.lss (.gd hg1 rfl) (.of rfl))) rfl (.val (.po rfl rfl rfl) rfl (.q 1 rfl ?_)));refine .gval rfl rfl (fun hg1=>(by exact .fo 8 rfl X27 rfl rfl Qs3 rfl)) rfl ?_;refine .gval rfl rfl (fun hg1=>(.ld (.gd hg1 rfl) hS (k:=0) rfl Qg3 rfl)) rfl (.gval rfl rfl (fun hg1=>(.gtr (.gd hg1 rfl) (.of rfl))) rfl (.val (.po rfl rfl rfl) rfl (.nil ?_)));refine .cond rfl (fun hb66=>?_) fun hb66=>?_
 ·refine .seq (.q 1 rfl (.ret (Xc Xv1 rfl ?_)));refine ⟨_,rfl,congrArg Value.bool ?_,hS.y 0 1⟩;cases h:Xw r with
  | false=>rfl
  | true =>
   exfalso
   unfold Xw at h;simp only [Yn,decide_eq_true_eq,Xon] at h
   obtain ⟨⟨⟨_,⟨⟨⟨h1,h2⟩,h3⟩,h4⟩,h5⟩,_⟩,_⟩:=h;simp at hb66
   omega
 refine .skip (.seq (.region ?_));refine .val (.fo 2 rfl X27 rfl rfl Qs9 rfl) rfl (.val (.lo rfl hS (k:=0) rfl Qg9 rfl) rfl (.call Tryz.func30 rfl (ec9 rfl X0) rfl (X6b r.parent hp B _ I _ hS) ?_));rintro _ w ⟨rfl,hS⟩;refine .q 7 rfl (.nil (.seq (.t 2 rfl ?_)));refine .gval rfl rfl (fun hg1=>(by exact .fo 2 rfl X27 rfl rfl Qs9 rfl)) rfl ?_;refine .gval rfl rfl (fun hg1=>(.ld (.gd hg1 rfl) hS (k:=0) rfl Qg9 rfl)) rfl (.gval rfl rfl (fun hg1=>(.eqs (.gd hg1 rfl) (.of rfl))) rfl (.val (.po rfl rfl rfl) rfl (.q 1 rfl ?_)));refine .gval rfl rfl (fun hg1=>(by exact .fo 0 rfl X27 rfl rfl Qs3 rfl)) rfl ?_;refine .gval rfl rfl (fun hg1=>(.ld (.gd hg1 rfl) hS (k:=0) rfl Qg3 rfl)) rfl (.gm rfl rfl rfl rfl (.gcall (T:=fun w=>Sat B w I _) rfl rfl rfl Tryz.func174 rfl (fun hg1=>(Xd (.gd hg1 rfl) (Xd (.gd hg1 rfl) X0))) rfl (fun hg1=>Xfv r.kind (kdT r.parent) B _ I _ hS) hS ?_));rintro w hS;refine .val (.pa rfl rfl rfl) rfl (.q 1 rfl (.nil (.ret (Xc Xv1 rfl ?_))));refine ⟨_,rfl,congrArg Value.bool ?_,hS.y 0 1⟩;rw [Xw,Xon,Xhp];simp at hb41 hb66
 obtain ⟨⟨⟨⟨g1,g2⟩,g3⟩,g4⟩,g5⟩:=hb41;obtain ⟨⟨⟨⟨f1,f2⟩,f3⟩,f4⟩,f5⟩:=hb66;simp [g1,g2,f1,f2,f3,f4,f5]
 have e1:((r.user.length:Nat):Int)<=32:=by omega
 have e2:((r.service.length:Nat):Int)<=100:=by omega
 have e3:((r.url.length:Nat):Int)<=100:=by omega
 simp [e1,e2,e3]
 rw [show r.parent.isEmpty=decide (r.parent=[]) by cases r.parent <;> simp]
end Go.Proofs.YtbciobiiejpdgaaGreatDoor
namespace Ul
open Pc Gk
theorem Xtt {r t:List UInt8} {v:UInt8} (h:told r=some v):told (r ++ t)=some v:=by
 match r,h with
 | a::b::_,h=>exact h
 | [_],h=>simp [told] at h
 | [],h=>simp [told] at h
theorem Xt7:∀ (n:Nat) (a b a':List UInt8),a.length<=n->X4c a=some a'->X4c (a ++ b)=(X4c b).map (a' ++ ·):=by
 intro n
 induction n with
 | zero =>
  intro a b a' hn h
  have:=Yj (Nat.le_zero.1 hn)
  subst this;rw [X5w] at h; injection h with h; subst h
  rw [Ye];cases hb:X4c b <;> simp
 | succ n ih =>
  intro a b a' hn h;cases a with
  | nil =>
   rw [X5w] at h; injection h with h; subst h
   cases hb:X4c b <;> simp [hb]
  | cons c r =>
   simp only [List.length_cons] at hn
   rw [X1r] at h;rw [Ys,X1r]
   by_cases hc:c=37
   ·rw [if_pos hc] at h ⊢;cases ht:told r with
    | none=>rw [ht] at h; cases h
    | some v =>
     rw [ht] at h;rw [Xtt ht];simp only at h ⊢
     have hl:=X3o ht;obtain ⟨u,hu,rfl⟩:=Y1f.1 h;rw [Y2w hl,ih (r.drop 2) b u (by rw [Yg]; omega) hu,Y5t]
     congr 1
     funext x
     simp
   ·rw [if_neg hc] at h ⊢;obtain ⟨u,hu,rfl⟩:=Y1f.1 h;rw [ih r b u (by omega) hu,Y5t];rfl
def Fix (s:List UInt8):Prop:=X4c s=some s
theorem Fix.nil:Fix []:=X5w
theorem Fix.app {a b:List UInt8} (h:Fix a) (k:Fix b):Fix (a ++ b):=by
 unfold Fix at *;rw [Xt7 a.length a b a (Yq _) h,k]; rfl
theorem Fix.cons {c:UInt8} {b:List UInt8} (h:c≠37) (k:Fix b):Fix (c::b):=by
 unfold Fix at *;rw [X1r,if_neg h,k]; rfl
def standQ (c:UInt8):Bool:=X3e c && c != 63
theorem X3h {ats a b:List UInt8} (ha:∀ c∈a,ats.contains c=false) (hb:∀ c,b.head?=some c->ats.contains c=true):upto ats (a ++ b)=a/\X6 ats (a ++ b)=b:=by
 induction a with
 | nil =>
  cases b with
  | nil=>exact ⟨rfl,rfl⟩
  | cons c b =>
   have:=hb c rfl
   unfold upto X6;rw [Ye,Y2j,Y34,this];exact ⟨rfl,rfl⟩
 | cons c a ih =>
  have h1:=ha c (by simp);obtain ⟨h2,h3⟩:=ih (fun x hx=>ha x (by simp [hx]));simp only [upto,X6] at h2 h3 ⊢
  rw [Ys,Y2j,Y34,h1];exact ⟨congrArg (c::·) h2,h3⟩
theorem Xud {p:UInt8->Bool}:∀ {l:List UInt8} {x:UInt8},x∈l.takeWhile p->p x=true
 | [],_,h=>by simp at h
 | a::l,x,h=>by
  rw [Y2j] at h;split at h
  ·rename_i ha
   rcases Y17.1 h with e | e
   ·subst e; exact ha
   ·exact Xud e
  ·simp at h
theorem X49:∀ (n:Nat),val (Go.Lib.decDigits n)=n/\(Go.Lib.decDigits n).all X7w=true/\(0<n->(Go.Lib.decDigits n).head?≠some 48)/\Go.Lib.decDigits n≠[]:=by
 have dig:∀ d,d<10->(UInt8.ofNat (48+d)).toNat=48+d/\X7w (UInt8.ofNat (48+d))=true:=fun d hd=>by
  have h:=(by decide:∀ d:Fin 10,(UInt8.ofNat (48+d.val)).toNat=48+d.val/\X7w (UInt8.ofNat (48+d.val))=true) ⟨d,hd⟩
  exact h
 intro n
 induction n using Nat.strongRecOn with
 | _ n ih =>
  rw [Go.Lib.decDigits]
  by_cases h:n<10
  ·rw [dif_pos h];obtain ⟨h1,h2⟩:=dig n h;refine ⟨?_,?_,fun h0=>?_,by simp⟩
   ·simp only [val,Y3i,List.foldl_nil,h1]; omega
   ·rw [Y5v,h2]; rfl
   ·simp only [Y5r,Option.some.injEq,ne_eq]
    intro e;rw [e] at h1
    have:(48:UInt8).toNat=48:=rfl
    omega
  ·rw [dif_neg h];obtain ⟨h1,h2⟩:=dig (n % 10) (by omega);obtain ⟨i1,i2,i3,i4⟩:=ih (n / 10) (by omega);refine ⟨?_,?_,fun _=>?_,by simp⟩
   ·rw [Xq5,i1,h1]; omega
   ·rw [Y4y,i2,Y5v,h2]; rfl
   ·rw [List.head?_append];cases hd:(Go.Lib.decDigits (n / 10)).head? with
    | none=>exact absurd (List.head?_eq_none_iff.1 hd) i4
    | some x =>
     have:=i3 (by omega)
     rw [hd] at this;exact this
structure Good (u:U):Prop where
 sch:u.sch=Xl9\/u.sch=X7a
 host:X4t u.host=true/\low u.host=u.host
 port:u.port<=65535/\u.port≠Xwx u.sch
 path:X9c u.path=u.path/\Fix u.path/\u.path.all standQ=true/\u.path.head?=some 47
 query:Fix u.query/\u.query.all X3e=true/\(u.ask=false->u.query=[])
theorem Xfe {ats s:List UInt8} {c:UInt8} (h:(X6 ats s).head?=some c):ats.contains c=true:=by
 unfold X6 at h
 have:=List.head?_dropWhile_not (fun c=>!ats.contains c) s
 rw [h] at this;simpa using this
def enc (s:List UInt8):List UInt8:=s.flatMap one
theorem Xs5 (c:UInt8) (s:List UInt8):enc (c::s)=one c ++ enc s:=rfl
theorem Xwv (c:UInt8):1<=(one c).length/\(one c).length<=3:=by unfold one; split <;> simp [Xjn]
theorem X4i:∀ (s:List UInt8),(enc s).length<=3*s.length
 | []=>Yq _
 | c::s=>by
  have:=X4i s
  have:=(Xwv c).2
  rw [Xs5,Y0,List.length_cons]; omega
def dB (p:Bool) (c:UInt8):UInt8:=if (p && c == 43)=true then 32 else c
def Xw1 (p:Bool):Nat->List UInt8->Option (List UInt8)
 | 0,_=>some []
 | _+1,[]=>some []
 | f+1,c::r=>if c=37 then match told r with
   | none=>none
   | some v=>(Xw1 p f (r.drop 2)).map (v::·)
  else (Xw1 p f r).map (dB p c::·)
def dec (p:Bool) (s:List UInt8):Option (List UInt8):=Xw1 p (s.length+1) s
theorem Xa8 (p:Bool):∀ (f g:Nat) (s:List UInt8),s.length<f->s.length<g->Xw1 p f s=Xw1 p g s
 | 0,_,_,h,_=>by omega
 | _+1,0,_,_,h=>by omega
 | f+1,g+1,[],_,_=>rfl
 | f+1,g+1,c::r,hf,hg=>by
  simp only [Xw1]
  split
  ·cases ht:told r with
   | none=>rfl
   | some v =>
    simp only
    have:=X3o ht
    simp only [List.length_cons] at hf hg
    rw [Xa8 p f g (r.drop 2) (by rw [Yg]; omega) (by rw [Yg]; omega)]
  ·simp only [List.length_cons] at hf hg
   rw [Xa8 p f g r (by omega) (by omega)]
theorem Xw3 (p:Bool):dec p []=some []:=rfl
theorem Xrx (p:Bool) (c:UInt8) (r:List UInt8):dec p (c::r)=if c=37 then match told r with
   | none=>none
   | some v=>(dec p (r.drop 2)).map (v::·)
  else (dec p r).map (dB p c::·):=by
 unfold dec;simp only [List.length_cons,Xw1]
 split
 ·cases ht:told r with
  | none=>rfl
  | some v =>
   simp only
   have:=X3o ht
   rw [Xa8 p (r.length+1) ((r.drop 2).length+1) (r.drop 2) (by rw [Yg]; omega) (by omega)]
 ·rfl
theorem X88 (p:Bool):∀ (s t:List UInt8),dec p s=some t->t.length<=s.length:=by
 intro s
 induction hn:s.length using Nat.strongRecOn generalizing s with
 | _ n ih =>
  intro t h;cases s with
  | nil=>rw [Xw3] at h; injection h with h; subst h; simp
  | cons c r =>
   rw [Xrx] at h;simp only [List.length_cons] at hn
   split at h
   ·cases ht:told r with
    | none=>rw [ht] at h; cases h
    | some v =>
     rw [ht] at h;simp only at h
     cases hr:dec p (r.drop 2) with
     | none=>rw [hr] at h; cases h
     | some u =>
      rw [hr] at h;simp at h
      subst h
      have:=ih (r.drop 2).length (by rw [Yg]; omega) (r.drop 2) rfl u hr
      rw [Yg] at this;simp only [List.length_cons]
      omega
   ·cases hr:dec p r with
    | none=>rw [hr] at h; cases h
    | some u =>
     rw [hr] at h;simp at h
     subst h
     have:=ih r.length (by omega) r rfl u hr
     simp only [List.length_cons]
     omega
end Ul
namespace Xm
open Ul Pc Gk Pat
abbrev Px:=List UInt8×List UInt8
def MK:List Px:=[([38],[38,97,109,112,59]),([60],[38,108,116,59]),([62],[38,103,116,59]),([34],[38,113,117,111,116,59]),([39],[38,35,51,57,59])]
def em (c:UInt8):List UInt8:=if c=38 then [38,97,109,112,59] else if c=60 then [38,108,116,59] else if c=62 then [38,103,116,59] else if c=34 then [38,113,117,111,116,59] else if c=39 then [38,35,51,57,59] else [c]
def esc (s:List UInt8):List UInt8:=s.flatMap em
def Xi3 (c:UInt8) (m s:List UInt8):List UInt8:=s.flatMap fun x=>if x=c then m else [x]
theorem Xjr (c:UInt8) (m a b:List UInt8):Xi3 c m (a ++ b)=Xi3 c m a ++ Xi3 c m b:=Y1k ..
theorem Xi4 {c:UInt8} {m:List UInt8}:∀ {s:List UInt8},(∀ x∈s,x≠c)->Xi3 c m s=s
 | [],_=>rfl
 | x::s,h=>by
  show (if x=c then m else [x]) ++ Xi3 c m s=x::s
  rw [if_neg (h x (by simp)),Xi4 (fun y hy=>h y (by simp [hy]))]; rfl
theorem Xg2 (c:UInt8) (m:List UInt8):∀ (n:Nat) (s:List UInt8),s.length<=n->Go.Lib.replaceK [c] m (Go.Lib.count s [c]) s=Xi3 c m s:=by
 intro n
 induction n with
 | zero =>
  intro s h
  have:s=[]:=Yj (by omega)
  subst this;have hc:Go.Lib.count ([]:List UInt8) [c]=0:=Go.Lib.count_miss (by rw [Go.Lib.index_one]; rfl);rw [hc]; rfl
 | succ n ih =>
  intro s h;have hge:=Go.Lib.indexByte_ge s c
  by_cases e:Go.Lib.indexByte s c=-1
  ·have hi:Go.Lib.index s [c]=-1:=by rw [Go.Lib.index_one]; exact e
   rw [Go.Lib.count_miss hi];show s=Xi3 c m s
   refine (Xi4 fun x hx ex=>?_).symm;obtain ⟨k,hk⟩:=Yy.1 hx;exact Go.Lib.indexByte_none e k (by rw [hk,ex])
  ·obtain ⟨i,hk⟩:∃ k:Nat,Go.Lib.indexByte s c=k:=⟨(Go.Lib.indexByte s c).toNat,by omega⟩
   have hi:Go.Lib.index s [c]=i:=by rw [Go.Lib.index_one]; exact hk
   obtain ⟨h1,h2⟩:=Go.Lib.indexByte_some hk;have hlt:i<s.length:=(Y5.1 h1).1;rw [Go.Lib.count_hit (by simp) hi,Y4q 1,Go.Lib.replaceK_hit _ _ _ _ i hi];show s.take i ++ m ++ Go.Lib.replaceK [c] m (Go.Lib.count (s.drop (i+1)) [c]) (s.drop (i+1))=_
   rw [ih (s.drop (i+1)) (by rw [Yg]; omega)];have es:s=s.take i ++ c::s.drop (i+1):=by
    conv=>lhs; rw [<- Yv i s]
    rw [Y13 hlt,(Y5.1 h1).2]
   conv=>rhs; rw [es,Xjr]
   have hno:Xi3 c m (s.take i)=s.take i:=Xi4 fun x hx ex=>by
    obtain ⟨k,hk⟩:=Yy.1 hx;rw [Y1r] at hk;split at hk
    ·rename_i hki
     exact h2 k hki (by rw [hk,ex])
    ·cases hk
   rw [hno,Yd]
   congr 1
   show _=(if c=c then m else [c]) ++ Xi3 c m (s.drop (i+1))
   rw [if_pos rfl]
theorem Xi5 (c:UInt8) (m s:List UInt8) (h:([c] == m)=false):Go.Lib.replaceAll s [c] m=Xi3 c m s:=by
 unfold Go.Lib.replaceAll Go.Lib.replace Go.Lib.replaceNum;rw [h,if_neg (by decide),if_pos (.inl (by decide))];exact Xg2 c m _ s (Yq _)
def Xe7 (s:List UInt8) (m:Px):List UInt8:=Xi3 (m.1.headD 0) m.2 s
theorem Xtl (m:Px) (a b:List UInt8):Xe7 (a ++ b) m=Xe7 a m ++ Xe7 b m:=Xjr ..
theorem Xj6:∀ (l:List Px) (a b:List UInt8),l.foldl Xe7 (a ++ b)=l.foldl Xe7 a ++ l.foldl Xe7 b
 | [],a,b=>rfl
 | m::l,a,b=>by rw [Y3i,Y3i,Y3i,Xtl,Xj6 l]
theorem Xj7:∀ (l:List Px),l.foldl Xe7 []=[]
 | []=>rfl
 | m::l=>by rw [Y3i]; exact Xj7 l
theorem Xw8 (c:UInt8):MK.foldl Xe7 [c]=em c :=
 eq_of_beq (Xh (p:=fun c=>MK.foldl Xe7 [c] == em c) (by decide +kernel) c)
theorem Xj3:∀ (s:List UInt8),MK.foldl Xe7 s=esc s
 | []=>Xj7 MK
 | c::s=>by
  rw [show c::s=[c] ++ s from rfl,Xj6,Xw8,Xj3 s]; rfl
theorem em_len (c:UInt8):(em c).length<=6:=by
 have:=Xh (p:=fun c=>decide ((em c).length<=6)) (by decide +kernel) c
 simpa using this
theorem Xh7:∀ (s:List UInt8),(esc s).length<=6*s.length
 | []=>Yq _
 | c::s=>by
  have h1:=em_len c;have h2:=Xh7 s;show (em c ++ esc s).length<=_
  rw [Y0,List.length_cons]; omega
theorem Xjs (c:UInt8) (m:List UInt8) (hm:m.length<=6):∀ (s:List UInt8),(Xi3 c m s).length<=6*s.length
 | []=>Yq _
 | x::s=>by
  have h2:=Xjs c m hm s;show ((if x=c then m else [x]) ++ Xi3 c m s).length<=_
  rw [Y0,List.length_cons];split
  ·omega
  ·show 1+_<=_; omega
def X58 (t:List UInt8):Option Px:=MK.find? fun m=>Xg t m.2
def unF:Nat->List UInt8->Option (List UInt8)
 | 0,_=>some []
 | _+1,[]=>some []
 | f+1,c::r=>if c=38 then match X58 (c::r) with
   | none=>none
   | some m=>(unF f (r.drop (m.2.length - 1))).map (m.1 ++ ·)
  else (unF f r).map (c::·)
def un0 (s:List UInt8):Option (List UInt8):=unF (s.length+1) s
theorem Xe1:∀ (f g:Nat) (s:List UInt8),s.length<f->s.length<g->unF f s=unF g s
 | 0,_,_,h,_=>by omega
 | _+1,0,_,_,h=>by omega
 | f+1,g+1,[],_,_=>rfl
 | f+1,g+1,c::r,hf,hg=>by
  simp only [List.length_cons] at hf hg
  simp only [unF]
  split
  ·cases ht:X58 (c::r) with
   | none=>rfl
   | some m =>
    simp only
    rw [Xe1 f g (r.drop (m.2.length - 1)) (by rw [Yg]; omega) (by rw [Yg]; omega)]
  ·rw [Xe1 f g r (by omega) (by omega)]
theorem Xb5:un0 []=some []:=rfl
theorem X9p (c:UInt8) (r:List UInt8):un0 (c::r)=if c=38 then match X58 (c::r) with
   | none=>none
   | some m=>(un0 (r.drop (m.2.length - 1))).map (m.1 ++ ·)
  else (un0 r).map (c::·):=by
 unfold un0;simp only [List.length_cons,unF]
 split
 ·cases ht:X58 (c::r) with
  | none=>rfl
  | some m =>
   simp only
   rw [Xe1 (r.length+1) ((r.drop (m.2.length - 1)).length+1) (r.drop (m.2.length - 1)) (by rw [Yg]; omega) (by omega)]
 ·rfl
theorem X5i:∀ (a b:List UInt8),(∀ x∈a,x≠38)->un0 (a ++ b)=(un0 b).map (a ++ ·)
 | [],b,_=>by simp
 | c::a,b,h=>by
  show un0 (c::(a ++ b))=_
  rw [X9p,if_neg (h c (by simp)),X5i a b (fun x hx=>h x (by simp [hx]))];cases un0 b <;> rfl
def SIGNS:List UInt8:=[60,62,34,39]
def X48 (s:List UInt8):Option (List UInt8):=if s.any (fun c=>SIGNS.contains c)=true then none else un0 s
theorem Xe2 {s:List UInt8} (h:∀ x∈s,x≠38/\x≠60/\x≠62/\x≠34/\x≠39):X48 s=some s:=by
 unfold X48;rw [if_neg,<- Y9 s,X5i s [] (fun x hx=>(h x hx).1),Xb5]
 ·simp
 ·rw [Y35];rintro ⟨x,hx,hc⟩;obtain ⟨_,h1,h2,h3,h4⟩:=h x hx;simp [SIGNS,h1,h2,h3,h4] at hc
theorem Xf9:∀ {s:List UInt8},(∀ x∈s,x≠38/\x≠60/\x≠62/\x≠34/\x≠39)->esc s=s
 | [],_=>rfl
 | c::s,h=>by
  obtain ⟨h0,h1,h2,h3,h4⟩:=h c (by simp);show em c ++ esc s=c::s
  rw [Xf9 (fun x hx=>h x (by simp [hx])),em,if_neg h0,if_neg h1,if_neg h2,if_neg h3,if_neg h4]; rfl
theorem Xxm:∀ (n:Nat) (s t:List UInt8),s.length<=n->un0 s=some t->t.length<=s.length:=by
 intro n
 induction n with
 | zero =>
  intro s t h e
  have:s=[]:=Yj (by omega)
  subst this;rw [Xb5] at e; cases e; exact Yq _
 | succ n ih =>
  intro s t h e;cases s with
  | nil=>rw [Xb5] at e; cases e; exact Yq _
  | cons c r =>
   simp only [List.length_cons] at h ⊢
   rw [X9p] at e;split at e
   ·cases hm:X58 (c::r) with
    | none=>rw [hm] at e; cases e
    | some m =>
     rw [hm] at e;simp only at e
     cases hu:un0 (r.drop (m.2.length - 1)) with
     | none=>rw [hu] at e; cases e
     | some u =>
      rw [hu] at e;simp at e
      subst e;have h1:=ih _ u (by rw [Yg]; omega) hu;rw [Yg] at h1;have h2:m.1.length=1:=by
       have:=Y5d hm
       have hall:∀ m∈MK,m.1.length=1:=by decide
       exact hall m this
      rw [Y0]; omega
   ·cases hu:un0 r with
    | none=>rw [hu] at e; cases e
    | some u =>
     rw [hu] at e;simp at e
     subst e
     have:=ih r u (by omega) hu
     simp only [List.length_cons]; omega
theorem Xur {s t:List UInt8} (h:X48 s=some t):t.length<=s.length:=by
 unfold X48 at h;split at h
 ·cases h
 ·exact Xxm _ s t (Yq _) h
def Xss (c:UInt8):Bool:=(97<=c && c<=122) || (65<=c && c<=90)
def insB (c:UInt8):Bool:=Xss c || (48<=c && c<=57) || c == 58 || c == 45 || c == 95
def X8f (s:List UInt8):Bool:=!(s == []) && Xss (s.headD 0) && s.all insB
def shB (c:UInt8):Bool:=!(c == 127 || (c<32 && c != 9 && c != 10))
def X94 (s:List UInt8):Bool:=s.all shB
def X8v:List Px->List Px->Bool
 | _,[]=>true
 | done,a::r=>(X8f a.1 && X94 a.2 && !(done.any fun b=>b.1 == a.1)) && X8v (done ++ [a]) r
inductive Nd where
 | mk (name:List UInt8) (attrs:List Px) (text:List UInt8) (kids:List Nd)
def Nd.name:Nd->List UInt8 | .mk n _ _ _=>n
def Nd.attrs:Nd->List Px | .mk _ a _ _=>a
def Nd.text:Nd->List UInt8 | .mk _ _ t _=>t
def Nd.kids:Nd->List Nd | .mk _ _ _ k=>k
def nd0:Nd:=.mk [] [] [] []
def X3q (f:Int->Nd->Option Int):Int->List Nd->Option Int
 | left,[]=>some left
 | left,k::r=>match f left k with
  | none=>none
  | some l=>X3q f l r
def X2z:Nat->Int->Nd->Option Int
 | 0,_,_=>none
 | d+1,left,n=>if left - 1<0\/X8f n.name=false\/X8v [] n.attrs=false\/X94 n.text=false\/(n.text≠[]/\n.kids≠[]) then none else X3q (X2z d) (left - 1) n.kids
def X6j (a:Px):List UInt8:=32::(a.1 ++ [61,34] ++ esc a.2 ++ [34])
def X3f:Nat->Nd->List UInt8
 | 0,_=>[]
 | d+1,n=>60::n.name ++ (n.attrs.map X6j).flatten ++ 62::esc n.text ++ (n.kids.map (X3f d)).flatten ++ 60::47::n.name ++ [62]
def X1a:Nat->List UInt8->List Px->Option (List Px×List UInt8)
 | 0,_,_=>none
 | f+1,s,out=>if Xg s [32]=false then some (out,s) else if Xg (X6 [61] (s.drop 1)) [61,34]=false then none else match X48 (upto [34] ((X6 [61] (s.drop 1)).drop 2)) with
  | none=>none
  | some v=>if Xg (X6 [34] ((X6 [61] (s.drop 1)).drop 2)) [34]=false then none else X1a f ((X6 [34] ((X6 [61] (s.drop 1)).drop 2)).drop 1) (out ++ [(upto [61] (s.drop 1),v)])
def X3a (el:Int->List UInt8->Option (Nd×List UInt8×Int)):Nat->Int->List UInt8->List Nd->Option (List Nd×List UInt8×Int)
 | 0,_,_,_=>none
 | f+1,left,s,out=>if Xg s [60,47]=true then some (out,s,left) else match el left s with
  | none=>none
  | some (k,r,l)=>X3a el f l r (out ++ [k])
def X28:Nat->Int->List UInt8->Option (Nd×List UInt8×Int)
 | 0,_,_=>none
 | d+1,left,s=>if left - 1<0\/Xg s [60]=false then none else match X1a ((X6 [32,62] (s.drop 1)).length+1) (X6 [32,62] (s.drop 1)) [] with
  | none=>none
  | some (az,r)=>if Xg r [62]=false then none else match X48 (upto [60] (r.drop 1)) with
   | none=>none
   | some t=>match X3a (X28 d) ((X6 [60] (r.drop 1)).length+1) (left - 1) (X6 [60] (r.drop 1)) [] with
    | none=>none
    | some (ks,q,l)=>if Xg q (60::47::upto [32,62] (s.drop 1) ++ [62])=false then none else some (.mk (upto [32,62] (s.drop 1)) az t ks,q.drop ((upto [32,62] (s.drop 1)).length+3),l)
def Xhs (s:List UInt8):Option Nd:=match X28 8 200 s with
 | none=>none
 | some (n,r,_)=>if r≠[]\/(X2z 8 200 n).isNone=true then none else some n
theorem X5b {s p:List UInt8} (h:Xg s p=true):p.length<=s.length:=by
 unfold Xg at h;simp only [Yn,decide_eq_true_eq] at h
 omega
theorem X3c (p r:List UInt8):Xg (p ++ r) p=true:=by
 unfold Xg;rw [Yf,Y2d]
 simp
 omega
theorem X85:∀ (f:Nat) (s:List UInt8) (out:List Px) (az:List Px) (r:List UInt8),X1a f s out=some (az,r)->r.length<=s.length
 | 0,_,_,_,_,h=>by cases h
 | f+1,s,out,az,r,h=>by
  rw [X1a] at h;split at h
  ·cases h; exact Yq _
  ·split at h
   ·cases h
   ·split at h
    ·cases h
    ·split at h
     ·cases h
     ·have:=X85 f _ _ _ _ h
      have a1:=X2l [34] ((X6 [61] (s.drop 1)).drop 2);have a2:=X2l [61] (s.drop 1);simp only [Yg] at this a1 a2
      omega
theorem Xfl {el:Int->List UInt8->Option (Nd×List UInt8×Int)} (hel:∀ l s k r l2,el l s=some (k,r,l2)->r.length<s.length):∀ (f:Nat) (left:Int) (s:List UInt8) (out ks:List Nd) (r:List UInt8) (l2:Int),X3a el f left s out=some (ks,r,l2)->r.length<=s.length
 | 0,_,_,_,_,_,_,h=>by cases h
 | f+1,left,s,out,ks,r,l2,h=>by
  rw [X3a] at h;split at h
  ·cases h; exact Yq _
  ·split at h
   ·cases h
   ·rename_i k r1 l1 he
    have:=hel _ _ _ _ _ he
    have:=Xfl hel f _ _ _ _ _ _ h
    omega
theorem Xaa:∀ (d:Nat) (left:Int) (s:List UInt8) (k:Nd) (r:List UInt8) (l2:Int),X28 d left s=some (k,r,l2)->r.length<s.length
 | 0,_,_,_,_,_,h=>by cases h
 | d+1,left,s,k,r,l2,h=>by
  rw [X28] at h;split at h
  ·cases h
  ·rename_i h0
   simp only [not_or,Bool.not_eq_false] at h0
   have h1:=X5b h0.2;split at h
   ·cases h
   ·rename_i az r1 ha
    split at h
    ·cases h
    ·split at h
     ·cases h
     ·split at h
      ·cases h
      ·rename_i ks q l hk
       split at h
       ·cases h
       ·cases h
        have a1:=X85 _ _ _ _ _ ha;have a2:=Xfl (fun _ _ _ _ _ h=>Xaa d _ _ _ _ _ h) _ _ _ _ _ _ _ hk;have a3:=X2l [60] (r1.drop 1);have a4:=X2l [32,62] (s.drop 1);simp only [Yg,List.length_cons,List.length_nil] at *
        omega
theorem Xa1:∀ (f g:Nat) (s:List UInt8) (out:List Px),s.length<f->s.length<g->X1a f s out=X1a g s out
 | 0,_,_,_,h,_=>by omega
 | _+1,0,_,_,_,h=>by omega
 | f+1,g+1,s,out,hf,hg=>by
  rw [X1a,X1a];split
  ·rfl
  ·rename_i h0
   have h1:=X5b (Bool.not_eq_false _ ▸ h0);split
   ·rfl
   ·split
    ·rfl
    ·split
     ·rfl
     ·have a1:=X2l [34] ((X6 [61] (s.drop 1)).drop 2);have a2:=X2l [61] (s.drop 1);simp only [Yg,List.length_cons,List.length_nil] at *
      exact Xa1 f g _ _ (by simp only [Yg]; omega) (by simp only [Yg]; omega)
end Xm
namespace Gk
open Go
section
variable {P:Program} {n:Nat} {K:X34} {L:Env} {w:World} {ops:Array Oper} {rest:List Oper}
theorem WL.opn {d:Option Nat} {op:Op} {ty:TypeId} {pos:String} {af:Array Edge} {j t:Nat} {want:Bool} (hj:(ops[j]?).bind (·.dst)=some t) (ht:Nat.blt t n=true) (hb:look L t=some (.bool want))
  (h:WL P n ops K (⟨d,op,ty,pos,af,none⟩::rest) L w):WL P n ops K (⟨d,op,ty,pos,af,some (j,want)⟩::rest) L w:=by
 intro a ha;have h1:=h a ha;have hlt:t<a.tmps.size:=by have:=Y26 ht; rw [ha.size]; omega
 have hv:=ha.get t _ hb;have hy:yielded ops a.tmps j=some want:=by
  obtain ⟨o,ho,hdd⟩:=Y2e.1 hj;rw [Y16,Y19 hlt] at hv;simp only [Y2z] at hv
  have h2:a.tmps[t]?=some (.bool want):=by rw [Y19 hlt,hv]
  simp only [yielded,ho,hdd,Y38,h2]
 unfold wpList at h1 ⊢;rw [if_pos (by simp [Region.wanted])] at h1;rw [if_pos (by simp [Region.wanted,hy])];exact h1
end
end Gk
namespace Go.Proofs.YtbciobiiejpdgaaGreatDoor
open Gk Ul Pc Pat Xm Tr
theorem X70 {I:Im} {p:Addr} {vs:List Value} (h:At I p vs) (n:Nat):At I p (vs.take n):=by
 obtain ⟨h1,arr,E,fr,h2,h3⟩:=h;refine ⟨h1,arr,E,fr,h2,fun j v hj=>?_⟩;rw [Y1r] at hj;split at hj
 ·exact h3 j v hj
 ·cases hj
theorem Xcg {α:Type} {cells:α->List Value} {s:Nat} (hc:∀ x,(cells x).length=s) {I:Im} {a:Option Addr} {l:List α} (hR:RS I a s l.length (X9 cells l)) {i:Nat} {x:α} (hx:l[i]?=some x):∃ q,a=some q/\At I (q.add (i*s)) (cells x):=by
 obtain ⟨q,rfl,hq⟩:=hR.2 (by have:=(Y5.1 hx).1; omega);refine ⟨q,rfl,?_⟩;have h3:=X70 (hq.add (i*s)) s;rw [X9,X1f (l.map cells) (fun c h=>by obtain ⟨y,_,rfl⟩:=Y2b.1 h; exact hc y) i (cells x) (by rw [Yu,hx]; rfl)] at h3;exact h3
def Xq (p:Px):List Value:=[S p.1,S p.2]
def MKC:List Value:=X9 Xq MK
structure Kx (I:Im):Prop where
 mks:At I (ad 2 0) MKC
 pow : ∀ (B w : World) (As : List X7), Sat B w I As → Go.Lib.TabIs Tryz.prog w "internal/strconv.uint64pow10" .u64 Go.Lib.pow10Tab
 max:∀ (B w:World) (As:List X7),Sat B w I As->∃ m,w.cell? ⟨6,0,none⟩=some (.int .i64 m)
 syn:∀ (B w:World) (As:List X7),Sat B w I As->∃ te pe,w.cell? ⟨3,0,none⟩=some (.iface te pe)
 rng:∀ (B w:World) (As:List X7),Sat B w I As->∃ te pe,w.cell? ⟨4,0,none⟩=some (.iface te pe)
theorem X5e {B w:World} {I J:Im} {As:List X7} (hl:Le I J):Sat B w J As->Sat B w I As:=fun ⟨g,h1,h2⟩=>⟨g,h1,h2.os,h2.tape,h2.output,fun b o hi=>h2.imm b o (hl b o hi),h2.own,h2.nodup,fun b o hm=>by
  cases hi:I b with
  | none=>rfl
  | some x=>have:=h2.apart b o hm; rw [hl b x hi] at this; cases this⟩
theorem Kx.mono {I J:Im} (h:Kx I) (hl:Le I J):Kx J :=
 ⟨h.mks.mono hl,fun B w As s=>h.pow B w As (X5e hl s),fun B w As s=>h.max B w As (X5e hl s),fun B w As s=>h.syn B w As (X5e hl s),fun B w As s=>h.rng B w As (X5e hl s)⟩
theorem Xim (s:List UInt8) (c:UInt8) (hs:s.length<=1000000) (B w:World) (I:Im) (hK:Kx I) (As:List X7) (hS:Sat B w I As):Calls Tryz.prog 187 [S s,S [c]].toArray w (Ret fun v w'=>v=.tuple #[S (upto [c] s),S ((X6 [c] s).drop 1),.bool (!(X6 [c] s).isEmpty)]/\Sat B w' I As):=by
 obtain ⟨m,hm⟩:=hK.max B w As hS;refine (Tryz.strings_Cut ⟨s.toArray⟩ ⟨[c].toArray⟩ m w (by show s.length<_; omega) hm).mono fun e w' he=>?_
 obtain ⟨rfl,n,rfl⟩:=he;refine ⟨_,rfl,?_,X53 hS n⟩;show Value.tuple #[S (Go.Lib.cut s [c]).1,S (Go.Lib.cut s [c]).2.1,.bool (Go.Lib.cut s [c]).2.2]=_
 rw [Xo3]
theorem Xeu (s m:List UInt8) (c:UInt8) (hs:s.length<=100000000) (hm:m.length<=6) (hne:([c] == m)=false) (B w:World) (I:Im) (hK:Kx I) (As:List X7) (hS:Sat B w I As):Calls Tryz.prog 203 [S s,S [c],S m].toArray w (Ret fun v w'=>v=S (Xi3 c m s)/\Sat B w' I As):=by
 obtain ⟨q,hq⟩:=hK.max B w As hS;have hcnt:Go.Lib.countB ⟨s.toArray⟩ ⟨[c].toArray⟩<=s.length:=by
  have h:∀ (n:Nat) (s:List UInt8),s.length<=n->Go.Lib.count s [c]<=s.length:=by
   intro n
   induction n with
   | zero =>
    intro s h
    have:s=[]:=Yj (by omega)
    subst this;rw [Go.Lib.count_miss (by rw [Go.Lib.index_one]; rfl)]; exact Yq _
   | succ n ih =>
    intro s h;have hge:=Go.Lib.indexByte_ge s c
    by_cases e:Go.Lib.indexByte s c=-1
    ·rw [Go.Lib.count_miss (by rw [Go.Lib.index_one]; exact e)]; exact Yo _
    ·obtain ⟨i,hk⟩:∃ k:Nat,Go.Lib.indexByte s c=k:=⟨(Go.Lib.indexByte s c).toNat,by omega⟩
     have hlt:i<s.length:=(Y5.1 (Go.Lib.indexByte_some hk).1).1;rw [Go.Lib.count_hit (by simp) (by rw [Go.Lib.index_one]; exact hk)]
     have:=ih (s.drop (i+1)) (by rw [Yg]; omega)
     rw [Yg] at this;show 1+Go.Lib.count (s.drop (i+1)) [c]<=_
     omega
  exact h _ s (Yq _)
 refine (Tryz.strings_ReplaceAll ⟨s.toArray⟩ ⟨[c].toArray⟩ ⟨m.toArray⟩ q w (by show s.length<_; omega) hq (Yq 1) ?_).mono fun e w' he=>?_
 ·show s.length+Go.Lib.countB ⟨s.toArray⟩ ⟨[c].toArray⟩*m.length<=_
  have:Go.Lib.countB ⟨s.toArray⟩ ⟨[c].toArray⟩*m.length<=s.length*6:=Y5f hcnt hm
  omega
 ·obtain ⟨rfl,hb⟩:=he;refine ⟨_,rfl,?_,hS.grown hb⟩;show S (Go.Lib.replaceAll s [c] m)=_
  rw [Xi5 c m s hne]
theorem Xwe:∀ (s p:List UInt8),Go.Lib.hasPrefix s p=Xg s p:=by
 intro s p;unfold Go.Lib.hasPrefix Xg;rw [Y2u,Y41,List.prefix_iff_eq_take,Yf];simp only [Yn,decide_eq_true_eq,beq_iff_eq]
 constructor
 ·intro h
  have:=congrArg List.length h
  rw [Yr] at this;exact ⟨by omega,h.symm⟩
 ·exact fun h=>h.2.symm
theorem Xcq (s p:List UInt8) (B w:World) (I:Im) (As:List X7) (hS:Sat B w I As):Calls Tryz.prog 190 [S s,S p].toArray w (Ret fun v w'=>v=.tuple #[S (if Xg s p=true then s.drop p.length else s),.bool (Xg s p)]/\Sat B w' I As):=by
 refine (Tryz.strings_CutPrefix ⟨s.toArray⟩ ⟨p.toArray⟩ w).mono fun e w' he=>?_
 obtain ⟨rfl,rfl⟩:=he;refine ⟨_,rfl,?_,hS⟩;show Value.tuple #[S (Go.Lib.trimPrefix s p),.bool (Go.Lib.hasPrefix s p)]=_
 unfold Go.Lib.trimPrefix;rw [Xwe]
theorem Xcs (s:List UInt8) (c:UInt8) (hc:c.toNat<128) (B w:World) (I:Im) (As:List X7) (hS:Sat B w I As):Calls Tryz.prog 191 [S s,S [c]].toArray w (Ret fun v w'=>v=I64 (Go.Lib.indexAny s [c])/\Sat B w' I As):=by
 refine (Tryz.strings_IndexAny_one ⟨s.toArray⟩ ⟨[c].toArray⟩ w rfl (fun j b h=>?_)).mono fun e w' he=>?_
 ·cases j with
  | zero=>have h:some c=some b:=h; cases h; exact hc
  | succ j=>have h:([]:List UInt8)[j]?=some b:=h; simp at h
 ·obtain ⟨rfl,rfl⟩:=he;exact ⟨_,rfl,rfl,hS⟩
theorem Ex.indexArrA {P:Program} {n:Nat} {L:Env} {w:World} {x y:Operand} {t:TypeId} {ty:TypeId} {pos:String} {af:Array Edge} {g:Option (Nat×Bool)} {d:Option Nat} {m s:Nat} {e:TypeId} {vs us:List Value} {i:Int} {q:IntKind} (hx:Ev n L x (.agg vs.toArray)) (hy:Ev n L y (.int q i)) (hi:0<=i) (hl:i<(m:Int)) (ht:P.underlying t=some (.array m e)) (hs:∀ w,(Go.sizeOf e).run P w=.ok s w) (ha:∀ w,(isAgg e).run P w=.ok true w) (hv:(vs.drop (i.toNat*s)).take s=us) (hle:i.toNat*s+s<=vs.length) :
  Ex P n L w ⟨d,.index t x y,ty,pos,af,g⟩ (.agg us.toArray) w:=fun b hb=>by
 subst hv;simp [execOp,hx b hb,hy b hb,Instr.index,run_underlying ht,asIntOf,hi,hl,hs,ha,part,hle]
theorem Xwn (c:UInt8):((decide (97<=(c.toNat:Int)) && decide ((c.toNat:Int)<=122)) || (decide (65<=(c.toNat:Int)) && decide ((c.toNat:Int)<=90)))=Xss c:=eq_of_beq (Xh (p:=fun c=>((decide (97<=(c.toNat:Int)) && decide ((c.toNat:Int)<=122)) || (decide (65<=(c.toNat:Int)) && decide ((c.toNat:Int)<=90))) == Xss c) (by decide +kernel) c)
theorem Xwh (c:UInt8):((((Xss c || (decide (48<=(c.toNat:Int)) && decide ((c.toNat:Int)<=57))) || ((c.toNat:Int) == 58)) || ((c.toNat:Int) == 45)) || ((c.toNat:Int) == 95))=insB c:=eq_of_beq (Xh (p:=fun c=>((((Xss c || (decide (48<=(c.toNat:Int)) && decide ((c.toNat:Int)<=57))) || ((c.toNat:Int) == 58)) || ((c.toNat:Int) == 45)) || ((c.toNat:Int) == 95)) == insB c) (by decide +kernel) c)
theorem Xum (c:UInt8):(((c.toNat:Int) == 127) || ((decide ((c.toNat:Int)<32) && ((c.toNat:Int) != 9)) && ((c.toNat:Int) != 10)))=!shB c:=eq_of_beq (Xh (p:=fun c=>(((c.toNat:Int) == 127) || ((decide ((c.toNat:Int)<32) && ((c.toNat:Int) != 9)) && ((c.toNat:Int) != 10))) == !shB c) (by decide +kernel) c)
theorem Xfg {s:List UInt8} (h:s≠[]):s.headD 0=at_ s 0:=by
 cases s with
 | nil=>exact absurd rfl h
 | cons a b=>rfl
theorem Xbe (c:UInt8) (B w:World) (I:Im) (As:List X7) (hS:Sat B w I As) :
  Cz 237 [U8 c.toNat] w fun v w'=>v=.bool (Xss c)/\Sat B w' I As:=by
 refine calls Tryz.func237 rfl Tryz.ntmps237 rfl (.seq (.q 1 rfl (.seq (.t 3 rfl (.gm rfl rfl rfl rfl (.gval rfl rfl (fun hg1=>(.leq (.gd hg1 rfl) (.of rfl))) rfl (.val (.pa rfl rfl rfl) rfl (.q 1 rfl (.gm rfl rfl rfl rfl (.gval rfl rfl (fun hg1=>(.geq (.gd hg1 rfl) (.of rfl))) rfl (.gval rfl rfl (fun hg1=>(.move (.gd hg1 rfl))) rfl (.gval2 rfl rfl rfl (fun hg1 hg2=>(.mo rfl)) rfl (.gval2 rfl rfl rfl (fun hg1 hg2=>(.leq (.gd2 hg1 hg2 rfl) (.of rfl))) rfl (.gval rfl rfl (fun hg1=>(.pand (.gd hg1 rfl) (.gd hg1 rfl) (.of rfl))) rfl (.val (.po rfl rfl rfl) rfl (.q 1 rfl (.nil (.ret (Xc Tryz.results237 rfl ?_)))))))))))))))))));exact ⟨_,rfl,congrArg Value.bool (Xwn c),hS⟩
theorem Xil (c:UInt8) (B w:World) (I:Im) (As:List X7) (hS:Sat B w I As) :
  Cz 238 [U8 c.toNat] w fun v w'=>v=.bool (insB c)/\Sat B w' I As:=by
 refine calls Tryz.func238 rfl Tryz.ntmps238 rfl (.seq (.q 1 rfl (.seq (.t 1 rfl (.call Tryz.func237 rfl (ec9 rfl X0) rfl (Xbe c B _ I _ hS) ?_)))));rintro _ w ⟨rfl,hS⟩;refine .q 1 rfl (.gm rfl rfl rfl rfl (.gval rfl rfl (fun hg1=>(.geq (.gd hg1 rfl) (.of rfl))) rfl (.gval rfl rfl (fun hg1=>(.move (.gd hg1 rfl))) rfl (.gval2 rfl rfl rfl (fun hg1 hg2=>(.mo rfl)) rfl (.gval2 rfl rfl rfl (fun hg1 hg2=>(.leq (.gd2 hg1 hg2 rfl) (.of rfl))) rfl (.gval rfl rfl (fun hg1=>(.pand (.gd hg1 rfl) (.gd hg1 rfl) (.of rfl))) rfl (.val (.po rfl rfl rfl) rfl (.q 1 rfl (.gm rfl rfl rfl rfl (.gval rfl rfl (fun hg1=>(.eql (.gd hg1 rfl) (.of rfl))) rfl (.val (.po rfl rfl rfl) rfl (.q 1 rfl (.gm rfl rfl rfl rfl (.gval rfl rfl (fun hg1=>(.eql (.gd hg1 rfl) (.of rfl))) rfl (.val (.po rfl rfl rfl) rfl (.q 1 rfl (.gm rfl rfl rfl rfl (.gval rfl rfl (fun hg1=>(.eql (.gd hg1 rfl) (.of rfl))) rfl (.val (.po rfl rfl rfl) rfl (.q 1 rfl (.nil (.ret (Xc Tryz.results238 rfl ?_)))))))))))))))))))))));exact ⟨_,rfl,congrArg Value.bool (Xwh c),hS⟩
theorem Xge (s:List UInt8) (hl:s.length<=1000000) (B w:World) (I:Im) (As:List X7) (hS:Sat B w I As) :
  Cz 196 [S s] w fun v w'=>v=.bool (X8f s)/\Sat B w' I As:=by
 refine calls Tryz.func196 rfl Tryz.ntmps196 rfl (.seq (.q 1 rfl (.seq (.seq (.t 3 rfl (.gm rfl rfl rfl rfl ?_))))));refine .gval rfl rfl (fun hg1=>.index8 (l:=s) (i:=(0:Int)) (.gd hg1 rfl) (.of rfl) (by omega) (by have:=Y20.2 (show s≠[] from by simpa using hg1); omega) Qu9) rfl ?_;refine .gcall (T:=fun w=>Sat B w I As) rfl rfl rfl Tryz.func237 rfl (fun hg1=>(Xd (.gd hg1 rfl) X0)) rfl (fun hg1=>Xbe (at_ s 0) B _ I _ hS) hS ?_;rintro w hS;refine .gval rfl rfl (fun hg1=>(.not (.gd hg1 rfl))) rfl (.val (.po rfl rfl rfl) rfl (.nil ?_));refine .cond rfl (fun hb11=>?_) fun hb11=>?_
 ·refine .seq (.q 1 rfl (.ret (Xc Xv8 rfl ?_)));refine ⟨_,rfl,congrArg Value.bool ?_,hS⟩;unfold X8f
  by_cases hs:s=[]
  ·rw [hs]; rfl
  ·have h:=hb11;rw [show (s == [])=false by simpa using hs,Y3m] at h;rw [Xfg hs,show Xss (at_ s 0)=false by simpa using h,Y43]; rfl
 have hc11:=hb11; simp only [Y6] at hc11;refine .skip (.seq (.seq (.region (.run 3 rfl ⟨Qu9,trivial⟩ (.nil (.block (.loop (σ:=Nat) (fun i=>[(0,S s),(13,I64 (s.length:Nat)),(14,I64 (i:Nat))]) (fun i w=>i<=s.length/\(∀ j,j<i->j<s.length->insB (at_ s (j:Int))=true)/\Sat B w I As) (fun i=>s.length - i) 0 ⟨rfl,rfl,rfl,trivial⟩ ⟨Yo _,fun _ h=>absurd h (by omega),hS⟩ ?_)))))));rintro i w ⟨hi,hok,hS⟩;refine .seq (.q 1 rfl (.seq ?_));refine .cond rfl (fun hb15=>?_) fun hb15=>?_
 ·have hc15:=hb15; simp only [Y6] at hc15;refine .skip (.seq (.block (.seq (.q 2 rfl (.seq (.region (.run 3 rfl ⟨⟨⟨by omega,by omega⟩,Qu9⟩,trivial⟩ (.call Tryz.func238 rfl (ec9 rfl X0) rfl (Xil (at_ s (i:Int)) B _ I _ hS) ?_))))))));rintro _ w ⟨rfl,hS⟩;refine .q 1 rfl (.nil ?_);refine .cond rfl (fun hb21=>?_) fun hb21=>?_
  ·have hc21:=hb21; simp only [Y6] at hc21;refine .seq (.q 1 rfl (.ret (Xc Xv8 rfl ?_)));refine ⟨_,rfl,congrArg Value.bool ?_,hS⟩;unfold X8f;rw [X5a (p:=insB) (i:=i) (by omega) (by simpa using hb21),Y43]
  have hc21:=hb21; simp only [Y6] at hc21;refine .skip (.region (.run 2 rfl ⟨⟨by omega,by omega⟩,trivial⟩ (.nil ?_)));refine ⟨i+1,⟨rfl,rfl,rfl,trivial⟩,⟨by omega,fun j hj hjl=>?_,hS⟩,by omega⟩;rcases Yp j i with h1 | h1
  ·exact hok j h1 hjl
  ·have e:j=i:=by omega
   subst e;simpa using hb21
 have hc15:=hb15; simp only [Y6] at hc15;refine .exit (.seq (.q 1 rfl (.ret (Xc Xv8 rfl ?_))));refine ⟨_,rfl,congrArg Value.bool ?_,hS⟩;have h:=hb11;simp only [Y10,Y2m] at h
 have hs:s≠[]:=by simpa using h.1
 unfold X8f;rw [Xfg hs,h.1,h.2,X69 hok (by omega)]; rfl
theorem Xcp (s:List UInt8) (hl:s.length<=1000000) (B w:World) (I:Im) (As:List X7) (hS:Sat B w I As) :
  Cz 198 [S s] w fun v w'=>v=.bool (X94 s)/\Sat B w' I As:=by
 refine calls Tryz.func198 rfl Tryz.ntmps198 rfl (.seq (.q 1 rfl (.seq (.seq (.region (.run 3 rfl ⟨Qu9,trivial⟩ (.nil (.block (.loop (σ:=Nat) (fun i=>[(0,S s),(6,I64 (s.length:Nat)),(7,I64 (i:Nat))]) (fun i w=>i<=s.length/\(∀ j,j<i->j<s.length->shB (at_ s (j:Int))=true)/\Sat B w I As) (fun i=>s.length - i) 0 ⟨rfl,rfl,rfl,trivial⟩ ⟨Yo _,fun _ h=>absurd h (by omega),hS⟩ ?_)))))))));rintro i w ⟨hi,hok,hS⟩;refine .seq (.q 1 rfl (.seq ?_));refine .cond rfl (fun hb8=>?_) fun hb8=>?_
 ·have hc8:=hb8; simp only [Y6] at hc8;refine .skip (.seq (.block (.seq (.q 2 rfl (.seq (.region (.run 4 rfl ⟨⟨⟨by omega,by omega⟩,Qu9⟩,trivial⟩ (.nil (.seq (.t 3 rfl (.gm rfl rfl rfl rfl (.gval rfl rfl (fun hg1=>(.lss (.gd hg1 rfl) (.of rfl))) rfl (.gval rfl rfl (fun hg1=>(.move (.gd hg1 rfl))) rfl (.gval2 rfl rfl rfl (fun hg1 hg2=>(.mo rfl)) rfl (.gval2 rfl rfl rfl (fun hg1 hg2=>(.neq (.gd2 hg1 hg2 rfl) (.of rfl))) rfl (.gval rfl rfl (fun hg1=>(.pand (.gd hg1 rfl) (.gd hg1 rfl) (.of rfl))) rfl (.gval rfl rfl (fun hg1=>(.move (.gd hg1 rfl))) rfl (.gval2 rfl rfl rfl (fun hg1 hg2=>(.mo rfl)) rfl (.gval2 rfl rfl rfl (fun hg1 hg2=>(.neq (.gd2 hg1 hg2 rfl) (.of rfl))) rfl (.gval rfl rfl (fun hg1=>(.pand (.gd hg1 rfl) (.gd hg1 rfl) (.of rfl))) rfl (.val (.po rfl rfl rfl) rfl (.nil ?_))))))))))))))))))))));refine .cond rfl (fun hb26=>?_) fun hb26=>?_
  ·have hc26:=hb26; simp only [Y6] at hc26;refine .seq (.q 1 rfl (.ret (Xc Tryz.results198 rfl ?_)));refine ⟨_,rfl,congrArg Value.bool ?_,hS⟩;have hh:=Xum (at_ s (i:Int));rw [hb26] at hh;exact (X5a (p:=shB) (i:=i) (by omega) (by simpa using hh.symm)).symm
  have hc26:=hb26; simp only [Y6] at hc26;refine .skip (.region (.run 2 rfl ⟨⟨by omega,by omega⟩,trivial⟩ (.nil ?_)));refine ⟨i+1,⟨rfl,rfl,rfl,trivial⟩,⟨by omega,fun j hj hjl=>?_,hS⟩,by omega⟩;rcases Yp j i with h1 | h1
  ·exact hok j h1 hjl
  ·have e:j=i:=by omega
   subst e;have hh:=Xum (at_ s (j:Int));rw [hb26] at hh;simpa using hh.symm
 have hc8:=hb8; simp only [Y6] at hc8;refine .exit (.seq (.q 1 rfl (.ret (Xc Tryz.results198 rfl ?_))));exact ⟨_,rfl,congrArg Value.bool (X69 hok (by omega)).symm,hS⟩
theorem X68 (a:Option Addr) (cap:Nat) (l:List (Px)) (hln:l.length<=9223372036854775807) (pr:Px->Bool) (fid:FuncId) (fn:Func) (hfn:Tryz.prog.funcs[fid]?=some fn) (hcal:Xj fn=true) (capv:List Value) (B w:World) (I:Im) (As:List X7) (hE:∀ w,Sat B w I As->X6y w Xq 2 a l) (hf:∀ (r:Px) (hr:r∈l) w,Sat B w I As->Calls Tryz.prog fid ([Value.agg (Xq r).toArray] ++ capv).toArray w (Ret fun v w'=>v=.bool (pr r)/\Sat B w' I As)) (hS:Sat B w I As) :
  Cz 193 [.slice a l.length cap,.func (.func fid) #[] capv.toArray] w fun v w'=>v=I64 (Xx pr l 0)/\Sat B w' I As:=by
 refine calls Xmp rfl Tryz.ntmps193 rfl (.seq (.q 1 rfl (.seq (.seq (.region (.run 3 rfl ⟨⟨_,X2e⟩,trivial⟩ (.nil (.block (.loop (σ:=Nat) (fun i=>[(0,.slice a l.length cap),(1,.func (.func fid) #[] capv.toArray),(7,I64 (l.length:Nat)),(8,I64 (i:Nat))]) (fun i w=>i<=l.length/\(∀ (j:Nat) t,j<i->l[j]?=some t->pr t=false)/\Sat B w I As) (fun i=>l.length - i) 0 ⟨rfl,rfl,rfl,rfl,trivial⟩ ⟨Yo _,fun _ _ h=>absurd h (by omega),hS⟩ ?_)))))))));rintro i w ⟨hi,hno,hS⟩;refine .seq (.q 1 rfl (.seq ?_));refine .cond rfl (fun hb9=>?_) fun hb9=>?_
 ·have hc9:=hb9; try simp only [Y6] at hc9
  refine .skip (.seq (.block (.seq ?_)));obtain ⟨r,hr⟩:∃ r,l[i]?=some r:=⟨_,Y4 (by omega)⟩
  obtain ⟨p,rfl,hx⟩:=hE w hS i r hr;refine .q 2 rfl (.seq (.t 3 rfl ?_));refine .val (.ii rfl rfl (by omega) (by omega) X2e X2i) rfl (.val (.ldR (.of rfl) hx Xkd X2i rfl) rfl (.vcall (cap:=capv) hfn hcal (.of rfl) (ec9 rfl X0) rfl (hf r (Yl hr) w hS) ?_));clear hS;rintro _ w ⟨rfl,hS⟩;refine .nil (.cond rfl (fun hb16=>?_) fun hb16=>?_)
  ·refine .seq (.q 2 rfl (.ret (Xc Xr1 rfl ?_)));exact ⟨_,rfl,by rw [X2k hno hr hb16],hS⟩
  have hc16:=hb16; try simp only [Y6] at hc16
  refine .skip (.region (.run 2 rfl ⟨⟨by omega,by omega⟩,trivial⟩ (.nil ?_)));refine ⟨i+1,⟨rfl,rfl,rfl,rfl,trivial⟩,⟨by (try dsimp only); omega,fun j t hj ht=>?_,hS⟩,by (try dsimp only); omega⟩;rcases Yp j i with h1 | h1
  ·exact hno j t h1 ht
  ·have e:j=i:=by omega
   subst e;rw [hr] at ht; cases ht;exact hb16
 have hc9:=hb9; try simp only [Y6] at hc9
 refine .exit (.seq (.q 1 rfl (.ret (Xc Xr1 rfl ?_))));exact ⟨_,rfl,by rw [X21 (fun j t ht=>hno j t (by have:=(Y5.1 ht).1; omega) ht)],hS⟩
theorem X7z (a:Option Addr) (cap:Nat) (l:List (Px)) (hln:l.length<=9223372036854775807) (pr:Px->Bool) (fid:FuncId) (fn:Func) (hfn:Tryz.prog.funcs[fid]?=some fn) (hcal:Xj fn=true) (capv:List Value) (B w:World) (I:Im) (As:List X7) (hE:∀ w,Sat B w I As->X6y w Xq 2 a l) (hf:∀ (r:Px) (hr:r∈l) w,Sat B w I As->Calls Tryz.prog fid ([Value.agg (Xq r).toArray] ++ capv).toArray w (Ret fun v w'=>v=.bool (pr r)/\Sat B w' I As)) (hS:Sat B w I As) :
  Cz 169 [.slice a l.length cap,.func (.func fid) #[] capv.toArray] w fun v w'=>v=.bool (l.any pr)/\Sat B w' I As:=by
 refine calls Xqs rfl Tryz.ntmps169 rfl (.seq (.q 1 rfl (.seq (.t 2 rfl (.call Xmp rfl (ec9 rfl (ec9 rfl X0)) rfl (X68 a cap l hln pr fid fn hfn hcal capv B _ I As hE hf hS) ?_)))));rintro _ w ⟨rfl,hS⟩;refine .q 2 rfl (.nil (.ret (Xc Tryz.results169 rfl ?_)));exact ⟨_,rfl,by rw [<- X24 pr l 0],hS⟩
theorem Xkm (r a:Px) (b4:Nat) (B w:World) (I:Im) (As:List X7) (hS:Sat B w I (blk b4 [S a.1,S a.2] 136::As)) :
  Cz 239 [.agg (Xq r).toArray,ptr b4 0] w fun v w'=>v=.bool (r.1 == a.1)/\Sat B w' I (blk b4 [S a.1,S a.2] 136::As):=by
 refine calls Tryz.func239 rfl Tryz.ntmps239 rfl (.seq (.region (.boxA (cs:=[_,_]) hS (.of rfl) rfl ?_)));intro b2 w hS;refine .q 1 rfl (.nil (.seq (.region ?_)));refine .val (.fo 0 rfl X3j rfl rfl Qs9 rfl) rfl (.val (.lo rfl hS (k:=0) rfl Qg9 rfl) rfl (.val (.fo 0 rfl X3j rfl rfl Qs9 rfl) rfl (.val (.lo rfl hS (k:=1) rfl Qg9 rfl) rfl (.q 2 rfl (.nil (.ret (Xc Tryz.results239 rfl ?_)))))));exact ⟨_,rfl,rfl,hS.y 0 1⟩
theorem Xx9 {I:Im} {a:Option Addr} {l:List Px} (h:RS I a 2 l.length (X9 Xq l)) (k:Nat) (hk:k<=l.length):RS I a 2 (l.take k).length (X9 Xq (l.take k)):=by
 refine ⟨X1x (cells:=Xq) (s:=2) (fun _=>rfl) _,fun h0=>?_⟩;obtain ⟨p,rfl,hA⟩:=h.2 (by rw [Yr] at h0; omega);refine ⟨p,rfl,?_⟩;have h9:=X70 hA (X9 Xq (l.take k)).length;have e:(X9 Xq l).take (X9 Xq (l.take k)).length=X9 Xq (l.take k):=by
  have e2:X9 Xq l=X9 Xq (l.take k) ++ X9 Xq (l.drop k):=by
   conv=>lhs; rw [<- Yv k l]
   unfold X9; rw [Yw,Y29]
  conv=>lhs; rw [e2]
  exact Y2d
 rw [e] at h9; exact h9
set_option maxRecDepth 20000 in
theorem Xm3 (sa:Option Addr) (cap:Nat) (l:List Px) (hcap:l.length<=cap) (hll:l.length<=9223372036854775807) (hsm:∀ a∈l,a.1.length<=1000000/\a.2.length<=1000000) (B w:World) (I:Im) (hR:RS I sa 2 l.length (X9 Xq l)) (As:List X7) (hS:Sat B w I As) :
  Cz 197 [.slice sa l.length cap] w fun v w'=>v=.bool (X8v [] l)/\Sat B w' I As:=by
 refine calls Tryz.func197 rfl Tryz.ntmps197 rfl (.seq (.q 1 rfl (.seq (.seq (.region (.run 3 rfl ⟨⟨_,X2e⟩,trivial⟩ (.nil (.block (.loop (σ:=Nat) (fun i=>[(0,.slice sa l.length cap),(5,.slice sa l.length cap),(6,I64 (l.length:Nat)),(7,I64 (i:Nat))]) (fun i w=>i<=l.length/\X8v [] l=X8v (l.take i) (l.drop i)/\Sat B w I As) (fun i=>l.length - i) 0 ⟨rfl,rfl,rfl,rfl,trivial⟩ ⟨Yo _,rfl,hS⟩ ?_)))))))));rintro i w ⟨hi,hok,hS⟩;refine .seq (.q 1 rfl (.seq ?_));refine .cond rfl (fun hb8=>?_) fun hb8=>?_
 ·have hc8:=hb8; simp only [Y6] at hc8;refine .skip (.seq (.block (.seq ?_)));obtain ⟨a,ha⟩:∃ a,l[i]?=some a:=⟨_,Y4 (by omega)⟩
  obtain ⟨p,hp9,hx⟩:=Xcg (cells:=Xq) (s:=2) (fun _=>rfl) hR ha;subst hp9;unfold Xq at hx;have hal:=hsm a (Yl ha);have hdr:l.drop i=a::l.drop (i+1):=by rw [Y13 (by omega),(Y5.1 ha).2]
  rw [hdr] at hok;have htl:(l.take i).length=i:=by rw [Yr]; omega
  refine .t 1 rfl (.val (.ii rfl rfl (by omega) (by omega) X2e X2i) rfl (.val (.ldsI (.of rfl) hS hx Xkd X2i rfl (fun _ _ h=>h)) rfl (.allocA (cs:=[_,_]) hS Xbr rfl ?_)));intro b4 w hS;refine .q 1 rfl (.so hS (k:=0) rfl rfl rfl rfl X2i rfl (by simp) ?_);intro w hS;try simp only [Yk,Ye,Y9,Y7,Yh,Ym,Yc] at hS
  refine .nil (.seq (.region ?_));refine .val (.fo 0 rfl X3j rfl rfl Qs9 rfl) rfl (.val (.lo rfl hS (k:=0) rfl Qg9 rfl) rfl (.call Tryz.func196 rfl (ec9 rfl X0) rfl (Xge a.1 hal.1 B _ I _ hS) ?_));rintro _ w ⟨rfl,hS⟩;refine .q 2 rfl (.gval rfl rfl (fun hg1=>(by exact .fo 1 rfl X3j rfl rfl Qs9 rfl)) rfl ?_);refine .gval rfl rfl (fun hg1=>(by exact (.ld (.gd hg1 rfl) hS (k:=0) rfl Qg9 rfl))) rfl ?_;refine .gcall (T:=fun w=>Sat B w I (blk b4 [S a.1,S a.2] 136::As)) rfl rfl rfl Tryz.func198 rfl (fun hg1=>(Xd (.gd hg1 rfl) X0)) rfl (fun hg1=>Xcp a.2 hal.2 B _ I _ hS) hS ?_;rintro w hS;refine .gval rfl rfl (fun hg1=>(.not (.gd hg1 rfl))) rfl (.val (.po rfl rfl rfl) rfl (.q 1 rfl (.gm rfl rfl rfl rfl (.gm rfl rfl rfl rfl (.gval rfl rfl (fun hg1=>.slcTo (.gd hg1 rfl) (.gd hg1 rfl) (by omega) (by omega) X2e X2i) rfl ?_)))));rw [show ((i:Nat):Int).toNat=(l.take i).length by rw [htl,Yf],X4p];refine .gval rfl rfl (fun hg1=>(.makeFunc (ec9 rfl X0))) rfl ?_;have hcf:∀ w,Sat B w I (blk b4 [S a.1,S a.2] 136::As)->Calls Tryz.prog 169 [.slice (some p) (l.take i).length cap,.func (.func 239) #[] [ptr b4 0].toArray].toArray w (Ret fun v w'=>v=.bool ((l.take i).any fun b=>b.1 == a.1)/\Sat B w' I (blk b4 [S a.1,S a.2] 136::As)):=fun w hS=>X7z (some p) cap (l.take i) (by omega) (fun b=>b.1 == a.1) 239 _ Tryz.func239 rfl [ptr b4 0] B w I (blk b4 [S a.1,S a.2] 136::As) (fun w h=>X6r (cells:=Xq) (s:=2) (fun _=>rfl) h (Xx9 hR i (by omega))) (fun r hr w h=>Xkm r a b4 B w I As h) hS
  refine .gcall (T:=fun w=>Sat B w I (blk b4 [S a.1,S a.2] 136::As)) rfl rfl rfl Xqs rfl (fun hg1=>(Xd (.gd hg1 rfl) (Xd (.gd hg1 rfl) X0))) rfl (fun hg1=>hcf w hS) hS ?_;rintro w hS;refine .val (.po rfl rfl rfl) rfl (.nil ?_);refine .cond rfl (fun hb28=>?_) fun hb28=>?_
  ·refine .seq (.q 1 rfl (.ret (Xc Tryz.results197 rfl ?_)));refine ⟨_,rfl,congrArg Value.bool ?_,hS.y 0 1⟩;rw [hok,X8v]
   revert hb28
   cases X8f a.1 <;> cases X94 a.2 <;> cases ((l.take i).any fun b=>b.1 == a.1) <;> simp
  have hc28:=hb28; simp only [Y6] at hc28;refine .skip (.region (.run 2 rfl ⟨⟨by omega,by omega⟩,trivial⟩ (.nil ?_)));refine ⟨i+1,⟨rfl,rfl,rfl,rfl,trivial⟩,⟨by omega,?_,hS.y 0 1⟩,by omega⟩;rw [hok,X8v,Yz,ha,Y1e];simp only [Y10,Y2m] at hb28
  rw [hb28.1.1,hb28.1.2,hb28.2]; rfl
 have hc8:=hb8; simp only [Y6] at hc8;refine .exit (.seq (.q 1 rfl (.ret (Xc Tryz.results197 rfl ?_))));exact ⟨_,rfl,congrArg Value.bool (by rw [hok,Y11 (by omega)]; rfl),hS⟩
theorem X7d {i:Nat} {m:Px} (h:MK[i]?=some m):(MKC.drop (i*2)).take 2=[S m.1,S m.2]/\(∃ c,m.1=[c])/\m.2.length<=6/\([m.1.headD 0] == m.2)=false:=by
 match i,h with
 | 0,h=>cases h; exact ⟨rfl,⟨_,rfl⟩,by decide,by decide⟩
 | 1,h=>cases h; exact ⟨rfl,⟨_,rfl⟩,by decide,by decide⟩
 | 2,h=>cases h; exact ⟨rfl,⟨_,rfl⟩,by decide,by decide⟩
 | 3,h=>cases h; exact ⟨rfl,⟨_,rfl⟩,by decide,by decide⟩
 | 4,h=>cases h; exact ⟨rfl,⟨_,rfl⟩,by decide,by decide⟩
 | i+5,h=>simp [MK] at h
theorem mk_len (s:List UInt8) (hl:s.length<=10000):∀ (i:Nat),i<=5->((MK.take i).foldl Xe7 s).length<=100000000:=by
 have h:∀ (i:Nat),i<=5->((MK.take i).foldl Xe7 s).length<=6 ^ i*s.length:=by
  intro i
  induction i with
  | zero=>intro _; simp
  | succ i ih =>
   intro hi;obtain ⟨m,hm⟩:∃ m,MK[i]?=some m:=⟨_,Y4 (by show i<5; omega)⟩
   rw [Yz,hm,Y1e,Y2r];show (Xi3 _ m.2 _).length<=_
   have h1:=Xjs (m.1.headD 0) m.2 (X7d hm).2.2.1 ((MK.take i).foldl Xe7 s);have h2:=ih (by omega);have h3:6*((MK.take i).foldl Xe7 s).length<=6*(6 ^ i*s.length):=Nat.mul_le_mul_left 6 h2;rw [Y22]
   calc _<=_:=h1
    _<=_:=h3
    _=_:=by rw [<- Y27,Y2g 6]
 intro i hi;have h1:=h i hi;have h2:6 ^ i<=6 ^ 5:=Y1w (by decide) hi;have h3:6 ^ i*s.length<=6 ^ 5*10000:=Y5f h2 hl;have h4:6 ^ 5*10000<=100000000:=by decide
 omega
theorem Xet (s:List UInt8) (m:Px) {i:Nat} (hm:MK[i]?=some m) (hs:s.length<=100000000) (B w:World) (I:Im) (hK:Kx I) (As:List X7) (hS:Sat B w I As):Calls Tryz.prog 203 [S s,S m.1,S m.2].toArray w (Ret fun v w'=>v=S (Xe7 s m)/\Sat B w' I As):=by
 obtain ⟨_,⟨c,hc⟩,h2,h3⟩:=X7d hm;unfold Xe7;rw [hc] at h3 ⊢;exact Xeu s m.2 c hs h2 h3 B w I hK As hS
theorem Xbd (s:List UInt8) (hl:s.length<=10000) (B w:World) (I:Im) (hK:Kx I) (As:List X7) (hS:Sat B w I As) :
  Cz 156 [S s] w fun v w'=>v=S (esc s)/\Sat B w' I As:=by
 refine calls Tryz.func156 rfl Tryz.ntmps156 rfl (.seq (.q 1 rfl (.seq (.seq (.region (.val (.ldsI (us:=MKC) (.of rfl) hS hK.mks Tryz.isAgg258 Tryz.sizeOf258 rfl (fun _ _ h=>h)) rfl (.q 1 rfl (.nil (.block (.loop (σ:=Nat) (fun i=>[(0,S ((MK.take i).foldl Xe7 s)),(5,.agg MKC.toArray),(6,I64 (i:Nat))]) (fun i w=>i<=5/\Sat B w I As) (fun i=>5 - i) 0 ⟨rfl,rfl,rfl,trivial⟩ ⟨Yo _,hS⟩ ?_))))))))));rintro i w ⟨hi,hS⟩;refine .seq (.q 1 rfl (.seq ?_));refine .cond rfl (fun hb7=>?_) fun hb7=>?_
 ·have hc7:=hb7; simp only [Y6] at hc7;refine .skip (.seq (.block (.seq ?_)));obtain ⟨m,hm⟩:∃ m,MK[i]?=some m:=⟨_,Y4 (by show i<5; omega)⟩
  have hmm:=X7d hm;have hfl:((MK.take i).foldl Xe7 s).length<=100000000:=mk_len s hl i (by omega);refine .region ?_;refine .val (Ex.indexArrA (m:=5) (s:=2) (vs:=MKC) (us:=[S m.1,S m.2]) (.of rfl) (.of rfl) (by omega) (by omega) Xn1 X2i Xkd (by rw [Yf]; exact hmm.1) (by rw [Yf]; show i*2+2<=10; omega)) rfl ?_;refine .allocA (cs:=[_,_]) hS Xbr rfl ?_;intro b4 w hS;refine .so hS (k:=0) rfl rfl rfl rfl X2i rfl (by simp) ?_;intro w hS;try simp only [Yk,Ye,Y9,Y7,Yh,Ym,Yc] at hS
  refine .nil (.t 1 rfl ?_);refine .val (.fo 0 rfl X3j rfl rfl Qs9 rfl) rfl (.val (.lo rfl hS (k:=0) rfl Qg9 rfl) rfl (.val (.fo 1 rfl X3j rfl rfl Qs9 rfl) rfl (.val (.lo rfl hS (k:=0) rfl Qg9 rfl) rfl (.call Tryz.func203 rfl (ec9 rfl (ec9 rfl (ec9 rfl X0))) rfl (Xet _ m hm hfl B _ I hK _ hS) ?_))));rintro _ w ⟨rfl,hS⟩;refine .q 1 rfl (.nil (.region (.run 2 rfl ⟨⟨by omega,by omega⟩,trivial⟩ (.nil ?_))));refine ⟨i+1,⟨?_,rfl,rfl,trivial⟩,⟨by omega,hS.y 0 1⟩,by omega⟩;show some (S _)=some _
  rw [Yz,hm,Y1e,Y2r]; rfl
 have hc7:=hb7; simp only [Y6] at hc7;refine .exit (.seq (.q 2 rfl (.ret (Xc Tryz.results156 rfl ?_))));refine ⟨_,rfl,?_,hS⟩;rw [show i=5 by omega,<- Xj3]; rfl
theorem Xlz (m:Px) (hm:m.2.length<=6) (rs:List UInt8) (hrs:rs.length<=1000000) (b6:Nat) (B w:World) (I:Im) (As:List X7) (hS:Sat B w I (blk b6 [S rs] 9::As)) :
  Cz 194 [.agg (Xq m).toArray,ptr b6 0] w fun v w'=>v=.bool (Xg (38::rs) m.2)/\Sat B w' I (blk b6 [S rs] 9::As):=by
 refine calls Tryz.func194 rfl Tryz.ntmps194 rfl (.seq (.region (.boxA (cs:=[_,_]) hS (.of rfl) rfl ?_)));intro b2 w hS;refine .q 1 rfl (.nil (.seq (.region ?_)));refine .val (.lo rfl hS (k:=1) rfl Qg9 rfl) rfl (.val (.cat (l:=[38]) (m:=rs) (.of rfl) (.of rfl) (by simp only [List.length_cons,List.length_nil]; omega)) rfl ?_);rw [show [38] ++ rs=38::rs from rfl];refine .val (.fo 1 rfl X3j rfl rfl Qs9 rfl) rfl (.val (.lo rfl hS (k:=0) rfl Qg9 rfl) rfl (.call Xgl rfl (ec9 rfl (ec9 rfl X0)) rfl (X1s (38::rs) m.2 _ (by simp only [List.length_cons]; omega) (by omega)) ?_));rintro _ _ ⟨rfl,rfl⟩;refine .q 1 rfl (.nil (.ret (Xc Tryz.results194 rfl ?_)));exact ⟨_,rfl,rfl,hS.y 0 1⟩
theorem Xu5 (cs:List UInt8):∀ (s:List UInt8),decide (0<=Go.Lib.indexAny s cs)=s.any (fun c=>cs.contains c)
 | []=>rfl
 | b::l=>by
  rw [Go.Lib.indexAny,Y5w,<- Xu5 cs l];split
  ·rename_i hb; rw [hb]; rfl
  ·rename_i hb
   rw [show cs.contains b=false by simpa using hb,Y3m]
   have:=Go.Lib.indexAny_ge cs l
   split
   ·rename_i h; rw [beq_iff_eq.1 h]
   ·rename_i h
    have h9:Go.Lib.indexAny l cs≠-1:=fun e=>h (beq_iff_eq.2 e)
    rw [decide_eq_true (by omega),decide_eq_true (by omega)]
theorem X9r (s cs:List UInt8) (hs:s.length<=1000000) (hca:Asc cs) (hl:cs.length<=1000) (h2:2<=cs.length) (B w:World) (I:Im) (As:List X7) (hS:Sat B w I As) :
  Cz 192 [S s,S cs] w fun v w'=>v=.bool (s.any fun c=>cs.contains c)/\Sat B w' I As:=by
 refine calls Tryz.func192 rfl Tryz.ntmps192 rfl (.seq (.q 1 rfl (.seq (.t 2 rfl (.call Qf191 rfl (ec9 rfl (ec9 rfl X0)) rfl (X4x s cs hs hca hl h2 B _ I _ hS) ?_)))));rintro _ w ⟨rfl,hS⟩;refine .q 2 rfl (.nil (.ret (Xc Tryz.results192 rfl ?_)));exact ⟨_,rfl,congrArg Value.bool (Xu5 cs s),hS⟩
theorem Xnf:Asc SIGNS:=fun j b h=>by
 match j,h with
 | 0,h=>cases h; decide
 | 1,h=>cases h; decide
 | 2,h=>cases h; decide
 | 3,h=>cases h; decide
 | _+4,h=>simp [SIGNS] at h
theorem Xl3 {t:List UInt8} {i:Nat} (h:Xx (fun m:Px=>Xg t m.2) MK 0=(i:Int)):∃ m,MK[i]?=some m/\X58 t=some m:=by
 unfold X58;have key:∀ (l:List Px) (k:Nat),(Xx (fun m:Px=>Xg t m.2) l k=-1/\l.find? (fun m=>Xg t m.2)=none)\/∃ j m,Xx (fun m:Px=>Xg t m.2) l k=((k+j:Nat):Int)/\l[j]?=some m/\l.find? (fun m=>Xg t m.2)=some m:=by
  intro l
  induction l with
  | nil=>intro k; exact .inl ⟨rfl,rfl⟩
  | cons a l ih =>
   intro k;rw [Xx,Y2v];cases ha:Xg t a.2 with
   | true=>exact .inr ⟨0,a,by simp,rfl,rfl⟩
   | false =>
    rcases ih (k+1) with ⟨h1,h2⟩ | ⟨j,m,h1,h2,h3⟩
    ·exact .inl ⟨by simpa using h1,by simpa using h2⟩
    ·exact .inr ⟨j+1,m,by simp only [Y1p,if_false]; rw [h1]; congr 1; omega,by simpa using h2,by simpa using h3⟩
 rcases key MK 0 with ⟨h1,_⟩ | ⟨j,m,h1,h2,h3⟩
 ·rw [h1] at h; omega
 ·rw [h1] at h
  have:j=i:=by omega
  subst this;exact ⟨m,h2,h3⟩
theorem Xl4 {t:List UInt8} (h:Xx (fun m:Px=>Xg t m.2) MK 0<0):X58 t=none:=by
 cases hm:X58 t with
 | none=>rfl
 | some m =>
  exfalso
  unfold X58 at hm;obtain ⟨i,hi⟩:=Yy.1 (Y5d hm);have hp:=List.find?_some hm;have h9:=X24 (fun m:Px=>Xg t m.2) MK 0;rw [decide_eq_false (by omega)] at h9
  have:=Y4j.1 h9.symm m (Yl hi)
  exact this hp
theorem mkc_rs {I:Im} (h:At I (ad 2 0) MKC):RS I (some (ad 2 0)) 2 5 (X9 Xq MK):=⟨rfl,fun _=>⟨_,rfl,h⟩⟩
theorem mk_pos {i:Nat} {m:Px} (h:MK[i]?=some m):1<=m.2.length:=by
 match i,h with
 | 0,h=>cases h; decide
 | 1,h=>cases h; decide
 | 2,h=>cases h; decide
 | 3,h=>cases h; decide
 | 4,h=>cases h; decide
 | i+5,h=>simp [MK] at h
theorem mk_mem {m:Px} (h:m∈MK):m.2.length<=6:=by
 obtain ⟨i,hi⟩:=Yy.1 h;exact (X7d hi).2.2.1
theorem Ex.slcArrX {P:Program} {n:Nat} {L:Env} {w:World} {d:Option Nat} {ty:TypeId} {pos:String} {af:Array Edge} {gg:Option (Nat×Bool)} {t e:TypeId} {x:Operand} {p:Addr} {m s:Nat} (hx:Ev n L x (.pointer (some p))) (ht:P.underlying t=some (.array m e)) (hs:∀ w,(Go.sizeOf e).run P w=.ok s w) (hm:m≠0) :
  Ex P n L w ⟨d,.slice t x none none none,ty,pos,af,gg⟩ (.slice (some p) m m) w:=fun a ha=>by
 obtain ⟨e1,e2⟩:=Xd8 ht;have h:=run_sliceAt_array_all (P:=P) w t p (by rw [e1,e2]; exact ht);rw [e1,e2,hs] at h;simp [execOp,hx a ha,h,slicedAt,hm]
 rfl
set_option maxRecDepth 4000 in
theorem X7v (s:List UInt8) (hl:s.length<=10000) (B w:World) (I:Im) (hK:Kx I) (As:List X7) (hS:Sat B w I As) :
  Cz 147 [S s] w fun v w'=>∃ n1 e1,v=.tuple #[S n1,I64 (e1:Nat)]/\(match X48 s with | none=>n1=[]/\e1=10 | some t=>n1=t/\e1=0)/\Sat B w' I As:=by
 refine calls Tryz.func147 rfl Tryz.ntmps147 rfl (.seq (.q 2 rfl (.seq (.seq (.t 1 rfl (.call Tryz.func192 rfl (ec9 rfl (ec9 rfl X0)) rfl (X9r s SIGNS (by omega) Xnf (by decide) (by decide) B _ I _ hS) ?_))))));clear hS;rintro _ w ⟨rfl,hS⟩;refine .nil (.cond rfl (fun hb10=>?_) fun hb10=>?_)
 ·refine .seq (.q 2 rfl (.ret (X1t Xr0 rfl rfl ?_)));refine ⟨_,rfl,[],10,rfl,?_,hS⟩;unfold X48;rw [if_pos hb10];exact ⟨rfl,rfl⟩
 have hc10:=hb10; try simp only [Y6] at hc10
 refine .skip (.seq (.region (.allocA (cs:=[_,_]) hS Xrb rfl ?_)));clear hS; intro b4 w hS;refine .nil (.seq (.block ?_));replace hS:=(hS.vecNil 5 1).pick 1 rfl;refine .loop (σ:=List UInt8×Value×Value×List UInt8) (fun ⟨out,p,v,t⟩=>[(0,S t),(4,ptr b4 0)]) (fun ⟨out,p,v,t⟩ w=>out.length+t.length<=s.length/\un0 s=(un0 t).map (out ++ ·)/\(p=.pointer none\/p=ptr b4 0)/\(out=[]->v=.slice none 0 0)/\Sat B w I (blk b4 [p,v] 178::Vec 5 1 v (out).length (bcs (out))::As)) (fun ⟨out,p,v,t⟩=>t.length) ([],.pointer none,.slice none 0 0,s) ⟨rfl,rfl,trivial⟩ ⟨by simp,by simp,.inl rfl,fun _=>rfl,hS⟩ ?_;rintro ⟨out,p,v,t⟩ w ⟨hol,hno,hp,hpv,hS⟩;refine .seq (.seq (.q 2 rfl ?_));refine .cond rfl (fun hb12=>?_) fun hb12=>?_
 ·have hc12:=hb12; try simp only [Y6] at hc12
  refine .skip (.block (.seq ?_));have hul:=X12 [38] t;have hnp:∀ x∈upto [38] t,x≠38:=fun x hx=>by have:=Xud hx; simpa using this
  refine .t 1 rfl (.call Qf187 rfl (ec9 rfl (ec9 rfl X0)) rfl (Xim t 38 (by omega) B _ I hK _ hS) ?_);clear hS;rintro _ w ⟨rfl,hS⟩;refine .q 4 rfl (.alloc1 hS Qz9 rfl rfl ?_);clear hS; intro b6 w hS;refine .q 1 rfl (.s1 hS (k:=0) rfl rfl rfl rfl Qs9 (by simp) ?_);clear hS; intro w hS;refine .q 1 rfl (.nil (.seq (.t 1 rfl (.call Qf155 rfl (ec9 rfl (ec9 rfl X0)) rfl (Xv b4 p v out (upto [38] t) hp B _ I _ (hS.x [2,2]) (by omega)) ?_))));clear hS;rintro _ w ⟨rfl,v2,hS⟩;try dsimp only [List.eraseIdx] at hS
  refine .nil (.seq (.seq (.q 2 rfl ?_)));refine .cond rfl (fun hb22=>?_) fun hb22=>?_
  ·refine .exit (.seq ?_);have hz:X6 [38] t=[]:=by
    cases hf:X6 [38] t with
    | nil=>rfl
    | cons a r=>rw [hf] at hb22; simp at hb22
   have ht9:t=upto [38] t:=by have:=X1l [38] t; rw [hz,Y9] at this; exact this.symm
   have hne8:¬ out ++ upto [38] t=[]:=by
    rw [<- ht9];intro h9;have h8:=(Y4g.1 h9).2;rw [h8] at hb12;simp at hb12
   refine .region (.call Qf111 rfl (ec9 rfl X0) rfl (X5n b4 (ptr b4 0) v2 (out ++ upto [38] t) (fun h=>absurd h hne8) B _ I _ (hS.x [1,1])) ?_);clear hS;rintro _ w ⟨rfl,hS⟩;refine .q 2 rfl (.nil (.ret (X1t Xr0 rfl rfl ?_)));refine ⟨_,rfl,_,0,rfl,?_,(hS.y 0 1)⟩;have hu:un0 t=some (upto [38] t):=by
    conv=>lhs; rw [ht9,<- Y9 (upto [38] t),X5i _ _ hnp,Xb5]
    simp
   unfold X48;rw [if_neg (by rw [hb10]; decide),hno,hu];exact ⟨rfl,rfl⟩
  have hc22:=hb22; try simp only [Y6] at hc22
  refine .skip (.seq ?_);have hf38:X6 [38] t=38::(X6 [38] t).drop 1:=by
   cases hf:X6 [38] t with
   | nil=>rw [hf] at hb22; simp at hb22
   | cons a r =>
    have:=Xfe (ats:=[38]) (s:=t) (c:=a) (by rw [hf]; rfl)
    have e:a=38:=by simpa using this
    rw [e]; rfl
  have ht38:t=upto [38] t ++ 38::(X6 [38] t).drop 1:=by rw [<- hf38,X1l]
  refine .region (.val (Ex.slcArrX (m:=5) (s:=2) (.of rfl) Xn1 X2i (by decide)) rfl (.val (.makeFunc (ec9 rfl X0)) rfl ?_));refine .call Xmp rfl (ec9 rfl (ec9 rfl X0)) rfl (X68 (some (ad 2 0)) 5 MK (by decide) (fun m=>Xg (38::((X6 [38] t).drop 1)) m.2) 194 _ Tryz.func194 rfl [ptr b6 0] B _ I _ (fun w h=>X6r (cells:=Xq) (s:=2) (fun _=>rfl) h (mkc_rs hK.mks)) (fun r hr w h=>Xlz r (mk_mem hr) ((X6 [38] t).drop 1) (by have:=X2l [38] t; rw [Yg]; omega) b6 B w I _ h) (hS.pick 2 rfl)) ?_;clear hS;rintro _ w ⟨rfl,hS⟩;try dsimp only [List.eraseIdx] at hS
  refine .q 1 rfl (.nil (.seq (.seq (.q 2 rfl ?_))));refine .cond rfl (fun hb27=>?_) fun hb27=>?_
  ·have hc27:=hb27; try simp only [Y6] at hc27
   refine .seq (.q 2 rfl (.ret (X1t Xr0 rfl rfl ?_)));refine ⟨_,rfl,[],10,rfl,?_,(hS.y 0 3)⟩;have hmk:X58 (38::(X6 [38] t).drop 1)=none:=Xl4 (by have h9:=hc27; omega);have hu:un0 t=none:=by
    conv=>lhs; rw [ht38,X5i _ _ hnp,X9p,if_pos rfl,hmk]
    rfl
   unfold X48;rw [if_neg (by rw [hb10]; decide),hno,hu];exact ⟨rfl,rfl⟩
  have hc27:=hb27; try simp only [Y6] at hc27
  refine .skip (.seq ?_);obtain ⟨k,hk⟩:∃ k:Nat,Xx (fun m:Px=>Xg (38::(X6 [38] t).drop 1) m.2) MK 0=k:=⟨(Xx (fun m:Px=>Xg (38::(X6 [38] t).drop 1) m.2) MK 0).toNat,by have h9:=hc27; omega⟩
  obtain ⟨m,hm,hmk⟩:=Xl3 hk;have hmm:=X7d hm;have hk5:k<5:=(Y5.1 hm).1;have hmp:m.2.length<=(38::(X6 [38] t).drop 1).length:=X5b (List.find?_some (p:=fun m:Px=>Xg (38::(X6 [38] t).drop 1) m.2) hmk);simp only [List.length_cons] at hmp
  have hm2:1<=m.2.length:=mk_pos hm;have hdl:(((X6 [38] t).drop 1).drop (m.2.length - 1)).length+(upto [38] t).length+m.1.length<=t.length/\(((X6 [38] t).drop 1).drop (m.2.length - 1)).length<t.length:=by
   have h1:=congrArg List.length hf38;obtain ⟨c,hc⟩:=hmm.2.1;rw [hc];simp only [Yg,List.length_cons,List.length_nil] at h1 ⊢
   omega
  rw [hk];have hx0:=hK.mks;have hxk:At I ((ad 2 0).add (k*2)) [S m.1,S m.2]:=by
   have h9:=X70 (hK.mks.add (k*2)) 2;rw [hmm.1] at h9; exact h9
  refine .t 1 rfl (.val (.arrAddrI (i:=((k:Nat):Int)) (.of rfl) (.of rfl) (by omega) (by omega) Xn1 X2i) rfl ?_);rw [Yf];refine .val (.fi 0 rfl X3j rfl rfl Qs9 rfl) rfl (.val (.ldI (.of rfl) hS (At.add hxk _) Qg9 rfl) rfl ?_);refine .call Qf155 rfl (ec9 rfl (ec9 rfl X0)) rfl (Xv b4 _ v2 (out ++ upto [38] t) m.1 (.inr rfl) B _ I _ ((hS.pick 2 rfl).pick 2 rfl) (by obtain ⟨c,hc⟩:=hmm.2.1; rw [hc]; simp only [Y0,List.length_cons,List.length_nil]; omega)) ?_;clear hS;rintro _ w ⟨rfl,v3,hS⟩;refine .nil (.dw (fun w=>∃ R,Sat B w I (blk b6 [S ((X6 [38] t).drop 1)] 9::R)) (fun j=>!([].contains j)) ?_);replace hS:=hS.drew; generalize w.drew=w at hS ⊢;have hH:=(hS.x [2])
  refine .tk 0 rfl ⟨_,hH⟩ (fun w ⟨R,hS⟩=>((.lo rfl hS (k:=0) rfl Qg9 rfl))) (.tp 1 rfl (fun w=>(.mo rfl)) (.tp 2 rfl (fun w=>(.arrAddrI (i:=((k:Nat):Int)) (.of rfl) (.of rfl) (by omega) (by omega) Xn1 X2i)) ?_));rw [Yf];refine .tp 3 rfl (fun w=>(.fi 1 rfl X3j rfl rfl Qs9 rfl)) (.tk 4 rfl ⟨_,hH⟩ (fun w ⟨R,hS⟩=>((.ldI (.of rfl) hS (At.add hxk _) Qg9 rfl))) (.tp 5 rfl (fun w=>(.len (.of rfl) Qu9)) (.tp 6 rfl (fun w=>(.sub (.of rfl) (.of rfl) ⟨by omega,by omega⟩)) (.tp 7 rfl (fun w=>(.subFrom (.of rfl) (.of rfl) (by omega) (by omega) Qu9)) (.tp 8 rfl (fun w=>(.ao rfl)) (.dn ?_))))));rw [show (((m.2.length:Nat):Int) - 1).toNat=m.2.length - 1 by omega];refine ⟨(out ++ upto [38] t ++ m.1,_,_,((X6 [38] t).drop 1).drop (m.2.length - 1)),⟨rfl,rfl,trivial⟩,⟨by (try dsimp only); simp only [Y0]; have:=hdl; omega,?_,.inr rfl,fun h=>absurd h (by obtain ⟨c,hc⟩:=hmm.2.1; rw [hc]; simp),(((hS.pick 1 rfl).pick 1 rfl).drop (k:=2) rfl)⟩,by (try dsimp only); have:=hdl; omega⟩;have hu:un0 t=(un0 (((X6 [38] t).drop 1).drop (m.2.length - 1))).map (fun x=>upto [38] t ++ (m.1 ++ x)):=by
   conv=>lhs; rw [ht38,X5i _ _ hnp,X9p,if_pos rfl,hmk]
   dsimp only
   cases un0 (((X6 [38] t).drop 1).drop (m.2.length - 1)) <;> rfl
  rw [hno,hu];cases un0 (((X6 [38] t).drop 1).drop (m.2.length - 1)) <;> simp [Yd]
 refine .exit (.seq ?_);refine .region (.call Qf111 rfl (ec9 rfl X0) rfl (X5n b4 p v out hpv B _ I _ (hS.x [1,1])) ?_);clear hS;rintro _ w ⟨rfl,hS⟩;refine .q 2 rfl (.nil (.ret (X1t Xr0 rfl rfl ?_)));refine ⟨_,rfl,_,0,rfl,?_,hS⟩;have ht9:t=[]:=by simpa using hb12
 subst ht9;unfold X48;rw [if_neg (by rw [hb10]; decide),hno,Xb5];exact ⟨by simp,rfl⟩
def NdV:Nat->Im->List Value->Nd->Prop
 | 0,_,_,_=>False
 | d+1,I,cs,n=>n.name.length<=10000/\n.text.length<=10000/\n.attrs.length<=10000/\n.kids.length<=10000/\(∀ a∈n.attrs,a.1.length<=10000/\a.2.length<=10000)/\∃ (aa:Option Addr) (ca:Nat) (ka:Option Addr) (ck:Nat) (xs:List (List Value)),cs=[S n.name,.slice aa n.attrs.length ca,S n.text,.slice ka n.kids.length ck]/\n.attrs.length<=ca/\n.kids.length<=ck/\RS I aa 2 n.attrs.length (X9 Xq n.attrs)/\RS I ka 4 n.kids.length xs.flatten/\xs.length=n.kids.length/\(∀ x∈xs,x.length=4)/\∀ (i:Nat) x k,xs[i]?=some x->n.kids[i]?=some k->NdV d I x k
theorem NdV.mono {I J:Im} (hl:Le I J):∀ {d:Nat} {cs:List Value} {n:Nd},NdV d I cs n->NdV d J cs n
 | 0,_,_,h=>h
 | d+1,cs,n,h=>by
  obtain ⟨h1,h2,h3,h4,h5,aa,ca,ka,ck,xs,h6,h7,h8,h9,h10,h11,h12,h13⟩:=h;exact ⟨h1,h2,h3,h4,h5,aa,ca,ka,ck,xs,h6,h7,h8,h9.mono hl,h10.mono hl,h11,h12,fun i x k hx hk=>(h13 i x k hx hk).mono hl⟩
theorem NdV.cells {I:Im}:∀ {d:Nat} {cs:List Value} {n:Nd},NdV d I cs n->∃ (s1:List UInt8) (a1:Option Addr) (n1 m1:Nat) (s2:List UInt8) (a2:Option Addr) (n2 m2:Nat),cs=[S s1,.slice a1 n1 m1,S s2,.slice a2 n2 m2]
 | 0,_,_,h=>h.elim
 | d+1,cs,n,h=>by
  obtain ⟨h1,h2,h3,h4,h5,aa,ca,ka,ck,xs,h6,_⟩:=h;exact ⟨_,_,_,_,_,_,_,_,h6⟩
theorem Xde {I:Im} {ka:Option Addr} {m:Nat} {xs:List (List Value)} (hR:RS I ka 4 m xs.flatten) (hm:xs.length=m) (h4:∀ x∈xs,x.length=4) {i:Nat} {x:List Value} (hx:xs[i]?=some x):∃ q,ka=some q/\At I (q.add (i*4)) x:=by
 obtain ⟨q,rfl,hq⟩:=hR.2 (by have:=(Y5.1 hx).1; omega);refine ⟨q,rfl,?_⟩;have h3:=X70 (hq.add (i*4)) 4;rw [X1f xs h4 i x hx] at h3;exact h3
theorem Xca {f:Int->Nd->Option Int} (hf:∀ l n m,0<=l->f l n=some m->0<=m/\m<=l):∀ (ks:List Nd) (l m:Int),0<=l->X3q f l ks=some m->0<=m/\m<=l
 | [],l,m,h0,h=>by cases h; exact ⟨h0,Y3u _⟩
 | k::r,l,m,h0,h=>by
  rw [X3q] at h;split at h
  ·cases h
  ·rename_i l2 h2
   have h3:=hf _ _ _ h0 h2;have h4:=Xca hf r l2 m h3.1 h;exact ⟨h4.1,by omega⟩
theorem Xj4:∀ (d:Nat) (l:Int) (n:Nd) (m:Int),0<=l->X2z d l n=some m->0<=m/\m<=l
 | 0,_,_,_,_,h=>by cases h
 | d+1,l,n,m,h0,h=>by
  rw [X2z] at h;split at h
  ·cases h
  ·rename_i hc
   have:=Xca (fun l n m h0 h=>Xj4 d l n m h0 h) n.kids (l - 1) m (by omega) h
   exact ⟨this.1,by omega⟩
set_option maxRecDepth 4000 in
theorem Xl5:∀ (d:Nat) (n:Nd) (cs:List Value) (deep left:Int) (lb:Nat) (B w:World) (I:Im) (As:List X7),1<=deep->deep+(d:Int)=9->0<=left->left<=1000->NdV d I cs n->Sat B w I (blk lb [I64 (left)] 3::As) ->
  Cz 149 [.agg cs.toArray,I64 deep,ptr lb 0] w fun v w'=>∃ l2,v=.bool (X2z d left n).isSome/\(X2z d left n=none\/X2z d left n=some l2)/\Sat B w' I (blk lb [I64 (l2)] 3::As):=by
 intro d
 induction d with
 | zero=>intro n cs deep left lb B w I As _ _ _ _ hN; exact hN.elim
 | succ d ih =>
  intro n cs deep left lb B w I As hp hd h0 h1 hN hS;obtain ⟨hnl,htl,hal,hkl,hat,aa,ca,ka,ck,xs,rfl,hca,hck,hRa,hRk,hxl,hx4,hKD⟩:=hN;refine calls Tryz.func149 rfl Tryz.ntmps149 rfl (.seq (.region (.boxA (cs:=[_,_,_,_]) hS (.of rfl) rfl ?_)));clear hS; intro b3 w hS;refine .q 1 rfl (.nil (.seq (.t 2 rfl ?_)));refine .val (.lo rfl hS (k:=1) rfl Qg3 rfl) rfl (.run 2 rfl ⟨⟨by omega,by omega⟩,trivial⟩ (.s1 hS (k:=1) rfl rfl rfl rfl Qs3 (by simp) ?_));clear hS; intro w hS;refine .nil (.seq (.seq (.t 3 rfl (.gm rfl rfl rfl rfl (.gval rfl rfl (fun hg1=>(.nilCheck (.gd hg1 rfl))) rfl ?_)))));refine .gval rfl rfl (fun hg1=>(by exact (.ld (.gd hg1 rfl) hS (k:=1) rfl Qg3 rfl))) rfl ?_;refine .gval rfl rfl (fun hg1=>(.lss (.gd hg1 rfl) (.of rfl))) rfl (.val (.po rfl rfl rfl) rfl (.q 1 rfl ?_));refine .gval rfl rfl (fun hg1=>(by exact .fo 0 rfl X37 rfl rfl Qs9 rfl)) rfl ?_;refine .gval rfl rfl (fun hg1=>(by exact (.ld (.gd hg1 rfl) hS (k:=0) rfl Qg9 rfl))) rfl ?_;refine .gcall (T:=fun w=>Sat B w I (blk b3 [S n.name,.slice aa n.attrs.length ca,S n.text,.slice ka n.kids.length ck] 126::blk lb [I64 (left - 1)] 3::As)) rfl rfl rfl Tryz.func196 rfl (fun hg1=>(Xd (.gd hg1 rfl) X0)) rfl (fun hg1=>Xge n.name (by omega) B _ I _ hS) hS ?_;clear hS; rintro w hS;refine .gval rfl rfl (fun hg1=>(.not (.gd hg1 rfl))) rfl (.val (.po rfl rfl rfl) rfl (.q 1 rfl ?_));refine .gval rfl rfl (fun hg1=>(by exact .fo 1 rfl X37 rfl rfl X4u rfl)) rfl ?_;refine .gval rfl rfl (fun hg1=>(by exact (.ld (.gd hg1 rfl) hS (k:=0) rfl X6x rfl))) rfl ?_;refine .gcall (T:=fun w=>Sat B w I (blk b3 [S n.name,.slice aa n.attrs.length ca,S n.text,.slice ka n.kids.length ck] 126::blk lb [I64 (left - 1)] 3::As)) rfl rfl rfl Tryz.func197 rfl (fun hg1=>(Xd (.gd hg1 rfl) X0)) rfl (fun hg1=>Xm3 aa ca n.attrs hca (by omega) (fun a h=>by have:=hat a h; omega) B _ I hRa _ hS) hS ?_;clear hS; rintro w hS;refine .gval rfl rfl (fun hg1=>(.not (.gd hg1 rfl))) rfl (.val (.po rfl rfl rfl) rfl (.q 1 rfl ?_));refine .gval rfl rfl (fun hg1=>(by exact .fo 2 rfl X37 rfl rfl Qs9 rfl)) rfl ?_;refine .gval rfl rfl (fun hg1=>(by exact (.ld (.gd hg1 rfl) hS (k:=0) rfl Qg9 rfl))) rfl ?_;refine .gcall (T:=fun w=>Sat B w I (blk b3 [S n.name,.slice aa n.attrs.length ca,S n.text,.slice ka n.kids.length ck] 126::blk lb [I64 (left - 1)] 3::As)) rfl rfl rfl Tryz.func198 rfl (fun hg1=>(Xd (.gd hg1 rfl) X0)) rfl (fun hg1=>Xcp n.text (by omega) B _ I _ hS) hS ?_;clear hS; rintro w hS;refine .gval rfl rfl (fun hg1=>(.not (.gd hg1 rfl))) rfl (.val (.po rfl rfl rfl) rfl (.q 1 rfl ?_));refine .gval rfl rfl (fun hg1=>(by exact .fo 2 rfl X37 rfl rfl Qs9 rfl)) rfl ?_;refine .gval rfl rfl (fun hg1=>(by exact (.ld (.gd hg1 rfl) hS (k:=0) rfl Qg9 rfl))) rfl ?_;refine .gval rfl rfl (fun hg1=>(.nes (.gd hg1 rfl) (.of rfl))) rfl (.gval rfl rfl (fun hg1=>(.move (.gd hg1 rfl))) rfl ?_);refine .gval2 rfl rfl rfl (fun hg1 hg2=>(by exact .fo 3 rfl X37 rfl rfl Xep rfl)) rfl ?_;refine .gval2 rfl rfl rfl (fun hg1 hg2=>(by exact (.ld (.gd2 hg1 hg2 rfl) hS (k:=0) rfl Xkc rfl))) rfl ?_;refine .gval2 rfl rfl rfl (fun hg1 hg2=>(.lenSlice (.gd2 hg1 hg2 rfl) X83)) rfl (.gval2 rfl rfl rfl (fun hg1 hg2=>(.gtr (.gd2 hg1 hg2 rfl) (.of rfl))) rfl (.gval rfl rfl (fun hg1=>(.pand (.gd hg1 rfl) (.gd hg1 rfl) (.of rfl))) rfl (.val (.po rfl rfl rfl) rfl (.nil ?_))));refine .cond rfl (fun hb50=>?_) fun hb50=>?_
  ·refine .seq (.q 1 rfl (.ret (Xc Xv3 rfl ?_)));have hF:X2z (d+1) left n=none:=by
    rw [X2z,if_pos];simp only [Y1j,Yn,Y3h,decide_eq_true_eq] at hb50
    rcases hb50 with (((h | h) | h) | h) | h
    ·rcases h with h | h
     ·push_cast at hd; omega
     ·left; omega
    ·exact .inr (.inl h)
    ·exact .inr (.inr (.inl h))
    ·exact .inr (.inr (.inr (.inl h)))
    ·refine .inr (.inr (.inr (.inr ⟨by simpa using h.1,fun e=>?_⟩)));have h2:=h.2;rw [e] at h2; simp at h2
   refine ⟨_,rfl,left - 1,by rw [hF]; rfl,.inl hF,hS.y 0 1⟩
  have hc50:=hb50; simp only [Y6] at hc50;refine .skip (.seq (.seq (.region ?_)));refine .val (.fo 3 rfl X37 rfl rfl Xep rfl) rfl (.val (.lo rfl hS (k:=0) rfl Xkc rfl) rfl (.run 2 rfl ⟨⟨_,X83⟩,trivial⟩ (.nil (.block ?_))));simp only [Y10,Y2t,Y2m,decide_eq_false_iff_not] at hb50
  have hF:X2z (d+1) left n=X3q (X2z d) (left - 1) n.kids:=by
   rw [X2z,if_neg];rintro (e | e | e | e | ⟨e1,e2⟩)
   ·omega
   ·rw [e] at hb50; simp at hb50
   ·rw [e] at hb50; simp at hb50
   ·rw [e] at hb50; simp at hb50
   ·rcases hb50.2 with e3 | e3
    ·simp at e3; exact e1 e3
    ·have:=Y20.2 e2; omega
  replace hS:Sat B w I (blk lb [I64 (left - 1)] 3::As):=hS.drop (k:=0) rfl;refine .loop (σ:=Nat×Int) (fun ⟨i,l⟩=>[(1,I64 deep),(2,ptr lb 0),(52,.slice ka n.kids.length ck),(53,I64 (n.kids.length:Nat)),(54,I64 (i:Nat))]) (fun ⟨i,l⟩ w=>i<=n.kids.length/\X3q (X2z d) (left - 1) n.kids=X3q (X2z d) l (n.kids.drop i)/\0<=l/\l<=1000/\Sat B w I (blk lb [I64 (l)] 3::As)) (fun ⟨i,l⟩=>n.kids.length - i) (0,left - 1) ⟨rfl,rfl,rfl,rfl,rfl,trivial⟩ ⟨Yo _,rfl,by omega,by omega,hS⟩ ?_;rintro ⟨i,l⟩ w ⟨hi,hok,h0l,h1l,hS⟩;refine .seq (.q 1 rfl (.seq ?_));refine .cond rfl (fun hb55=>?_) fun hb55=>?_
  ·have hc55:=hb55; simp only [Y6] at hc55;refine .skip (.seq (.block (.seq ?_)));obtain ⟨k,hk⟩:∃ k,n.kids[i]?=some k:=⟨_,Y4 (by omega)⟩
   obtain ⟨x,hxi⟩:∃ x,xs[i]?=some x:=⟨_,Y4 (by omega)⟩
   have hNk:=hKD i x k hxi hk;obtain ⟨q,hq9,hx⟩:=Xde hRk hxl hx4 hxi;subst hq9;obtain ⟨s1,a1,n1,m1,s2,a2,n2,m2,hc9⟩:=hNk.cells;subst hc9;have hdr:n.kids.drop i=k::n.kids.drop (i+1):=by rw [Y13 (by omega),(Y5.1 hk).2]
   refine .region (.val (.ii rfl rfl (by omega) (by omega) X83 X11) rfl ?_);rw [Yf];refine .val (.ldsI (us:=[S s1,.slice a1 n1 m1,S s2,.slice a2 n2 m2]) (.of rfl) hS hx X32 X11 rfl (fun _ _ h=>h)) rfl (.allocA (cs:=[_,_,_,_]) hS X6i rfl ?_);clear hS; intro b8 w hS;refine .so hS (k:=0) rfl rfl rfl rfl X11 rfl (by simp) ?_;clear hS; intro w hS;try simp only [Yk,Ye,Y9,Y7,Yh,Ym,Yc] at hS
   refine .nil (.seq (.region ?_));refine .val (.ldsW (cs:=[_,_,_,_]) (.of rfl) hS (k:=0) rfl X32 X11 rfl) rfl (.run 3 rfl ⟨⟨by omega,by omega⟩,trivial⟩ (.call Tryz.func149 rfl (ec9 rfl (ec9 rfl (ec9 rfl X0))) rfl (ih k [S s1,.slice a1 n1 m1,S s2,.slice a2 n2 m2] (deep+1) l lb B _ I _ (by omega) (by push_cast at hd; omega) h0l h1l hNk (hS.x [1])) ?_));clear hS;rintro _ w ⟨l2,rfl,hl2,hS⟩;try dsimp only [List.eraseIdx] at hS
   refine .q 1 rfl (.nil ?_);refine .cond rfl (fun hb63=>?_) fun hb63=>?_
   ·refine .seq (.q 1 rfl (.ret (Xc Xv3 rfl ?_)));have hl3:X2z d l k=none:=by
     cases he:X2z d l k with
     | none=>rfl
     | some z=>rw [he] at hb63; simp at hb63
    have hF2:X2z (d+1) left n=none:=by rw [hF,hok,hdr,X3q,hl3]
    exact ⟨_,rfl,l2,by rw [hF2]; rfl,.inl hF2,(hS.y 1 1)⟩
   have hc63:=hb63; simp only [Y6] at hc63;refine .skip (.region (.run 2 rfl ⟨⟨by omega,by omega⟩,trivial⟩ (.nil ?_)));have hl3:X2z d l k=some l2:=by
    rcases hl2 with e | e
    ·rw [e] at hb63; simp at hb63
    ·exact e
   have hle:=Xj4 d l k l2 h0l hl3;refine ⟨(i+1,l2),⟨rfl,rfl,rfl,rfl,rfl,trivial⟩,⟨by (try dsimp only); omega,?_,hle.1,by (try dsimp only); omega,(hS.y 1 1)⟩,by (try dsimp only); omega⟩;rw [hok,hdr,X3q,hl3]
  have hc55:=hb55; simp only [Y6] at hc55;refine .exit (.seq (.q 1 rfl (.ret (Xc Xv3 rfl ?_))));have hF2:X2z (d+1) left n=some l:=by rw [hF,hok,Y11 (by omega)]; rfl
  exact ⟨_,rfl,l,by rw [hF2]; rfl,.inr hF2,hS⟩
theorem Xco (n:Nd) (cs:List Value) (B w:World) (I:Im) (hN:NdV 8 I cs n) (As:List X7) (hS:Sat B w I As) :
  Cz 105 [.agg cs.toArray] w fun v w'=>v=.bool (X2z 8 200 n).isSome/\Sat B w' I As:=by
 obtain ⟨s1,a1,n1,m1,s2,a2,n2,m2,hc9⟩:=hN.cells;subst hc9;refine calls Tryz.func105 rfl Tryz.ntmps105 rfl (.seq (.region (.boxA (cs:=[_,_,_,_]) hS (.of rfl) rfl ?_)));intro b1 w hS;refine .q 1 rfl (.nil (.seq (.region (.alloc1 hS Qz3 rfl rfl ?_))));intro b3 w hS;refine .s1 hS (k:=0) rfl rfl rfl rfl Qs3 (by simp) ?_;intro w hS;refine .nil (.seq (.region ?_));refine .val (.ldsW (cs:=[_,_,_,_]) (.of rfl) hS (k:=1) rfl X32 X11 rfl) rfl (.call Tryz.func149 rfl (ec9 rfl (ec9 rfl (ec9 rfl X0))) rfl (Xl5 8 n [S s1,.slice a1 n1 m1,S s2,.slice a2 n2 m2] 1 200 b3 B _ I _ (by decide) (by decide) (by decide) (by decide) hN hS) ?_);rintro _ w ⟨l2,rfl,hl2,hS⟩;refine .q 1 rfl (.nil (.ret (Xc Tryz.results105 rfl ?_)));exact ⟨_,rfl,rfl,(hS.y 0 2)⟩
theorem Xnm {I:Im} {a:Option Addr} {l:List Px} (hR:RS I a 2 l.length (X9 Xq l)) {i:Nat} {x:Px} (hx:l[i]?=some x):∃ q,a=some q/\At I (q.add (i*2)) [S x.1,S x.2]:=Xcg (cells:=Xq) (s:=2) (fun _=>rfl) hR hx
set_option maxRecDepth 4000 in
theorem Xtz:∀ (d:Nat) (n:Nd) (cs:List Value) (bb:Nat) (p v:Value) (out:List UInt8) (B w:World) (I:Im) (As:List X7),Kx I->NdV d I cs n->(p=.pointer none\/p=ptr bb 0)->(out ++ X3f d n).length<=1000000->Sat B w I (blk bb [p,v] 178::Vec 5 1 v (out).length (bcs (out))::As) ->
  Calls Tryz.prog 110 [ptr bb 0,.agg cs.toArray].toArray w (Ret fun u w'=>u=.tuple #[]/\∃ v',Sat B w' I (blk bb [ptr bb 0,v'] 178::Vec 5 1 v' (out ++ X3f d n).length (bcs (out ++ X3f d n))::As)):=by
 intro d
 induction d with
 | zero=>intro n cs bb p v out B w I As _ hN; exact hN.elim
 | succ d ih =>
  intro n cs bb p v out B w I As hK hN hp hT hS;obtain ⟨hnl,htl,hal,hkl,hat,aa,ca,ka,ck,xs,rfl,hca,hck,hRa,hRk,hxl,hx4,hKD⟩:=hN;have hT1:(out ++ ([60] ++ n.name) ++ (n.attrs.map X6j).flatten).length<=1000000:=by simp only [X3f,Y0,List.length_cons,List.length_nil] at hT ⊢; omega
  have hT2:((out ++ ([60] ++ n.name) ++ (n.attrs.map X6j).flatten) ++ ([62] ++ esc n.text) ++ (n.kids.map (X3f d)).flatten).length<=1000000:=by simp only [X3f,Y0,List.length_cons,List.length_nil] at hT ⊢; omega
  refine calls Tryz.func110 rfl Tryz.ntmps110 rfl (.seq (.region (.boxA (cs:=[_,_,_,_]) hS (.of rfl) rfl ?_)));intro b3 w hS;refine .nil (.seq (.t 1 rfl ?_));refine .val (.fo 0 rfl X37 rfl rfl Qs9 rfl) rfl (.val (.lo rfl hS (k:=0) rfl Qg9 rfl) rfl (.run 1 rfl ⟨by (try simp only [Y0,List.length_cons,List.length_nil]); omega,trivial⟩ (.call Qf155 rfl (ec9 rfl (ec9 rfl X0)) rfl (Xv bb p v out ([60] ++ n.name) hp B _ I _ (hS.x [2,2]) (by simp only [Y0,List.length_cons,List.length_nil] at hT1 ⊢; omega)) ?_)));rintro _ w ⟨rfl,v1,hS⟩;try dsimp only [List.eraseIdx] at hS
  refine .nil (.seq (.seq (.region ?_)));refine .val (.fo 1 rfl X37 rfl rfl X4u rfl) rfl (.val (.lo rfl hS (k:=2) rfl X6x rfl) rfl (.run 2 rfl ⟨⟨_,X2e⟩,trivial⟩ (.nil (.block ?_))));have hS0:=hS; clear hS;refine .loop (σ:=Nat×List UInt8×Value) (fun ⟨i,q,v⟩=>[(0,ptr bb 0),(3,ptr b3 0),(14,.slice aa n.attrs.length ca),(15,I64 (n.attrs.length:Nat)),(16,I64 (i:Nat))]) (fun ⟨i,q,v⟩ w=>i<=n.attrs.length/\q ++ ((n.attrs.drop i).map X6j).flatten=(out ++ ([60] ++ n.name) ++ (n.attrs.map X6j).flatten)/\Sat B w I (blk bb [ptr bb 0,v] 178::Vec 5 1 v (q).length (bcs (q))::blk b3 [S n.name,.slice aa n.attrs.length ca,S n.text,.slice ka n.kids.length ck] 126::As)) (fun ⟨i,q,v⟩=>n.attrs.length - i) (0,out ++ ([60] ++ n.name),v1) ⟨rfl,rfl,rfl,rfl,rfl,trivial⟩ ⟨Yo _,rfl,hS0⟩ ?_;rintro ⟨i,q,v⟩ w ⟨hi,hok,hS⟩;clear hS0;refine .seq (.q 1 rfl (.seq ?_));refine .cond rfl (fun hb17=>?_) fun hb17=>?_
  ·have hc17:=hb17; simp only [Y6] at hc17;refine .skip (.seq (.block (.seq ?_)));obtain ⟨a,ha⟩:∃ a,n.attrs[i]?=some a:=⟨_,Y4 (by omega)⟩
   obtain ⟨qa,hq9,hx⟩:=Xnm hRa ha;subst hq9;have hal9:=hat a (Yl ha);have he9:=Xh7 a.2;have hdr:n.attrs.drop i=a::n.attrs.drop (i+1):=by rw [Y13 (by omega),(Y5.1 ha).2]
   have hql:q.length<=1000000:=by have:=congrArg List.length hok; simp only [Y0] at this hT1; omega
   refine .region (.val (.ii rfl rfl (by omega) (by omega) X2e X2i) rfl ?_);rw [Yf];refine .val (.ldsI (us:=[S a.1,S a.2]) (.of rfl) hS hx Xkd X2i rfl (fun _ _ h=>h)) rfl (.allocA (cs:=[_,_]) hS Xbr rfl ?_);intro b5 w hS;refine .so hS (k:=0) rfl rfl rfl rfl X2i rfl (by simp) ?_;intro w hS;try simp only [Yk,Ye,Y9,Y7,Yh,Ym,Yc] at hS
   refine .nil (.dw (fun w=>∃ R,Sat B w I (blk b5 [S a.1,S a.2] 136::R)) (fun j=>!([].contains j)) ?_);replace hS:=hS.drew; generalize w.drew=w at hS ⊢;have hH:=(hS.x [0])
   refine .tp 0 rfl (fun w=>(.mo rfl)) (.tp 1 rfl (fun w=>(.fo 0 rfl X3j rfl rfl Qs9 rfl)) (.tk 2 rfl ⟨_,hH⟩ (fun w ⟨R,hS⟩=>(.lo rfl hS (k:=0) rfl Qg9 rfl)) (.tp 3 rfl (fun w=>(.cat (.of rfl) (.of rfl) (by (try simp only [Y0,List.length_cons,List.length_nil]); omega))) (.tp 4 rfl (fun w=>(.cat (.of rfl) (.of rfl) (by (try simp only [Y0,List.length_cons,List.length_nil]); omega))) (.tp 5 rfl (fun w=>(.fo 1 rfl X3j rfl rfl Qs9 rfl)) (.tk 6 rfl ⟨_,hH⟩ (fun w ⟨R,hS⟩=>(.lo rfl hS (k:=0) rfl Qg9 rfl)) (.b1 7 rfl (.call Tryz.func156 rfl (ec9 rfl X0) rfl (Xbd a.2 (by omega) B _ I hK _ hS) ?_))))))));rintro _ w ⟨rfl,hS⟩;refine .nil ?_;clear hH;have hH:=(hS.x [0])
   refine ⟨fun _ _=>⟨_,hH⟩,?_⟩;refine .tp 8 rfl (fun w=>(.cat (.of rfl) (.of rfl) (by (try simp only [Y0,List.length_cons,List.length_nil]); omega))) (.tp 9 rfl (fun w=>(.cat (.of rfl) (.of rfl) (by (try simp only [Y0,List.length_cons,List.length_nil]); omega))) (.b1 10 rfl (.call Qf155 rfl (ec9 rfl (ec9 rfl X0)) rfl (Xv bb (ptr bb 0) v q (((([32] ++ a.1) ++ [61,34]) ++ esc a.2) ++ [34]) (.inr rfl) B _ I _ (hS.x [2,2]) (by simp only [Y0,List.length_cons,List.length_nil]; omega)) ?_)));rintro _ w ⟨rfl,v2,hS⟩;try dsimp only [List.eraseIdx] at hS
   refine .nil ?_;clear hH;have hH:=(hS.x [2])
   refine ⟨fun _ _=>⟨_,hH⟩,?_⟩;refine .dn (.region (.run 2 rfl ⟨⟨by omega,by omega⟩,trivial⟩ (.nil ?_)));refine ⟨(i+1,q ++ (((([32] ++ a.1) ++ [61,34]) ++ esc a.2) ++ [34]),v2),⟨rfl,rfl,rfl,rfl,rfl,trivial⟩,⟨by (try dsimp only); omega,?_,(hS.z [3,2,2] 3 1)⟩,by (try dsimp only); omega⟩;rw [<- hok,hdr];simp [X6j]
  have hc17:=hb17; simp only [Y6] at hc17;refine .exit (.seq ?_);have hq1:q=(out ++ ([60] ++ n.name) ++ (n.attrs.map X6j).flatten):=by rw [<- hok,Y11 (by omega)]; simp
  subst hq1;have het:=Xh7 n.text;refine .t 1 rfl (.val (.fo 2 rfl X37 rfl rfl Qs9 rfl) rfl (.val (.lo rfl hS (k:=2) rfl Qg9 rfl) rfl (.call Tryz.func156 rfl (ec9 rfl X0) rfl (Xbd n.text (by omega) B _ I hK _ hS) ?_)));rintro _ w ⟨rfl,hS⟩;refine .run 1 rfl ⟨by (try simp only [Y0,List.length_cons,List.length_nil]); omega,trivial⟩ (.call Qf155 rfl (ec9 rfl (ec9 rfl X0)) rfl (Xv bb (ptr bb 0) v (out ++ ([60] ++ n.name) ++ (n.attrs.map X6j).flatten) ([62] ++ esc n.text) (.inr rfl) B _ I _ (hS.x [1,1]) (by simp only [Y0,List.length_cons,List.length_nil] at hT1 ⊢; omega)) ?_);rintro _ w ⟨rfl,v3,hS⟩;try dsimp only [List.eraseIdx] at hS
  refine .nil (.seq (.seq (.region ?_)));refine .val (.fo 3 rfl X37 rfl rfl Xep rfl) rfl (.val (.lo rfl hS (k:=2) rfl Xkc rfl) rfl (.run 2 rfl ⟨⟨_,X83⟩,trivial⟩ (.nil (.block ?_))));have hS0:=hS; clear hS;refine .loop (σ:=Nat×List UInt8×Value) (fun ⟨i,q,v⟩=>[(0,ptr bb 0),(3,ptr b3 0),(39,.slice ka n.kids.length ck),(40,I64 (n.kids.length:Nat)),(41,I64 (i:Nat))]) (fun ⟨i,q,v⟩ w=>i<=n.kids.length/\q ++ ((n.kids.drop i).map (X3f d)).flatten=((out ++ ([60] ++ n.name) ++ (n.attrs.map X6j).flatten) ++ ([62] ++ esc n.text) ++ (n.kids.map (X3f d)).flatten)/\Sat B w I (blk bb [ptr bb 0,v] 178::Vec 5 1 v (q).length (bcs (q))::blk b3 [S n.name,.slice aa n.attrs.length ca,S n.text,.slice ka n.kids.length ck] 126::As)) (fun ⟨i,q,v⟩=>n.kids.length - i) (0,(out ++ ([60] ++ n.name) ++ (n.attrs.map X6j).flatten) ++ ([62] ++ esc n.text),v3) ⟨rfl,rfl,rfl,rfl,rfl,trivial⟩ ⟨Yo _,rfl,hS0⟩ ?_;rintro ⟨i,q,v⟩ w ⟨hi,hok,hS⟩;clear hS0;refine .seq (.q 1 rfl (.seq ?_));refine .cond rfl (fun hb42=>?_) fun hb42=>?_
  ·have hc42:=hb42; simp only [Y6] at hc42;refine .skip (.seq (.block (.seq ?_)));obtain ⟨k,hk⟩:∃ k,n.kids[i]?=some k:=⟨_,Y4 (by omega)⟩
   obtain ⟨x,hxi⟩:∃ x,xs[i]?=some x:=⟨_,Y4 (by omega)⟩
   have hNk:=hKD i x k hxi hk;obtain ⟨qa,hq9,hx⟩:=Xde hRk hxl hx4 hxi;subst hq9;obtain ⟨s1,a1,n1,m1,s2,a2,n2,m2,hc9⟩:=hNk.cells;subst hc9;have hdr:n.kids.drop i=k::n.kids.drop (i+1):=by rw [Y13 (by omega),(Y5.1 hk).2]
   have hql:(q ++ X3f d k).length<=1000000:=by have:=congrArg List.length hok; rw [hdr] at this; simp only [Y1b,Y1q,Y0] at this hT2 ⊢; omega
   refine .region (.val (.ii rfl rfl (by omega) (by omega) X83 X11) rfl ?_);rw [Yf];refine .val (.ldsI (us:=[S s1,.slice a1 n1 m1,S s2,.slice a2 n2 m2]) (.of rfl) hS hx X32 X11 rfl (fun _ _ h=>h)) rfl (.allocA (cs:=[_,_,_,_]) hS X6i rfl ?_);intro b7 w hS;refine .so hS (k:=0) rfl rfl rfl rfl X11 rfl (by simp) ?_;intro w hS;try simp only [Yk,Ye,Y9,Y7,Yh,Ym,Yc] at hS
   refine .nil (.t 1 rfl ?_);refine .val (.ldsW (cs:=[_,_,_,_]) (.of rfl) hS (k:=0) rfl X32 X11 rfl) rfl (.call Tryz.func110 rfl (ec9 rfl (ec9 rfl X0)) rfl (ih k [S s1,.slice a1 n1 m1,S s2,.slice a2 n2 m2] bb (ptr bb 0) v q B _ I _ hK hNk (.inr rfl) hql (hS.x [2,2])) ?_);rintro _ w ⟨rfl,v2,hS⟩;try dsimp only [List.eraseIdx] at hS
   refine .nil (.region (.run 2 rfl ⟨⟨by omega,by omega⟩,trivial⟩ (.nil ?_)));refine ⟨(i+1,q ++ X3f d k,v2),⟨rfl,rfl,rfl,rfl,rfl,trivial⟩,⟨by (try dsimp only); omega,?_,(hS.z [3,2,2] 3 1)⟩,by (try dsimp only); omega⟩;rw [<- hok,hdr];simp [X6j]
  have hc42:=hb42; simp only [Y6] at hc42;refine .exit ?_;have hq2:q=((out ++ ([60] ++ n.name) ++ (n.attrs.map X6j).flatten) ++ ([62] ++ esc n.text) ++ (n.kids.map (X3f d)).flatten):=by rw [<- hok,Y11 (by omega)]; simp
  subst hq2;refine .t 1 rfl (.val (.fo 0 rfl X37 rfl rfl Qs9 rfl) rfl (.val (.lo rfl hS (k:=2) rfl Qg9 rfl) rfl (.run 2 rfl ⟨by (try simp only [Y0,List.length_cons,List.length_nil]); omega,by (try simp only [Y0,List.length_cons,List.length_nil]); omega,trivial⟩ (.call Qf155 rfl (ec9 rfl (ec9 rfl X0)) rfl (Xv bb (ptr bb 0) v ((out ++ ([60] ++ n.name) ++ (n.attrs.map X6j).flatten) ++ ([62] ++ esc n.text) ++ (n.kids.map (X3f d)).flatten) (([60,47] ++ n.name) ++ [62]) (.inr rfl) B _ I _ (hS.x [1,1]) (by simp only [Y0,List.length_cons,List.length_nil] at hT2 ⊢; omega)) ?_))));rintro _ w ⟨rfl,v5,hS⟩;refine .nil (X9d Tryz.results110 ?_);have he:((out ++ ([60] ++ n.name) ++ (n.attrs.map X6j).flatten) ++ ([62] ++ esc n.text) ++ (n.kids.map (X3f d)).flatten) ++ (([60,47] ++ n.name) ++ [62])=out ++ X3f (d+1) n:=by simp [X3f]
  rw [he] at hS;exact ⟨_,rfl,rfl,v5,hS.y 2 1⟩
theorem Xm2 (n:Nd) (cs:List Value) (B w:World) (I:Im) (hK:Kx I) (hN:NdV 8 I cs n) (hT:(X3f 8 n).length<=1000000) (As:List X7) (hS:Sat B w I As) :
  Cz 66 [.agg cs.toArray] w fun v w'=>v=.tuple #[S (if (X2z 8 200 n).isSome=true then X3f 8 n else []),I64 (if (X2z 8 200 n).isSome=true then 0 else 1)]/\Sat B w' I As:=by
 obtain ⟨s1,a1,n1,m1,s2,a2,n2,m2,hc9⟩:=hN.cells;subst hc9;refine calls Qf66 rfl Tryz.ntmps66 rfl (.seq (.region (.boxA (cs:=[_,_,_,_]) hS (.of rfl) rfl ?_)));intro b1 w hS;refine .q 2 rfl (.nil (.seq (.seq (.region ?_))));refine .val (.ldsW (cs:=[_,_,_,_]) (.of rfl) hS (k:=0) rfl X32 X11 rfl) rfl (.call Tryz.func105 rfl (ec9 rfl X0) rfl (Xco n [S s1,.slice a1 n1 m1,S s2,.slice a2 n2 m2] B _ I hN _ hS) ?_);rintro _ w ⟨rfl,hS⟩;refine .q 1 rfl (.nil ?_);refine .cond rfl (fun hb7=>?_) fun hb7=>?_
 ·refine .seq (.q 2 rfl (.ret (X1t Tryz.results66 rfl rfl ?_)));refine ⟨_,rfl,?_,(hS.y 0 1)⟩;rw [if_neg (by simpa using hb7),if_neg (by simpa using hb7)]
 refine .skip (.seq (.region (.allocA (cs:=[_,_]) hS Xrb rfl ?_)));intro b4 w hS;refine .nil (.seq ?_);replace hS:=(hS.vecNil 5 1).pick 1 rfl;refine .region (.val (.ldsW (cs:=[_,_,_,_]) (.of rfl) hS (k:=2) rfl X32 X11 rfl) rfl ?_);refine .call Tryz.func110 rfl (ec9 rfl (ec9 rfl X0)) rfl (Xtz 8 n [S s1,.slice a1 n1 m1,S s2,.slice a2 n2 m2] b4 _ _ [] B _ I _ hK hN (.inl rfl) (by rw [Ye]; exact hT) (hS.x [1,1])) ?_;rintro _ w ⟨rfl,v2,hS⟩;rw [Ye] at hS;refine .nil (.seq ?_);have he9:X3f 8 n≠[]:=by simp [X3f]
 refine .region (.call Qf111 rfl (ec9 rfl X0) rfl (X5n b4 _ v2 (X3f 8 n) (fun h=>absurd h he9) B _ I _ hS) ?_);rintro _ w ⟨rfl,hS⟩;refine .q 2 rfl (.nil (.ret (X1t Tryz.results66 rfl rfl ?_)));refine ⟨_,rfl,?_,(hS.y 0 1)⟩;rw [if_pos (by simpa using hb7),if_pos (by simpa using hb7)]
theorem Xbf (rb:Nat) (t x:List UInt8) (l:Int) (B w:World) (I:Im) (As:List X7) (hS:Sat B w I (blk rb [S (t),I64 (l)] 171::As)) :
  Cz 144 [ptr rb 0,S x] w fun v w'=>v=.bool (Xg t x)/\Sat B w' I (blk rb [S (if Xg t x=true then t.drop x.length else t),I64 (l)] 171::As):=by
 refine calls Xk8 rfl Tryz.ntmps144 rfl (.seq (.q 1 rfl (.seq (.t 2 rfl ?_))));refine .val (.fo 0 rfl X4f rfl rfl Qs9 rfl) rfl (.val (.lo rfl hS (k:=0) rfl Qg9 rfl) rfl (.q 1 rfl (.call Tryz.func190 rfl (ec9 rfl (ec9 rfl X0)) rfl (Xcq t x B _ I _ hS) ?_)));rintro _ w ⟨rfl,hS⟩;refine .q 5 rfl (.nil (.seq (.t 3 rfl ?_)));refine .val (.fo 0 rfl X4f rfl rfl Qs9 rfl) rfl (.s1 hS (k:=0) rfl rfl rfl rfl Qs9 (by simp) ?_);intro w hS;refine .nil (.seq (.q 2 rfl (.ret (Xc Tryz.results144 rfl ?_))));exact ⟨_,rfl,rfl,hS⟩
theorem Xk2 (rb:Nat) (t ats:List UInt8) (hl:t.length<=1000000) (l:Int) (B w:World) (I:Im) (As:List X7) (hI:∀ w,Sat B w I (blk rb [S (t),I64 (l)] 171::As)->Calls Tryz.prog 191 [S t,S ats].toArray w (Ret fun v w'=>v=I64 (Go.Lib.indexAny t ats)/\Sat B w' I (blk rb [S (t),I64 (l)] 171::As))) (hS:Sat B w I (blk rb [S (t),I64 (l)] 171::As)) :
  Cz 145 [ptr rb 0,S ats] w fun v w'=>v=S (upto ats t)/\Sat B w' I (blk rb [S (X6 ats t),I64 (l)] 171::As):=by
 refine calls Xmn rfl Tryz.ntmps145 rfl (.seq (.q 1 rfl (.seq (.t 2 rfl ?_))));refine .val (.fo 0 rfl X4f rfl rfl Qs9 rfl) rfl (.val (.lo rfl hS (k:=0) rfl Qg9 rfl) rfl (.q 1 rfl (.call Qf191 rfl (ec9 rfl (ec9 rfl X0)) rfl (hI _ hS) ?_)));rintro _ w ⟨rfl,hS⟩;have hix:Go.Lib.indexAny t ats=-1/\upto ats t=t/\X6 ats t=[]\/∃ k:Nat,Go.Lib.indexAny t ats=k/\upto ats t=t.take k/\X6 ats t=t.drop k/\k<t.length:=by
  have hge:=Go.Lib.indexAny_ge ats t
  by_cases e:Go.Lib.indexAny t ats=-1
  ·exact .inl ⟨e,X74 e⟩
  ·obtain ⟨k,hk⟩:∃ k:Nat,Go.Lib.indexAny t ats=k:=⟨(Go.Lib.indexAny t ats).toNat,by omega⟩
   exact .inr ⟨k,hk,Xa7 hk⟩
 generalize Go.Lib.indexAny t ats=ix at hix;refine .q 1 rfl (.nil (.seq (.seq (.q 2 rfl ?_))));refine .cond rfl (fun hb14=>?_) fun hb14=>?_
 ·have hc14:=hb14; simp only [Y6] at hc14;refine .t 2 rfl (.val (.fo 0 rfl X4f rfl rfl Qs9 rfl) rfl (.val (.lo rfl hS (k:=0) rfl Qg9 rfl) rfl (.run 2 rfl ⟨Qu9,trivial⟩ (.nil (.seq ?_)))));have hix1:ix=-1/\upto ats t=t/\X6 ats t=[]:=by
   rcases hix with h | ⟨k,h,_⟩
   ·exact h
   ·rw [h] at hc14; omega
  refine .t 2 rfl (.val (.fo 0 rfl X4f rfl rfl Qs9 rfl) rfl (.val (.lo rfl hS (k:=0) rfl Qg9 rfl) rfl (.q 1 rfl (.val (.subTo (.of rfl) (.of rfl) (by omega) (by omega) Qu9) rfl (.q 1 rfl (.nil (.seq (.t 3 rfl ?_))))))));refine .val (.fo 0 rfl X4f rfl rfl Qs9 rfl) rfl (.val (.lo rfl hS (k:=0) rfl Qg9 rfl) rfl (.q 1 rfl (.val (.subFrom (.of rfl) (.of rfl) (by omega) (by omega) Qu9) rfl (.q 1 rfl ?_))));refine .val (.fo 0 rfl X4f rfl rfl Qs9 rfl) rfl (.s1 hS (k:=0) rfl rfl rfl rfl Qs9 (by simp) ?_);intro w hS;refine .nil (.seq (.q 2 rfl (.ret (Xc Tryz.results145 rfl ?_))));refine ⟨_,rfl,?_,?_⟩
  ·rw [hix1.2.1,Yf,Y15]
  ·rw [hix1.2.2]; rw [Yf,Y2x] at hS; exact hS
 have hc14:=hb14; simp only [Y6] at hc14;refine .skip (.seq ?_);obtain ⟨k,hk,hk1,hk2,hk3⟩:∃ k:Nat,ix=k/\upto ats t=t.take k/\X6 ats t=t.drop k/\k<t.length:=by
  rcases hix with ⟨h,_⟩ | h
  ·rw [h] at hc14; omega
  ·exact h
 subst hk;refine .t 2 rfl (.val (.fo 0 rfl X4f rfl rfl Qs9 rfl) rfl (.val (.lo rfl hS (k:=0) rfl Qg9 rfl) rfl (.q 1 rfl (.val (.subTo (.of rfl) (.of rfl) (by omega) (by omega) Qu9) rfl (.q 1 rfl (.nil (.seq (.t 3 rfl ?_))))))));refine .val (.fo 0 rfl X4f rfl rfl Qs9 rfl) rfl (.val (.lo rfl hS (k:=0) rfl Qg9 rfl) rfl (.q 1 rfl (.val (.subFrom (.of rfl) (.of rfl) (by omega) (by omega) Qu9) rfl (.q 1 rfl ?_))));refine .val (.fo 0 rfl X4f rfl rfl Qs9 rfl) rfl (.s1 hS (k:=0) rfl rfl rfl rfl Qs9 (by simp) ?_);intro w hS;refine .nil (.seq (.q 2 rfl (.ret (Xc Tryz.results145 rfl ?_))));refine ⟨_,rfl,?_,?_⟩
 ·rw [hk1,Yf]
 ·rw [hk2]; rw [Yf] at hS; exact hS
theorem Xqb (rb:Nat) (t:List UInt8) (c:UInt8) (hc:c.toNat<128) (hl:t.length<=1000000) (l:Int) (B w:World) (I:Im) (As:List X7) (hS:Sat B w I (blk rb [S (t),I64 (l)] 171::As)):Calls Tryz.prog 145 [ptr rb 0,S [c]].toArray w (Ret fun v w'=>v=S (upto [c] t)/\Sat B w' I (blk rb [S (X6 [c] t),I64 (l)] 171::As)):=Xk2 rb t [c] hl l B w I As (fun w h=>Xcs t c hc B w I _ h) hS
theorem xword2 (rb:Nat) (t:List UInt8) (hl:t.length<=1000000) (l:Int) (B w:World) (I:Im) (As:List X7) (hS:Sat B w I (blk rb [S (t),I64 (l)] 171::As)):Calls Tryz.prog 145 [ptr rb 0,S [32,62]].toArray w (Ret fun v w'=>v=S (upto [32,62] t)/\Sat B w' I (blk rb [S (X6 [32,62] t),I64 (l)] 171::As)):=Xk2 rb t [32,62] hl l B w I As (fun w h=>X4x t [32,62] hl (fun j b h=>by
  match j,h with
  | 0,h=>cases h; decide
  | 1,h=>cases h; decide
  | _+2,h=>simp at h) (by decide) (by decide) B w I _ h) hS
end Go.Proofs.YtbciobiiejpdgaaGreatDoor
