/- Part 6 of what the proof stands on: W18w, W21f, Tmo, W21g, W21o, W21p, W21q, W21r, W21s, W21t, W18x, W21u, W21v, W21w, W21x, Op21, W20a, W20e, W20i. -/
import Derived.Test.YtadhiihnnkcagaaGreatDoorM2VE
import Derived.KernelRfl
import Derived.Laws.StructEq
import Derived.OpenShut
set_option linter.unusedVariables false
set_option linter.unusedSimpArgs false
namespace Go.Proofs.YtadhiihnnkcagaaGreatDoor
open Gk Pat
theorem X8i (pr:Sv→Bool):∀ (l:List Sv) (i:Nat),(X2f pr l i=-1∧l.find? pr=none)∨(∃ j s,X2f pr l i=((i+j:Nat):Int)∧l[j]?=some s∧pr s=true∧l.find? pr=some s)
 | [],_=>.inl ⟨rfl,rfl⟩
 | a::l,i=>by
  rw [X2f,Y2y]
  cases ha:pr a with
  | true=>exact .inr ⟨0,a,rfl,rfl,ha,rfl⟩
  | false =>
   rw [if_neg (by decide)]
   rcases X8i pr l (i+1) with ⟨h1,h2⟩ | ⟨j,s,h1,h2,h3,h4⟩
   ·exact .inl ⟨h1,h2⟩
   ·exact .inr ⟨j+1,s,by rw [h1]; congr 1; omega,h2,h3,h4⟩
theorem X94 (pr:Sv→Bool) (l:List Sv):(X2f pr l 0=-1∧l.find? pr=none)∨(∃ (j:Nat) (s:Sv),X2f pr l 0=(j:Int)∧l[j]?=some s∧pr s=true∧l.find? pr=some s):=by
 rcases X8i pr l 0 with h | ⟨j,s,h1,h2⟩
 ·exact .inl h
 ·exact .inr ⟨j,s,by rw [h1,Yc],h2⟩
theorem Xlo {l:List UInt8} {Q:List Pl} (h:cmp l=.ok Q) (s:List UInt8):(X9h l s).1=mat Q s:=by unfold X9h; rw [h]
def Xc (lo:List Sv) (s:List UInt8):Sv×List UInt8×Nat :=
 if (Ul.nU s).2≠0 then (z0,[],(Ul.nU s).2) else if 100<(Ul.nU s).1.length then (z0,[],2)
 else match lo.find? (fun t=>(X9h t.urls (Ul.nU s).1).1) with
  | none=>(z0,[],31)
  | some t=>(t,(Ul.nU s).1,0)
theorem Xe2 (pr:Addr) (lo:List Sv) (hlo:lo.length≤100000) (hrl:∀ s∈lo,s.rel.length≤1000000) (s:List UInt8) (hs:s.length≤1000000) (a:Option Addr) (cc:Nat) (E:List (List Value)) (B w:World) (I:Im) (hK:Known I) (hreg:At I pr [.slice a lo.length cc]) (hE:EntsIn I a E lo) (As:List Xe) (hS:Sat B w I As) :
  Calls Tryz.prog 40 [.pointer (some pr),S s].toArray w (Ret fun v w'=>∃ J u c n e,Le I J∧v=.tuple #[.agg (List.toArray c),S n,I64 ((e:Nat):Int)]∧SvAt J u c∧Xc lo s=(u,n,e)∧Sat B w' J As):=by
 refine calls Tryz.func40 rfl Tryz.ntmps40 rfl (.seq (.region (.allocA (cs:=[_,_,_,_,_,_,_,_]) hS X82 rfl ?_)))
 clear hS; intro b4 w hS
 refine .q 2 rfl (.nil (.seq (.t 1 rfl (.call Tryz.func63 rfl (X0 (.of rfl) X4) rfl (X8t s hs B _ I hK _ hS) ?_))))
 clear hS
 rintro _ w ⟨rfl,hS⟩
 refine .q 3 rfl (.alloc1 hS Qz9 rfl rfl ?_)
 clear hS; intro b7 w hS
 refine .st1 hS (k:=0) rfl (.of rfl) (.of rfl) rfl Qs9 (by simp) ?_
 clear hS; intro w hS
 refine .q 1 rfl (.nil (.seq (.seq (.t 3 rfl (.gval rfl rfl (fun hg1=>(.ld (.of rfl) hS (k:=0) rfl Qg9 rfl)) rfl (.gval rfl rfl (fun hg1=>(.len (.gd hg1 rfl) Qu9)) rfl (.gval rfl rfl (fun hg1=>(.gtr (.gd hg1 rfl) (.of rfl))) rfl (.val (.pand (.of rfl) (.of rfl) (.of rfl)) rfl (.nil ?_)))))))))
 refine WC.cond rfl (fun hb21=>?_) (fun hb21=>?_)
 ·
  have hc21:=hb21; try simp only [Y6] at hc21
  refine .q 1 rfl (.seq (.seq (.q 2 rfl ?_)))
  refine WC.cond rfl (fun hb23=>?_) (fun hb23=>by exfalso; simp only [Y6] at hb23; omega)
  have hc23:=hb23; try simp only [Y6] at hc23
  refine .seq (.region (.val (.build (cs:=[_,_,_,_,_,_,_,_]) X6 X2w rfl) rfl (.q 1 rfl (.stA hS (k:=1) rfl (.of rfl) (.of rfl) rfl X12 rfl (by simp) ?_))))
  clear hS; intro w hS
  try simp only [Yh,Yd,Y9,Y7,Yg,Ym,Yc] at hS
  refine .q 2 rfl (.nil (.ret (Xcm (b:=_) (cs:=[_,_,_,_,_,_,_,_]) Qr40 hS (k:=1) rfl X59 X12 rfl rfl rfl rfl ?_)))
  exact ⟨_,rfl,I,z0,_,[],2,Le.refl _,rfl,⟨none,0,rfl,Yu _,RS.nil _ _⟩,(by unfold Xc; rw [if_neg (by simp at hb21; omega),if_pos (by simp at hb21; omega)]),((hS.drop (k:=0) rfl).drop (k:=0) rfl)⟩
 have hc21:=hb21; try simp only [Y6] at hc21
 refine .skip (.seq (.seq (.q 2 rfl ?_)))
 refine WC.cond rfl (fun hb23=>?_) (fun hb23=>?_)
 ·
  have hc23:=hb23; try simp only [Y6] at hc23
  refine .seq (.region (.val (.build (cs:=[_,_,_,_,_,_,_,_]) X6 X2w rfl) rfl (.q 1 rfl (.stA hS (k:=1) rfl (.of rfl) (.of rfl) rfl X12 rfl (by simp) ?_))))
  clear hS; intro w hS
  try simp only [Yh,Yd,Y9,Y7,Yg,Ym,Yc] at hS
  refine .q 2 rfl (.nil (.ret (Xcm (b:=_) (cs:=[_,_,_,_,_,_,_,_]) Qr40 hS (k:=1) rfl X59 X12 rfl rfl rfl rfl ?_)))
  exact ⟨_,rfl,I,z0,_,[],_,Le.refl _,rfl,⟨none,0,rfl,Yu _,RS.nil _ _⟩,(by unfold Xc; rw [if_pos (by omega)]),((hS.drop (k:=0) rfl).drop (k:=0) rfl)⟩
 have hc23:=hb23; try simp only [Y6] at hc23
 refine .skip (.seq ?_)
 have hz:(Ul.nU s).2=0:=by omega
 have hn100:(Ul.nU s).1.length≤100:=by
  rw [hz] at hb21
  simp at hb21
  omega
 refine .t 2 rfl (.val (.fieldAddrI 0 (.of rfl) Xim rfl rfl Xjt rfl) rfl (.val (.ldI (.of rfl) hS (At.add hreg _) Tryz.isAgg152 rfl) rfl (.val (.makeFunc (X0 (.of rfl) X4)) rfl ?_)))
 refine WL.call Tryz.func85 rfl (X0 (.of rfl) (X0 (.of rfl) X4)) rfl (X6e a cc lo hlo (fun t=>(X9h t.urls (Ul.nU s).1).1) 86 _ Tryz.func86 rfl [ptr b7 0] B _ I (blk b7 [S (Ul.nU s).1] 9::blk b4 [I64 0,F64 0,S [],.bool false,.bool false,.bool false,S [],.slice none 0 0] 101::As) (fun w h=>hE.now h) (fun t c ht w h=>by
  obtain ⟨ta,tc,tp,tq,Q,_,rfl,_,_,hQ,hpat,_⟩:=ht
  refine (Xj5 hQ ta tc tp tq (Ul.nU s).1 (by omega) b7 B w I hpat _ h).mono fun e w' ⟨v,e1,e2,e3⟩=>⟨v,e1,?_,e3⟩
  rw [e2,Xlo hQ]) hS) ?_
 clear hS
 rintro _ w ⟨rfl,hS⟩
 refine .q 1 rfl (.nil (.seq (.seq (.q 2 rfl ?_))))
 refine WC.cond rfl (fun hb33=>?_) (fun hb33=>?_)
 ·
  have hc33:=hb33; try simp only [Y6] at hc33
  refine .seq (.region (.val (.build (cs:=[_,_,_,_,_,_,_,_]) X6 X2w rfl) rfl (.stA hS (k:=1) rfl (.of rfl) (.of rfl) rfl X12 rfl (by simp) ?_)))
  clear hS; intro w hS
  try simp only [Yh,Yd,Y9,Y7,Yg,Ym,Yc] at hS
  refine .q 2 rfl (.nil (.ret (Xcm (b:=_) (cs:=[_,_,_,_,_,_,_,_]) Qr40 hS (k:=1) rfl X59 X12 rfl rfl rfl rfl ?_)))
  exact ⟨_,rfl,I,z0,_,[],31,Le.refl _,rfl,⟨none,0,rfl,Yu _,RS.nil _ _⟩,(by
   have hno:lo.find? (fun t=>(X9h t.urls (Ul.nU s).1).1)=none:=by
    rcases X94 (fun t=>(X9h t.urls (Ul.nU s).1).1) lo with ⟨_,h⟩ | ⟨j,u,hj,_⟩
    ·exact h
    ·exfalso; rw [hj] at hc33; omega
   unfold Xc
   rw [if_neg (by omega),if_neg (by omega),hno]),((hS.drop (k:=0) rfl).drop (k:=0) rfl)⟩
 have hc33:=hb33; try simp only [Y6] at hc33
 refine .skip (.seq ?_)
 rcases X94 (fun t=>(X9h t.urls (Ul.nU s).1).1) lo with ⟨hneg,_⟩ | ⟨j,u,hj,hu,hpu,hfind⟩
 ·exfalso; rw [hneg] at hc33; omega
 rw [hj]
 obtain ⟨p,c,rfl,hc,hx0,ra,rc,pp,qq,Q,T,rfl,hrc,hrr,hQ,hpQ,hT,hpT⟩:=hE.2 j u hu
 have hjl:=(Y5.1 hu).1
 have hsm:=hrl u (Yl hu)
 have hx:=X4g hx0 8
 simp only [X1m,Y20,Yh] at hx
 refine .drawn (fun w=>∃ J9 R,Le I J9∧Sat B w J9 (blk b7 [S (Ul.nU s).1] 9::R)) (fun j=>!([].contains j)) (by kernel_rfl) ?_
 replace hS:=hS.drew; generalize w.drew=w at hS ⊢
 have hH:∃ J9 R,Le I J9∧Sat B w J9 (blk b7 [S (Ul.nU s).1] 9::R):=⟨_,_,Le.refl _,(hS.pick 0 rfl)⟩
 refine .tp (i:=0) rfl (by kernel_rfl) (fun w=>(.move (.of rfl))) rfl (.tp (i:=1) rfl (by kernel_rfl) (fun w=>(.nilCheck (.of rfl))) rfl (.tp (i:=2) rfl (by kernel_rfl) (fun w=>(.fieldAddrI 0 (.of rfl) Xim rfl rfl Xjt rfl)) rfl (.tk (i:=3) rfl (by kernel_rfl) hH (fun w ⟨J9,R,hL9,hS⟩=>(.ldI (.of rfl) hS (At.add (hreg.mono hL9) _) Tryz.isAgg152 rfl)) rfl (.tp (i:=4) rfl (by kernel_rfl) (fun w=>(.move (.of rfl))) rfl (.tp (i:=5) rfl (by kernel_rfl) (fun w=>(.indexAddrI (.of rfl) (.of rfl) (by omega) (by omega) X7u X3e)) rfl (.tp (i:=6) rfl (by kernel_rfl) (fun w=>(.fieldAddrI 0 (.of rfl) Xml rfl rfl X12 rfl)) rfl (.tk (i:=7) rfl (by kernel_rfl) hH (fun w ⟨J9,R,hL9,hS⟩=>(.ldsI (.of rfl) hS (hx.mono hL9) X59 X12 rfl (fun _ _ h=>h))) rfl (.tk (i:=9) rfl (by kernel_rfl) hH (fun w ⟨J9,R,hL9,hS⟩=>(.ld (.of rfl) hS (k:=0) rfl Qg9 rfl)) rfl ?_))))))))
 refine WD.branch [8] (by kernel_rfl) rfl (WO.cons rfl ?_ (WO.nil))
 refine .call Tryz.func88 rfl (X0 (.of rfl) X4) rfl (Xp4 u ra rc hsm B _ I hrr _ hS) ?_
 clear hS
 rintro _ w ⟨J2,cs,hJ2,rfl,hsv,hS⟩
 obtain ⟨sa,sc,rfl,hq1,hq2⟩:=hsv
 have hsv:SvAt J2 u (X1u u sa sc):=⟨sa,sc,rfl,hq1,hq2⟩
 refine .nil ?_
 clear hH
 have hH:∃ J9 R,Le I J9∧Sat B w J9 (blk b7 [S (Ul.nU s).1] 9::R):=⟨_,_,hJ2,(hS.pick 0 rfl)⟩
 refine And.intro (by intro _ _; exact hH) ?_
 refine WD.branch [10] (by kernel_rfl) rfl (WO.cons rfl ?_ (WO.nil))
 refine .stA hS (k:=1) rfl (.of rfl) (.of rfl) rfl X12 rfl (by simp) ?_
 clear hS; intro w hS
 try simp only [Yh,Yd,Y9,Y7,Yg,Ym,Yc] at hS
 refine .nil ?_
 clear hH
 have hH:∃ J9 R,Le I J9∧Sat B w J9 (blk b7 [S (Ul.nU s).1] 9::R):=⟨_,_,hJ2,(hS.pick 0 rfl)⟩
 refine And.intro (by intro _ _; exact hH) ?_
 refine .tp (i:=11) rfl (by kernel_rfl) (fun w=>(.assign (.of rfl))) rfl (.tp (i:=12) rfl (by kernel_rfl) (fun w=>(.assign (.of rfl))) rfl (.done (by kernel_rfl) (.ret (Xcm (b:=_) (cs:=[_,_,_,_,_,_,_,_]) Qr40 hS (k:=1) rfl X59 X12 rfl rfl rfl rfl ?_))))
 exact ⟨_,rfl,J2,u,_,(Ul.nU s).1,0,hJ2,rfl,hsv,(by unfold Xc; rw [if_neg (by omega),if_neg (by omega),hfind]),((hS.drop (k:=0) rfl).drop (k:=0) rfl)⟩
end Go.Proofs.YtadhiihnnkcagaaGreatDoor
namespace Go.Proofs.YtadhiihnnkcagaaGreatDoor
open Gk Ul Pc Tk Tr
theorem Ex.bytesStr {P:Program} {n:Nat} {L:Env} {B w:World} {I:Im} {As:List Xe} {k:Nat} {ty:TypeId} {pos:String} {af:Array Edge} {g:Option (Nat×Bool)} {x:Operand} {d:Option Nat} {src dst E:TypeId} {b o cap m:Nat} {l:List UInt8} {cs:List Value} (hx:Ev n L x (.slice (some (ad b o)) m cap)) (hm:l.length=m) (hS:Sat B w I As) (hk:As[k]?=some (blk b cs E)) (hs:P.underlying src=some (.slice E)) (he:P.underlying E=some (.int .u8)) (hd:P.underlying dst=some .string)
  (hc:∀ j (hj:j<l.length),cs[o+j]?=some (U8 (l[j].toNat:Int))):Ex P n L w ⟨d,.convert src dst x,ty,pos,af,g⟩ (S l) w:=fun a ha=>by
 subst hm
 have hb:=hS.block hk
 have h:=run_convert_bytes_back (P:=P) w src dst E (ad b o) cap l hs he hd (fun j hj=>by rw [X1i]; exact X1g hb (hc j hj))
 simp [execOp,hx a ha,h]
theorem Xks (k:Int):(Xh2 k).length≤6:=by
 unfold Xh2
 split
 ·simp
 ·rename_i h
  have:k=1∨k=2∨k=3∨k=4∨k=5∨k=6:=by omega
  rcases this with e | e | e | e | e | e <;> (subst e; decide)
def dg (n:Nat):UInt8:=if n<10 then UInt8.ofNat (48+n) else UInt8.ofNat (87+n)
theorem Xca:∀ (k n:Nat),Xdm (k+1) n=dg (n / 16 ^ k % 16)::Xdm k n
 | 0,n=>by simp [Xdm,dg]
 | k+1,n=>by
  rw [Xdm,Xca k (n / 16),Y36,← Nat.pow_succ',Yt,Xdm]
end Go.Proofs.YtadhiihnnkcagaaGreatDoor
namespace Gk
open Go
def Xit (E:TypeId) (v:Value) (xs:List Value):Xe:=fun h =>
 (v=.slice none 0 0∧xs=[]∧h=[]) ∨
  (∃ g cs p,v=.slice (some p) 0 0∧xs=[]∧h=[(g,Xq cs E)])∨∃ g cap ys rest,v=.slice (some ⟨g,List.length ys,none⟩) xs.length cap∧h=[(g,Xq (ys ++ xs ++ rest) E)]∧xs.length≤cap∧cap≤maxLen∧xs.length+rest.length=cap
section
variable {P:Program} {B w w':World} {I:Im} {As:List Xe} {k:Nat} {E:TypeId} {v:Value} {xs:List Value}
theorem Sat.vecoNil (hS:Sat B w I As) (E:Nat):Sat B w I (Xit E (.slice none 0 0) []::As):=by
 obtain ⟨h,hs,hg⟩:=hS
 exact ⟨h,⟨[],h,rfl,.inl ⟨rfl,rfl,rfl⟩,hs⟩,hg⟩
end
end Gk
namespace Go.Proofs.YtadhiihnnkcagaaGreatDoor
open Gk Ul Pc Tk Tr
theorem Xkr:Bld Tryz.prog 168 [(0,1)] [.slice none 0 0]:=X26 Tryz.underlying168 Tryz.zeroValue168 (fun w=>by simp [go_sem])
theorem Xhi (B w:World) (I:Im) (As:List Xe) (hS:Sat B w I As) :
  Calls Tryz.prog 136 [.slice none 0 0].toArray w (Ret fun v w'=>v=.slice none 0 0∧Sat B w' I As):=by
 refine calls Tryz.func136 rfl Tryz.ntmps136 rfl (.seq (.q 1 rfl (.seq (.seq (.t 1 rfl (.val (Ex.slNil (.of rfl) (.of rfl) Tryz.underlying81) rfl (.nil (.condT (rfl) (.seq (.q 1 rfl (.ret (Xh Tryz.results136 rfl ?_))))))))))))
 exact ⟨_,rfl,rfl,hS⟩
theorem Xej (B w:World) (I:Im) (As:List Xe) (hS:Sat B w I As) :
  Calls Tryz.prog 93 [.slice none 0 0].toArray w (Ret fun v w'=>∃ mb,v=ptr mb 0∧Sat B w' I (blk mb [.slice none (([]:List Nat)).length 0] 168::Xit 118 (.slice none (([]:List Nat)).length 0) ((([]:List Nat)).map fun d=>U64 (d:Nat))::As)):=by
 refine calls Tryz.func93 rfl Tryz.ntmps93 rfl (.seq (.q 1 rfl (.seq (.t 1 rfl (.call Tryz.func136 rfl (X0 (.of rfl) X4) rfl (Xhi B _ I _ hS) ?_)))))
 clear hS
 rintro _ w ⟨rfl,hS⟩
 refine .val (.build (cs:=[_]) (X5 (.of rfl) X6) Xkr rfl) rfl (.boxA (cs:=[_]) hS (.of rfl) rfl ?_)
 clear hS; intro b6 w hS
 refine .q 1 rfl (.nil (.ret (Xh Tryz.results93 rfl ?_)))
 exact ⟨_,rfl,_,rfl,(hS.vecoNil 118).pick 1 rfl⟩
def psL (p:Nat→Int):List Int:=[p 0,p 1,p 2,p 3,p 4,p 5,p 6,p 7,p 8,p 9,p 10,p 11,p 12,p 13,p 14,p 15,p 16,p 17,p 18,p 19,p 20]
structure Wp where
 wb:Nat
 tb:Nat
 mb:Nat
 ub:Nat
 pr:Addr
 lo:List Sv
 us:List Us
 ps:Nat→Int
structure Wd where
 room:Int
 l:List Rec
 D:List Nat
 now:Int
def wdC (p:Wp) (ω:Wd):List Value:=ptr p.tb 0::ptr p.mb 0::.pointer (some p.pr)::ptr p.ub 0::((psL p.ps).map I64 ++ [I64 ω.now])
def wdT (p:Wp) (ω:Wd):Option Addr×Nat×Option Addr×Nat→List Xe:=fun ⟨a,c,ma,mc⟩=>[blk p.wb (wdC p ω) 52,blk p.tb [I64 ω.room,.slice a ω.l.length c] 127,Vec 45 10 (.slice a ω.l.length c) ω.l.length (Xv ω.l),blk p.mb [.slice ma ω.D.length mc] 168,Xit 118 (.slice ma ω.D.length mc) (ω.D.map fun d=>U64 (d:Nat))]
def wdA (p:Wp) (ω:Wd):Xe:=Box (wdT p ω)
structure WpOk (I:Im) (p:Wp):Prop where
 reg:RegAt I p.pr p.lo
 tab:TabAt I p.ub p.us
 lo:p.lo.length≤100000
 rel:∀ s∈p.lo,s.rel.length≤1000000
 fit:∀ u∈p.us,u.fits
 att:∀ u∈p.us,u.attrs.length≤8
 known:Known I
 pre:PreAt I
theorem RegAt.mono {I J:Im} {pr:Addr} {lo:List Sv} (h:RegAt I pr lo) (hl:Le I J):RegAt J pr lo:=by
 obtain ⟨a,c,E,h1,h2,h3⟩:=h
 exact ⟨a,c,E,h1.mono hl,h2,h3.mono hl⟩
theorem WpOk.mono {I J:Im} {p:Wp} (h:WpOk I p) (hl:Le I J):WpOk J p:=⟨h.reg.mono hl,h.tab.mono hl,h.lo,h.rel,h.fit,h.att,h.known.mono hl,h.pre.mono hl⟩
structure X7t (ω:Wd):Prop where
 len:ω.l.length≤64
 wf:Wf ω.l
 D:∀ d∈ω.D,d<18446744073709551616
 now:0≤ω.now∧ω.now≤1099511627776
 room:ω.room≤64
def X9j (n:Int):Bool:=decide (n<0) || decide (1099511627776<n)
def iC (n:Int):List Value:=[I64 n]
def X64 (p:Nat→Int):Bool:=(!((psL p).take 7).any X9j && !(((psL p).drop 7).take 7).any X9j) && !((psL p).drop 14).any X9j
theorem Xas {B w:World} {I:Im} {As:List Xe} {k b E:Nat} {cs:List Value} {o:Nat} {l:List Int} (hS:Sat B w I As) (hk:As[k]?=some (blk b cs E)) (h:∀ (i:Nat) n,l[i]?=some n→cs[o+i]?=some (I64 n)):Xhj w iC 1 (some (ad b o)) l:=fun i n hn=>by
 refine ⟨_,rfl,fun j v hj=>?_⟩
 have hb:=hS.block (b:=b) (o:=Xq cs E) hk
 match j,hj with
 | 0,hj =>
  cases hj
  rw [X1i,X1i]
  refine X1g hb ?_
  rw [Y1r]
  exact h i n hn
 | j+1,hj=>simp [iC] at hj
theorem X9k (a:Option Addr) (cap:Nat) (l:List (Int)) (hln:l.length≤9223372036854775807) (pr:Int→Bool) (fid:FuncId) (fn:Func) (hfn:Tryz.prog.funcs[fid]?=some fn) (hcal:Xr fn=true) (capv:List Value) (B w:World) (I:Im) (As:List Xe) (hE:∀ w,Sat B w I As→Xhj w iC 1 a l) (hf:∀ (r:Int) (hr:r∈l) w,Sat B w I As→Calls Tryz.prog fid ([I64 r] ++ capv).toArray w (Ret fun v w'=>v=.bool (pr r)∧Sat B w' I As)) (hS:Sat B w I As) :
  Calls Tryz.prog 178 [.slice a l.length cap,.func (.func fid) #[] capv.toArray].toArray w (Ret fun v w'=>v=I64 (X2o pr l 0)∧Sat B w' I As):=by
 refine calls Tryz.func178 rfl Tryz.ntmps178 rfl (.seq (.q 1 rfl (.seq (.seq (.region (.run 3 rfl ⟨⟨_,Xi⟩,trivial⟩ (.nil (.block (.loop (σ:=Nat) (fun i=>[(0,.slice a l.length cap),(1,.func (.func fid) #[] capv.toArray),(7,I64 (l.length:Nat)),(8,I64 (i:Nat))]) (fun i w=>i≤l.length∧(∀ (j:Nat) t,j<i→l[j]?=some t→pr t=false)∧Sat B w I As) (fun i=>l.length - i) 0 ⟨rfl,rfl,rfl,rfl,trivial⟩ ⟨Yq _,fun _ _ h=>absurd h (by omega),hS⟩ ?_)))))))))
 rintro i w ⟨hi,hno,hS⟩
 refine .seq (.q 1 rfl (.seq ?_))
 refine WC.cond rfl (fun hb9=>?_) (fun hb9=>?_)
 ·
  have hc9:=hb9; try simp only [Y6] at hc9
  refine .skip (.seq (.block (.seq ?_)))
  obtain ⟨r,hr⟩:∃ r,l[i]?=some r:=⟨_,Y4 (by omega)⟩
  obtain ⟨p,rfl,hx⟩:=hE w hS i r hr
  refine .q 2 rfl (.seq (.t 3 rfl ?_))
  refine WL.val (.indexAddrI (.of rfl) (.of rfl) (by omega) (by omega) Xi Qs3) rfl ?_
  refine WL.val (.ld1 (.of rfl) (by have h9:=hx 0 _ rfl; simpa [Addr.add_add] using h9) Qg3) rfl ?_
  refine .vcall (cap:=capv) hfn hcal (.of rfl) (X0 (.of rfl) X4) rfl (hf r (Yl hr) w hS) ?_
  clear hS
  rintro _ w ⟨rfl,hS⟩
  refine .nil ?_
  refine WC.cond rfl (fun hb16=>?_) (fun hb16=>?_)
  ·
   refine .seq (.q 2 rfl (.ret (Xh Tryz.results178 rfl ?_)))
   exact ⟨_,rfl,by rw [X4w hno hr hb16],hS⟩
  have hc16:=hb16; try simp only [Y6] at hc16
  refine .skip (.region (.run 2 rfl ⟨⟨by omega,by omega⟩,trivial⟩ (.nil ?_)))
  refine ⟨i+1,⟨rfl,rfl,rfl,rfl,trivial⟩,⟨by (try dsimp only); omega,fun j t hj ht=>?_,hS⟩,by (try dsimp only); omega⟩
  rcases Yr j i with h1 | h1
  ·exact hno j t h1 ht
  ·have e:j=i:=by omega
   subst e
   rw [hr] at ht; cases ht
   exact hb16
 have hc9:=hb9; try simp only [Y6] at hc9
 refine .exit (.seq (.q 1 rfl (.ret (Xh Tryz.results178 rfl ?_))))
 exact ⟨_,rfl,by rw [X3n (fun j t ht=>hno j t (by have:=(Y5.1 ht).1; omega) ht)],hS⟩
theorem X28 (a:Option Addr) (cap:Nat) (l:List (Int)) (hln:l.length≤9223372036854775807) (pr:Int→Bool) (fid:FuncId) (fn:Func) (hfn:Tryz.prog.funcs[fid]?=some fn) (hcal:Xr fn=true) (capv:List Value) (B w:World) (I:Im) (As:List Xe) (hE:∀ w,Sat B w I As→Xhj w iC 1 a l) (hf:∀ (r:Int) (hr:r∈l) w,Sat B w I As→Calls Tryz.prog fid ([I64 r] ++ capv).toArray w (Ret fun v w'=>v=.bool (pr r)∧Sat B w' I As)) (hS:Sat B w I As) :
  Calls Tryz.prog 135 [.slice a l.length cap,.func (.func fid) #[] capv.toArray].toArray w (Ret fun v w'=>v=.bool (l.any pr)∧Sat B w' I As):=by
 refine calls Xle rfl Tryz.ntmps135 rfl (.seq (.q 1 rfl (.seq (.t 2 rfl (.call Tryz.func178 rfl (X0 (.of rfl) (X0 (.of rfl) X4)) rfl (X9k a cap l hln pr fid fn hfn hcal capv B _ I As hE hf hS) ?_)))))
 clear hS
 rintro _ w ⟨rfl,hS⟩
 refine .q 2 rfl (.nil (.ret (Xh Tryz.results135 rfl ?_)))
 exact ⟨_,rfl,by rw [← X74 pr l 0],hS⟩
theorem Xbe (n:Int) (B w:World) (I:Im) (As:List Xe) (hS:Sat B w I As) :
  Calls Tryz.prog 134 [I64 n].toArray w (Ret fun v w'=>v=.bool (X9j n)∧Sat B w' I As):=by
 refine calls Xo6 rfl Tryz.ntmps134 rfl (.seq (.q 1 rfl (.seq (.t 3 rfl (.gval rfl rfl (fun hg1=>(.move (.of rfl))) rfl (.gval rfl rfl (fun hg1=>(.gtr (.gd hg1 rfl) (.of rfl))) rfl (.val (.por (.of rfl) (.of rfl) (.of rfl)) rfl (.q 1 rfl (.nil (.ret (Xh Tryz.results134 rfl ?_)))))))))))
 exact ⟨_,rfl,rfl,hS⟩
theorem Xhd (p:Nat→Int) (B w:World) (I:Im) (As:List Xe) (hS:Sat B w I As) :
  Calls Tryz.prog 91 [.agg ((psL p).map I64).toArray].toArray w (Ret fun v w'=>v=.bool (X64 p)∧Sat B w' I As):=by
 refine calls Tryz.func91 rfl Tryz.ntmps91 rfl (.seq (.region (.boxA (cs:=(psL p).map I64) hS (.of rfl) rfl ?_)))
 clear hS; intro b1 w hS
 refine .q 1 rfl (.nil (.seq (.q 1 rfl (.seq (.region ?_)))))
 refine WL.val (.fieldAddr 0 (.of rfl) Xb1 rfl rfl Xc3 rfl) rfl ?_
 refine .val (Ex.slcArr (.of rfl) Xay Qs3) rfl (.q 1 rfl (.call Xle rfl (X0 (.of rfl) (X0 (.of rfl) X4)) rfl (X28 (some (ad b1 0)) 7 ((psL p).take 7) (show (7:Nat)≤9223372036854775807 by decide) X9j 134 _ Xo6 rfl [] B _ I _ (fun w h=>Xas h (k:=0) rfl (fun i n hn=>by match i,hn with | 0,hn=>exact congrArg (Option.map I64) hn | 1,hn=>exact congrArg (Option.map I64) hn | 2,hn=>exact congrArg (Option.map I64) hn | 3,hn=>exact congrArg (Option.map I64) hn | 4,hn=>exact congrArg (Option.map I64) hn | 5,hn=>exact congrArg (Option.map I64) hn | 6,hn=>exact congrArg (Option.map I64) hn | i+7,hn=>cases hn)) (fun n hn w h=>Xbe n B w I _ h) hS) ?_))
 clear hS
 rintro _ w ⟨rfl,hS⟩
 refine .q 2 rfl ?_
 refine WL.gval rfl rfl (fun hg1=>(by exact .fieldAddr 7 (.of rfl) Xb1 rfl rfl Xc3 rfl)) rfl ?_
 refine .gval rfl rfl (fun hg1=>(Ex.slcArr (.gd hg1 rfl) Xay Qs3)) rfl (.gval rfl rfl (fun hg1=>(.move (.of rfl))) rfl (.gcall (T:=fun w=>Sat B w I (blk b1 ((psL p).map I64) 31::As)) rfl rfl rfl Xle rfl (fun hg1=>(X0 (.gd hg1 rfl) (X0 (.gd hg1 rfl) X4))) rfl (fun hg1=>X28 (some (ad b1 7)) 7 (((psL p).drop 7).take 7) (show (7:Nat)≤9223372036854775807 by decide) X9j 134 _ Xo6 rfl [] B _ I _ (fun w h=>Xas h (k:=0) rfl (fun i n hn=>by match i,hn with | 0,hn=>exact congrArg (Option.map I64) hn | 1,hn=>exact congrArg (Option.map I64) hn | 2,hn=>exact congrArg (Option.map I64) hn | 3,hn=>exact congrArg (Option.map I64) hn | 4,hn=>exact congrArg (Option.map I64) hn | 5,hn=>exact congrArg (Option.map I64) hn | 6,hn=>exact congrArg (Option.map I64) hn | i+7,hn=>cases hn)) (fun n hn w h=>Xbe n B w I _ h) hS) hS ?_))
 clear hS; rintro w hS
 refine .gval rfl rfl (fun hg1=>(.not (.gd hg1 rfl))) rfl (.val (.pand (.of rfl) (.of rfl) (.of rfl)) rfl (.q 1 rfl ?_))
 refine WL.gval rfl rfl (fun hg1=>(by exact .fieldAddr 14 (.of rfl) Xb1 rfl rfl Xc3 rfl)) rfl ?_
 refine .gval rfl rfl (fun hg1=>(Ex.slcArr (.gd hg1 rfl) Xay Qs3)) rfl (.gval rfl rfl (fun hg1=>(.move (.of rfl))) rfl (.gcall (T:=fun w=>Sat B w I (blk b1 ((psL p).map I64) 31::As)) rfl rfl rfl Xle rfl (fun hg1=>(X0 (.gd hg1 rfl) (X0 (.gd hg1 rfl) X4))) rfl (fun hg1=>X28 (some (ad b1 14)) 7 ((psL p).drop 14) (show (7:Nat)≤9223372036854775807 by decide) X9j 134 _ Xo6 rfl [] B _ I _ (fun w h=>Xas h (k:=0) rfl (fun i n hn=>by match i,hn with | 0,hn=>exact congrArg (Option.map I64) hn | 1,hn=>exact congrArg (Option.map I64) hn | 2,hn=>exact congrArg (Option.map I64) hn | 3,hn=>exact congrArg (Option.map I64) hn | 4,hn=>exact congrArg (Option.map I64) hn | 5,hn=>exact congrArg (Option.map I64) hn | 6,hn=>exact congrArg (Option.map I64) hn | i+7,hn=>cases hn)) (fun n hn w h=>Xbe n B w I _ h) hS) hS ?_))
 clear hS; rintro w hS
 refine .gval rfl rfl (fun hg1=>(.not (.gd hg1 rfl))) rfl (.val (.pand (.of rfl) (.of rfl) (.of rfl)) rfl (.q 1 rfl (.nil (.ret (Xh Tryz.results91 rfl ?_)))))
 exact ⟨_,rfl,rfl,hS.drop (k:=0) rfl⟩
def Xo9 (ω:Wd) (n:Int):Wd:={ ω with now:=min (ω.now+max 0 (min n 1099511627776)) 1099511627776 }
theorem Xq4 {ω:Wd} (h:X7t ω) (n:Int):X7t (Xo9 ω n):=⟨h.len,h.wf,h.D,by have:=h.now; unfold Xo9; (try dsimp only); omega,h.room⟩
theorem Xn4 (p:Wp) (ω:Wd) (n:Int) (hω:X7t ω) (B w:World) (I:Im) (As:List Xe) (hS:Sat B w I (wdA p ω::As)) :
  Calls Tryz.prog 20 [ptr p.wb 0,I64 n].toArray w (Ret fun v w'=>v=.tuple #[]∧Sat B w' I (wdA p (Xo9 ω n)::As)):=by
 refine calls Tryz.func20 rfl Tryz.ntmps20 rfl ?_
 obtain ⟨⟨a,c,ma,mc⟩,hS⟩:=Sat.unbox hS
 replace hS:Sat B _ _ (blk p.wb (wdC p ω) 52::blk p.tb [I64 ω.room,.slice a ω.l.length c] 127::Vec 45 10 (.slice a ω.l.length c) ω.l.length (Xv ω.l)::blk p.mb [.slice ma ω.D.length mc] 168::Xit 118 (.slice ma ω.D.length mc) (ω.D.map fun d=>U64 (d:Nat))::As):=hS
 have hnow:=hω.now
 refine .t 3 rfl ?_
 refine WL.val (.fieldAddr 25 (.of rfl) Xc2 rfl rfl Qs3 rfl) rfl ?_
 refine WL.val (.ld (.of rfl) hS (k:=0) rfl Qg3 rfl) rfl ?_
 refine .q 1 rfl (.val (.min2 (.of rfl) (.of rfl)) rfl (.val (.max2 (.of rfl) (.of rfl)) rfl (.run 1 rfl ⟨⟨by omega,by omega⟩,trivial⟩ (.val (.min2 (.of rfl) (.of rfl)) rfl (.q 1 rfl ?_)))))
 refine WL.val (.fieldAddr 25 (.of rfl) Xc2 rfl rfl Qs3 rfl) rfl ?_
 refine .st1 hS (k:=0) rfl (.of rfl) (.of rfl) rfl Qs3 (show 25<26 by decide) ?_
 clear hS; intro w hS
 refine .nil (X85 Tryz.results20 ?_)
 exact ⟨_,rfl,rfl,Sat.box (T:=wdT p _) (a,c,ma,mc) hS⟩
theorem Xes (tb:Nat) (room:Int) (a:Option Addr) (c:Nat) (l:List Rec) (hl:l.length≤100000) (hwf:Wf l) (ps:List Int) (hps:ps.length=21) (name:List UInt8) (now:Int) (hn:0≤now∧now≤1099511627776) (B w:World) (I:Im) (As:List Xe) (hS:Sat B w I (blk tb [I64 room,.slice a l.length c] 127::Vec 45 10 (.slice a l.length c) l.length (Xv l)::As)) :
  Calls Tryz.prog 65 [ptr tb 0,.agg (ps.map I64).toArray,S name,I64 now].toArray w (Ret fun v w'=>v=.bool (X3w ps l name now)∧Sat B w' I (blk tb [I64 room,.slice a l.length c] 127::Vec 45 10 (.slice a l.length c) l.length (Xv l)::As)) :=
 (Xhr tb room a c l hl hwf ps hps name now hn B w I As hS).mono fun e w' ⟨v,he,J,hJ,hv,hS⟩=>⟨v,he,hv,hS.weaken hJ⟩
theorem wd_pol {p:Wp} {ω:Wd} {j:Nat} {v:Value} (h:((psL p.ps).map I64)[j]?=some v):(wdC p ω)[0+4+j]?=some v:=by
 have h1:=(Y5.1 h).1
 have e:wdC p ω=[ptr p.tb 0,ptr p.mb 0,.pointer (some p.pr),ptr p.ub 0] ++ ((psL p.ps).map I64 ++ [I64 ω.now]):=rfl
 rw [e,Yv (by simp),Ye,Ye,Ye,Ye,Yn,show 0+4+j - (0+1+1+1+1)=j by omega,Yi h1]
 exact h
def X8 (ps:Nat→Int) (ω:Wd) (name:List UInt8) (kind:Int):Rec×Bool:=if ((((getD ω.l name).kind) != kind) || !X3w (psL ps) ω.l name ω.now)=true then (r0,false) else (getD ω.l name,true)
theorem Xj2 (name:List UInt8) (kind:Int) (p:Wp) (ω:Wd) (hω:X7t ω) (B w:World) (I:Im) (As:List Xe) (hS:Sat B w I (wdA p ω::As)) :
  Calls Tryz.prog 21 [ptr p.wb 0,S name,I64 kind].toArray w (Ret fun v w'=>v=.tuple #[.agg (X7 (X8 p.ps ω name kind).1).toArray,.bool (X8 p.ps ω name kind).2]∧Sat B w' I (wdA p ω::As)):=by
 refine calls Tryz.func21 rfl Tryz.ntmps21 rfl (.seq ?_)
 obtain ⟨⟨a,c,ma,mc⟩,hS⟩:=Sat.unbox hS
 replace hS:Sat B _ _ (blk p.wb (wdC p ω) 52::blk p.tb [I64 ω.room,.slice a ω.l.length c] 127::Vec 45 10 (.slice a ω.l.length c) ω.l.length (Xv ω.l)::blk p.mb [.slice ma ω.D.length mc] 168::Xit 118 (.slice ma ω.D.length mc) (ω.D.map fun d=>U64 (d:Nat))::As):=hS
 have hlen:=hω.len
 refine .region (.allocA (cs:=[_,_,_,_,_,_,_,_,_,_]) hS X7c rfl ?_)
 clear hS; intro b6 w hS
 refine .q 1 rfl (.nil (.seq (.t 2 rfl ?_)))
 refine WL.val (.fieldAddr 0 (.of rfl) Xc2 rfl rfl Xkw rfl) rfl ?_
 refine WL.val (.ld (.of rfl) hS (k:=1) rfl Xkx rfl) rfl ?_
 refine .q 1 rfl (.call Qf17 rfl (X0 (.of rfl) (X0 (.of rfl) X4)) rfl (Xez p.tb ω.room a c ω.l (by omega) name B _ I _ ((hS.pick 3 rfl).pick 3 rfl)) ?_)
 clear hS
 rintro _ w ⟨rfl,hS⟩
 refine .q 3 rfl (.allocA (cs:=[_,_,_,_,_,_,_,_,_,_]) hS X7c rfl ?_)
 clear hS; intro b8 w hS
 refine WL.stA hS (k:=0) rfl (.of rfl) (.of rfl) rfl X17 rfl (by simp) ?_
 clear hS; intro w hS
 try simp only [Yh,Yd,Y9,Y7,Yg,Ym,Yc] at hS
 refine .q 1 rfl (.nil (.seq (.seq ?_)))
 replace hS:=(hS.pick 2 rfl).pick 2 rfl
 refine .quiet (by kernel_rfl) (by kernel_rfl) hS ?_
 refine WQ.val (fun w hS=>(by exact .fieldAddr 0 (.of rfl) X16 rfl rfl Qs3 rfl)) rfl ?_
 refine WQ.val (fun w hS=>(by exact (.ld (.of rfl) hS (k:=2) rfl Qg3 rfl))) rfl ?_
 refine .val (fun w hS=>(.move (.of rfl))) rfl (.val (fun w hS=>(.neq (.of rfl) (.of rfl))) rfl (.val (fun w hS=>(.move (.of rfl))) rfl (.gval rfl rfl rfl (fun hg1 w hS=>(.move (.of rfl))) rfl (.gval rfl rfl rfl (fun hg1 w hS=>(.nilCheck (.gd hg1 rfl))) rfl ?_))))
 refine WQ.gval rfl rfl rfl (fun hg1 w hS=>(by exact .fieldAddr 0 (.gd hg1 rfl) Xc2 rfl rfl Xkw rfl)) rfl ?_
 refine WQ.gval rfl rfl rfl (fun hg1 w hS=>(by exact (.ld (.gd hg1 rfl) hS (k:=4) rfl Xkx rfl))) rfl ?_
 refine .gval rfl rfl rfl (fun hg1 w hS=>(.move (.of rfl))) rfl (.gval rfl rfl rfl (fun hg1 w hS=>(.nilCheck (.gd hg1 rfl))) rfl ?_)
 refine WQ.gval rfl rfl rfl (fun hg1 w hS=>(by exact .fieldAddr 4 (.gd hg1 rfl) Xc2 rfl rfl Xhu rfl)) rfl ?_
 refine .gval rfl rfl rfl (fun hg1 w hS=>(.lds (vs:=(psL p.ps).map I64) (.gd hg1 rfl) hS (k:=4) rfl Xqq Xhu rfl (fun j v hj=>wd_pol hj))) rfl (.gval rfl rfl rfl (fun hg1 w hS=>(.move (.of rfl))) rfl (.gval rfl rfl rfl (fun hg1 w hS=>(.move (.of rfl))) rfl (.gval rfl rfl rfl (fun hg1 w hS=>(.nilCheck (.gd hg1 rfl))) rfl ?_)))
 refine WQ.gval rfl rfl rfl (fun hg1 w hS=>(by exact .fieldAddr 25 (.gd hg1 rfl) Xc2 rfl rfl Qs3 rfl)) rfl ?_
 refine WQ.gval rfl rfl rfl (fun hg1 w hS=>(by exact (.ld (.gd hg1 rfl) hS (k:=4) rfl Qg3 rfl))) rfl ?_
 refine .gcall rfl rfl rfl Tryz.func65 rfl (fun hg1=>(X0 (.gd hg1 rfl) (X0 (.gd hg1 rfl) (X0 (.gd hg1 rfl) (X0 (.gd hg1 rfl) X4))))) rfl (fun hg1 w hS=>Xes p.tb ω.room a c ω.l (by omega) hω.wf (psL p.ps) rfl name ω.now hω.now B _ I _ hS) (.gval rfl rfl rfl (fun hg1 w hS=>(.not (.gd hg1 rfl))) rfl (.val (fun w hS=>(.por (.of rfl) (.of rfl) (.of rfl))) rfl (.nil ?_)))
 clear hS; intro w hS
 refine WC.cond rfl (fun hb39=>?_) (fun hb39=>?_)
 ·
  refine .seq (.region (.val (.build (cs:=[_,_,_,_,_,_,_,_,_,_]) X6 X2d rfl) rfl ?_))
  refine WL.stA hS (k:=3) rfl (.of rfl) (.of rfl) rfl X17 rfl (by simp) ?_
  clear hS; intro w hS
  try simp only [Yh,Yd,Y9,Y7,Yg,Ym,Yc] at hS
  refine .q 1 rfl (.nil (.ret ?_))
  refine X18 (b:=_) (cs:=[_,_,_,_,_,_,_,_,_,_]) Tryz.results21 hS (k:=3) rfl X36 X17 rfl rfl rfl ?_
  refine ⟨_,rfl,?_,Sat.box (T:=wdT p _) (a,c,ma,mc) ?_⟩
  ·rw [X8,if_pos hb39]; rfl
  replace hS:=((hS.drop (k:=2) rfl).drop (k:=2) rfl).pick 2 rfl
  exact hS
 refine .skip (.seq (.region ?_))
 refine WL.val (.ldsW (cs:=[_,_,_,_,_,_,_,_,_,_]) (.of rfl) hS (k:=2) rfl X36 X17 rfl) rfl ?_
 refine WL.stA hS (k:=3) rfl (.of rfl) (.of rfl) rfl X17 rfl (by simp) ?_
 clear hS; intro w hS
 try simp only [Yh,Yd,Y9,Y7,Yg,Ym,Yc] at hS
 refine .q 1 rfl (.nil (.ret ?_))
 refine X18 (b:=_) (cs:=[_,_,_,_,_,_,_,_,_,_]) Tryz.results21 hS (k:=3) rfl X36 X17 rfl rfl rfl ?_
 refine ⟨_,rfl,?_,Sat.box (T:=wdT p _) (a,c,ma,mc) ?_⟩
 ·rw [X8,if_neg (by rw [hb39]; decide)]; rfl
 replace hS:=((hS.drop (k:=2) rfl).drop (k:=2) rfl).pick 2 rfl
 exact hS
theorem Xhy {r:Rec} (h:Xt r=true):r.name.length≤23∧r.parent.length≤23:=by
 unfold Xt at h
 simp only [Yo] at h
 obtain ⟨⟨_,h1⟩,h2⟩:=h
 constructor
 ·unfold isT at h1
  cases hp:Xw r.name with
  | none=>rw [hp] at h1; cases h1
  | some x=>exact (X39 (k:=x.1) (d:=x.2) hp).2.2.2.1
 ·unfold X31 at h2
  split at h2
  ·rename_i e; rw [e]; simp
  ·cases hp:Xw r.parent with
   | none=>rw [hp] at h2; cases h2
   | some x=>exact (X39 (k:=x.1) (d:=x.2) hp).2.2.2.1
theorem Xd2 {l:List Rec} (hw:Wf l) (name:List UInt8):(get l name=none∧getD l name=r0)∨(get l name=some (getD l name)∧Xt (getD l name)=true∧(getD l name).name=name):=by
 rcases Tr.get_at l name with ⟨_,h⟩ | ⟨j,r,_,h2,h3,h4⟩
 ·exact .inl ⟨h,by rw [getD,h]; rfl⟩
 ·have e:getD l name=r:=by rw [getD,h4]; rfl
  exact .inr ⟨by rw [e]; exact h4,by rw [e]; exact hw.right r (Yl h2),by rw [e]; exact h3⟩
theorem Xh3 {l:List Rec} (hw:Wf l) (name:List UInt8):(getD l name).name.length≤23∧(getD l name).parent.length≤23∧0≤(getD l name).uses∧(getD l name).uses≤255:=by
 rcases Xd2 hw name with ⟨_,e⟩ | ⟨_,h,_⟩
 ·rw [e]; decide
 ·have h1:=Xhy h
  have h2:=X5s h
  exact ⟨h1.1,h1.2,h2.2.2⟩
structure Ak where
 service:List UInt8
 cookie:List UInt8
 has:Bool
 renew:Bool
 gateway:Bool
 warn:Bool
theorem Xcg (s:List UInt8) (hs:s.length≤1000000) (p:Wp) (B w:World) (I:Im) (hI:WpOk I p) (As:List Xe) (hS:Sat B w I As) :
  Calls Tryz.prog 40 [.pointer (some p.pr),S s].toArray w (Ret fun v w'=>∃ J ra rc,Le I J∧v=.tuple #[.agg (X1u (Xc p.lo s).1 ra rc).toArray,S (Xc p.lo s).2.1,I64 (((Xc p.lo s).2.2:Nat):Int)]∧(Xc p.lo s).1.rel.length≤rc∧RS J ra 1 (Xc p.lo s).1.rel.length ((Xc p.lo s).1.rel.map S)∧Sat B w' J As):=by
 obtain ⟨a,c,E,h1,h2,h3⟩:=hI.reg
 refine (Xe2 p.pr p.lo hI.lo hI.rel s hs a c E B w I hI.known h1 h3 As hS).mono fun e w' ⟨v,he,J,u,cs,n,e2,hJ,hv,⟨ra,rc,hcs,h4,h5⟩,hf,hS⟩=>⟨v,he,J,ra,rc,hJ,?_⟩
 rw [hf]; subst hcs
 exact ⟨hv,h4,h5,hS⟩
def X3a (ω:Wd) (r:Rec):Wd:={ ω with l:=put ω.l r }
theorem Xk6 {ω:Wd} (h:X7t ω) (r:Rec):X7t (X3a ω r):=⟨by show (put ω.l r).length≤64; rw [Xa2]; exact h.len,h.wf.put,h.D,h.now,h.room⟩
theorem X7m {ps:Nat→Int} {ω:Wd} (h:X7t ω) (name:List UInt8) (kind:Int):(X8 ps ω name kind).1.name.length≤23∧(X8 ps ω name kind).1.parent.length≤23∧0≤(X8 ps ω name kind).1.uses∧(X8 ps ω name kind).1.uses≤255:=by
 unfold X8
 split
 ·decide
 ·exact Xh3 h.wf name
theorem Xlv:Bld Tryz.prog 52 [(0,1),(1,1),(2,1),(3,1),(4,21),(25,1)] [.pointer none,.pointer none,.pointer none,.pointer none,.int .i64 0,.int .i64 0,.int .i64 0,.int .i64 0,.int .i64 0,.int .i64 0,.int .i64 0,.int .i64 0,.int .i64 0,.int .i64 0,.int .i64 0,.int .i64 0,.int .i64 0,.int .i64 0,.int .i64 0,.int .i64 0,.int .i64 0,.int .i64 0,.int .i64 0,.int .i64 0,.int .i64 0,.int .i64 0]:=X26 Xc2 Tryz.zeroValue52 (fun w=>by simp [go_sem])
structure Cf where
 svs:List Sv
 us:List Us
 ps:Nat→Int
 room:Int
 base:Nat
 factor:Nat
 most:Nat
 tries:Int
def Xz (c:Cf) (a:Option Addr) (cap:Nat) (ua:Option Addr) (ucap:Nat):List Value:=.slice a c.svs.length cap::.slice ua c.us.length ucap::((psL c.ps).map I64 ++ [I64 c.room,F64 c.base,F64 c.factor,F64 c.most,I64 c.tries])
structure Cf.fits (c:Cf):Prop where
 svs:c.svs.length≤100000
 ords:∀ v∈ords c.svs,v<18446744073709551616
 sfit:∀ s∈c.svs,s.urls.length≤9223372036854775807∧s.calls.length≤9223372036854775807∧s.rel.length≤1000000
 us:c.us.length≤9223372036854775807
 ufit:∀ u∈c.us,u.fits
def X4o (c:Cf):Nat:=if (X3c c.svs).1≠0 then (X3c c.svs).1 else if (X3z c.us 0 []).1≠0 then (X3z c.us 0 []).1 else if X64 c.ps=false then 1 else 0
theorem Xem:∀ (l:List Us) (i:Nat) (acc:List Us),(X3z l i acc).1=0→∀ u∈l,X67 u=true
 | [],_,_,_,u,h=>by simp at h
 | t::l,i,acc,h,u,hu=>by
  rw [X3z] at h
  split at h
  ·cases h
  ·split at h
   ·cases h
   ·rename_i h1
    split at h
    ·cases h
    ·rcases Y1b.1 hu with e | hu
     ·subst e; simpa using h1
     ·exact Xem l (i+1) _ h u hu
theorem Xd7 {l:List Sv} {D:List Int} (hO:Srt.Ord (kx (ords l)) l.length D):∀ s∈X3o l D,s∈l:=by
 intro s hs
 unfold X3o at hs
 obtain ⟨d,hd,rfl⟩:=Y2f.1 hs
 obtain ⟨h1,h2⟩:=Srt.upto_mem.1 (hO.2.mem_iff.1 hd)
 rw [Y8,Y4 (by omega)]
 exact Y2p _
theorem Xkf {A vs C:List Value} {j:Nat} {v:Value} (h:vs[j]?=some v):(A ++ (vs ++ C))[A.length+j]?=some v:=by
 rw [Yv (by omega),Y32,Yi (Y5.1 h).1]
 exact h
def w0 (c:Cf):Wd:=⟨Xkl c.room,[],[],0⟩
theorem Xep (c:Cf):X7t (w0 c):=⟨by simp [w0],Wf.nil,fun d h=>by simp [w0] at h,by simp [w0],by unfold w0 Xkl; (try dsimp only); omega⟩
set_option maxRecDepth 20000 in
theorem X7g (c:Cf) (hc:c.fits) (a:Option Addr) (cap:Nat) (ua:Option Addr) (ucap:Nat) (B w:World) (I:Im) (hK:Known I) (hP:PreAt I) (hl:SvsAt I a c.svs) (hU:UsrsAt I ua c.us) (As:List Xe) (hS:Sat B w I As) :
  Calls Tryz.prog 41 [.agg (Xz c a cap ua ucap).toArray].toArray w (Ret fun v w'=>∃ J,Le I J∧((X4o c≠0∧v=.tuple #[.pointer none,I64 (X4o c:Nat)]∧Sat B w' J As)∨(X4o c=0∧∃ p D,Srt.Ord (kx (ords c.svs)) c.svs.length D∧p.lo=X3o c.svs D∧p.us=c.us∧p.ps=c.ps∧v=.tuple #[ptr p.wb 0,I64 0]∧WpOk J p∧Sat B w' J (wdA p (w0 c)::As)))):=by
 refine calls Tryz.func41 rfl Tryz.ntmps41 rfl (.seq (.region (.boxA (cs:=[_,_,_,_,_,_,_,_,_,_,_,_,_,_,_,_,_,_,_,_,_,_,_,_,_,_,_,_]) hS (.of rfl) rfl ?_)))
 clear hS; intro b1 w hS
 refine .q 2 rfl (.nil (.seq (.region ?_)))
 refine WL.val (.fieldAddr 0 (.of rfl) Xdl rfl rfl Qs27 rfl) rfl ?_
 refine .val (.ld (.of rfl) hS (k:=0) rfl Qg27 rfl) rfl (.call Tryz.func89 rfl (X0 (.of rfl) X4) rfl (Xq3 a cap c.svs hc.svs hc.ords hc.sfit B _ I hl _ hS) ?_)
 clear hS
 rintro v w ⟨J,hJ,hS,hor⟩
 obtain ⟨pv,e9,i9,rfl,he9,hz9⟩:∃ (pv:Value) (e9 i9:Nat),v=.tuple #[pv,I64 (e9:Nat),I64 (i9:Nat)]∧e9=(X3c c.svs).1∧(e9=0→∃ pr D,pv=.pointer (some pr)∧Srt.Ord (kx (ords c.svs)) c.svs.length D∧RegAt J pr (X3o c.svs D)):=by
  rcases hor with ⟨h1,h2⟩ | ⟨h1,pr,D,h2,h3,h4⟩
  ·exact ⟨_,_,_,h2,rfl,fun h=>absurd h h1⟩
  ·exact ⟨_,0,0,h2,h1.symm,fun _=>⟨pr,D,rfl,h3,h4⟩⟩
 refine .q 7 rfl (.nil (.seq (.seq (.q 2 rfl ?_))))
 refine WC.cond rfl (fun hb17=>?_) (fun hb17=>?_)
 ·
  refine .seq (.q 3 rfl (.ret (X2g Qr41 rfl rfl ?_)))
  have hne:(X3c c.svs).1≠0:=by rw [← he9]; simpa using hb17
  have hE:X4o c=e9:=by rw [X4o,if_pos hne,he9]
  exact ⟨_,rfl,J,hJ,.inl ⟨by rw [hE,he9]; exact hne,by rw [hE]; rfl,hS.drop (k:=0) rfl⟩⟩
 refine .skip (.seq (.region ?_))
 refine WL.val (.fieldAddr 1 (.of rfl) Xdl rfl rfl Qs28 rfl) rfl ?_
 refine .val (.ld (.of rfl) hS (k:=0) rfl Qg28 rfl) rfl (.call Tryz.func90 rfl (X0 (.of rfl) X4) rfl (Xdi ua ucap c.us hc.us hc.ufit B _ J (hU.mono hJ) _ hS) ?_)
 clear hS
 rintro v w ⟨J2,hJ2,hor2,hS⟩
 have hw0:(X3c c.svs).1=0:=by rw [← he9]; simpa using hb17
 obtain ⟨pr,D,rfl,hOrd,hreg⟩:=hz9 (by omega)
 obtain ⟨uv,f9,j9,rfl,hf9,hy9⟩:∃ (uv:Value) (f9 j9:Nat),v=.tuple #[uv,I64 (f9:Nat),I64 (j9:Nat)]∧f9=(X3z c.us 0 []).1∧(f9=0→∃ ub,uv=ptr ub 0∧TabAt J2 ub c.us):=by
  rcases hor2 with ⟨h1,ub,h2,h3⟩ | ⟨h1,h2⟩
  ·exact ⟨_,0,0,h2,h1.symm,fun _=>⟨ub,rfl,h3⟩⟩
  ·exact ⟨_,_,_,h2,rfl,fun h=>absurd h h1⟩
 refine .q 7 rfl (.nil (.seq (.seq (.q 2 rfl ?_))))
 refine WC.cond rfl (fun hb27=>?_) (fun hb27=>?_)
 ·
  refine .seq (.q 3 rfl (.ret (X2g Qr41 rfl rfl ?_)))
  have hne:(X3z c.us 0 []).1≠0:=by rw [← hf9]; simpa using hb27
  have hE:X4o c=f9:=by rw [X4o,if_neg (by rw [hw0]; decide),if_pos hne,hf9]
  exact ⟨_,rfl,J2,hJ.trans hJ2,.inl ⟨by rw [hE,hf9]; exact hne,by rw [hE]; rfl,hS.drop (k:=0) rfl⟩⟩
 refine .skip (.seq (.seq (.region ?_)))
 refine WL.val (.fieldAddr 2 (.of rfl) Xdl rfl rfl Xhu rfl) rfl ?_
 refine .val (.lds (vs:=[I64 (c.ps 0),I64 (c.ps 1),I64 (c.ps 2),I64 (c.ps 3),I64 (c.ps 4),I64 (c.ps 5),I64 (c.ps 6),I64 (c.ps 7),I64 (c.ps 8),I64 (c.ps 9),I64 (c.ps 10),I64 (c.ps 11),I64 (c.ps 12),I64 (c.ps 13),I64 (c.ps 14),I64 (c.ps 15),I64 (c.ps 16),I64 (c.ps 17),I64 (c.ps 18),I64 (c.ps 19),I64 (c.ps 20)]) (.of rfl) hS (k:=0) rfl Xqq Xhu rfl (fun j v hj=>Xkf (A:=[.slice a c.svs.length cap,.slice ua c.us.length ucap]) (C:=[I64 c.room,F64 c.base,F64 c.factor,F64 c.most,I64 c.tries]) hj)) rfl (.call Tryz.func91 rfl (X0 (.of rfl) X4) rfl (Xhd c.ps B _ J2 _ hS) ?_)
 clear hS
 rintro _ w ⟨rfl,hS⟩
 have hu0:(X3z c.us 0 []).1=0:=by rw [← hf9]; simpa using hb27
 obtain ⟨ub,rfl,hTab⟩:=hy9 (by omega)
 refine .q 1 rfl (.nil ?_)
 refine WC.cond rfl (fun hb32=>?_) (fun hb32=>?_)
 ·
  refine .seq (.q 2 rfl (.ret (X2g Qr41 rfl rfl ?_)))
  have hE:X4o c=1:=by rw [X4o,if_neg (by rw [hw0]; decide),if_neg (by rw [hu0]; decide),if_pos (by simpa using hb32)]
  exact ⟨_,rfl,J2,hJ.trans hJ2,.inl ⟨by rw [hE]; decide,by rw [hE]; rfl,hS.drop (k:=0) rfl⟩⟩
 refine .skip (.seq (.drawn (fun w=>∃ R,Sat B w J2 (blk b1 [.slice a c.svs.length cap,.slice ua c.us.length ucap,I64 (c.ps 0),I64 (c.ps 1),I64 (c.ps 2),I64 (c.ps 3),I64 (c.ps 4),I64 (c.ps 5),I64 (c.ps 6),I64 (c.ps 7),I64 (c.ps 8),I64 (c.ps 9),I64 (c.ps 10),I64 (c.ps 11),I64 (c.ps 12),I64 (c.ps 13),I64 (c.ps 14),I64 (c.ps 15),I64 (c.ps 16),I64 (c.ps 17),I64 (c.ps 18),I64 (c.ps 19),I64 (c.ps 20),I64 c.room,F64 c.base,F64 c.factor,F64 c.most,I64 c.tries] 34::R)) (fun j=>!([].contains j)) (by kernel_rfl) ?_))
 replace hS:=hS.drew; generalize w.drew=w at hS ⊢
 have hH:=(hS.pick 0 rfl)
 refine WD.tp (i:=0) rfl (by kernel_rfl) (fun w=>(.fieldAddr 23 (.of rfl) Xdl rfl rfl Qs3 rfl)) rfl ?_
 refine .tk (i:=1) rfl (by kernel_rfl) ⟨_,hH⟩ (fun w ⟨R,hS⟩=>(.ld (.of rfl) hS (k:=0) rfl Qg3 rfl)) rfl (.tp (i:=4) rfl (by kernel_rfl) (fun w=>(.move (.of rfl))) rfl (.tp (i:=5) rfl (by kernel_rfl) (fun w=>(.move (.of rfl))) rfl ?_))
 refine WD.tp (i:=6) rfl (by kernel_rfl) (fun w=>(.fieldAddr 2 (.of rfl) Xdl rfl rfl Xhu rfl)) rfl ?_
 refine .tk (i:=7) rfl (by kernel_rfl) ⟨_,hH⟩ (fun w ⟨R,hS⟩=>.lds (vs:=[I64 (c.ps 0),I64 (c.ps 1),I64 (c.ps 2),I64 (c.ps 3),I64 (c.ps 4),I64 (c.ps 5),I64 (c.ps 6),I64 (c.ps 7),I64 (c.ps 8),I64 (c.ps 9),I64 (c.ps 10),I64 (c.ps 11),I64 (c.ps 12),I64 (c.ps 13),I64 (c.ps 14),I64 (c.ps 15),I64 (c.ps 16),I64 (c.ps 17),I64 (c.ps 18),I64 (c.ps 19),I64 (c.ps 20)]) (.of rfl) hS (k:=0) rfl Xqq Xhu rfl (fun j v hj=>Xkf (A:=[.slice a c.svs.length cap,.slice ua c.us.length ucap]) (C:=[I64 c.room,F64 c.base,F64 c.factor,F64 c.most,I64 c.tries]) hj)) rfl ?_
 refine WD.branch [2] (by kernel_rfl) rfl (WO.cons rfl ?_ (WO.nil))
 refine .call Tryz.func92 rfl (X0 (.of rfl) X4) rfl (Xeg c.room B _ J2 _ hS) ?_
 clear hS
 rintro _ w ⟨tb,rfl,hS⟩
 refine .nil ?_
 clear hH
 have hH:=(hS.pick 2 rfl)
 refine And.intro (by intro _ _; exact ⟨_,hH⟩) ?_
 refine WD.branch [3] (by kernel_rfl) rfl (WO.cons rfl ?_ (WO.nil))
 refine .call Tryz.func93 rfl (X0 (.of rfl) X4) rfl (Xej B _ J2 _ hS) ?_
 clear hS
 rintro _ w ⟨mb,rfl,hS⟩
 refine .nil ?_
 clear hH
 have hH:=(hS.pick 4 rfl)
 refine And.intro (by intro _ _; exact ⟨_,hH⟩) ?_
 refine .tp (i:=8) rfl (by kernel_rfl) (fun w=>(.build (cs:=[_,_,_,_,_,_,_,_,_,_,_,_,_,_,_,_,_,_,_,_,_,_,_,_,_,_]) (X5 (.of rfl) (X5 (.of rfl) (X5 (.of rfl) (X5 (.of rfl) (X5 (.of rfl) X6))))) Xlv rfl)) rfl ?_
 refine WD.branch [9] (by kernel_rfl) rfl (WO.cons rfl ?_ (WO.nil))
 refine .boxA (cs:=[_,_,_,_,_,_,_,_,_,_,_,_,_,_,_,_,_,_,_,_,_,_,_,_,_,_]) hS (.of rfl) rfl ?_
 clear hS; intro b42 w hS
 refine .nil ?_
 clear hH
 have hH:=(hS.pick 5 rfl)
 refine And.intro (by intro _ _; exact ⟨_,hH⟩) ?_
 refine .tp (i:=10) rfl (by kernel_rfl) (fun w=>(.assign (.of rfl))) rfl (.tp (i:=11) rfl (by kernel_rfl) (fun w=>(.assign (.of rfl))) rfl (.done (by kernel_rfl) (.ret (X2g Qr41 rfl rfl ?_))))
 have hE:X4o c=0:=by rw [X4o,if_neg (by rw [hw0]; decide),if_neg (by rw [hu0]; decide),if_neg (by simpa using hb32)]
 have hp:=Xd7 hOrd
 refine ⟨_,rfl,J2,hJ.trans hJ2,.inr ⟨hE,⟨b42,tb,mb,ub,pr,X3o c.svs D,c.us,c.ps⟩,D,hOrd,rfl,rfl,rfl,rfl,⟨hreg.mono hJ2,hTab,?_,fun s hs=>(hc.sfit s (hp s hs)).2.2,hc.ufit,fun u hu=>X5t (Xem c.us 0 [] hu0 u hu),(hK.mono hJ).mono hJ2,(hP.mono hJ).mono hJ2⟩,?_⟩⟩
 ·show (X3o c.svs D).length≤100000
  rw [X3o,Yz,hOrd.len]; exact hc.svs
 ·exact Sat.box (T:=wdT ⟨b42,tb,mb,ub,pr,X3o c.svs D,c.us,c.ps⟩ (w0 c)) (none,0,none,0) ((((((hS.pick 2 rfl).pick 2 rfl).pick 4 rfl).pick 4 rfl).pick 4 rfl).drop (k:=5) rfl)
def Xx (l:List Rec) (name:List UInt8):List (List UInt8):=((path l name).filter fun r=>(r.kind:Int) == 4).map Rec.url
theorem X91 (p:Wp) (ω:Wd) (a:Option Addr) (c:Nat) (hlen:ω.l.length≤64) (hwf:Wf ω.l) (name:List UInt8) (B w:World) (I:Im) (As:List Xe) (hS:Sat B w I (blk p.wb (wdC p ω) 52::blk p.tb [I64 ω.room,.slice a ω.l.length c] 127::Vec 45 10 (.slice a ω.l.length c) ω.l.length (Xv ω.l)::As)) :
  Calls Tryz.prog 31 [ptr p.wb 0,S name].toArray w (Ret fun v w'=>∃ J ka kc,v=.slice ka (Xx ω.l name).length kc∧Le I J∧(Xx ω.l name).length≤kc∧RS J ka 1 (Xx ω.l name).length ((Xx ω.l name).map S)∧Sat B w' J (blk p.wb (wdC p ω) 52::blk p.tb [I64 ω.room,.slice a ω.l.length c] 127::Vec 45 10 (.slice a ω.l.length c) ω.l.length (Xv ω.l)::As)):=by
 refine calls Tryz.func31 rfl Tryz.ntmps31 rfl (.seq (.q 1 rfl (.seq (.q 1 rfl (.seq (.seq ?_))))))
 replace hS:=hS.vecNil 9 1
 refine .t 2 rfl ?_
 refine WL.val (.fieldAddr 0 (.of rfl) Xc2 rfl rfl Xkw rfl) rfl ?_
 refine WL.val (.ld (.of rfl) hS (k:=1) rfl Xkx rfl) rfl ?_
 refine .q 1 rfl (.call Tryz.func80 rfl (X0 (.of rfl) (X0 (.of rfl) X4)) rfl (Xfj p.tb ω.room a c ω.l (by omega) hwf name B _ I _ ((hS.pick 3 rfl).pick 3 rfl)) ?_)
 clear hS
 rintro _ w ⟨J,pa,pc,rfl,hJ,hpc,hRS,hS⟩
 have hpl:=X45 hwf name
 replace hS:=(hS.pick 3 rfl).pick 3 rfl
 try dsimp only [List.eraseIdx] at hS
 refine .run 2 rfl ⟨⟨_,X1p⟩,trivial⟩ (.nil (.block (.loop (σ:=Nat×Value) (fun ⟨i,kv⟩=>[(0,ptr p.wb 0),(5,kv),(15,.slice pa (path ω.l name).length pc),(16,I64 ((path ω.l name).length:Nat)),(17,I64 (i:Nat))]) (fun ⟨i,kv⟩ w=>i≤(path ω.l name).length∧Sat B w J (Vec 9 1 kv ((((path ω.l name).take i).filter fun r=>(r.kind:Int) == 4).map Rec.url).length (((((path ω.l name).take i).filter fun r=>(r.kind:Int) == 4).map Rec.url).map S)::blk p.wb (wdC p ω) 52::blk p.tb [I64 ω.room,.slice a ω.l.length c] 127::Vec 45 10 (.slice a ω.l.length c) ω.l.length (Xv ω.l)::As)) (fun ⟨i,kv⟩=>(path ω.l name).length - i) (0,.slice none 0 0) ⟨rfl,rfl,rfl,rfl,rfl,trivial⟩ ⟨Yq _,hS⟩ ?_)))
 rintro ⟨i,kv⟩ w ⟨hi,hS⟩
 refine .seq (.q 1 rfl (.seq ?_))
 refine WC.cond rfl (fun hb18=>?_) (fun hb18=>?_)
 ·
  have hc18:=hb18; try simp only [Y6] at hc18
  refine .skip (.seq (.block (.seq ?_)))
  obtain ⟨r,hr⟩:∃ r,(path ω.l name)[i]?=some r:=⟨_,Y4 (by omega)⟩
  obtain ⟨q,hq⟩:=X7y (Yl hr)
  have hgd:getD ω.l r.name=r:=by rw [getD,hwf.get_ hq]; rfl
  obtain ⟨pp,rfl,hA⟩:=hRS.2 (by omega)
  have hnm:((path ω.l name).map fun r=>S r.name)[i]?=some (S r.name):=by rw [Yw,hr]; rfl
  have hfl:=Y2b (fun r:Rec=>(r.kind:Int) == 4) ((path ω.l name).take i)
  rw [Ys] at hfl
  have hol:((((path ω.l name).take i).filter fun r=>(r.kind:Int) == 4).map Rec.url).length=(((path ω.l name).take i).filter fun r=>(r.kind:Int) == 4).length:=Yz _
  have hsn:((((path ω.l name).take (i+1)).filter fun r=>(r.kind:Int) == 4).map Rec.url)=((((path ω.l name).take i).filter fun r=>(r.kind:Int) == 4).map Rec.url) ++ ([r].filter fun r=>(r.kind:Int) == 4).map Rec.url:=by rw [Y15,hr,Y1s,Y38,Yx]
  refine .region ?_
  refine WL.val (.indexAddrI (.of rfl) (.of rfl) (by omega) (by omega) X1p Qs9) rfl ?_
  refine WL.val (.ld1 (.of rfl) (by have h9:=X2k hS hA hnm; simpa using h9) Qg9) rfl ?_
  refine .q 1 rfl (.nil (.seq (.t 2 rfl ?_)))
  refine WL.val (.fieldAddr 0 (.of rfl) Xc2 rfl rfl Xkw rfl) rfl ?_
  refine WL.val (.ld (.of rfl) hS (k:=1) rfl Xkx rfl) rfl ?_
  refine .q 1 rfl (.call Qf17 rfl (X0 (.of rfl) (X0 (.of rfl) X4)) rfl (Xez p.tb ω.room a c ω.l (by omega) r.name B _ J _ ((hS.pick 3 rfl).pick 3 rfl)) ?_)
  clear hS
  rintro _ w ⟨rfl,hS⟩
  try dsimp only [List.eraseIdx] at hS
  rw [hgd]
  refine .q 3 rfl (.allocA (cs:=[_,_,_,_,_,_,_,_,_,_]) hS X7c rfl ?_)
  clear hS; intro b8 w hS
  refine WL.stA hS (k:=0) rfl (.of rfl) (.of rfl) rfl X17 rfl (by simp) ?_
  clear hS; intro w hS
  try simp only [Yh,Yd,Y9,Y7,Yg,Ym,Yc] at hS
  refine .q 1 rfl (.nil (.seq (.region ?_)))
  refine WL.val (.fieldAddr 0 (.of rfl) X16 rfl rfl Qs3 rfl) rfl ?_
  refine WL.val (.ld (.of rfl) hS (k:=0) rfl Qg3 rfl) rfl ?_
  refine .q 1 rfl (.nil ?_)
  refine WC.cond rfl (fun hb32=>?_) (fun hb32=>?_)
  ·
   have hc32:=hb32; try simp only [Y6] at hc32
   refine .t 1 rfl ?_
   refine WL.val (.fieldAddr 5 (.of rfl) X16 rfl rfl Qs9 rfl) rfl ?_
   refine WL.val (.ld (.of rfl) hS (k:=0) rfl Qg9 rfl) rfl ?_
   refine .buildSlice (cs:=[_]) hS (X5 (.of rfl) X6) X1p Qs9 Qz9 rfl rfl rfl rfl ?_
   clear hS; intro b36 w hS
   refine WL.append (size:=1) (bytes:=16) hS (.of rfl) (.of rfl) (k:=3) rfl X1p X21 rfl rfl rfl rfl rfl rfl rfl ⟨by omega,by unfold maxLen; omega⟩ rfl ?_
   clear hS; intro v37 w hS
   obtain ⟨a37,c37,rfl,hcap37,_⟩:=hS.vecSlice (k:=3) (v:=v37) rfl
   refine .q 1 rfl (.nil (.region (.run 2 rfl ⟨⟨by omega,by omega⟩,trivial⟩ (.nil ?_))))
   refine ⟨(i+1,.slice a37 (((((path ω.l name).take i).filter fun r=>(r.kind:Int) == 4).map Rec.url).length+1) c37),⟨rfl,rfl,rfl,rfl,rfl,trivial⟩,⟨by (try dsimp only); omega,?_⟩,by (try dsimp only); omega⟩
   rw [hsn,Y2l,if_pos (by simpa using hb32),Y2n,Y1e,Y30,Yx,show (((((path ω.l name).take i).filter fun r=>(r.kind:Int) == 4).map Rec.url) ++ [r.url]).length=((((path ω.l name).take i).filter fun r=>(r.kind:Int) == 4).map Rec.url).length+1 from Y0]
   exact (((((hS.drop (k:=0) rfl).pick 1 rfl).pick 1 rfl).pick 3 rfl).pick 3 rfl)
  have hc32:=hb32; try simp only [Y6] at hc32
  refine .skip (.region (.run 2 rfl ⟨⟨by omega,by omega⟩,trivial⟩ (.nil ?_)))
  refine ⟨(i+1,kv),⟨rfl,rfl,rfl,rfl,rfl,trivial⟩,⟨by (try dsimp only); omega,?_⟩,by (try dsimp only); omega⟩
  rw [hsn,Y2l,if_neg (by simpa using hb32),Y2n,Y30,Y9]
  exact (((((hS.drop (k:=0) rfl).pick 1 rfl).pick 1 rfl).pick 3 rfl).pick 3 rfl)
 have hc18:=hb18; try simp only [Y6] at hc18
 refine .exit (.seq (.q 2 rfl (.ret (Xh Tryz.results31 rfl ?_))))
 have hin:i=(path ω.l name).length:=by omega
 subst hin
 rw [Y19] at hS
 obtain ⟨ka,kc,rfl,hkc,_⟩:=hS.vecSlice (k:=0) rfl
 obtain ⟨J2,hJ2,hR2,hS⟩:=hS.freezeVec (k:=0) rfl
 exact ⟨_,rfl,J2,ka,kc,rfl,hJ.trans hJ2,hkc,hR2,hS⟩
structure Qr where
 ticket:List UInt8
 service:List UInt8
 renew:Bool
 proxies:Bool
def X29 (q:Qr):List Value:=[S q.ticket,S q.service,.bool q.renew,.bool q.proxies]
def X9 (s:List UInt8):Int:=match Xw s with
 | some (k,_)=>(k:Nat)
 | none=>0
def Xf (ps:Nat→Int) (ω:Wd) (q:Qr):(Rec×Nat)×Wd :=
 if (q.ticket == [] || q.service == [])=true then ((r0,33),ω)
 else if (X9 q.ticket != 2 && X9 q.ticket != 3)=true then ((r0,30),ω)
 else if (X9 q.ticket == 3 && !q.proxies)=true then ((r0,32),ω)
 else if (!(X8 ps ω q.ticket (X9 q.ticket)).2 || decide (0<(X8 ps ω q.ticket (X9 q.ticket)).1.uses))=true then ((r0,30),ω)
 else (((X8 ps ω q.ticket (X9 q.ticket)).1,0),X3a ω (Xo (X8 ps ω q.ticket (X9 q.ticket)).1 ω.now))
theorem X76 {ps:Nat→Int} {ω:Wd} (h:X7t ω) (q:Qr):X7t (Xf ps ω q).2:=by
 unfold Xf
 repeat' split
 all_goals first | exact h | exact Xk6 h _
theorem Xa7 {ps:Nat→Int} {ω:Wd} (h:X7t ω) (q:Qr):(Xf ps ω q).1.1.service.length≤100:=by
 have key:(X8 ps ω q.ticket (X9 q.ticket)).1.service.length≤100:=by
  unfold X8
  split
  ·decide
  ·rcases Xd2 h.wf q.ticket with ⟨_,e⟩ | ⟨_,h2,_⟩
   ·rw [e]; decide
   ·unfold Xt at h2
    simp only [Yo,decide_eq_true_eq] at h2
    show (getD ω.l q.ticket).service.length≤100
    omega
 unfold Xf
 repeat' split
 all_goals first | exact key | exact Yq _
theorem Xhs (s:List UInt8):∃ (d:Nat) (b:Bool),(match Xw s with | some (k,d)=>Value.tuple #[I64 (k:Nat),U64 (d:Nat),.bool true] | none=>.tuple #[I64 0,U64 0,.bool false])=.tuple #[I64 (X9 s),U64 (d:Nat),.bool b]:=by
 unfold X9
 cases Xw s with
 | none=>exact ⟨0,false,rfl⟩
 | some x=>exact ⟨x.2,true,rfl⟩
theorem Xpt (q:Qr) (hqt:q.ticket.length≤1000000) (p:Wp) (ω:Wd) (hω:X7t ω) (B w:World) (I:Im) (hI:WpOk I p) (As:List Xe) (hS:Sat B w I (wdA p ω::As)) :
  Calls Tryz.prog 62 [ptr p.wb 0,.agg (X29 q).toArray].toArray w (Ret fun v w'=>v=.tuple #[.agg (X7 (Xf p.ps ω q).1.1).toArray,I64 ((Xf p.ps ω q).1.2:Nat)]∧Sat B w' I (wdA p (Xf p.ps ω q).2::As)):=by
 refine calls Tryz.func62 rfl Tryz.ntmps62 rfl (.seq (.region (.boxA (cs:=[_,_,_,_]) hS (.of rfl) rfl ?_)))
 clear hS; intro b3 w hS
 refine .allocA (cs:=[_,_,_,_,_,_,_,_,_,_]) hS X7c rfl ?_
 clear hS; intro b4 w hS
 refine .q 1 rfl (.nil (.seq (.seq (.region ?_))))
 refine WL.val (.fieldAddr 0 (.of rfl) Xag rfl rfl Qs9 rfl) rfl ?_
 refine WL.val (.ld (.of rfl) hS (k:=1) rfl Qg9 rfl) rfl ?_
 refine .q 2 rfl ?_
 refine WL.gval rfl rfl (fun hg1=>(by exact .fieldAddr 1 (.of rfl) Xag rfl rfl Qs9 rfl)) rfl ?_
 refine WL.gval rfl rfl (fun hg1=>(by exact (.ld (.gd hg1 rfl) hS (k:=1) rfl Qg9 rfl))) rfl ?_
 refine .gval rfl rfl (fun hg1=>(.eqs (.gd hg1 rfl) (.of rfl))) rfl (.val (.por (.of rfl) (.of rfl) (.of rfl)) rfl (.nil ?_))
 refine WC.cond rfl (fun hb18=>?_) (fun hb18=>?_)
 ·
  refine .seq (.region (.val (.build (cs:=[_,_,_,_,_,_,_,_,_,_]) X6 X2d rfl) rfl ?_))
  refine WL.stA hS (k:=0) rfl (.of rfl) (.of rfl) rfl X17 rfl (by simp) ?_
  clear hS; intro w hS
  try simp only [Yh,Yd,Y9,Y7,Yg,Ym,Yc] at hS
  refine .q 1 rfl (.nil (.ret ?_))
  refine X18 (b:=_) (cs:=[_,_,_,_,_,_,_,_,_,_]) Qr62 hS (k:=0) rfl X36 X17 rfl rfl rfl ?_
  have hE:Xf p.ps ω q=((r0,33),ω):=by rw [Xf,if_pos hb18]
  rw [hE]
  exact ⟨_,rfl,rfl,((hS.drop (k:=0) rfl).drop (k:=0) rfl)⟩
 refine .skip (.seq (.region ?_))
 refine WL.val (.fieldAddr 0 (.of rfl) Xag rfl rfl Qs9 rfl) rfl ?_
 refine WL.val (.ld (.of rfl) hS (k:=1) rfl Qg9 rfl) rfl ?_
 refine .call Xnr rfl (X0 (.of rfl) X4) rfl (X9e q.ticket hqt B _ I hI.known hI.pre _ hS) ?_
 clear hS
 rintro v w ⟨hv9,hS⟩
 obtain ⟨d9,b99,e9⟩:=Xhs q.ticket
 have hv8:=hv9.trans e9
 subst hv8
 refine .q 7 rfl (.nil (.seq (.block (.seq (.t 3 rfl (.gval rfl rfl (fun hg1=>(.move (.of rfl))) rfl (.gval rfl rfl (fun hg1=>(.neq (.gd hg1 rfl) (.of rfl))) rfl (.val (.pand (.of rfl) (.of rfl) (.of rfl)) rfl (.q 1 rfl (.nil ?_))))))))))
 refine WC.cond rfl (fun hb27=>?_) (fun hb27=>?_)
 ·
  refine .seq (.region (.val (.build (cs:=[_,_,_,_,_,_,_,_,_,_]) X6 X2d rfl) rfl ?_))
  refine WL.stA hS (k:=0) rfl (.of rfl) (.of rfl) rfl X17 rfl (by simp) ?_
  clear hS; intro w hS
  try simp only [Yh,Yd,Y9,Y7,Yg,Ym,Yc] at hS
  refine .q 1 rfl (.nil (.ret ?_))
  refine X18 (b:=_) (cs:=[_,_,_,_,_,_,_,_,_,_]) Qr62 hS (k:=0) rfl X36 X17 rfl rfl rfl ?_
  have hE:Xf p.ps ω q=((r0,30),ω):=by rw [Xf,if_neg (by rw [hb18]; decide),if_pos hb27]
  rw [hE]
  exact ⟨_,rfl,rfl,((hS.drop (k:=0) rfl).drop (k:=0) rfl)⟩
 refine .seq (.t 3 rfl ?_)
 refine WL.gval rfl rfl (fun hg1=>(by exact .fieldAddr 3 (.of rfl) Xag rfl rfl Qs4 rfl)) rfl ?_
 refine WL.gval rfl rfl (fun hg1=>(by exact (.ld (.gd hg1 rfl) hS (k:=1) rfl Qg4 rfl))) rfl ?_
 refine .gval rfl rfl (fun hg1=>(.not (.gd hg1 rfl))) rfl (.val (.pand (.of rfl) (.of rfl) (.of rfl)) rfl (.q 1 rfl (.nil ?_)))
 refine WC.cond rfl (fun hb35=>?_) (fun hb35=>?_)
 ·
  refine .seq (.region (.val (.build (cs:=[_,_,_,_,_,_,_,_,_,_]) X6 X2d rfl) rfl ?_))
  refine WL.stA hS (k:=0) rfl (.of rfl) (.of rfl) rfl X17 rfl (by simp) ?_
  clear hS; intro w hS
  try simp only [Yh,Yd,Y9,Y7,Yg,Ym,Yc] at hS
  refine .q 1 rfl (.nil (.ret ?_))
  refine X18 (b:=_) (cs:=[_,_,_,_,_,_,_,_,_,_]) Qr62 hS (k:=0) rfl X36 X17 rfl rfl rfl ?_
  have hE:Xf p.ps ω q=((r0,32),ω):=by rw [Xf,if_neg (by rw [hb18]; decide),if_neg (by rw [hb27]; decide),if_pos hb35]
  rw [hE]
  exact ⟨_,rfl,rfl,((hS.drop (k:=0) rfl).drop (k:=0) rfl)⟩
 refine .skip (.seq (.t 1 rfl ?_))
 refine WL.val (.fieldAddr 0 (.of rfl) Xag rfl rfl Qs9 rfl) rfl ?_
 refine WL.val (.ld (.of rfl) hS (k:=1) rfl Qg9 rfl) rfl ?_
 refine .q 1 rfl (.call Tryz.func21 rfl (X0 (.of rfl) (X0 (.of rfl) (X0 (.of rfl) X4))) rfl (Xj2 q.ticket (X9 q.ticket) p ω hω B _ I _ (hS.pick 2 rfl)) ?_)
 clear hS
 rintro _ w ⟨rfl,hS⟩
 refine .q 3 rfl (.allocA (cs:=[_,_,_,_,_,_,_,_,_,_]) hS X7c rfl ?_)
 clear hS; intro b9 w hS
 refine WL.stA hS (k:=0) rfl (.of rfl) (.of rfl) rfl X17 rfl (by simp) ?_
 clear hS; intro w hS
 try simp only [Yh,Yd,Y9,Y7,Yg,Ym,Yc] at hS
 refine .q 1 rfl (.nil (.seq (.seq (.t 3 rfl ?_))))
 refine WL.gval rfl rfl (fun hg1=>(by exact .fieldAddr 8 (.of rfl) X16 rfl rfl Qs3 rfl)) rfl ?_
 refine WL.gval rfl rfl (fun hg1=>(by exact (.ld (.gd hg1 rfl) hS (k:=0) rfl Qg3 rfl))) rfl ?_
 refine .gval rfl rfl (fun hg1=>(.gtr (.gd hg1 rfl) (.of rfl))) rfl (.val (.por (.of rfl) (.of rfl) (.of rfl)) rfl (.nil ?_))
 refine WC.cond rfl (fun hb58=>?_) (fun hb58=>?_)
 ·
  refine .seq (.region (.val (.build (cs:=[_,_,_,_,_,_,_,_,_,_]) X6 X2d rfl) rfl ?_))
  refine WL.stA hS (k:=2) rfl (.of rfl) (.of rfl) rfl X17 rfl (by simp) ?_
  clear hS; intro w hS
  try simp only [Yh,Yd,Y9,Y7,Yg,Ym,Yc] at hS
  refine .q 1 rfl (.nil (.ret ?_))
  refine X18 (b:=_) (cs:=[_,_,_,_,_,_,_,_,_,_]) Qr62 hS (k:=2) rfl X36 X17 rfl rfl rfl ?_
  have hE:Xf p.ps ω q=((r0,30),ω):=by rw [Xf,if_neg (by rw [hb18]; decide),if_neg (by rw [hb27]; decide),if_neg (by rw [hb35]; decide),if_pos hb58]
  rw [hE]
  exact ⟨_,rfl,rfl,(((hS.drop (k:=0) rfl).drop (k:=1) rfl).drop (k:=1) rfl)⟩
 refine .skip (.seq ?_)
 replace hS:=(hS.pick 1 rfl)
 obtain ⟨⟨a,c,ma,mc⟩,hS⟩:=Sat.unbox hS
 replace hS:Sat B _ _ (blk p.wb (wdC p ω) 52::blk p.tb [I64 ω.room,.slice a ω.l.length c] 127::Vec 45 10 (.slice a ω.l.length c) ω.l.length (Xv ω.l)::blk p.mb [.slice ma ω.D.length mc] 168::Xit 118 (.slice ma ω.D.length mc) (ω.D.map fun d=>U64 (d:Nat))::_):=hS
 have hlen:=hω.len
 have hsh:=X7m (ps:=p.ps) hω q.ticket (X9 q.ticket)
 refine .drawn (fun w=>∃ R,Sat B w I (blk b9 (X7 (X8 p.ps ω q.ticket (X9 q.ticket)).1) 45::blk p.wb (wdC p ω) 52::R)) (fun j=>!([].contains j)) (by kernel_rfl) ?_
 replace hS:=hS.drew; generalize w.drew=w at hS ⊢
 have hH:=((hS.pick 0 rfl).pick 5 rfl)
 refine .tp (i:=0) rfl (by kernel_rfl) (fun w=>(.move (.of rfl))) rfl (.tp (i:=1) rfl (by kernel_rfl) (fun w=>(.nilCheck (.of rfl))) rfl ?_)
 refine WD.tp (i:=2) rfl (by kernel_rfl) (fun w=>(.fieldAddr 0 (.of rfl) Xc2 rfl rfl Xkw rfl)) rfl ?_
 refine WD.tk (i:=3) rfl (by kernel_rfl) ⟨_,hH⟩ (fun w ⟨R,hS⟩=>((.ld (.of rfl) hS (k:=1) rfl Xkx rfl))) rfl ?_
 refine WD.tk (i:=4) rfl (by kernel_rfl) ⟨_,hH⟩ (fun w ⟨R,hS⟩=>((.ldsW (cs:=[_,_,_,_,_,_,_,_,_,_]) (.of rfl) hS (k:=0) rfl X36 X17 rfl))) rfl ?_
 refine .tp (i:=5) rfl (by kernel_rfl) (fun w=>(.move (.of rfl))) rfl (.tp (i:=6) rfl (by kernel_rfl) (fun w=>(.nilCheck (.of rfl))) rfl ?_)
 refine WD.tp (i:=7) rfl (by kernel_rfl) (fun w=>(.fieldAddr 25 (.of rfl) Xc2 rfl rfl Qs3 rfl)) rfl ?_
 refine WD.tk (i:=8) rfl (by kernel_rfl) ⟨_,hH⟩ (fun w ⟨R,hS⟩=>((.ld (.of rfl) hS (k:=1) rfl Qg3 rfl))) rfl ?_
 refine WD.branch [9] (by kernel_rfl) rfl (WO.cons rfl ?_ (WO.nil))
 refine .call Tryz.func96 rfl (X0 (.of rfl) (X0 (.of rfl) X4)) rfl (Xk5 (X8 p.ps ω q.ticket (X9 q.ticket)).1 ω.now hsh.2.2.1 hsh.2.2.2 B _ I _ hS) ?_
 clear hS
 rintro _ w ⟨rfl,hS⟩
 refine .nil ?_
 clear hH
 have hH:=((hS.pick 0 rfl).pick 5 rfl)
 refine And.intro (by intro _ _; exact ⟨_,hH⟩) ?_
 refine WD.branch [10] (by kernel_rfl) rfl (WO.cons rfl ?_ (WO.nil))
 refine .call Tryz.func95 rfl (X0 (.of rfl) (X0 (.of rfl) X4)) rfl (Xq5 p.tb ω.room a c ω.l (by omega) (Xo (X8 p.ps ω q.ticket (X9 q.ticket)).1 ω.now) (Y3b hsh.1 (by decide)) (Y3b hsh.2.1 (by decide)) B _ I hI.known hI.pre _ ((hS.pick 2 rfl).pick 2 rfl)) ?_
 clear hS
 rintro _ w ⟨rfl,hS⟩
 refine .nil ?_
 clear hH
 have hH:=((hS.pick 2 rfl).pick 5 rfl)
 refine And.intro (by intro _ _; exact ⟨_,hH⟩) ?_
 refine .done (by kernel_rfl) (.seq (.region ?_))
 refine WL.val (.ldsW (cs:=[_,_,_,_,_,_,_,_,_,_]) (.of rfl) hS (k:=5) rfl X36 X17 rfl) rfl ?_
 refine WL.stA hS (k:=6) rfl (.of rfl) (.of rfl) rfl X17 rfl (by simp) ?_
 clear hS; intro w hS
 try simp only [Yh,Yd,Y9,Y7,Yg,Ym,Yc] at hS
 refine .q 1 rfl (.nil (.ret ?_))
 refine X18 (b:=_) (cs:=[_,_,_,_,_,_,_,_,_,_]) Qr62 hS (k:=6) rfl X36 X17 rfl rfl rfl ?_
 replace hS:=Sat.box (T:=wdT p (X3a ω (Xo (X8 p.ps ω q.ticket (X9 q.ticket)).1 ω.now))) (a,c,ma,mc) (((((hS.pick 4 rfl).pick 4 rfl).pick 3 rfl).pick 3 rfl).pick 4 rfl)
 have hE:Xf p.ps ω q=(((X8 p.ps ω q.ticket (X9 q.ticket)).1,0),X3a ω (Xo (X8 p.ps ω q.ticket (X9 q.ticket)).1 ω.now)):=by rw [Xf,if_neg (by rw [hb18]; decide),if_neg (by rw [hb27]; decide),if_neg (by rw [hb35]; decide),if_neg (by rw [hb58]; decide)]
 rw [hE]
 exact ⟨_,rfl,rfl,(((hS.drop (k:=1) rfl).drop (k:=1) rfl).drop (k:=1) rfl)⟩
theorem X4p:Bld Tryz.prog 56 [(0,1),(1,1),(2,1),(3,1)] [S [],.slice none 0 0,.slice none 0 0,S []]:=X26 Xkv Xod (fun w=>by simp [go_sem])
def CODES:List (Int×List UInt8):=[(33,[73,78,86,65,76,73,68,95,82,69,81,85,69,83,84]),(30,[73,78,86,65,76,73,68,95,84,73,67,75,69,84]),(32,[73,78,86,65,76,73,68,95,84,73,67,75,69,84,95,83,80,69,67]),(31,[73,78,86,65,76,73,68,95,83,69,82,86,73,67,69]),(36,[85,78,65,85,84,72,79,82,73,90,69,68,95,83,69,82,86,73,67,69]),(34,[73,78,86,65,76,73,68,95,80,82,79,88,89,95,67,65,76,76,66,65,67,75]),(0,[])]
def Xmy:List UInt8:=[73,78,84,69,82,78,65,76,95,69,82,82,79,82]
def X7s (e:Int):List UInt8:=(CODES.lookup e).getD Xmy
theorem Xah {α β γ:Type} [BEq α] (f:β→γ) (k:α):∀ l:List (α×β),(l.map fun p=>(p.1,f p.2)).lookup k=(l.lookup k).map f
 | []=>rfl
 | (a,b)::l=>by
  rw [Y1e,List.lookup,List.lookup]
  cases k == a with
  | true=>rfl
  | false=>exact Xah f k l
theorem Xja (B w:World) (I:Im) (As:List Xe) (hS:Sat B w I As) :
  Calls Tryz.prog 58 [].toArray w (Ret fun v w'=>∃ mb,v=.map (some mb)∧Sat B w' I (X9i I64 mb (CODES.map fun p=>(p.1,S p.2))::As)):=by
 refine calls Tryz.func58 rfl Tryz.ntmps58 rfl (.seq (.q 1 rfl (.seq (.region (.mkMap I64 hS rfl ?_)))))
 clear hS; intro b1 w hS
 refine .mins (kv:=[]) (key:=33) (val:=S [73,78,86,65,76,73,68,95,82,69,81,85,69,83,84]) Xoa hS (k:=0) rfl (.of rfl) (.of rfl) (.of rfl) rfl Xcy Xom ?_
 clear hS; intro w hS
 replace hS:Sat B w I (X9i I64 b1 [(33,S [73,78,86,65,76,73,68,95,82,69,81,85,69,83,84])]::As):=hS
 refine .mins (kv:=[(33,S [73,78,86,65,76,73,68,95,82,69,81,85,69,83,84])]) (key:=30) (val:=S [73,78,86,65,76,73,68,95,84,73,67,75,69,84]) Xoa hS (k:=0) rfl (.of rfl) (.of rfl) (.of rfl) rfl Xcy Xom ?_
 clear hS; intro w hS
 replace hS:Sat B w I (X9i I64 b1 [(33,S [73,78,86,65,76,73,68,95,82,69,81,85,69,83,84]),(30,S [73,78,86,65,76,73,68,95,84,73,67,75,69,84])]::As):=hS
 refine .mins (kv:=[(33,S [73,78,86,65,76,73,68,95,82,69,81,85,69,83,84]),(30,S [73,78,86,65,76,73,68,95,84,73,67,75,69,84])]) (key:=32) (val:=S [73,78,86,65,76,73,68,95,84,73,67,75,69,84,95,83,80,69,67]) Xoa hS (k:=0) rfl (.of rfl) (.of rfl) (.of rfl) rfl Xcy Xom ?_
 clear hS; intro w hS
 replace hS:Sat B w I (X9i I64 b1 [(33,S [73,78,86,65,76,73,68,95,82,69,81,85,69,83,84]),(30,S [73,78,86,65,76,73,68,95,84,73,67,75,69,84]),(32,S [73,78,86,65,76,73,68,95,84,73,67,75,69,84,95,83,80,69,67])]::As):=hS
 refine .mins (kv:=[(33,S [73,78,86,65,76,73,68,95,82,69,81,85,69,83,84]),(30,S [73,78,86,65,76,73,68,95,84,73,67,75,69,84]),(32,S [73,78,86,65,76,73,68,95,84,73,67,75,69,84,95,83,80,69,67])]) (key:=31) (val:=S [73,78,86,65,76,73,68,95,83,69,82,86,73,67,69]) Xoa hS (k:=0) rfl (.of rfl) (.of rfl) (.of rfl) rfl Xcy Xom ?_
 clear hS; intro w hS
 replace hS:Sat B w I (X9i I64 b1 [(33,S [73,78,86,65,76,73,68,95,82,69,81,85,69,83,84]),(30,S [73,78,86,65,76,73,68,95,84,73,67,75,69,84]),(32,S [73,78,86,65,76,73,68,95,84,73,67,75,69,84,95,83,80,69,67]),(31,S [73,78,86,65,76,73,68,95,83,69,82,86,73,67,69])]::As):=hS
 refine .mins (kv:=[(33,S [73,78,86,65,76,73,68,95,82,69,81,85,69,83,84]),(30,S [73,78,86,65,76,73,68,95,84,73,67,75,69,84]),(32,S [73,78,86,65,76,73,68,95,84,73,67,75,69,84,95,83,80,69,67]),(31,S [73,78,86,65,76,73,68,95,83,69,82,86,73,67,69])]) (key:=36) (val:=S [85,78,65,85,84,72,79,82,73,90,69,68,95,83,69,82,86,73,67,69]) Xoa hS (k:=0) rfl (.of rfl) (.of rfl) (.of rfl) rfl Xcy Xom ?_
 clear hS; intro w hS
 replace hS:Sat B w I (X9i I64 b1 [(33,S [73,78,86,65,76,73,68,95,82,69,81,85,69,83,84]),(30,S [73,78,86,65,76,73,68,95,84,73,67,75,69,84]),(32,S [73,78,86,65,76,73,68,95,84,73,67,75,69,84,95,83,80,69,67]),(31,S [73,78,86,65,76,73,68,95,83,69,82,86,73,67,69]),(36,S [85,78,65,85,84,72,79,82,73,90,69,68,95,83,69,82,86,73,67,69])]::As):=hS
 refine .mins (kv:=[(33,S [73,78,86,65,76,73,68,95,82,69,81,85,69,83,84]),(30,S [73,78,86,65,76,73,68,95,84,73,67,75,69,84]),(32,S [73,78,86,65,76,73,68,95,84,73,67,75,69,84,95,83,80,69,67]),(31,S [73,78,86,65,76,73,68,95,83,69,82,86,73,67,69]),(36,S [85,78,65,85,84,72,79,82,73,90,69,68,95,83,69,82,86,73,67,69])]) (key:=34) (val:=S [73,78,86,65,76,73,68,95,80,82,79,88,89,95,67,65,76,76,66,65,67,75]) Xoa hS (k:=0) rfl (.of rfl) (.of rfl) (.of rfl) rfl Xcy Xom ?_
 clear hS; intro w hS
 replace hS:Sat B w I (X9i I64 b1 [(33,S [73,78,86,65,76,73,68,95,82,69,81,85,69,83,84]),(30,S [73,78,86,65,76,73,68,95,84,73,67,75,69,84]),(32,S [73,78,86,65,76,73,68,95,84,73,67,75,69,84,95,83,80,69,67]),(31,S [73,78,86,65,76,73,68,95,83,69,82,86,73,67,69]),(36,S [85,78,65,85,84,72,79,82,73,90,69,68,95,83,69,82,86,73,67,69]),(34,S [73,78,86,65,76,73,68,95,80,82,79,88,89,95,67,65,76,76,66,65,67,75])]::As):=hS
 refine .mins (kv:=[(33,S [73,78,86,65,76,73,68,95,82,69,81,85,69,83,84]),(30,S [73,78,86,65,76,73,68,95,84,73,67,75,69,84]),(32,S [73,78,86,65,76,73,68,95,84,73,67,75,69,84,95,83,80,69,67]),(31,S [73,78,86,65,76,73,68,95,83,69,82,86,73,67,69]),(36,S [85,78,65,85,84,72,79,82,73,90,69,68,95,83,69,82,86,73,67,69]),(34,S [73,78,86,65,76,73,68,95,80,82,79,88,89,95,67,65,76,76,66,65,67,75])]) (key:=0) (val:=S []) Xoa hS (k:=0) rfl (.of rfl) (.of rfl) (.of rfl) rfl Xcy Xom ?_
 clear hS; intro w hS
 replace hS:Sat B w I (X9i I64 b1 [(33,S [73,78,86,65,76,73,68,95,82,69,81,85,69,83,84]),(30,S [73,78,86,65,76,73,68,95,84,73,67,75,69,84]),(32,S [73,78,86,65,76,73,68,95,84,73,67,75,69,84,95,83,80,69,67]),(31,S [73,78,86,65,76,73,68,95,83,69,82,86,73,67,69]),(36,S [85,78,65,85,84,72,79,82,73,90,69,68,95,83,69,82,86,73,67,69]),(34,S [73,78,86,65,76,73,68,95,80,82,79,88,89,95,67,65,76,76,66,65,67,75]),(0,S [])]::As):=hS
 refine .q 2 rfl (.nil (.ret (Xh Tryz.results58 rfl ?_)))
 exact ⟨_,rfl,b1,rfl,hS⟩
theorem Xfu (e:Int) (B w:World) (I:Im) (As:List Xe) (hS:Sat B w I As) :
  Calls Tryz.prog 14 [I64 e].toArray w (Ret fun v w'=>v=S (X7s e)∧Sat B w' I As):=by
 refine calls Tryz.func14 rfl Tryz.ntmps14 rfl (.seq (.q 1 rfl (.seq (.seq (.region (.call Tryz.func58 rfl X4 rfl (Xja B _ I _ hS) ?_))))))
 clear hS
 rintro _ w ⟨mb,rfl,hS⟩
 refine .q 1 rfl ?_
 refine WL.val (v:=.tuple #[S ((CODES.lookup e).getD []),.bool (CODES.lookup e).isSome]) (by have h9:=Xah S e CODES; have e9:((CODES.map fun p=>(p.1,S p.2)).lookup e).getD (S [])=S ((CODES.lookup e).getD []):=by { rw [h9]; cases CODES.lookup e <;> rfl }; have e8:((CODES.map fun p=>(p.1,S p.2)).lookup e).isSome=(CODES.lookup e).isSome:=by { rw [h9]; cases CODES.lookup e <;> rfl }; rw [← e9,← e8]; exact .look2 (key:=e) Xoa (hS.mapNow (k:=0) rfl) (.of rfl) (.of rfl) Xcy Xom Qz9) rfl ?_
 refine .q 5 rfl (.nil (.seq (.q 1 rfl ?_)))
 refine WC.cond rfl (fun hb11=>?_) (fun hb11=>?_)
 ·
  refine .seq (.q 2 rfl (.ret (Xh Tryz.results14 rfl ?_)))
  refine ⟨_,rfl,?_,hS.drop (k:=0) rfl⟩
  rw [X7s]
  cases h:CODES.lookup e with
  | none=>rw [h] at hb11; cases hb11
  | some s=>rfl
 refine .skip (.seq (.q 1 rfl (.ret (Xh Tryz.results14 rfl ?_))))
 refine ⟨_,rfl,?_,hS.drop (k:=0) rfl⟩
 rw [X7s]
 cases h:CODES.lookup e with
 | none=>rfl
 | some s=>rw [h] at hb11; cases hb11
structure Sx where
 user:List UInt8
 attrs:List Pr
 proxies:List (List UInt8)
 iou:List UInt8
def sx0:Sx:=⟨[],[],[],[]⟩
def SxAt (J:Im) (x:Sx) (cs:List Value):Prop:=∃ ka kc pa pc,cs=[S x.user,.slice ka x.attrs.length kc,.slice pa x.proxies.length pc,S x.iou]∧x.attrs.length≤kc∧RS J ka 2 x.attrs.length (Xy Xk x.attrs)∧x.proxies.length≤pc∧RS J pa 1 x.proxies.length (x.proxies.map S)
theorem X6d (J:Im):SxAt J sx0 [S [],.slice none 0 0,.slice none 0 0,S []]:=⟨none,0,none,0,rfl,Yu _,⟨rfl,fun h=>absurd h (by simp [sx0])⟩,Yu _,rfl,fun h=>absurd h (by simp [sx0])⟩
theorem SxAt.mono {I J:Im} {x:Sx} {cs:List Value} (h:SxAt I x cs) (hl:Le I J):SxAt J x cs:=by
 obtain ⟨ka,kc,pa,pc,e,h1,h2,h3,h4⟩:=h
 exact ⟨ka,kc,pa,pc,e,h1,h2.mono hl,h3,h4.mono hl⟩
def X1h (ps:Nat→Int) (ω:Wd) (q:Qr):Nat :=
 if (Xf ps ω q).1.2≠0 then (Xf ps ω q).1.2
 else if ((((Ul.nU q.service).2:Nat):Int) != 0 || !((Ul.nU q.service).1 == (Xf ps ω q).1.1.service))=true then 31
 else if (q.renew && !(Xf ps ω q).1.1.fresh)=true then 30 else 0
def Xd (lo:List Sv) (us:List Us) (ps:Nat→Int) (ω:Wd) (q:Qr):Sx :=
 if X1h ps ω q≠0 then sx0
 else ⟨(Xf ps ω q).1.1.user,X1n us (Xf ps ω q).1.1.user (Xc lo (Xf ps ω q).1.1.service).1.rel,Xx (Xf ps ω q).2.l (Xf ps ω q).1.1.name,[]⟩
theorem X9d (lo:List Sv) (s:List UInt8):(Xc lo s).1=z0∨(Xc lo s).1∈lo:=by
 unfold Xc
 split
 ·exact .inl rfl
 ·split
  ·exact .inl rfl
  ·split
   ·exact .inl rfl
   ·rename_i h; exact .inr (Y2u h)
theorem Xoq {us:List Us} (h:∀ u∈us,u.attrs.length≤8) (name:List UInt8):(atU us name).length≤8:=by
 unfold atU
 split
 ·rename_i e; exact h _ (Y2u e)
 ·simp
theorem X6x (q:Qr) (hqt:q.ticket.length≤1000000) (hqs:q.service.length≤1000000) (p:Wp) (ω:Wd) (hω:X7t ω) (B w:World) (I:Im) (hI:WpOk I p) (As:List Xe) (hS:Sat B w I (wdA p ω::As)) :
  Calls Tryz.prog 18 [ptr p.wb 0,.agg (X29 q).toArray].toArray w (Ret fun v w'=>∃ J cs,Le I J∧v=.tuple #[.agg (List.toArray cs),I64 (X1h p.ps ω q:Nat)]∧SxAt J (Xd p.lo p.us p.ps ω q) cs∧Sat B w' J (wdA p (Xf p.ps ω q).2::As)):=by
 refine calls Qf18 rfl Tryz.ntmps18 rfl (.seq (.region (.boxA (cs:=[_,_,_,_]) hS (.of rfl) rfl ?_)))
 clear hS; intro b3 w hS
 refine .allocA (cs:=[_,_,_,_]) hS Xod rfl ?_
 clear hS; intro b4 w hS
 refine .q 1 rfl (.nil (.seq (.t 1 rfl ?_)))
 refine WL.val (.ldsW (cs:=[_,_,_,_]) (.of rfl) hS (k:=1) rfl Tryz.isAgg43 Xmk rfl) rfl ?_
 refine .call Tryz.func62 rfl (X0 (.of rfl) (X0 (.of rfl) X4)) rfl (Xpt q hqt p ω hω B _ I hI _ (hS.pick 2 rfl)) ?_
 clear hS
 rintro _ w ⟨rfl,hS⟩
 try dsimp only [List.eraseIdx] at hS
 refine .q 3 rfl (.allocA (cs:=[_,_,_,_,_,_,_,_,_,_]) hS X7c rfl ?_)
 clear hS; intro b6 w hS
 refine WL.stA hS (k:=0) rfl (.of rfl) (.of rfl) rfl X17 rfl (by simp) ?_
 clear hS; intro w hS
 try simp only [Yh,Yd,Y9,Y7,Yg,Ym,Yc] at hS
 refine .q 1 rfl (.nil (.seq (.seq (.q 2 rfl ?_))))
 refine WC.cond rfl (fun hb19=>?_) (fun hb19=>?_)
 ·
  have hc19:=hb19; try simp only [Y6] at hc19
  refine .seq (.region (.val (.build (cs:=[_,_,_,_]) X6 X4p rfl) rfl (.q 1 rfl ?_)))
  refine WL.stA hS (k:=2) rfl (.of rfl) (.of rfl) rfl X4i rfl (by simp) ?_
  clear hS; intro w hS
  try simp only [Yh,Yd,Y9,Y7,Yg,Ym,Yc] at hS
  refine .q 1 rfl (.nil (.ret ?_))
  refine X18 (b:=_) (cs:=[_,_,_,_]) Qr18 hS (k:=2) rfl Xbq X4i rfl rfl rfl ?_
  have hne:(Xf p.ps ω q).1.2≠0:=by simpa using hb19
  have hE:X1h p.ps ω q=(Xf p.ps ω q).1.2:=by rw [X1h,if_pos hne]
  have hX:Xd p.lo p.us p.ps ω q=sx0:=if_pos (by rw [hE]; exact hne)
  rw [hE,hX]
  exact ⟨_,rfl,I,_,Le.refl _,rfl,X6d I,(((hS.drop (k:=0) rfl).drop (k:=1) rfl).drop (k:=1) rfl)⟩
 have hc19:=hb19; try simp only [Y6] at hc19
 refine .skip (.seq (.region ?_))
 refine WL.val (.fieldAddr 1 (.of rfl) Xag rfl rfl Qs9 rfl) rfl ?_
 refine WL.val (.ld (.of rfl) hS (k:=3) rfl Qg9 rfl) rfl ?_
 refine .call Tryz.func63 rfl (X0 (.of rfl) X4) rfl (X8t q.service hqs B _ I hI.known _ hS) ?_
 clear hS
 rintro _ w ⟨rfl,hS⟩
 refine .q 5 rfl (.nil (.seq (.block (.seq (.t 3 rfl (.gval rfl rfl (fun hg1=>(.move (.of rfl))) rfl ?_))))))
 refine WL.gval rfl rfl (fun hg1=>(by exact .fieldAddr 4 (.of rfl) X16 rfl rfl Qs9 rfl)) rfl ?_
 refine WL.gval rfl rfl (fun hg1=>(by exact (.ld (.gd hg1 rfl) hS (k:=0) rfl Qg9 rfl))) rfl ?_
 refine .gval rfl rfl (fun hg1=>(.nes (.gd hg1 rfl) (.gd hg1 rfl))) rfl (.val (.por (.of rfl) (.of rfl) (.of rfl)) rfl (.q 1 rfl (.nil ?_)))
 refine WC.cond rfl (fun hb28=>?_) (fun hb28=>?_)
 ·
  have hc28:=hb28; try simp only [Y6] at hc28
  refine .seq (.region (.val (.build (cs:=[_,_,_,_]) X6 X4p rfl) rfl ?_))
  refine WL.stA hS (k:=2) rfl (.of rfl) (.of rfl) rfl X4i rfl (by simp) ?_
  clear hS; intro w hS
  try simp only [Yh,Yd,Y9,Y7,Yg,Ym,Yc] at hS
  refine .q 1 rfl (.nil (.ret ?_))
  refine X18 (b:=_) (cs:=[_,_,_,_]) Qr18 hS (k:=2) rfl Xbq X4i rfl rfl rfl ?_
  have hE:X1h p.ps ω q=31:=by rw [X1h,if_neg (show ¬ (Xf p.ps ω q).1.2≠0 from by simpa using hb19),if_pos hb28]
  have hX:Xd p.lo p.us p.ps ω q=sx0:=if_pos (by rw [hE]; decide)
  rw [hE,hX]
  exact ⟨_,rfl,I,_,Le.refl _,rfl,X6d I,(((hS.drop (k:=0) rfl).drop (k:=1) rfl).drop (k:=1) rfl)⟩
 have hc28:=hb28; try simp only [Y6] at hc28
 refine .seq (.region ?_)
 refine WL.val (.fieldAddr 2 (.of rfl) Xag rfl rfl Qs4 rfl) rfl ?_
 refine WL.val (.ld (.of rfl) hS (k:=3) rfl Qg4 rfl) rfl ?_
 refine .q 1 rfl ?_
 refine WL.gval rfl rfl (fun hg1=>(by exact .fieldAddr 9 (.of rfl) X16 rfl rfl Qs4 rfl)) rfl ?_
 refine WL.gval rfl rfl (fun hg1=>(by exact (.ld (.gd hg1 rfl) hS (k:=0) rfl Qg4 rfl))) rfl ?_
 refine .gval rfl rfl (fun hg1=>(.not (.gd hg1 rfl))) rfl (.val (.pand (.of rfl) (.of rfl) (.of rfl)) rfl (.q 1 rfl (.nil ?_)))
 refine WC.cond rfl (fun hb38=>?_) (fun hb38=>?_)
 ·
  have hc38:=hb38; try simp only [Y6] at hc38
  refine .seq (.region (.val (.build (cs:=[_,_,_,_]) X6 X4p rfl) rfl ?_))
  refine WL.stA hS (k:=2) rfl (.of rfl) (.of rfl) rfl X4i rfl (by simp) ?_
  clear hS; intro w hS
  try simp only [Yh,Yd,Y9,Y7,Yg,Ym,Yc] at hS
  refine .q 1 rfl (.nil (.ret ?_))
  refine X18 (b:=_) (cs:=[_,_,_,_]) Qr18 hS (k:=2) rfl Xbq X4i rfl rfl rfl ?_
  have hE:X1h p.ps ω q=30:=by rw [X1h,if_neg (show ¬ (Xf p.ps ω q).1.2≠0 from by simpa using hb19),if_neg (by rw [hb28]; decide),if_pos hb38]
  have hX:Xd p.lo p.us p.ps ω q=sx0:=if_pos (by rw [hE]; decide)
  rw [hE,hX]
  exact ⟨_,rfl,I,_,Le.refl _,rfl,X6d I,(((hS.drop (k:=0) rfl).drop (k:=1) rfl).drop (k:=1) rfl)⟩
 have hc38:=hb38; try simp only [Y6] at hc38
 refine .skip ?_
 refine WC.cutS (σ:=Im×Nat×Option Addr×Nat) (fun ⟨J,b9,ra,rc⟩=>[(0,ptr p.wb 0),(4,ptr b4 0),(6,ptr b6 0),(9,ptr b9 0)]) (fun ⟨J,b9,ra,rc⟩ w=>Le I J∧(Xc p.lo (Xf p.ps ω q).1.1.service).1.rel.length≤rc∧RS J ra 1 (Xc p.lo (Xf p.ps ω q).1.1.service).1.rel.length ((Xc p.lo (Xf p.ps ω q).1.1.service).1.rel.map S)∧Sat B w J (blk b9 [I64 (Xc p.lo (Xf p.ps ω q).1.1.service).1.id,F64 (Xc p.lo (Xf p.ps ω q).1.1.service).1.ord,S (Xc p.lo (Xf p.ps ω q).1.1.service).1.urls,.bool (Xc p.lo (Xf p.ps ω q).1.1.service).1.login,.bool (Xc p.lo (Xf p.ps ω q).1.1.service).1.proxy,.bool (Xc p.lo (Xf p.ps ω q).1.1.service).1.back,S (Xc p.lo (Xf p.ps ω q).1.1.service).1.calls,.slice ra (Xc p.lo (Xf p.ps ω q).1.1.service).1.rel.length rc] 101::wdA p (Xf p.ps ω q).2::blk b6 (X7 (Xf p.ps ω q).1.1) 45::blk b4 [S [],.slice none 0 0,.slice none 0 0,S []] 56::As)) ?_ ?_
 ·
  replace hS:=(hS.pick 1 rfl)
  try dsimp only [List.eraseIdx] at hS
  obtain ⟨⟨a2,c2,ma2,mc2⟩,hS⟩:=Sat.unbox hS
  replace hS:Sat B _ _ (blk p.wb (wdC p (Xf p.ps ω q).2) 52::blk p.tb [I64 (Xf p.ps ω q).2.room,.slice a2 (Xf p.ps ω q).2.l.length c2] 127::Vec 45 10 (.slice a2 (Xf p.ps ω q).2.l.length c2) (Xf p.ps ω q).2.l.length (Xv (Xf p.ps ω q).2.l)::blk p.mb [.slice ma2 (Xf p.ps ω q).2.D.length mc2] 168::Xit 118 (.slice ma2 (Xf p.ps ω q).2.D.length mc2) ((Xf p.ps ω q).2.D.map fun d=>U64 (d:Nat))::_):=hS
  have hω2:=X76 (ps:=p.ps) hω q
  have hlen2:=hω2.len
  have hwf2:=hω2.wf
  have hss:=Xa7 (ps:=p.ps) hω q
  refine .drawn (fun w=>∃ J9 R,Le I J9∧Sat B w J9 (blk b6 (X7 (Xf p.ps ω q).1.1) 45::blk p.wb (wdC p (Xf p.ps ω q).2) 52::R)) (fun j=>!([].contains j)) (by kernel_rfl) ?_
  replace hS:=hS.drew; generalize w.drew=w at hS ⊢
  have hH:∃ J9 R,Le I J9∧Sat B w J9 (blk b6 (X7 (Xf p.ps ω q).1.1) 45::blk p.wb (wdC p (Xf p.ps ω q).2) 52::R):=⟨_,_,Le.refl _,((hS.pick 0 rfl).pick 5 rfl)⟩
  refine .tp (i:=0) rfl (by kernel_rfl) (fun w=>(.move (.of rfl))) rfl (.tp (i:=1) rfl (by kernel_rfl) (fun w=>(.nilCheck (.of rfl))) rfl ?_)
  refine WD.tp (i:=2) rfl (by kernel_rfl) (fun w=>(.fieldAddr 2 (.of rfl) Xc2 rfl rfl Tryz.sizeOf49 rfl)) rfl ?_
  refine WD.tk (i:=3) rfl (by kernel_rfl) hH (fun w ⟨J9,R,hL9,hS⟩=>((.ld (.of rfl) hS (k:=1) rfl Tryz.isAgg49 rfl))) rfl ?_
  refine WD.tp (i:=4) rfl (by kernel_rfl) (fun w=>(.fieldAddr 4 (.of rfl) X16 rfl rfl Qs9 rfl)) rfl ?_
  refine WD.tk (i:=5) rfl (by kernel_rfl) hH (fun w ⟨J9,R,hL9,hS⟩=>((.ld (.of rfl) hS (k:=0) rfl Qg9 rfl))) rfl ?_
  refine WD.branch [6,11] (by kernel_rfl) rfl (WO.cons rfl ?_ (WO.cons rfl ?_ (WO.nil)))
  ·
   refine .call Tryz.func40 rfl (X0 (.of rfl) (X0 (.of rfl) X4)) rfl (Xcg (Xf p.ps ω q).1.1.service (by omega) p B _ I hI _ hS) ?_
   clear hS
   rintro _ w ⟨J,ra,rc,hJ,rfl,hrc,hRel,hS⟩
   refine .nil ?_
   clear hH
   have hH:∃ J9 R,Le I J9∧Sat B w J9 (blk b6 (X7 (Xf p.ps ω q).1.1) 45::blk p.wb (wdC p (Xf p.ps ω q).2) 52::R):=⟨_,_,hJ,((hS.pick 0 rfl).pick 5 rfl)⟩
   refine And.intro (by intro _ _; exact hH) ?_
   refine .tp (i:=7) rfl (by kernel_rfl) (fun w=>(.move (.of rfl))) rfl (.tp (i:=8) rfl (by kernel_rfl) (fun w=>(.extract (.of rfl) rfl)) rfl (.tp (i:=9) rfl (by kernel_rfl) (fun w=>(.extract (.of rfl) rfl)) rfl (.tp (i:=10) rfl (by kernel_rfl) (fun w=>(.extract (.of rfl) rfl)) rfl ?_)))
   refine WD.branch [11] (by kernel_rfl) rfl (WO.cons rfl ?_ (WO.nil))
   refine .allocA (cs:=[_,_,_,_,_,_,_,_]) hS X82 rfl ?_
   clear hS; intro b9 w hS
   refine .nil ?_
   clear hH
   have hH:∃ J9 R,Le I J9∧Sat B w J9 (blk b6 (X7 (Xf p.ps ω q).1.1) 45::blk p.wb (wdC p (Xf p.ps ω q).2) 52::R):=⟨_,_,hJ,((hS.pick 1 rfl).pick 6 rfl)⟩
   refine And.intro (by intro _ _; exact hH) ?_
   refine WD.branch [12] (by kernel_rfl) rfl (WO.cons rfl ?_ (WO.nil))
   refine WL.stA hS (k:=0) rfl (.of rfl) (.of rfl) rfl X12 rfl (by simp) ?_
   clear hS; intro w hS
   try simp only [Yh,Yd,Y9,Y7,Yg,Ym,Yc] at hS
   refine .nil ?_
   clear hH
   have hH:∃ J9 R,Le I J9∧Sat B w J9 (blk b6 (X7 (Xf p.ps ω q).1.1) 45::blk p.wb (wdC p (Xf p.ps ω q).2) 52::R):=⟨_,_,hJ,((hS.pick 1 rfl).pick 6 rfl)⟩
   refine And.intro (by intro _ _; exact hH) ?_
   refine .tp (i:=13) rfl (by kernel_rfl) (fun w=>(.assign (.of rfl))) rfl (.tp (i:=14) rfl (by kernel_rfl) (fun w=>(.assign (.of rfl))) rfl (.done (by kernel_rfl) ?_))
   replace hS:=Sat.box (T:=wdT p (Xf p.ps ω q).2) (a2,c2,ma2,mc2) (((((hS.pick 5 rfl).pick 5 rfl).pick 5 rfl).pick 5 rfl).pick 5 rfl)
   try dsimp only [List.eraseIdx] at hS
   exact ⟨(J,b9,ra,rc),⟨rfl,rfl,rfl,rfl,trivial⟩,hJ,hrc,hRel,(((((hS.drop (k:=4) rfl).pick 3 rfl).pick 3 rfl).pick 2 rfl).pick 3 rfl)⟩
  ·
   refine .allocA (cs:=[_,_,_,_,_,_,_,_]) hS X82 rfl ?_
   clear hS; intro b9 w hS
   refine .nil ?_
   clear hH
   have hH:∃ J9 R,Le I J9∧Sat B w J9 (blk b6 (X7 (Xf p.ps ω q).1.1) 45::blk p.wb (wdC p (Xf p.ps ω q).2) 52::R):=⟨_,_,Le.refl _,((hS.pick 1 rfl).pick 6 rfl)⟩
   refine And.intro (by intro _ _; exact hH) ?_
   refine WD.branch [6] (by kernel_rfl) rfl (WO.cons rfl ?_ (WO.nil))
   refine .call Tryz.func40 rfl (X0 (.of rfl) (X0 (.of rfl) X4)) rfl (Xcg (Xf p.ps ω q).1.1.service (by omega) p B _ I hI _ hS) ?_
   clear hS
   rintro _ w ⟨J,ra,rc,hJ,rfl,hrc,hRel,hS⟩
   refine .nil ?_
   clear hH
   have hH:∃ J9 R,Le I J9∧Sat B w J9 (blk b6 (X7 (Xf p.ps ω q).1.1) 45::blk p.wb (wdC p (Xf p.ps ω q).2) 52::R):=⟨_,_,hJ,((hS.pick 1 rfl).pick 6 rfl)⟩
   refine And.intro (by intro _ _; exact hH) ?_
   refine .tp (i:=7) rfl (by kernel_rfl) (fun w=>(.move (.of rfl))) rfl (.tp (i:=8) rfl (by kernel_rfl) (fun w=>(.extract (.of rfl) rfl)) rfl (.tp (i:=9) rfl (by kernel_rfl) (fun w=>(.extract (.of rfl) rfl)) rfl (.tp (i:=10) rfl (by kernel_rfl) (fun w=>(.extract (.of rfl) rfl)) rfl ?_)))
   refine WD.branch [12] (by kernel_rfl) rfl (WO.cons rfl ?_ (WO.nil))
   refine WL.stA hS (k:=0) rfl (.of rfl) (.of rfl) rfl X12 rfl (by simp) ?_
   clear hS; intro w hS
   try simp only [Yh,Yd,Y9,Y7,Yg,Ym,Yc] at hS
   refine .nil ?_
   clear hH
   have hH:∃ J9 R,Le I J9∧Sat B w J9 (blk b6 (X7 (Xf p.ps ω q).1.1) 45::blk p.wb (wdC p (Xf p.ps ω q).2) 52::R):=⟨_,_,hJ,((hS.pick 1 rfl).pick 6 rfl)⟩
   refine And.intro (by intro _ _; exact hH) ?_
   refine .tp (i:=13) rfl (by kernel_rfl) (fun w=>(.assign (.of rfl))) rfl (.tp (i:=14) rfl (by kernel_rfl) (fun w=>(.assign (.of rfl))) rfl (.done (by kernel_rfl) ?_))
   replace hS:=Sat.box (T:=wdT p (Xf p.ps ω q).2) (a2,c2,ma2,mc2) (((((hS.pick 5 rfl).pick 5 rfl).pick 5 rfl).pick 5 rfl).pick 5 rfl)
   try dsimp only [List.eraseIdx] at hS
   exact ⟨(J,b9,ra,rc),⟨rfl,rfl,rfl,rfl,trivial⟩,hJ,hrc,hRel,(((((hS.drop (k:=4) rfl).pick 3 rfl).pick 3 rfl).pick 2 rfl).pick 3 rfl)⟩
 rintro ⟨J,b9,ra,rc⟩ w ⟨hJ,hrc,hRel,hS⟩
 refine .seq ?_
 replace hS:=(hS.pick 1 rfl)
 try dsimp only [List.eraseIdx] at hS
 obtain ⟨⟨a2,c2,ma2,mc2⟩,hS⟩:=Sat.unbox hS
 replace hS:Sat B _ _ (blk p.wb (wdC p (Xf p.ps ω q).2) 52::blk p.tb [I64 (Xf p.ps ω q).2.room,.slice a2 (Xf p.ps ω q).2.l.length c2] 127::Vec 45 10 (.slice a2 (Xf p.ps ω q).2.l.length c2) (Xf p.ps ω q).2.l.length (Xv (Xf p.ps ω q).2.l)::blk p.mb [.slice ma2 (Xf p.ps ω q).2.D.length mc2] 168::Xit 118 (.slice ma2 (Xf p.ps ω q).2.D.length mc2) ((Xf p.ps ω q).2.D.map fun d=>U64 (d:Nat))::_):=hS
 have hω2:=X76 (ps:=p.ps) hω q
 have hlen2:=hω2.len
 have hwf2:=hω2.wf
 have hIJ:=hI.mono hJ
 have hat:=Xoq hI.att (Xf p.ps ω q).1.1.user
 have hrl:(Xc p.lo (Xf p.ps ω q).1.1.service).1.rel.length≤1000000:=by
  rcases X9d p.lo (Xf p.ps ω q).1.1.service with e | e
  ·rw [e]; decide
  ·exact hI.rel _ e
 refine .drawn (fun w=>∃ J9 R,Le J J9∧Sat B w J9 (blk b6 (X7 (Xf p.ps ω q).1.1) 45::blk b9 [I64 (Xc p.lo (Xf p.ps ω q).1.1.service).1.id,F64 (Xc p.lo (Xf p.ps ω q).1.1.service).1.ord,S (Xc p.lo (Xf p.ps ω q).1.1.service).1.urls,.bool (Xc p.lo (Xf p.ps ω q).1.1.service).1.login,.bool (Xc p.lo (Xf p.ps ω q).1.1.service).1.proxy,.bool (Xc p.lo (Xf p.ps ω q).1.1.service).1.back,S (Xc p.lo (Xf p.ps ω q).1.1.service).1.calls,.slice ra (Xc p.lo (Xf p.ps ω q).1.1.service).1.rel.length rc] 101::blk p.wb (wdC p (Xf p.ps ω q).2) 52::R)) (fun j=>!([].contains j)) (by kernel_rfl) ?_
 replace hS:=hS.drew; generalize w.drew=w at hS ⊢
 have hH:∃ J9 R,Le J J9∧Sat B w J9 (blk b6 (X7 (Xf p.ps ω q).1.1) 45::blk b9 [I64 (Xc p.lo (Xf p.ps ω q).1.1.service).1.id,F64 (Xc p.lo (Xf p.ps ω q).1.1.service).1.ord,S (Xc p.lo (Xf p.ps ω q).1.1.service).1.urls,.bool (Xc p.lo (Xf p.ps ω q).1.1.service).1.login,.bool (Xc p.lo (Xf p.ps ω q).1.1.service).1.proxy,.bool (Xc p.lo (Xf p.ps ω q).1.1.service).1.back,S (Xc p.lo (Xf p.ps ω q).1.1.service).1.calls,.slice ra (Xc p.lo (Xf p.ps ω q).1.1.service).1.rel.length rc] 101::blk p.wb (wdC p (Xf p.ps ω q).2) 52::R):=⟨_,_,Le.refl _,(((hS.pick 0 rfl).pick 5 rfl).pick 6 rfl)⟩
 refine WD.tp (i:=0) rfl (by kernel_rfl) (fun w=>(.fieldAddr 3 (.of rfl) X16 rfl rfl Qs9 rfl)) rfl ?_
 refine WD.tk (i:=1) rfl (by kernel_rfl) hH (fun w ⟨J9,R,hL9,hS⟩=>((.ld (.of rfl) hS (k:=0) rfl Qg9 rfl))) rfl ?_
 refine .tp (i:=2) rfl (by kernel_rfl) (fun w=>(.move (.of rfl))) rfl (.tp (i:=3) rfl (by kernel_rfl) (fun w=>(.nilCheck (.of rfl))) rfl ?_)
 refine WD.tp (i:=4) rfl (by kernel_rfl) (fun w=>(.fieldAddr 3 (.of rfl) Xc2 rfl rfl Tryz.sizeOf50 rfl)) rfl ?_
 refine WD.tk (i:=5) rfl (by kernel_rfl) hH (fun w ⟨J9,R,hL9,hS⟩=>((.ld (.of rfl) hS (k:=2) rfl Tryz.isAgg50 rfl))) rfl ?_
 refine WD.tp (i:=6) rfl (by kernel_rfl) (fun w=>(.fieldAddr 3 (.of rfl) X16 rfl rfl Qs9 rfl)) rfl ?_
 refine WD.tk (i:=7) rfl (by kernel_rfl) hH (fun w ⟨J9,R,hL9,hS⟩=>((.ld (.of rfl) hS (k:=0) rfl Qg9 rfl))) rfl ?_
 refine WD.tp (i:=8) rfl (by kernel_rfl) (fun w=>(.fieldAddr 7 (.of rfl) X25 rfl rfl Xeo rfl)) rfl ?_
 refine WD.tk (i:=9) rfl (by kernel_rfl) hH (fun w ⟨J9,R,hL9,hS⟩=>((.ld (.of rfl) hS (k:=1) rfl Xie rfl))) rfl ?_
 refine .tp (i:=11) rfl (by kernel_rfl) (fun w=>(.move (.of rfl))) rfl ?_
 refine WD.tp (i:=12) rfl (by kernel_rfl) (fun w=>(.fieldAddr 1 (.of rfl) X16 rfl rfl Qs9 rfl)) rfl ?_
 refine WD.tk (i:=13) rfl (by kernel_rfl) hH (fun w ⟨J9,R,hL9,hS⟩=>((.ld (.of rfl) hS (k:=0) rfl Qg9 rfl))) rfl ?_
 refine WD.branch [10] (by kernel_rfl) rfl (WO.cons rfl ?_ (WO.nil))
 refine WL.call Tryz.func64 rfl (X0 (.of rfl) (X0 (.of rfl) (X0 (.of rfl) X4))) rfl (Xhn p.ub p.us hI.fit (Xf p.ps ω q).1.1.user hat ra rc _ hrl B _ _ (by exact hIJ.tab) (by exact hRel) _ hS) ?_
 clear hS
 rintro _ w ⟨Ja,ka,kc,rfl,hJa,hkc,hRa,hS⟩
 refine .nil ?_
 clear hH
 have hH:∃ J9 R,Le J J9∧Sat B w J9 (blk b6 (X7 (Xf p.ps ω q).1.1) 45::blk b9 [I64 (Xc p.lo (Xf p.ps ω q).1.1.service).1.id,F64 (Xc p.lo (Xf p.ps ω q).1.1.service).1.ord,S (Xc p.lo (Xf p.ps ω q).1.1.service).1.urls,.bool (Xc p.lo (Xf p.ps ω q).1.1.service).1.login,.bool (Xc p.lo (Xf p.ps ω q).1.1.service).1.proxy,.bool (Xc p.lo (Xf p.ps ω q).1.1.service).1.back,S (Xc p.lo (Xf p.ps ω q).1.1.service).1.calls,.slice ra (Xc p.lo (Xf p.ps ω q).1.1.service).1.rel.length rc] 101::blk p.wb (wdC p (Xf p.ps ω q).2) 52::R):=⟨_,_,(by exact hJa),(((hS.pick 0 rfl).pick 5 rfl).pick 6 rfl)⟩
 refine And.intro (by intro _ _; exact hH) ?_
 refine WD.branch [14] (by kernel_rfl) rfl (WO.cons rfl ?_ (WO.nil))
 refine .call Tryz.func31 rfl (X0 (.of rfl) (X0 (.of rfl) X4)) rfl (X91 p (Xf p.ps ω q).2 a2 c2 hlen2 hwf2 (Xf p.ps ω q).1.1.name B _ _ _ (((hS.pick 2 rfl).pick 2 rfl).pick 2 rfl)) ?_
 clear hS
 rintro _ w ⟨Jp,pa,pc,rfl,hJp,hpc,hRp,hS⟩
 try dsimp only [List.eraseIdx] at hS
 refine .nil ?_
 clear hH
 have hH:∃ J9 R,Le J J9∧Sat B w J9 (blk b6 (X7 (Xf p.ps ω q).1.1) 45::blk b9 [I64 (Xc p.lo (Xf p.ps ω q).1.1.service).1.id,F64 (Xc p.lo (Xf p.ps ω q).1.1.service).1.ord,S (Xc p.lo (Xf p.ps ω q).1.1.service).1.urls,.bool (Xc p.lo (Xf p.ps ω q).1.1.service).1.login,.bool (Xc p.lo (Xf p.ps ω q).1.1.service).1.proxy,.bool (Xc p.lo (Xf p.ps ω q).1.1.service).1.back,S (Xc p.lo (Xf p.ps ω q).1.1.service).1.calls,.slice ra (Xc p.lo (Xf p.ps ω q).1.1.service).1.rel.length rc] 101::blk p.wb (wdC p (Xf p.ps ω q).2) 52::R):=⟨_,_,(by exact hJa.trans hJp),(((hS.pick 0 rfl).pick 5 rfl).pick 6 rfl)⟩
 refine And.intro (by intro _ _; exact hH) ?_
 refine .tp (i:=15) rfl (by kernel_rfl) (fun w=>(.build (cs:=[_,_,_,_]) (X5 (.of rfl) (X5 (.of rfl) (X5 (.of rfl) X6))) X4p rfl)) rfl ?_
 refine WD.branch [16] (by kernel_rfl) rfl (WO.cons rfl ?_ (WO.nil))
 refine WL.stA hS (k:=7) rfl (.of rfl) (.of rfl) rfl X4i rfl (by simp) ?_
 clear hS; intro w hS
 try simp only [Yh,Yd,Y9,Y7,Yg,Ym,Yc] at hS
 refine .nil ?_
 clear hH
 have hH:∃ J9 R,Le J J9∧Sat B w J9 (blk b6 (X7 (Xf p.ps ω q).1.1) 45::blk b9 [I64 (Xc p.lo (Xf p.ps ω q).1.1.service).1.id,F64 (Xc p.lo (Xf p.ps ω q).1.1.service).1.ord,S (Xc p.lo (Xf p.ps ω q).1.1.service).1.urls,.bool (Xc p.lo (Xf p.ps ω q).1.1.service).1.login,.bool (Xc p.lo (Xf p.ps ω q).1.1.service).1.proxy,.bool (Xc p.lo (Xf p.ps ω q).1.1.service).1.back,S (Xc p.lo (Xf p.ps ω q).1.1.service).1.calls,.slice ra (Xc p.lo (Xf p.ps ω q).1.1.service).1.rel.length rc] 101::blk p.wb (wdC p (Xf p.ps ω q).2) 52::R):=⟨_,_,(by exact hJa.trans hJp),(((hS.pick 0 rfl).pick 5 rfl).pick 6 rfl)⟩
 refine And.intro (by intro _ _; exact hH) ?_
 refine .tp (i:=17) rfl (by kernel_rfl) (fun w=>(.assign (.of rfl))) rfl (.done (by kernel_rfl) (.ret ?_))
 refine X18 (b:=_) (cs:=[_,_,_,_]) Qr18 hS (k:=7) rfl Xbq X4i rfl rfl rfl ?_
 replace hS:=Sat.box (T:=wdT p (Xf p.ps ω q).2) (a2,c2,ma2,mc2) (((((hS.pick 4 rfl).pick 4 rfl).pick 4 rfl).pick 4 rfl).pick 4 rfl)
 try dsimp only [List.eraseIdx] at hS
 have hE:X1h p.ps ω q=0:=by rw [X1h,if_neg (show ¬ (Xf p.ps ω q).1.2≠0 from by simpa using hb19),if_neg (by rw [hb28]; decide),if_neg (by rw [hb38]; decide)]
 have hX:Xd p.lo p.us p.ps ω q=⟨(Xf p.ps ω q).1.1.user,X1n p.us (Xf p.ps ω q).1.1.user (Xc p.lo (Xf p.ps ω q).1.1.service).1.rel,Xx (Xf p.ps ω q).2.l (Xf p.ps ω q).1.1.name,[]⟩:=if_neg (by rw [hE]; decide)
 rw [hE,hX]
 refine ⟨_,rfl,_,_,?_,rfl,⟨ka,kc,pa,pc,rfl,hkc,?_,hpc,?_⟩,(((hS.drop (k:=1) rfl).drop (k:=1) rfl).drop (k:=1) rfl)⟩
 ·exact (hJ.trans hJa).trans hJp
 ·exact hRa.mono hJp
 ·exact hRp
theorem Ex.sub3U {P:Program} {n:Nat} {L:Env} {w:World} {d:Option Nat} {ty t:TypeId} {pos:String} {af:Array Edge} {g:Option (Nat×Bool)} {x y z:Operand} {l:List UInt8} {i j:Int} (hx:Ev n L x (S l)) (hy:Ev n L y (U64 i)) (hz:Ev n L z (U64 j)) (h0:0≤i) (h1:i≤j) (h2:j≤(l.length:Int)) (hT:P.underlying t=some .string) :
  Ex P n L w ⟨d,.slice t x (some y) (some z) none,ty,pos,af,g⟩ (S ((l.drop i.toNat).take (j.toNat - i.toNat))) w:=fun a ha=>by
 have h:=run_slice_string (P:=P) w t ⟨l.toArray⟩ .u64 .u64 i j hT h0 h1 h2
 rw [X8y] at h
 simp [execOp,hx a ha,hy a ha,hz a ha,run_sliceAt_string w t _ _ _ _ hT,h]
def Xa9 (r:Rec):Bool:=(((decide ((r.name.length:Int)≤60) && decide ((r.parent.length:Int)≤60)) && decide ((r.user.length:Int)≤120)) && decide ((r.service.length:Int)≤120)) && decide ((r.url.length:Int)≤120)
def bigP (y:Pr):Bool:=decide ((80:Int)<(y.1.length:Int)) || decide ((80:Int)<(y.2.length:Int))
def bigU (u:Us):Bool:=(decide ((20:Int)<(u.attrs.length:Int)) || decide ((80:Int)<(u.name.length:Int))) || decide ((80:Int)<(u.pw.length:Int))
def Xcj (u:Us):Bool:=!bigU u && u.attrs.all fun y=>!bigP y
def fewU (l:List Us):Bool:=l.all Xcj && decide ((l.length:Int)≤20)
def fewC (c:Cf):Bool:=few c.svs && fewU c.us
theorem X4d {α:Type} {cells:α→List Value} {s:Nat} (hc:∀ x,(cells x).length=s) {I:Im} {a:Option Addr} {l:List α} (hR:RS I a s l.length (Xy cells l)) {i:Nat} {x:α} (hx:l[i]?=some x):∃ q,a=some q∧At I (q.add (i*s)) (cells x):=by
 obtain ⟨q,rfl,hq⟩:=hR.2 (by have:=(Y5.1 hx).1; omega)
 refine ⟨q,rfl,?_⟩
 have h3:=X4g (hq.add (i*s)) s
 rw [Xy,X1w (l.map cells) (fun c h=>by obtain ⟨y,_,rfl⟩:=Y2f.1 h; exact hc y) i (cells x) (by rw [Yw,hx]; rfl)] at h3
 exact h3
theorem Xhh (r:Rec) (B w:World) (I:Im) (As:List Xe) (hS:Sat B w I As) :
  Calls Tryz.prog 59 [.agg (X7 r).toArray].toArray w (Ret fun v w'=>v=.bool (Xa9 r)∧Sat B w' I As):=by
 refine calls Tryz.func59 rfl Tryz.ntmps59 rfl (.seq (.region (.boxA (cs:=[_,_,_,_,_,_,_,_,_,_]) hS (.of rfl) rfl ?_)))
 clear hS; intro b1 w hS
 refine .q 1 rfl (.nil (.seq (.region ?_)))
 refine WL.val (.fieldAddr 1 (.of rfl) X16 rfl rfl Qs9 rfl) rfl ?_
 refine WL.val (.ld (.of rfl) hS (k:=0) rfl Qg9 rfl) rfl ?_
 refine .run 3 rfl ⟨Qu9,trivial⟩ ?_
 refine WL.gval rfl rfl (fun hg1=>(by exact .fieldAddr 2 (.of rfl) X16 rfl rfl Qs9 rfl)) rfl ?_
 refine WL.gval rfl rfl (fun hg1=>(by exact (.ld (.gd hg1 rfl) hS (k:=0) rfl Qg9 rfl))) rfl ?_
 refine .gval rfl rfl (fun hg1=>(.len (.gd hg1 rfl) Qu9)) rfl (.gval rfl rfl (fun hg1=>(.leq (.gd hg1 rfl) (.of rfl))) rfl (.val (.pand (.of rfl) (.of rfl) (.of rfl)) rfl (.q 1 rfl ?_)))
 refine WL.gval rfl rfl (fun hg1=>(by exact .fieldAddr 3 (.of rfl) X16 rfl rfl Qs9 rfl)) rfl ?_
 refine WL.gval rfl rfl (fun hg1=>(by exact (.ld (.gd hg1 rfl) hS (k:=0) rfl Qg9 rfl))) rfl ?_
 refine .gval rfl rfl (fun hg1=>(.len (.gd hg1 rfl) Qu9)) rfl (.gval rfl rfl (fun hg1=>(.leq (.gd hg1 rfl) (.of rfl))) rfl (.val (.pand (.of rfl) (.of rfl) (.of rfl)) rfl (.q 1 rfl ?_)))
 refine WL.gval rfl rfl (fun hg1=>(by exact .fieldAddr 4 (.of rfl) X16 rfl rfl Qs9 rfl)) rfl ?_
 refine WL.gval rfl rfl (fun hg1=>(by exact (.ld (.gd hg1 rfl) hS (k:=0) rfl Qg9 rfl))) rfl ?_
 refine .gval rfl rfl (fun hg1=>(.len (.gd hg1 rfl) Qu9)) rfl (.gval rfl rfl (fun hg1=>(.leq (.gd hg1 rfl) (.of rfl))) rfl (.val (.pand (.of rfl) (.of rfl) (.of rfl)) rfl (.q 1 rfl ?_)))
 refine WL.gval rfl rfl (fun hg1=>(by exact .fieldAddr 5 (.of rfl) X16 rfl rfl Qs9 rfl)) rfl ?_
 refine WL.gval rfl rfl (fun hg1=>(by exact (.ld (.gd hg1 rfl) hS (k:=0) rfl Qg9 rfl))) rfl ?_
 refine .gval rfl rfl (fun hg1=>(.len (.gd hg1 rfl) Qu9)) rfl (.gval rfl rfl (fun hg1=>(.leq (.gd hg1 rfl) (.of rfl))) rfl (.val (.pand (.of rfl) (.of rfl) (.of rfl)) rfl (.q 1 rfl (.nil (.ret (Xh Tryz.results59 rfl ?_))))))
 exact ⟨_,rfl,rfl,hS.drop (k:=0) rfl⟩
theorem Xm3 (a:Option Addr) (cap:Nat) (l:List Us) (hln:l.length≤9223372036854775807) (hfit:∀ u∈l,u.fits) (B w:World) (I:Im) (hU:UsrsAt I a l) (As:List Xe) (hS:Sat B w I As) :
  Calls Tryz.prog 108 [.slice a l.length cap].toArray w (Ret fun v w'=>v=.bool (fewU l)∧Sat B w' I As):=by
 refine calls Tryz.func108 rfl Tryz.ntmps108 rfl (.seq (.q 1 rfl (.seq (.seq (.q 1 rfl (.block (.loop (σ:=Nat) (fun i=>[(0,.slice a l.length cap),(3,I64 (i:Nat))]) (fun i w=>i≤l.length∧(∀ (j:Nat) u,j<i→l[j]?=some u→Xcj u=true)∧Sat B w I As) (fun i=>l.length - i) 0 ⟨rfl,rfl,trivial⟩ ⟨Yq _,fun _ _ h=>absurd h (by omega),hS⟩ ?_)))))))
 rintro i w ⟨hi,hno,hS⟩
 refine .seq (.seq (.region (.run 4 rfl ⟨⟨_,X9n⟩,trivial⟩ (.nil ?_))))
 refine WC.cond rfl (fun hb8=>?_) (fun hb8=>?_)
 ·
  have hc8:=hb8; try simp only [Y6] at hc8
  refine .skip (.seq (.block (.seq (.seq ?_))))
  obtain ⟨u,hu⟩:∃ u,l[i]?=some u:=⟨_,Y4 (by omega)⟩
  obtain ⟨p,ra,rc,hap,hx,hrc,hRR⟩:=hU i u hu
  have hfu:=(hfit u (Yl hu)).attrs.1
  subst hap
  unfold X2m at hx
  refine .t 2 rfl ?_
  refine WL.val (.indexAddrI (.of rfl) (.of rfl) (by omega) (by omega) X9n X9p) rfl ?_
  refine WL.val (.fieldAddrI 2 (.of rfl) X5g rfl rfl Xcv rfl) rfl ?_
  refine WL.val (.ldI (.of rfl) hS (At.add hx _) Xdj rfl) rfl ?_
  refine .run 3 rfl ⟨⟨_,X6n⟩,trivial⟩ (.gval rfl rfl (fun hg1=>(.move (.of rfl))) rfl (.gval rfl rfl (fun hg1=>(.move (.of rfl))) rfl ?_))
  refine WL.gval rfl rfl (fun hg1=>(by exact .indexAddrI (.gd hg1 rfl) (.gd hg1 rfl) (by (try simp only [Y6] at hg1); omega) (by (try simp only [Y6] at hg1); omega) X9n X9p)) rfl ?_
  refine WL.gval rfl rfl (fun hg1=>(by exact .fieldAddrI 0 (.gd hg1 rfl) X5g rfl rfl Qs9 rfl)) rfl ?_
  refine WL.gval rfl rfl (fun hg1=>(by exact (.ldI (.gd hg1 rfl) hS (At.add hx _) Qg9 rfl))) rfl ?_
  refine .gval rfl rfl (fun hg1=>(.len (.gd hg1 rfl) Qu9)) rfl (.gval rfl rfl (fun hg1=>(.gtr (.gd hg1 rfl) (.of rfl))) rfl (.val (.por (.of rfl) (.of rfl) (.of rfl)) rfl (.q 1 rfl (.gval rfl rfl (fun hg1=>(.move (.of rfl))) rfl (.gval rfl rfl (fun hg1=>(.move (.of rfl))) rfl ?_)))))
  refine WL.gval rfl rfl (fun hg1=>(by exact .indexAddrI (.gd hg1 rfl) (.gd hg1 rfl) (by (try simp only [Y6] at hg1); omega) (by (try simp only [Y6] at hg1); omega) X9n X9p)) rfl ?_
  refine WL.gval rfl rfl (fun hg1=>(by exact .fieldAddrI 1 (.gd hg1 rfl) X5g rfl rfl Qs9 rfl)) rfl ?_
  refine WL.gval rfl rfl (fun hg1=>(by exact (.ldI (.gd hg1 rfl) hS (At.add hx _) Qg9 rfl))) rfl ?_
  refine .gval rfl rfl (fun hg1=>(.len (.gd hg1 rfl) Qu9)) rfl (.gval rfl rfl (fun hg1=>(.gtr (.gd hg1 rfl) (.of rfl))) rfl (.val (.por (.of rfl) (.of rfl) (.of rfl)) rfl (.nil ?_)))
  refine WC.cond rfl (fun hb35=>?_) (fun hb35=>?_)
  ·
   refine .seq (.q 1 rfl (.ret (Xh Xqs rfl ?_)))
   refine ⟨_,rfl,congrArg Value.bool ?_,hS⟩
   have:l.all Xcj=false:=Y28.2 ⟨u,Yl hu,by
    rw [Xcj,show bigU u=true from hb35,Bool.not_true,Y4t]; decide⟩
   rw [fewU,this]; rfl
  have hc35:=hb35; try simp only [Y6] at hc35
  refine .skip (.seq (.q 1 rfl (.block (.loop (σ:=Nat) (fun k=>[(0,.slice (some p) l.length cap),(3,I64 (i:Nat)),(4,I64 (k:Nat))]) (fun k w=>k≤u.attrs.length∧(∀ (j:Nat) y,j<k→u.attrs[j]?=some y→bigP y=false)∧Sat B w I As) (fun k=>u.attrs.length - k) 0 ⟨rfl,rfl,rfl,trivial⟩ ⟨Yq _,fun _ _ h=>absurd h (by omega),hS⟩ ?_))))
  rintro k w ⟨hk,hny,hS⟩
  refine .seq (.seq (.t 3 rfl ?_))
  refine WL.val (.indexAddrI (.of rfl) (.of rfl) (by omega) (by omega) X9n X9p) rfl ?_
  refine WL.val (.fieldAddrI 2 (.of rfl) X5g rfl rfl Xcv rfl) rfl ?_
  refine WL.val (.ldI (.of rfl) hS (At.add hx _) Xdj rfl) rfl ?_
  refine .run 2 rfl ⟨⟨_,X6n⟩,trivial⟩ (.nil ?_)
  refine WC.cond rfl (fun hb43=>?_) (fun hb43=>?_)
  ·
   have hc43:=hb43; try simp only [Y6] at hc43
   refine .skip (.seq (.block (.seq ?_)))
   obtain ⟨y,hy0⟩:∃ y,u.attrs[k]?=some y:=⟨_,Y4 (by omega)⟩
   obtain ⟨q,hq9,hy⟩:=X4d (cells:=Xk) (s:=2) (fun _=>rfl) hRR hy0
   subst hq9
   unfold Xk at hy
   refine .t 2 rfl ?_
   refine WL.val (.indexAddrI (.of rfl) (.of rfl) (by omega) (by omega) X9n X9p) rfl ?_
   refine WL.val (.fieldAddrI 2 (.of rfl) X5g rfl rfl Xcv rfl) rfl ?_
   refine WL.val (.ldI (.of rfl) hS (At.add hx _) Xdj rfl) rfl ?_
   refine .q 1 rfl ?_
   refine WL.val (.indexAddrI (.of rfl) (.of rfl) (by omega) (by omega) X6n X9l) rfl ?_
   refine WL.val (.fieldAddrI 0 (.of rfl) Xi1 rfl rfl Qs9 rfl) rfl ?_
   refine WL.val (.ldI (.of rfl) hS (At.add hy _) Qg9 rfl) rfl ?_
   refine .run 3 rfl ⟨Qu9,trivial⟩ (.gval rfl rfl (fun hg1=>(.move (.of rfl))) rfl (.gval rfl rfl (fun hg1=>(.move (.of rfl))) rfl ?_))
   refine WL.gval rfl rfl (fun hg1=>(by exact .indexAddrI (.gd hg1 rfl) (.gd hg1 rfl) (by (try simp only [Y6] at hg1); omega) (by (try simp only [Y6] at hg1); omega) X9n X9p)) rfl ?_
   refine WL.gval rfl rfl (fun hg1=>(by exact .fieldAddrI 2 (.gd hg1 rfl) X5g rfl rfl Xcv rfl)) rfl ?_
   refine WL.gval rfl rfl (fun hg1=>(by exact (.ldI (.gd hg1 rfl) hS (At.add hx _) Xdj rfl))) rfl ?_
   refine .gval rfl rfl (fun hg1=>(.move (.of rfl))) rfl ?_
   refine WL.gval rfl rfl (fun hg1=>(by exact .indexAddrI (.gd hg1 rfl) (.gd hg1 rfl) (by (try simp only [Y6] at hg1); omega) (by (try simp only [Y6] at hg1); omega) X6n X9l)) rfl ?_
   refine WL.gval rfl rfl (fun hg1=>(by exact .fieldAddrI 1 (.gd hg1 rfl) Xi1 rfl rfl Qs9 rfl)) rfl ?_
   refine WL.gval rfl rfl (fun hg1=>(by exact (.ldI (.gd hg1 rfl) hS (At.add hy _) Qg9 rfl))) rfl ?_
   refine .gval rfl rfl (fun hg1=>(.len (.gd hg1 rfl) Qu9)) rfl (.gval rfl rfl (fun hg1=>(.gtr (.gd hg1 rfl) (.of rfl))) rfl (.val (.por (.of rfl) (.of rfl) (.of rfl)) rfl (.nil ?_)))
   refine WC.cond rfl (fun hb69=>?_) (fun hb69=>?_)
   ·
    refine .seq (.q 1 rfl (.ret (Xh Xqs rfl ?_)))
    refine ⟨_,rfl,congrArg Value.bool ?_,hS⟩
    have:l.all Xcj=false:=Y28.2 ⟨u,Yl hu,by
     have:u.attrs.all (fun y=>!bigP y)=false:=Y28.2 ⟨y,Yl hy0,by
      rw [show bigP y=true from hb69]; decide⟩
     rw [Xcj,this,Y3i]; decide⟩
    rw [fewU,this]; rfl
   have hc69:=hb69; try simp only [Y6] at hc69
   refine .skip (.region (.run 3 rfl ⟨⟨by omega,by omega⟩,trivial⟩ (.nil ?_)))
   refine ⟨k+1,⟨rfl,rfl,rfl,trivial⟩,⟨by (try dsimp only); omega,fun j t hj ht=>?_,hS⟩,by (try dsimp only); omega⟩
   rcases Yr j k with h1 | h1
   ·exact hny j t h1 ht
   ·have e:j=k:=by omega
    subst e
    rw [hy0] at ht; cases ht
    exact hb69
  have hc43:=hb43; try simp only [Y6] at hc43
  refine .exit (.region (.run 3 rfl ⟨⟨by omega,by omega⟩,trivial⟩ (.nil ?_)))
  refine ⟨i+1,⟨rfl,rfl,trivial⟩,⟨by (try dsimp only); omega,fun j t hj ht=>?_,hS⟩,by (try dsimp only); omega⟩
  rcases Yr j i with h1 | h1
  ·exact hno j t h1 ht
  ·have e:j=i:=by omega
   subst e
   rw [hu] at ht; cases ht
   have e1:bigU u=false:=hb35
   rw [Xcj,e1,Y3w,Y31,Y1d]
   intro y hy
   obtain ⟨q,hq⟩:=Y10.1 hy
   have:=(Y5.1 hq).1
   rw [hny q y (by omega) hq]; rfl
 have hc8:=hb8; try simp only [Y6] at hc8
 refine .exit (.seq (.region (.run 4 rfl ⟨⟨_,X9n⟩,trivial⟩ (.nil (.ret (Xh Xqs rfl ?_))))))
 refine ⟨_,rfl,congrArg Value.bool ?_,hS⟩
 have:l.all Xcj=true:=by
  rw [Y1d]
  intro u hu
  obtain ⟨q,hq⟩:=Y10.1 hu
  have:=(Y5.1 hq).1
  exact hno q u (by omega) hq
 rw [fewU,this,Y31]
set_option maxRecDepth 20000 in
theorem Xnx (c:Cf) (a:Option Addr) (cap:Nat) (ua:Option Addr) (ucap:Nat) (hcap:c.svs.length≤cap) (hcm:cap≤maxLen) (hun:c.us.length≤9223372036854775807) (hfit:∀ u∈c.us,u.fits) (B w:World) (I:Im) (hl:SvsAt I a c.svs) (hU:UsrsAt I ua c.us) (As:List Xe) (hS:Sat B w I As) :
  Calls Tryz.prog 60 [.agg (Xz c a cap ua ucap).toArray].toArray w (Ret fun v w'=>v=.bool (fewC c)∧Sat B w' I As):=by
 refine calls Tryz.func60 rfl Tryz.ntmps60 rfl (.seq (.region (.boxA (cs:=[_,_,_,_,_,_,_,_,_,_,_,_,_,_,_,_,_,_,_,_,_,_,_,_,_,_,_,_]) hS (.of rfl) rfl ?_)))
 clear hS; intro b1 w hS
 refine .q 1 rfl (.nil (.seq (.region ?_)))
 refine WL.val (.fieldAddr 0 (.of rfl) Xdl rfl rfl Qs27 rfl) rfl ?_
 refine WL.val (.ld (.of rfl) hS (k:=0) rfl Qg27 rfl) rfl ?_
 refine .call Tryz.func107 rfl (X0 (.of rfl) X4) rfl (Xps a cap c.svs hcap hcm B _ I hl _ hS) ?_
 clear hS
 rintro _ w ⟨rfl,hS⟩
 refine .q 1 rfl (.nil (.seq (.region ?_)))
 refine WL.val (.fieldAddr 1 (.of rfl) Xdl rfl rfl Qs28 rfl) rfl ?_
 refine WL.val (.ld (.of rfl) hS (k:=0) rfl Qg28 rfl) rfl ?_
 refine .call Tryz.func108 rfl (X0 (.of rfl) X4) rfl (Xm3 ua ucap c.us hun hfit B _ I hU _ hS) ?_
 clear hS
 rintro _ w ⟨rfl,hS⟩
 refine .q 1 rfl (.nil (.seq (.t 2 rfl (.gval rfl rfl (fun hg1=>(.move (.of rfl))) rfl (.val (.pand (.of rfl) (.of rfl) (.of rfl)) rfl (.q 1 rfl (.nil (.ret (Xh Tryz.results60 rfl ?_)))))))))
 exact ⟨_,rfl,rfl,hS.drop (k:=0) rfl⟩
theorem X60 (k:Int) (B w:World) (I:Im) (As:List Xe) (hS:Sat B w I As) :
  Calls Tryz.prog 97 [I64 k].toArray w (Ret fun v w'=>v=S (Xh2 k)∧Sat B w' I As):=by
 refine calls Tryz.func97 rfl Tryz.ntmps97 rfl (.seq (.q 1 rfl (.seq (.seq (.q 1 rfl (.block (.seq (.q 2 rfl ?_))))))))
 refine WC.cond rfl (fun hb4=>?_) (fun hb4=>?_)
 ·
  refine .seq (.q 1 rfl (.ret (Xh Xpr rfl ?_)))
  refine ⟨_,rfl,congrArg S ?_,hS⟩
  simp only [beq_iff_eq,beq_eq_false_iff_ne] at *
  subst_vars; rfl
 refine .seq (.q 2 rfl ?_)
 refine WC.cond rfl (fun hb6=>?_) (fun hb6=>?_)
 ·
  refine .seq (.q 1 rfl (.ret (Xh Xpr rfl ?_)))
  refine ⟨_,rfl,congrArg S ?_,hS⟩
  simp only [beq_iff_eq,beq_eq_false_iff_ne] at *
  subst_vars; rfl
 refine .seq (.q 2 rfl ?_)
 refine WC.cond rfl (fun hb8=>?_) (fun hb8=>?_)
 ·
  refine .seq (.q 1 rfl (.ret (Xh Xpr rfl ?_)))
  refine ⟨_,rfl,congrArg S ?_,hS⟩
  simp only [beq_iff_eq,beq_eq_false_iff_ne] at *
  subst_vars; rfl
 refine .seq (.q 2 rfl ?_)
 refine WC.cond rfl (fun hb10=>?_) (fun hb10=>?_)
 ·
  refine .seq (.q 1 rfl (.ret (Xh Xpr rfl ?_)))
  refine ⟨_,rfl,congrArg S ?_,hS⟩
  simp only [beq_iff_eq,beq_eq_false_iff_ne] at *
  subst_vars; rfl
 refine .seq (.q 2 rfl ?_)
 refine WC.cond rfl (fun hb12=>?_) (fun hb12=>?_)
 ·
  refine .seq (.q 1 rfl (.ret (Xh Xpr rfl ?_)))
  refine ⟨_,rfl,congrArg S ?_,hS⟩
  simp only [beq_iff_eq,beq_eq_false_iff_ne] at *
  subst_vars; rfl
 refine .seq (.q 2 rfl ?_)
 refine WC.cond rfl (fun hb14=>?_) (fun hb14=>?_)
 ·
  refine .seq (.q 1 rfl (.ret (Xh Xpr rfl ?_)))
  refine ⟨_,rfl,congrArg S ?_,hS⟩
  simp only [beq_iff_eq,beq_eq_false_iff_ne] at *
  subst_vars; rfl
 refine .skip (.seq (.q 1 rfl (.ret (Xh Xpr rfl ?_))))
 refine ⟨_,rfl,congrArg S ?_,hS⟩
 simp only [beq_iff_eq,beq_eq_false_iff_ne] at *
 (rw [Xh2,if_pos (by omega)])
theorem Xmv {n:Nat} (h:n<16):(HEXD.drop n).take 1=[dg n]:=(by decide:∀ n:Fin 16,(HEXD.drop n.val).take 1=[dg n.val]) ⟨n,h⟩
theorem X90 (kind:Int) (d:Nat) (hd:d<18446744073709551616) (B w:World) (I:Im) (As:List Xe) (hS:Sat B w I As) :
  Calls Tryz.prog 56 [I64 kind,U64 (d:Nat)].toArray w (Ret fun v w'=>v=(if Xh2 kind=[] then .tuple #[S [],I64 8] else .tuple #[S (Xh2 kind ++ 45::Xdm 16 d),I64 0])∧Sat B w' I As):=by
 refine calls Tryz.func56 rfl Tryz.ntmps56 rfl (.seq (.q 2 rfl (.seq (.t 1 rfl (.call Tryz.func97 rfl (X0 (.of rfl) X4) rfl (X60 kind B _ I _ hS) ?_)))))
 clear hS
 rintro _ w ⟨rfl,hS⟩
 refine .q 1 rfl (.nil (.seq (.seq (.q 2 rfl ?_))))
 refine WC.cond rfl (fun hb13=>?_) (fun hb13=>?_)
 ·
  refine .seq (.q 2 rfl (.ret (X2g Tryz.results56 rfl rfl ?_)))
  exact ⟨_,rfl,by rw [if_pos (by simpa using hb13)],hS⟩
 have hc13:=hb13; try simp only [Y6] at hc13
 refine .skip (.seq (.q 1 rfl (.seq (.q 1 rfl (.seq (.seq (.q 1 rfl (.block (.loop (σ:=Nat×Nat) (fun ⟨i,e⟩=>[(1,U64 (e:Nat)),(6,S (Xh2 kind)),(7,S HEXD),(8,S (Xdm i d)),(9,I64 (i:Nat))]) (fun ⟨i,e⟩ w=>i≤16∧e=d / 16 ^ i∧Sat B w I As) (fun ⟨i,e⟩=>16 - i) (0,d) ⟨rfl,rfl,rfl,rfl,rfl,trivial⟩ ⟨Yq _,by simp,hS⟩ ?_)))))))))
 rintro ⟨i,e⟩ w ⟨hi,he,hS⟩
 refine .seq (.seq (.q 2 rfl ?_))
 refine WC.cond rfl (fun hb15=>?_) (fun hb15=>?_)
 ·
  have hc15:=hb15; try simp only [Y6] at hc15
  refine .skip (.seq (.block (.seq ?_)))
  have hed:e<18446744073709551616:=by rw [he]; exact Y4g (Nat.div_le_self _ _) hd
  have hdl:=Xat i d
  have hm16:=Y3d e (show 0<16 by decide)
  have hcast:((e:Nat):Int) % 16=((e % 16:Nat):Int):=by omega
  have htk:=Xmv hm16
  have hsl:(HEXD.drop ((e:Int) % 16).toNat).take (((e:Int) % 16+1).toNat - ((e:Int) % 16).toNat)=[dg (e % 16)]:=by
   rw [hcast,Yj,show (((e % 16:Nat):Int)+1).toNat - e % 16=1 by omega]; exact htk
  have hcons:[dg (e % 16)] ++ Xdm i d=Xdm (i+1) d:=by rw [Xca,he]; rfl
  have hquo:((e:Nat):Int) / 16=((e / 16:Nat):Int):=by omega
  have hee:e / 16=d / 16 ^ (i+1):=by rw [he,Y36,Y2a]
  refine .t 2 rfl (.val (.rem (.of rfl) (.of rfl) (by omega) (by omega)) rfl (.q 1 rfl (.val (.rem (.of rfl) (.of rfl) (by omega) (by omega)) rfl ?_)))
  refine WL.val (.addx (.of rfl) (.of rfl) (by rw [IntKind.wrap_u64]; omega)) rfl ?_
  refine WL.val (Ex.sub3U (.of rfl) (.of rfl) (.of rfl) (by omega) (by omega) (by show _≤(16:Int); omega) Qu9) rfl ?_
  rw [hsl]
  refine .q 1 rfl ?_
  refine WL.val (.cat (.of rfl) (.of rfl) (by (try simp only [Y0,Ye,Yn]); omega)) rfl ?_
  rw [hcons]
  refine .q 1 rfl (.nil (.t 1 rfl ?_))
  refine WL.val (.quo (.of rfl) (.of rfl) (by omega) (by omega) (by rw [IntKind.wrap_u64]; omega)) rfl ?_
  rw [hquo]
  refine .q 1 rfl (.nil (.region (.run 3 rfl ⟨⟨by omega,by omega⟩,trivial⟩ (.nil ?_))))
  refine ⟨(i+1,e / 16),⟨rfl,rfl,rfl,rfl,rfl,trivial⟩,⟨by (try dsimp only); omega,hee,hS⟩,by (try dsimp only); omega⟩
 have hc15:=hb15; try simp only [Y6] at hc15
 refine .exit (.seq ?_)
 have hpl:=Xks kind
 have hdl:=Xat i d
 refine .region ?_
 refine WL.run 6 rfl ⟨by (try simp only [Y0,Ye,Yn]); omega,by (try simp only [Y0,Ye,Yn]); omega,trivial⟩ ?_
 refine .nil (.ret (X2g Tryz.results56 rfl rfl ?_))
 have e16:i=16:=by omega
 subst e16
 refine ⟨_,rfl,by rw [if_neg (by simpa using hb13),Yf]; rfl,hS⟩
end Go.Proofs.YtadhiihnnkcagaaGreatDoor
namespace Go.Proofs.YtadhiihnnkcagaaGreatDoor
open Gk Pat
theorem Xj9 {l:List Sv} (h:few l=true):l.length≤20∧∀ s∈l,s.rel.length≤20:=by
 unfold few at h
 simp only [Yo,decide_eq_true_eq] at h
 refine ⟨by omega,fun s hs=>?_⟩
 have:=Y1d.1 h.1 s hs
 unfold Xpg at this
 simp only [Y2w,Y13,decide_eq_false_iff_not] at this
 omega
theorem Xlb {l:List Sv} (h:∀ s∈l,s.fits):∀ v∈ords l,v<18446744073709551616:=fun v hv=>by
 obtain ⟨s,hs,rfl⟩:=Y2f.1 hv
 exact (h s hs).ord
theorem Xly {l:List Sv} (h:∀ s∈l,s.fits) (hr:∀ s∈l,s.rel.length≤20):∀ s∈l,s.urls.length≤9223372036854775807∧s.calls.length≤9223372036854775807∧s.rel.length≤1000000:=fun s hs=>by
 have h1:=(h s hs).urls
 have h2:=(h s hs).calls
 have h3:=hr s hs
 unfold maxLen at h1 h2
 exact ⟨by omega,by omega,by omega⟩
theorem X7n (l:List Sv):∀ (r:List Sv) (i:Nat),(X3t l i r).1=0→∀ (j:Nat) t,r[j]?=some t→bad l (i+j) t=0
 | [],_,_,j,t,h=>by simp at h
 | s::r,i,h,j,t,ht=>by
  rw [X3t] at h
  split at h
  ·rename_i hb; exact absurd h hb
  ·rename_i hb
   cases j with
   | zero=>simp at ht; subst ht; simpa using hb
   | succ j =>
    have:=X7n l r (i+1) h j t (by simpa using ht)
    rw [show i+(j+1)=i+1+j by omega]; exact this
theorem Xgq {l:List Sv} (h:(X3c l).1=0) (j:Nat) (t:Sv) (ht:l[j]?=some t):bad l j t=0:=by
 have:=X7n l l 0 h j t ht
 rw [Yc] at this; exact this
theorem Xma {l:List Sv} {i:Nat} {s:Sv} (h:bad l i s=0):i≠16∧(l.take i).any (fun t=>t.id == s.id)=false∧(chk s.urls).1=0∧(chk s.calls).1=0:=by
 unfold bad at h
 split at h
 ·cases h
 ·rename_i h16
  split at h
  ·cases h
  ·split at h
   ·cases h
   ·rename_i h7
    split at h
    ·cases h
    ·rename_i h8
     simp only [Y1h,not_or,bne_iff_ne,ne_eq,Decidable.not_not] at h8
     exact ⟨h16,by simpa using h7,h8.1,h8.2⟩
theorem Xnv {l:List Sv} (h:(X3c l).1=0):right l:=fun s hs=>by
 obtain ⟨j,hj⟩:=Y10.1 hs
 obtain ⟨_,_,h1,h2⟩:=Xma (Xgq h j s hj)
 exact ⟨Xao h1,Xao h2⟩
theorem Xpz {l:List Sv} {D:List Int} (s:List UInt8):Xe8 l D s=Xc (X3o l D) s:=by
 unfold Xe8 Xc X3o
 rw [List.find?_map]
 split
 ·rfl
 ·split
  ·rfl
  ·show (match D.find? (fun d=>(X9h (l.getD d.toNat z0).urls (Ul.nU s).1).1) with
    | none=>(z0,[],31)
    | some d=>(l.getD d.toNat z0,(Ul.nU s).1,0))=(match (D.find? ((fun t=>(X9h t.urls (Ul.nU s).1).1) ∘ fun d=>l.getD d.toNat z0)).map (fun d=>l.getD d.toNat z0) with
    | none=>(z0,[],31)
    | some t=>(t,(Ul.nU s).1,0))
   rw [show ((fun t=>(X9h t.urls (Ul.nU s).1).1) ∘ fun d=>l.getD d.toNat z0)=(fun d:Int=>(X9h (l.getD d.toNat z0).urls (Ul.nU s).1).1) from rfl]
   cases D.find? (fun d=>(X9h (l.getD d.toNat z0).urls (Ul.nU s).1).1) <;> rfl
end Go.Proofs.YtadhiihnnkcagaaGreatDoor
namespace Go.Proofs.YtadhiihnnkcagaaGreatDoor
open Gk Ul Pc Tk Tr
def bigQ (q:Qr):Bool:=decide ((60:Int)<(q.ticket.length:Int)) || decide ((200:Int)<(q.service.length:Int))
def Xdo (c:Cf) (l:List Rec) (asks:List Qr):Bool:=(l.all Xa9 && asks.all fun q=>!bigQ q) && ((fewC c && decide ((l.length:Int)≤30)) && decide ((asks.length:Int)≤20))
def X37 (ω:Wd) (r:Rec):Wd:={ ω with l:=add ω.room ω.l r }
theorem X8w {ω:Wd} (h:X7t ω) (r:Rec):X7t (X37 ω r):=by
 refine ⟨?_,h.wf.add,h.D,h.now,h.room⟩
 show (add ω.room ω.l r).length≤64
 unfold add
 split
 ·rename_i e
  have:=(Xoi e).2.2.2
  have:=h.room
  rw [Y0,Ye,Yn]; omega
 ·exact h.len
theorem X54:∀ (l:List Rec) {ω:Wd},X7t ω→X7t (l.foldl X37 ω)
 | [],_,h=>h
 | r::l,_,h=>X54 l (X8w h r)
def Xl9 (c:Cf) (l:List Rec) (now:Int):Wd:=Xo9 (l.foldl X37 (w0 c)) now
theorem Xld (c:Cf) (l:List Rec) (now:Int):X7t (Xl9 c l now):=Xq4 (X54 l (Xep c)) now
def MadeT (c:Cf) (ω:Wd) (J:Im) (pv:Option Addr) (B w:World) (As:List Xe):Prop:=(X4o c≠0∧pv=none∧Sat B w J As)∨(X4o c=0∧∃ p D,Srt.Ord (kx (ords c.svs)) c.svs.length D∧p.lo=X3o c.svs D∧p.us=c.us∧p.ps=c.ps∧pv=some (ad p.wb 0)∧WpOk J p∧Sat B w J (wdA p ω::As))
structure CfAt (I:Im) (c:Cf) (a:Option Addr) (cap:Nat) (ua:Option Addr) (ucap:Nat):Prop where
 svs:SvsAt I a c.svs
 us:UsrsAt I ua c.us
 cap:c.svs.length≤cap∧cap≤maxLen
 un:c.us.length≤9223372036854775807
 sfit:∀ s∈c.svs,s.fits
 ufit:∀ u∈c.us,u.fits
theorem CfAt.mono {I J:Im} {c:Cf} {a ua:Option Addr} {cap ucap:Nat} (h:CfAt I c a cap ua ucap) (hl:Le I J):CfAt J c a cap ua ucap:=⟨h.svs.mono hl,h.us.mono hl,h.cap,h.un,h.sfit,h.ufit⟩
theorem X8z {I:Im} {c:Cf} {a ua:Option Addr} {cap ucap:Nat} (h:CfAt I c a cap ua ucap) (hf:fewC c=true):c.fits:=by
 unfold fewC at hf
 simp only [Yo] at hf
 have h1:=Xj9 hf.1
 refine ⟨by omega,Xlb h.sfit,Xly h.sfit h1.2,h.un,h.ufit⟩
theorem Xik (c:Cf) (a:Option Addr) (cap:Nat) (ua:Option Addr) (ucap:Nat) (la:Option Addr) (lc:Nat) (l:List Rec) (hll:l.length≤9223372036854775807) (qa:Option Addr) (qc:Nat) (asks:List Qr) (hql:asks.length≤9223372036854775807) (B w:World) (I:Im) (hC:CfAt I c a cap ua ucap) (hR:RS I la 10 l.length (Xy X7 l)) (hQ:RS I qa 4 asks.length (Xy X29 asks)) (As:List Xe) (hS:Sat B w I As) :
  Calls Tryz.prog 15 [.agg (Xz c a cap ua ucap).toArray,.slice la l.length lc,.slice qa asks.length qc].toArray w (Ret fun v w'=>v=.bool (Xdo c l asks)∧Sat B w' I As):=by
 refine calls Tryz.func15 rfl Tryz.ntmps15 rfl (.seq (.region (.boxA (cs:=Xz c a cap ua ucap) hS (.of rfl) rfl ?_)))
 clear hS; intro b3 w hS
 refine .q 1 rfl (.nil (.seq (.seq (.q 1 rfl (.block (.loop (σ:=Nat) (fun i=>[(1,.slice la l.length lc),(2,.slice qa asks.length qc),(3,ptr b3 0),(7,I64 (i:Nat))]) (fun i w=>i≤l.length∧(∀ (j:Nat) r,j<i→l[j]?=some r→Xa9 r=true)∧Sat B w I (blk b3 (Xz c a cap ua ucap) 34::As)) (fun i=>l.length - i) 0 ⟨rfl,rfl,rfl,rfl,trivial⟩ ⟨Yq _,fun _ _ h=>absurd h (by omega),hS⟩ ?_))))))
 rintro i w ⟨hi,hno,hS⟩
 refine .seq (.seq (.region (.run 4 rfl ⟨⟨_,X2x⟩,trivial⟩ (.nil ?_))))
 refine WC.cond rfl (fun hb14=>?_) (fun hb14=>?_)
 ·
  have hc14:=hb14; try simp only [Y6] at hc14
  refine .skip (.seq (.block (.seq ?_)))
  obtain ⟨r,hr⟩:∃ r,l[i]?=some r:=⟨_,Y4 (by omega)⟩
  obtain ⟨p,hp9,hx⟩:=X4d (cells:=X7) (s:=10) (fun _=>rfl) hR hr
  subst hp9
  refine .t 2 rfl ?_
  refine WL.val (.indexAddrI (.of rfl) (.of rfl) (by omega) (by omega) X2x X17) rfl ?_
  refine .val (.ldsI (.of rfl) hS hx X36 X17 rfl (fun _ _ h=>h)) rfl (.call Tryz.func59 rfl (X0 (.of rfl) X4) rfl (Xhh r B _ I _ hS) ?_)
  clear hS
  rintro _ w ⟨rfl,hS⟩
  refine .q 1 rfl (.nil (.seq (.q 2 rfl ?_)))
  refine WC.cond rfl (fun hb23=>?_) (fun hb23=>?_)
  ·
   refine .seq (.q 1 rfl (.ret (Xh Tryz.results15 rfl ?_)))
   refine ⟨_,rfl,congrArg Value.bool ?_,hS.drop (k:=0) rfl⟩
   have:l.all Xa9=false:=Y28.2 ⟨r,Yl hr,by simpa using hb23⟩
   rw [Xdo,this]; rfl
  have hc23:=hb23; try simp only [Y6] at hc23
  refine .skip (.region (.run 3 rfl ⟨⟨by omega,by omega⟩,trivial⟩ (.nil ?_)))
  refine ⟨i+1,⟨rfl,rfl,rfl,rfl,trivial⟩,⟨by (try dsimp only); omega,fun j t hj ht=>?_,hS⟩,by (try dsimp only); omega⟩
  rcases Yr j i with h1 | h1
  ·exact hno j t h1 ht
  ·have e:j=i:=by omega
   subst e
   rw [hr] at ht; cases ht
   simpa using hb23
 have hc14:=hb14; try simp only [Y6] at hc14
 refine .exit (.seq (.seq ?_))
 have hil:i=l.length:=by omega
 subst hil
 have hallr:l.all Xa9=true:=by
  rw [Y1d]
  intro r hr
  obtain ⟨j,hj⟩:=Y10.1 hr
  have:=(Y5.1 hj).1
  exact hno j r (by omega) hj
 refine .q 1 rfl (.block (.loop (σ:=Nat) (fun i=>[(1,.slice la l.length lc),(2,.slice qa asks.length qc),(3,ptr b3 0),(9,I64 (i:Nat))]) (fun i w=>i≤asks.length∧(∀ (j:Nat) q,j<i→asks[j]?=some q→bigQ q=false)∧Sat B w I (blk b3 (Xz c a cap ua ucap) 34::As)) (fun i=>asks.length - i) 0 ⟨rfl,rfl,rfl,rfl,trivial⟩ ⟨Yq _,fun _ _ h=>absurd h (by omega),hS⟩ ?_))
 rintro i w ⟨hi,hnq,hS⟩
 refine .seq (.seq (.region (.run 4 rfl ⟨⟨_,Xlf⟩,trivial⟩ (.nil ?_))))
 refine WC.cond rfl (fun hb27=>?_) (fun hb27=>?_)
 ·
  have hc27:=hb27; try simp only [Y6] at hc27
  refine .skip (.seq (.block (.seq ?_)))
  obtain ⟨q,hq0⟩:∃ q,asks[i]?=some q:=⟨_,Y4 (by omega)⟩
  obtain ⟨p,hp9,hq⟩:=X4d (cells:=X29) (s:=4) (fun _=>rfl) hQ hq0
  subst hp9
  unfold X29 at hq
  refine .t 2 rfl ?_
  refine WL.val (.indexAddrI (.of rfl) (.of rfl) (by omega) (by omega) Xlf Xmk) rfl ?_
  refine WL.val (.fieldAddrI 0 (.of rfl) Xag rfl rfl Qs9 rfl) rfl ?_
  refine WL.val (.ldI (.of rfl) hS (At.add hq _) Qg9 rfl) rfl ?_
  refine .run 3 rfl ⟨Qu9,trivial⟩ (.gval rfl rfl (fun hg1=>(.move (.of rfl))) rfl (.gval rfl rfl (fun hg1=>(.move (.of rfl))) rfl ?_))
  refine WL.gval rfl rfl (fun hg1=>(by exact .indexAddrI (.gd hg1 rfl) (.gd hg1 rfl) (by (try simp only [Y6] at hg1); omega) (by (try simp only [Y6] at hg1); omega) Xlf Xmk)) rfl ?_
  refine WL.gval rfl rfl (fun hg1=>(by exact .fieldAddrI 1 (.gd hg1 rfl) Xag rfl rfl Qs9 rfl)) rfl ?_
  refine WL.gval rfl rfl (fun hg1=>(by exact (.ldI (.gd hg1 rfl) hS (At.add hq _) Qg9 rfl))) rfl ?_
  refine .gval rfl rfl (fun hg1=>(.len (.gd hg1 rfl) Qu9)) rfl (.gval rfl rfl (fun hg1=>(.gtr (.gd hg1 rfl) (.of rfl))) rfl (.val (.por (.of rfl) (.of rfl) (.of rfl)) rfl (.nil ?_)))
  refine WC.cond rfl (fun hb45=>?_) (fun hb45=>?_)
  ·
   refine .seq (.q 1 rfl (.ret (Xh Tryz.results15 rfl ?_)))
   refine ⟨_,rfl,congrArg Value.bool ?_,hS.drop (k:=0) rfl⟩
   have:(asks.all fun q=>!bigQ q)=false:=Y28.2 ⟨q,Yl hq0,by rw [show bigQ q=true from hb45]; decide⟩
   rw [Xdo,this,Y3i]; rfl
  have hc45:=hb45; try simp only [Y6] at hc45
  refine .skip (.region (.run 3 rfl ⟨⟨by omega,by omega⟩,trivial⟩ (.nil ?_)))
  refine ⟨i+1,⟨rfl,rfl,rfl,rfl,trivial⟩,⟨by (try dsimp only); omega,fun j t hj ht=>?_,hS⟩,by (try dsimp only); omega⟩
  rcases Yr j i with h1 | h1
  ·exact hnq j t h1 ht
  ·have e:j=i:=by omega
   subst e
   rw [hq0] at ht; cases ht
   exact hb45
 have hc27:=hb27; try simp only [Y6] at hc27
 refine .exit (.seq (.region ?_))
 refine WL.val (.lds (vs:=Xz c a cap ua ucap) (.of rfl) hS (k:=0) rfl Xr3 Xl3 rfl (fun j v hj=>by rw [Yc]; exact hj)) rfl ?_
 refine .call Tryz.func60 rfl (X0 (.of rfl) X4) rfl (Xnx c a cap ua ucap hC.cap.1 hC.cap.2 hC.un hC.ufit B _ I hC.svs hC.us _ hS) ?_
 clear hS
 rintro _ w ⟨rfl,hS⟩
 refine .q 1 rfl (.nil (.seq (.t 2 rfl (.gval rfl rfl (fun hg1=>(.move (.of rfl))) rfl (.gval rfl rfl (fun hg1=>(.lenSlice (.gd hg1 rfl) X2x)) rfl (.gval rfl rfl (fun hg1=>(.leq (.gd hg1 rfl) (.of rfl))) rfl (.val (.pand (.of rfl) (.of rfl) (.of rfl)) rfl (.q 1 rfl (.gval rfl rfl (fun hg1=>(.move (.of rfl))) rfl (.gval rfl rfl (fun hg1=>(.lenSlice (.gd hg1 rfl) Xlf)) rfl (.gval rfl rfl (fun hg1=>(.leq (.gd hg1 rfl) (.of rfl))) rfl (.val (.pand (.of rfl) (.of rfl) (.of rfl)) rfl (.q 1 rfl (.nil (.ret (Xh Tryz.results15 rfl ?_))))))))))))))))
 refine ⟨_,rfl,congrArg Value.bool ?_,hS.drop (k:=0) rfl⟩
 have:(asks.all fun q=>!bigQ q)=true:=by
  rw [Y1d]
  intro q hq
  obtain ⟨j,hj⟩:=Y10.1 hq
  have:=(Y5.1 hj).1
  rw [hnq j q (by omega) hj]; rfl
 rw [Xdo,hallr,this]; rfl
theorem Xgf (c:Cf) (a:Option Addr) (cap:Nat) (ua:Option Addr) (ucap:Nat) (hc:c.fits) (la:Option Addr) (lc:Nat) (l:List Rec) (hll:l.length≤9223372036854775807) (hsr:∀ r∈l,r.name.length≤60∧r.parent.length≤60) (now:Int) (B w:World) (I:Im) (hK:Known I) (hP:PreAt I) (hC:CfAt I c a cap ua ucap) (hR:RS I la 10 l.length (Xy X7 l)) (As:List Xe) (hS:Sat B w I As) :
  Calls Tryz.prog 16 [.agg (Xz c a cap ua ucap).toArray,.slice la l.length lc,I64 now].toArray w (Ret fun v w'=>∃ J pv,Le I J∧v=.pointer pv∧MadeT c (Xl9 c l now) J pv B w' As):=by
 refine calls Tryz.func16 rfl Tryz.ntmps16 rfl (.seq (.region (.boxA (cs:=Xz c a cap ua ucap) hS (.of rfl) rfl ?_)))
 clear hS; intro b3 w hS
 refine .q 1 rfl (.nil (.seq (.region ?_)))
 refine WL.val (.lds (vs:=Xz c a cap ua ucap) (.of rfl) hS (k:=0) rfl Xr3 Xl3 rfl (fun j v hj=>by rw [Yc]; exact hj)) rfl ?_
 refine .call Tryz.func41 rfl (X0 (.of rfl) X4) rfl (X7g c hc a cap ua ucap B _ I hK hP hC.svs hC.us _ hS) ?_
 clear hS
 rintro v w ⟨J,hJ,hcase⟩
 obtain ⟨pv,e9,rfl,hcs⟩:∃ (pv:Option Addr) (e9:Nat),v=.tuple #[.pointer pv,I64 (e9:Nat)]∧((X4o c≠0∧pv=none∧Sat B w J (blk b3 (Xz c a cap ua ucap) 34::As))∨(X4o c=0∧∃ p D,Srt.Ord (kx (ords c.svs)) c.svs.length D∧p.lo=X3o c.svs D∧p.us=c.us∧p.ps=c.ps∧pv=some (ad p.wb 0)∧WpOk J p∧Sat B w J (wdA p (w0 c)::blk b3 (Xz c a cap ua ucap) 34::As))):=by
  rcases hcase with ⟨h1,h2,h3⟩ | ⟨h1,p,D,h2,h3,h4,h5,h6,h7,h8⟩
  ·exact ⟨_,_,h2,.inl ⟨h1,rfl,h3⟩⟩
  ·exact ⟨_,0,h6,.inr ⟨h1,p,D,h2,h3,h4,h5,rfl,h7,h8⟩⟩
 refine .q 5 rfl (.nil (.seq (.seq (.t 1 rfl (.val (.eqp (.of rfl) (.of rfl) Qu39) rfl (.nil ?_))))))
 refine WC.cond rfl (fun hb16=>?_) (fun hb16=>?_)
 ·
  refine .seq (.q 1 rfl (.ret (Xh Tryz.results16 rfl ?_)))
  rcases hcs with ⟨h1,rfl,hS⟩ | ⟨_,p,D,_,_,_,_,h9,_⟩
  ·exact ⟨_,rfl,J,none,hJ,rfl,.inl ⟨h1,rfl,hS.drop (k:=0) rfl⟩⟩
  ·exfalso; rw [h9] at hb16; cases hb16
 have hc16:=hb16; try simp only [Y6] at hc16
 refine .skip (.seq (.seq (.q 1 rfl (.block ?_))))
 rcases hcs with ⟨_,h9,_⟩ | ⟨hz,p,D,hD,hlo,hus,hps,hpv,hI,hS⟩
 ·exfalso; rw [h9] at hb16; cases hb16
 subst hpv
 refine .loop (σ:=Nat) (fun i=>[(1,.slice la l.length lc),(2,I64 now),(7,ptr p.wb 0),(9,I64 (i:Nat))]) (fun i w=>i≤l.length∧Sat B w J (wdA p ((l.take i).foldl X37 (w0 c))::blk b3 (Xz c a cap ua ucap) 34::As)) (fun i=>l.length - i) 0 ⟨rfl,rfl,rfl,rfl,trivial⟩ ⟨Yq _,hS⟩ ?_
 rintro i w ⟨hi,hS⟩
 refine .seq (.seq (.region (.run 4 rfl ⟨⟨_,X2x⟩,trivial⟩ (.nil ?_))))
 refine WC.cond rfl (fun hb20=>?_) (fun hb20=>?_)
 ·
  have hc20:=hb20; try simp only [Y6] at hc20
  refine .skip (.seq (.block ?_))
  obtain ⟨⟨a9,c9,ma9,mc9⟩,hS⟩:=Sat.unbox hS
  replace hS:Sat B _ _ (blk p.wb (wdC p ((l.take i).foldl X37 (w0 c))) 52::blk p.tb [I64 ((l.take i).foldl X37 (w0 c)).room,.slice a9 ((l.take i).foldl X37 (w0 c)).l.length c9] 127::Vec 45 10 (.slice a9 ((l.take i).foldl X37 (w0 c)).l.length c9) ((l.take i).foldl X37 (w0 c)).l.length (Xv ((l.take i).foldl X37 (w0 c)).l)::blk p.mb [.slice ma9 ((l.take i).foldl X37 (w0 c)).D.length mc9] 168::Xit 118 (.slice ma9 ((l.take i).foldl X37 (w0 c)).D.length mc9) (((l.take i).foldl X37 (w0 c)).D.map fun d=>U64 (d:Nat))::_):=hS
  obtain ⟨r,hr⟩:∃ r,l[i]?=some r:=⟨_,Y4 (by omega)⟩
  obtain ⟨pp,hp9,hx⟩:=X4d (cells:=X7) (s:=10) (fun _=>rfl) hR hr
  subst hp9
  have hω:=X54 (l.take i) (Xep c)
  have hlen:=hω.len
  refine .drawn (fun w=>∃ R,Sat B w J (blk p.wb (wdC p ((l.take i).foldl X37 (w0 c))) 52::R)) (fun j=>!([].contains j)) (by kernel_rfl) ?_
  replace hS:=hS.drew; generalize w.drew=w at hS ⊢
  have hH:=(hS.pick 0 rfl)
  refine .tp (i:=0) rfl (by kernel_rfl) (fun w=>(.move (.of rfl))) rfl (.tp (i:=1) rfl (by kernel_rfl) (fun w=>(.nilCheck (.of rfl))) rfl ?_)
  refine WD.tp (i:=2) rfl (by kernel_rfl) (fun w=>(.fieldAddr 0 (.of rfl) Xc2 rfl rfl Xkw rfl)) rfl ?_
  refine .tk (i:=3) rfl (by kernel_rfl) ⟨_,hH⟩ (fun w ⟨R,hS⟩=>(.ld (.of rfl) hS (k:=0) rfl Xkx rfl)) rfl (.tp (i:=4) rfl (by kernel_rfl) (fun w=>(.move (.of rfl))) rfl (.tp (i:=5) rfl (by kernel_rfl) (fun w=>(.move (.of rfl))) rfl ?_))
  refine WD.tp (i:=6) rfl (by kernel_rfl) (fun w=>(.indexAddrI (.of rfl) (.of rfl) (by omega) (by omega) X2x X17)) rfl ?_
  refine .tk (i:=7) rfl (by kernel_rfl) ⟨_,hH⟩ (fun w ⟨R,hS⟩=>.ldsI (.of rfl) hS (hx.mono hJ) X36 X17 rfl (fun _ _ h=>h)) rfl ?_
  refine WD.branch [8] (by kernel_rfl) rfl (WO.cons rfl ?_ (WO.nil))
  refine WL.call Qf57 rfl (X0 (.of rfl) (X0 (.of rfl) X4)) rfl (Xf9 p.tb ((l.take i).foldl X37 (w0 c)).room a9 c9 ((l.take i).foldl X37 (w0 c)).l (by omega) r (by have:=hsr r (Yl hr); omega) (by have:=hsr r (Yl hr); omega) B _ J hI.known hI.pre _ ((hS.pick 2 rfl).pick 2 rfl)) ?_
  clear hS
  rintro _ w ⟨rfl,a2,c2,hS⟩
  try dsimp only [List.eraseIdx] at hS
  refine .nil ?_
  clear hH
  have hH:=(hS.pick 2 rfl)
  refine And.intro (by intro _ _; exact ⟨_,hH⟩) ?_
  refine .done (by kernel_rfl) (.region (.run 3 rfl ⟨⟨by omega,by omega⟩,trivial⟩ (.nil ?_)))
  replace hS:=Sat.box (T:=wdT p (X37 ((l.take i).foldl X37 (w0 c)) r)) (a2,c2,ma9,mc9) (((((hS.pick 4 rfl).pick 4 rfl).pick 3 rfl).pick 3 rfl).pick 4 rfl)
  try dsimp only [List.eraseIdx] at hS
  refine ⟨i+1,⟨rfl,rfl,rfl,rfl,trivial⟩,⟨by (try dsimp only); omega,?_⟩,by (try dsimp only); omega⟩
  show Sat B _ J (wdA p ((l.take (i+1)).foldl X37 (w0 c))::_)
  rw [Y15,hr,Y1s,Y2x]
  exact hS
 have hc20:=hb20; try simp only [Y6] at hc20
 refine .exit (.seq ?_)
 have hil:i=l.length:=by omega
 subst hil
 rw [Y19] at hS
 refine .t 2 rfl (.call Tryz.func20 rfl (X0 (.of rfl) (X0 (.of rfl) X4)) rfl (Xn4 p _ now (X54 l (Xep c)) B _ J _ hS) ?_)
 clear hS
 rintro _ w ⟨rfl,hS⟩
 refine .nil (.seq (.q 2 rfl (.ret (Xh Tryz.results16 rfl ?_))))
 exact ⟨_,rfl,J,_,hJ,rfl,.inr ⟨hz,p,D,hD,hlo,hus,hps,rfl,hI,hS.drop (k:=1) rfl⟩⟩
theorem Xp2:Bld Tryz.prog 34 [(0,1),(1,1),(2,21),(23,1),(24,1),(25,1),(26,1),(27,1)] [.slice none 0 0,.slice none 0 0,.int .i64 0,.int .i64 0,.int .i64 0,.int .i64 0,.int .i64 0,.int .i64 0,.int .i64 0,.int .i64 0,.int .i64 0,.int .i64 0,.int .i64 0,.int .i64 0,.int .i64 0,.int .i64 0,.int .i64 0,.int .i64 0,.int .i64 0,.int .i64 0,.int .i64 0,.int .i64 0,.int .i64 0,.int .i64 0,.float .f64 0,.float .f64 0,.float .f64 0,.int .i64 0]:=X26 Xdl Tryz.zeroValue34 (fun w=>by simp [go_sem])
theorem Xiq:Bld Tryz.prog 43 [(0,1),(1,1),(2,1),(3,1)] [S [],S [],.bool false,.bool false]:=X26 Xag Tryz.zeroValue43 (fun w=>by simp [go_sem])
theorem Xpy:Bld Tryz.prog 67 [(0,1),(1,1),(2,1)] [S [],S [],.slice none 0 0]:=X26 X5g Qz67 (fun w=>by simp [go_sem])
def AWS:Sv:=⟨0,0,[104,116,116,112,58,47,47,97,47,42,42],true,false,false,[],[]⟩
def AWUs:Us:=⟨[117],[112],[]⟩
def AWC:Cf:=⟨[AWS],[AWUs],fun _=>0,9,0,0,0,0⟩
def AR1:Rec:=⟨1,Xh2 1 ++ 45::Xdm 16 1,[],[117],[],[],0,0,0,false⟩
def AR2:Rec:=⟨2,Xh2 2 ++ 45::Xdm 16 2,Xh2 1 ++ 45::Xdm 16 1,[117],[104,116,116,112,58,47,47,97,47,120],[],0,0,0,false⟩
def AQ:Qr:=⟨Xh2 2 ++ 45::Xdm 16 2,[72,84,84,80,58,47,47,65,47,120],false,false⟩
def AO2:Wd:=X37 (X37 (w0 AWC) AR1) AR2
theorem Xqy:X4o AWC=0:=by kernel_rfl
theorem Xpk:Srt.Ord (kx (ords [AWS])) 1 [0]:=⟨by decide +kernel,by decide +kernel⟩
theorem Xnb:AWC.fits:=⟨by decide,by decide +kernel,by decide +kernel,by decide,fun u hu=>by
 rw [show AWC.us=[AWUs] from rfl,List.mem_singleton] at hu; subst hu
 exact ⟨by decide,by decide,by decide,fun p hp=>by simp [AWUs] at hp⟩⟩
theorem Xmn {J:Im} {s u:Nat} {E F:TypeId} (h1:J s=some (Xq [I64 0,F64 0,S AWS.urls,.bool true,.bool false,.bool false,S [],.slice none 0 0] E)) (h2:J u=some (Xq [S AWUs.name,S AWUs.pw,.slice none 0 0] F)):SvsAt J (some (ad s 0)) [AWS]∧UsrsAt J (some (ad u 0)) [AWUs]:=by
 constructor
 ·intro i t ht
  match i,ht with
  | 0,ht=>cases ht; exact ⟨_,none,0,rfl,X87 h1,Yu _,RS.nil _ _⟩
  | i+1,ht=>simp at ht
 ·intro i t ht
  match i,ht with
  | 0,ht=>cases ht; exact ⟨_,none,0,rfl,X87 h2,Yu _,RS.nil _ _⟩
  | i+1,ht=>simp at ht
set_option maxRecDepth 20000 in
theorem Xdp (B w:World) (I:Im) (hK:Known I) (hP:PreAt I) (As:List Xe) (hS:Sat B w I As) :
  Calls Tryz.prog 13 [].toArray w (Ret fun v w'=>v=.bool true∧Sat B w' I As):=by
 refine calls Tryz.func13 rfl Tryz.ntmps13 rfl (.seq (.q 1 rfl (.seq (.region (.val (.build (cs:=[_,_,_,_,_,_,_,_]) (X5 (.of rfl) (X5 (.of rfl) X6)) X2w rfl) rfl (.buildSlice (cs:=[_,_,_,_,_,_,_,_]) hS (X5 (.of rfl) X6) X7o X12 X82 rfl rfl rfl rfl ?_))))))
 clear hS; intro b15 w hS
 refine .val (.build (cs:=[_,_,_]) (X5 (.of rfl) (X5 (.of rfl) X6)) Xpy rfl) rfl (.buildSlice (cs:=[_,_,_]) hS (X5 (.of rfl) X6) X9n X9p Qz67 rfl rfl rfl rfl ?_)
 clear hS; intro b17 w hS
 refine .val (.build (cs:=[_,_,_,_,_,_,_,_,_,_,_,_,_,_,_,_,_,_,_,_,_,_,_,_,_,_,_,_]) (X5 (.of rfl) (X5 (.of rfl) (X5 (.of rfl) X6))) Xp2 rfl) rfl ?_
 obtain ⟨J1,hJ1,hb17,hS⟩:=hS.freeze (k:=0) rfl
 obtain ⟨J2,hJ2,hb15,hS⟩:=hS.freeze (k:=0) rfl
 have hcf:=Xmn (J:=J2) hb15 (hJ2 _ _ hb17)
 refine .call Tryz.func41 rfl (X0 (.of rfl) X4) rfl (X7g AWC Xnb (some (ad b15 0)) 1 (some (ad b17 0)) 1 B _ J2 ((hK.mono hJ1).mono hJ2) ((hP.mono hJ1).mono hJ2) hcf.1 hcf.2 _ hS) ?_
 clear hS
 rintro v w ⟨J,hJ,hcase⟩
 obtain ⟨_,p,D,hD,hlo,hus,hps,rfl,hI,hS⟩:=hcase.resolve_left (fun h=>h.1 Xqy)
 obtain rfl:D=[0]:=hD.unique Xpk
 have hlo:p.lo=[AWS]:=hlo
 have hus:p.us=[AWUs]:=hus
 have hps:p.ps=fun _=>0:=hps
 refine .q 5 rfl (.nil (.seq (.seq ?_)))
 obtain ⟨⟨a,c,ma,mc⟩,hS⟩:=Sat.unbox hS
 replace hS:Sat B _ _ (blk p.wb (wdC p (w0 AWC)) 52::blk p.tb [I64 (w0 AWC).room,.slice a (w0 AWC).l.length c] 127::Vec 45 10 (.slice a (w0 AWC).l.length c) (w0 AWC).l.length (Xv (w0 AWC).l)::blk p.mb [.slice ma (w0 AWC).D.length mc] 168::Xit 118 (.slice ma (w0 AWC).D.length mc) ((w0 AWC).D.map fun d=>U64 (d:Nat))::_):=hS
 refine .t 1 rfl (.val (.eqp (.of rfl) (.of rfl) Qu39) rfl (.q 1 rfl (.gval rfl rfl (fun hg1=>(.move (.of rfl))) rfl (.gval rfl rfl (fun hg1=>(.neq (.gd hg1 rfl) (.of rfl))) rfl (.val (.por (.of rfl) (.of rfl) (.of rfl)) rfl (.q 1 rfl (.gval rfl rfl (fun hg1=>(.move (.of rfl))) rfl (.gval rfl rfl (fun hg1=>(.nilCheck (.gd hg1 rfl))) rfl ?_))))))))
 refine WL.gval rfl rfl (fun hg1=>(by exact .fieldAddr 0 (.gd hg1 rfl) Xc2 rfl rfl Xkw rfl)) rfl ?_
 refine WL.gval rfl rfl (fun hg1=>(by exact (.ld (.gd hg1 rfl) hS (k:=0) rfl Xkx rfl))) rfl ?_
 refine .gval rfl rfl (fun hg1=>(.eqp (.gd hg1 rfl) (.of rfl) Tryz.underlying47)) rfl (.val (.por (.of rfl) (.of rfl) (.of rfl)) rfl (.nil (.condF (rfl) (.skip (.seq (.region (.call Tryz.func56 rfl (X0 (.of rfl) (X0 (.of rfl) X4)) rfl (X90 1 1 (by decide) B _ J _ hS) ?_)))))))
 clear hS
 rintro v w ⟨hv9,hS⟩
 rw [if_neg (by decide)] at hv9
 subst hv9
 refine .q 5 rfl (.nil (.seq (.region (.call Tryz.func56 rfl (X0 (.of rfl) (X0 (.of rfl) X4)) rfl (X90 2 2 (by decide) B _ J _ hS) ?_))))
 clear hS
 rintro v w ⟨hv9,hS⟩
 rw [if_neg (by decide)] at hv9
 subst hv9
 refine .q 5 rfl (.nil (.seq (.t 2 rfl ?_)))
 refine WL.val (.fieldAddr 0 (.of rfl) Xc2 rfl rfl Xkw rfl) rfl ?_
 refine WL.val (.ld (.of rfl) hS (k:=0) rfl Xkx rfl) rfl ?_
 refine .q 1 rfl (.val (.build (cs:=[_,_,_,_,_,_,_,_,_,_]) (X5 (.of rfl) (X5 (.of rfl) (X5 (.of rfl) X6))) X2d rfl) rfl (.call Qf57 rfl (X0 (.of rfl) (X0 (.of rfl) X4)) rfl (Xf9 p.tb (w0 AWC).room a c (w0 AWC).l (by decide +kernel) AR1 (by decide) (by decide) B _ J hI.known hI.pre _ ((hS.pick 2 rfl).pick 2 rfl)) ?_))
 clear hS
 rintro _ w ⟨rfl,a4,c4,hS⟩
 refine .q 1 rfl (.nil (.seq (.t 2 rfl ?_)))
 refine WL.val (.fieldAddr 0 (.of rfl) Xc2 rfl rfl Xkw rfl) rfl ?_
 refine WL.val (.ld (.of rfl) hS (k:=2) rfl Xkx rfl) rfl ?_
 refine .q 2 rfl (.val (.build (cs:=[_,_,_,_,_,_,_,_,_,_]) (X5 (.of rfl) (X5 (.of rfl) (X5 (.of rfl) (X5 (.of rfl) (X5 (.of rfl) X6))))) X2d rfl) rfl (.call Qf57 rfl (X0 (.of rfl) (X0 (.of rfl) X4)) rfl (Xf9 p.tb (X37 (w0 AWC) AR1).room a4 c4 (X37 (w0 AWC) AR1).l (by decide +kernel) AR2 (by decide) (by decide) B _ J hI.known hI.pre _ ((hS.pick 1 rfl).pick 1 rfl)) ?_))
 clear hS
 rintro _ w ⟨rfl,a5,c5,hS⟩
 refine .q 1 rfl (.nil (.seq ?_))
 replace hS:=Sat.box (T:=wdT p AO2) (a5,c5,ma,mc) (((((hS.pick 4 rfl).pick 4 rfl).pick 3 rfl).pick 3 rfl).pick 4 rfl)
 refine .t 2 rfl (.val (.build (cs:=[_,_,_,_]) (X5 (.of rfl) (X5 (.of rfl) X6)) Xiq rfl) rfl (.call Qf18 rfl (X0 (.of rfl) (X0 (.of rfl) X4)) rfl (X6x AQ (by decide) (by decide) p AO2 (X8w (X8w (Xep AWC) AR1) AR2) B _ J hI _ hS) ?_))
 clear hS
 rintro _ w ⟨J6,_,hJ6,rfl,⟨ka6,kc6,pa6,pc6,rfl,_,_,_,_⟩,hS⟩
 refine .q 3 rfl (.allocA (cs:=[_,_,_,_]) hS Xod rfl ?_)
 clear hS; intro b9 w hS
 refine WL.stA hS (k:=0) rfl (.of rfl) (.of rfl) rfl X4i rfl (by simp) ?_
 clear hS; intro w hS
 try simp only [Yh,Yd,Y9,Y7,Yg,Ym,Yc] at hS
 refine .q 1 rfl (.nil (.seq (.t 2 rfl (.val (.build (cs:=[_,_,_,_]) (X5 (.of rfl) (X5 (.of rfl) X6)) Xiq rfl) rfl (.call Qf18 rfl (X0 (.of rfl) (X0 (.of rfl) X4)) rfl (X6x AQ (by decide) (by decide) p (Xf p.ps AO2 AQ).2 (X76 (X8w (X8w (Xep AWC) AR1) AR2) AQ) B _ J6 (hI.mono hJ6) _ (hS.pick 1 rfl)) ?_)))))
 clear hS
 rintro _ w ⟨J7,_,hJ7,rfl,⟨ka7,kc7,pa7,pc7,rfl,_,_,_,_⟩,hS⟩
 refine .q 3 rfl (.allocA (cs:=[_,_,_,_]) hS Xod rfl ?_)
 clear hS; intro b11 w hS
 refine WL.stA hS (k:=0) rfl (.of rfl) (.of rfl) rfl X4i rfl (by simp) ?_
 clear hS; intro w hS
 try simp only [Yh,Yd,Y9,Y7,Yg,Ym,Yc] at hS
 refine .q 1 rfl (.nil (.seq (.t 3 rfl (.gval rfl rfl (fun hg1=>(.move (.of rfl))) rfl (.gval rfl rfl (fun hg1=>(.eql (.gd hg1 rfl) (.of rfl))) rfl (.val (.pand (.of rfl) (.of rfl) (.of rfl)) rfl (.q 1 rfl (.gval rfl rfl (fun hg1=>(.move (.of rfl))) rfl (.gval rfl rfl (fun hg1=>(.eql (.gd hg1 rfl) (.of rfl))) rfl (.val (.pand (.of rfl) (.of rfl) (.of rfl)) rfl (.q 1 rfl ?_)))))))))))
 refine WL.gval rfl rfl (fun hg1=>(by exact .fieldAddr 0 (.of rfl) Xkv rfl rfl Qs9 rfl)) rfl ?_
 refine WL.gval rfl rfl (fun hg1=>(by exact (.ld (.gd hg1 rfl) hS (k:=2) rfl Qg9 rfl))) rfl ?_
 refine .gval rfl rfl (fun hg1=>(.eqs (.gd hg1 rfl) (.of rfl))) rfl (.val (.pand (.of rfl) (.of rfl) (.of rfl)) rfl (.q 1 rfl (.gval rfl rfl (fun hg1=>(.move (.of rfl))) rfl (.gval rfl rfl (fun hg1=>(.eql (.gd hg1 rfl) (.of rfl))) rfl (.val (.pand (.of rfl) (.of rfl) (.of rfl)) rfl (.q 1 rfl (.gval rfl rfl (fun hg1=>(.move (.of rfl))) rfl (.gcall (T:=fun w=>Sat B w J7 _) rfl rfl rfl Tryz.func14 rfl (fun hg1=>(X0 (.gd hg1 rfl) X4)) rfl (fun hg1=>Xfu _ B _ J7 _ hS) hS ?_))))))))
 clear hS; rintro w hS
 refine .gval rfl rfl (fun hg1=>(.eqs (.gd hg1 rfl) (.of rfl))) rfl (.val (.pand (.of rfl) (.of rfl) (.of rfl)) rfl (.q 1 rfl (.nil (.ret (Xh Tryz.results13 rfl ?_)))))
 refine ⟨_,rfl,?_,((((hS.drop (k:=0) rfl).drop (k:=1) rfl).drop (k:=0) rfl).weaken (hJ1.trans (hJ2.trans (hJ.trans (hJ6.trans hJ7)))))⟩
 refine congrArg Value.bool ?_
 rw [hlo,hus,hps]
 kernel_rfl
theorem Xjn (r s:Rec) (w:World):(Op.equalIn 10000 45 (.agg (X7 r).toArray) (.agg (X7 s).toArray)).run Tryz.prog w=.ok (decide (r=s)) w:=by
 have hS:Tryz.prog.underlying 45=some (.struct (Tryz.prog.fieldsOf 45)):=by kernel_rfl
 have hp:Tryz.prog.stoodInHeld 45=false:=by kernel_rfl
 have ui:=Qu3
 have ai:=Qg3
 have us:=Qu9
 have as9:=Qg9
 have ub:=Qu4
 have ab:=Qg4
 rw [show (10000:Nat)=9999+1 from rfl,run_equalIn_agg w 9999 45 _ _ hS hp]
 simp only [Program.fieldsOf,X16]
 obtain ⟨k,n,pa,u,sv,ur,m,us',uc,f⟩:=r
 obtain ⟨k',n',pa',u',sv',ur',m',us'',uc',f'⟩:=s
 unfold X7
 go_simp
 repeat' split
 all_goals simp_all
theorem Ex.neRec {n:Nat} {L:Env} {w:World} {d:Option Nat} {ty t':TypeId} {pos:String} {af:Array Edge} {g:Option (Nat×Bool)} {x y:Operand} {r s:Rec} (hx:Ev n L x (.agg (X7 r).toArray)) (hy:Ev n L y (.agg (X7 s).toArray)):Ex Tryz.prog n L w ⟨d,.binOp .neq 45 x y t',ty,pos,af,g⟩ (.bool (!decide (r=s))) w :=
 X1d hx hy (fun p q=>run_eqGuard_agg w _ _ _ _ _ _ (by kernel_rfl)) (by rw [run_neq_struct,Xjn]; rfl)
def Xjh (s:List UInt8):List Value:=[S s]
theorem rowsT (l:List (List UInt8)):Xy Xjh l=l.map S:=by
 unfold Xy
 induction l with
 | nil=>rfl
 | cons x l ih=>rw [Y1e,Y1v,ih]; rfl
theorem Xdx {c:Cf} {l:List Rec} {asks:List Qr} (h:Xdo c l asks=true):fewC c=true∧(∀ r∈l,r.name.length≤60∧r.parent.length≤60)∧l.length≤30∧asks.length≤20∧∀ q∈asks,q.ticket.length≤60∧q.service.length≤200:=by
 unfold Xdo at h
 simp only [Yo,decide_eq_true_eq,Y1d] at h
 obtain ⟨⟨h1,h2⟩,⟨h3,h4⟩,h5⟩:=h
 refine ⟨h3,fun r hr=>?_,by omega,by omega,fun q hq=>?_⟩
 ·have:=h1 r hr
  unfold Xa9 at this
  simp only [Yo,decide_eq_true_eq] at this
  omega
 ·have:=h2 q hq
  unfold bigQ at this
  simp only [Y2w,Y13,decide_eq_false_iff_not] at this
  omega
end Go.Proofs.YtadhiihnnkcagaaGreatDoor
namespace Go.Proofs.YtadhiihnnkcagaaGreatDoor
open Gk Ul Pc Tk Tr Go.RowKit Go.WideShapes Go.ChangeShapes
set_option maxRecDepth 100000
theorem Xj4 {H:Type} {enc:TypeId×Value→H} {W:World} {spare:Nat→Bool} {held:Bool} {fuel:Nat} {cs:List Value} {x:DataW H×List MemPlace} (h:DataW.trod enc Tryz.prog W 0 spare held fuel 69 cs=some x):∃ z:Pr,cs=Xk z∧X1k z:=by
 obtain ⟨xs,n,_,_,hcl,hxl,hf⟩:=DataW.trod_struct Xi1 h
 rw [show Tryz.prog.cellsOf 69=2 from by kernel_rfl] at hcl
 obtain ⟨y0,hy0⟩:∃ y,DataW.trod enc Tryz.prog W 0 spare held n 9 ((cs.drop 0).take (Tryz.prog.cellsOf 9))=some y:=⟨_,(hf 0 _ rfl).trans (Y4 (by rw [hxl]; decide))⟩
 rw [show Tryz.prog.cellsOf 9=1 from by kernel_rfl] at hy0
 obtain ⟨y1,hy1⟩:∃ y,DataW.trod enc Tryz.prog W 0 spare held n 9 ((cs.drop 1).take (Tryz.prog.cellsOf 9))=some y:=⟨_,(hf 1 _ rfl).trans (Y4 (by rw [hxl]; decide))⟩
 rw [show Tryz.prog.cellsOf 9=1 from by kernel_rfl] at hy1
 obtain ⟨v0,v1,rfl⟩:∃ v0 v1,cs=[v0,v1]:=by
  match cs,hcl with
  | [v0,v1],_=>exact ⟨v0,v1,rfl⟩
 simp only [Y7,Yg,Y20,Yh] at hy0 hy1
 obtain ⟨z0,e0,_,w0⟩:=DataW.trod_string Qu9 hy0
 obtain ⟨z1,e1,_,w1⟩:=DataW.trod_string Qu9 hy1
 simp only [List.cons.injEq,and_true] at e0 e1
 subst e0 e1
 exact ⟨(z0.data.toList,z1.data.toList),rfl,⟨w0,w1⟩⟩
def Xob (r:Rec):Prop:=r.name.length≤maxLen∧r.parent.length≤maxLen∧r.user.length≤maxLen∧r.service.length≤maxLen∧r.url.length≤maxLen
def qrFit (q:Qr):Prop:=q.ticket.length≤maxLen∧q.service.length≤maxLen
theorem Xnh {H:Type} {enc:TypeId×Value→H} {W:World} {spare:Nat→Bool} {held:Bool} {fuel:Nat} {cs:List Value} {x:DataW H×List MemPlace} (h:DataW.trod enc Tryz.prog W 0 spare held fuel 45 cs=some x):∃ z:Rec,cs=X7 z∧Xob z:=by
 obtain ⟨xs,n,_,_,hcl,hxl,hf⟩:=DataW.trod_struct X16 h
 rw [show Tryz.prog.cellsOf 45=10 from by kernel_rfl] at hcl
 obtain ⟨y0,hy0⟩:∃ y,DataW.trod enc Tryz.prog W 0 spare held n 3 ((cs.drop 0).take (Tryz.prog.cellsOf 3))=some y:=⟨_,(hf 0 _ rfl).trans (Y4 (by rw [hxl]; decide))⟩
 rw [show Tryz.prog.cellsOf 3=1 from by kernel_rfl] at hy0
 obtain ⟨y1,hy1⟩:∃ y,DataW.trod enc Tryz.prog W 0 spare held n 9 ((cs.drop 1).take (Tryz.prog.cellsOf 9))=some y:=⟨_,(hf 1 _ rfl).trans (Y4 (by rw [hxl]; decide))⟩
 rw [show Tryz.prog.cellsOf 9=1 from by kernel_rfl] at hy1
 obtain ⟨y2,hy2⟩:∃ y,DataW.trod enc Tryz.prog W 0 spare held n 9 ((cs.drop 2).take (Tryz.prog.cellsOf 9))=some y:=⟨_,(hf 2 _ rfl).trans (Y4 (by rw [hxl]; decide))⟩
 rw [show Tryz.prog.cellsOf 9=1 from by kernel_rfl] at hy2
 obtain ⟨y3,hy3⟩:∃ y,DataW.trod enc Tryz.prog W 0 spare held n 9 ((cs.drop 3).take (Tryz.prog.cellsOf 9))=some y:=⟨_,(hf 3 _ rfl).trans (Y4 (by rw [hxl]; decide))⟩
 rw [show Tryz.prog.cellsOf 9=1 from by kernel_rfl] at hy3
 obtain ⟨y4,hy4⟩:∃ y,DataW.trod enc Tryz.prog W 0 spare held n 9 ((cs.drop 4).take (Tryz.prog.cellsOf 9))=some y:=⟨_,(hf 4 _ rfl).trans (Y4 (by rw [hxl]; decide))⟩
 rw [show Tryz.prog.cellsOf 9=1 from by kernel_rfl] at hy4
 obtain ⟨y5,hy5⟩:∃ y,DataW.trod enc Tryz.prog W 0 spare held n 9 ((cs.drop 5).take (Tryz.prog.cellsOf 9))=some y:=⟨_,(hf 5 _ rfl).trans (Y4 (by rw [hxl]; decide))⟩
 rw [show Tryz.prog.cellsOf 9=1 from by kernel_rfl] at hy5
 obtain ⟨y6,hy6⟩:∃ y,DataW.trod enc Tryz.prog W 0 spare held n 3 ((cs.drop 6).take (Tryz.prog.cellsOf 3))=some y:=⟨_,(hf 6 _ rfl).trans (Y4 (by rw [hxl]; decide))⟩
 rw [show Tryz.prog.cellsOf 3=1 from by kernel_rfl] at hy6
 obtain ⟨y7,hy7⟩:∃ y,DataW.trod enc Tryz.prog W 0 spare held n 3 ((cs.drop 7).take (Tryz.prog.cellsOf 3))=some y:=⟨_,(hf 7 _ rfl).trans (Y4 (by rw [hxl]; decide))⟩
 rw [show Tryz.prog.cellsOf 3=1 from by kernel_rfl] at hy7
 obtain ⟨y8,hy8⟩:∃ y,DataW.trod enc Tryz.prog W 0 spare held n 3 ((cs.drop 8).take (Tryz.prog.cellsOf 3))=some y:=⟨_,(hf 8 _ rfl).trans (Y4 (by rw [hxl]; decide))⟩
 rw [show Tryz.prog.cellsOf 3=1 from by kernel_rfl] at hy8
 obtain ⟨y9,hy9⟩:∃ y,DataW.trod enc Tryz.prog W 0 spare held n 4 ((cs.drop 9).take (Tryz.prog.cellsOf 4))=some y:=⟨_,(hf 9 _ rfl).trans (Y4 (by rw [hxl]; decide))⟩
 rw [show Tryz.prog.cellsOf 4=1 from by kernel_rfl] at hy9
 obtain ⟨v0,v1,v2,v3,v4,v5,v6,v7,v8,v9,rfl⟩:∃ v0 v1 v2 v3 v4 v5 v6 v7 v8 v9,cs=[v0,v1,v2,v3,v4,v5,v6,v7,v8,v9]:=by
  match cs,hcl with
  | [v0,v1,v2,v3,v4,v5,v6,v7,v8,v9],_=>exact ⟨v0,v1,v2,v3,v4,v5,v6,v7,v8,v9,rfl⟩
 simp only [Y7,Yg,Y20,Yh] at hy0 hy1 hy2 hy3 hy4 hy5 hy6 hy7 hy8 hy9
 obtain ⟨z0,e0,_,w0⟩:=DataW.trod_int Qu3 hy0
 obtain ⟨z1,e1,_,w1⟩:=DataW.trod_string Qu9 hy1
 obtain ⟨z2,e2,_,w2⟩:=DataW.trod_string Qu9 hy2
 obtain ⟨z3,e3,_,w3⟩:=DataW.trod_string Qu9 hy3
 obtain ⟨z4,e4,_,w4⟩:=DataW.trod_string Qu9 hy4
 obtain ⟨z5,e5,_,w5⟩:=DataW.trod_string Qu9 hy5
 obtain ⟨z6,e6,_,w6⟩:=DataW.trod_int Qu3 hy6
 obtain ⟨z7,e7,_,w7⟩:=DataW.trod_int Qu3 hy7
 obtain ⟨z8,e8,_,w8⟩:=DataW.trod_int Qu3 hy8
 obtain ⟨z9,e9,_⟩:=DataW.trod_bool Qu4 hy9
 simp only [List.cons.injEq,and_true] at e0 e1 e2 e3 e4 e5 e6 e7 e8 e9
 subst e0 e1 e2 e3 e4 e5 e6 e7 e8 e9
 exact ⟨⟨z0,z1.data.toList,z2.data.toList,z3.data.toList,z4.data.toList,z5.data.toList,z6,z7,z8,z9⟩,rfl,⟨w1,w2,w3,w4,w5⟩⟩
theorem Xn6 {H:Type} {enc:TypeId×Value→H} {W:World} {spare:Nat→Bool} {held:Bool} {fuel:Nat} {cs:List Value} {x:DataW H×List MemPlace} (h:DataW.trod enc Tryz.prog W 0 spare held fuel 43 cs=some x):∃ z:Qr,cs=X29 z∧qrFit z:=by
 obtain ⟨xs,n,_,_,hcl,hxl,hf⟩:=DataW.trod_struct Xag h
 rw [show Tryz.prog.cellsOf 43=4 from by kernel_rfl] at hcl
 obtain ⟨y0,hy0⟩:∃ y,DataW.trod enc Tryz.prog W 0 spare held n 9 ((cs.drop 0).take (Tryz.prog.cellsOf 9))=some y:=⟨_,(hf 0 _ rfl).trans (Y4 (by rw [hxl]; decide))⟩
 rw [show Tryz.prog.cellsOf 9=1 from by kernel_rfl] at hy0
 obtain ⟨y1,hy1⟩:∃ y,DataW.trod enc Tryz.prog W 0 spare held n 9 ((cs.drop 1).take (Tryz.prog.cellsOf 9))=some y:=⟨_,(hf 1 _ rfl).trans (Y4 (by rw [hxl]; decide))⟩
 rw [show Tryz.prog.cellsOf 9=1 from by kernel_rfl] at hy1
 obtain ⟨y2,hy2⟩:∃ y,DataW.trod enc Tryz.prog W 0 spare held n 4 ((cs.drop 2).take (Tryz.prog.cellsOf 4))=some y:=⟨_,(hf 2 _ rfl).trans (Y4 (by rw [hxl]; decide))⟩
 rw [show Tryz.prog.cellsOf 4=1 from by kernel_rfl] at hy2
 obtain ⟨y3,hy3⟩:∃ y,DataW.trod enc Tryz.prog W 0 spare held n 4 ((cs.drop 3).take (Tryz.prog.cellsOf 4))=some y:=⟨_,(hf 3 _ rfl).trans (Y4 (by rw [hxl]; decide))⟩
 rw [show Tryz.prog.cellsOf 4=1 from by kernel_rfl] at hy3
 obtain ⟨v0,v1,v2,v3,rfl⟩:∃ v0 v1 v2 v3,cs=[v0,v1,v2,v3]:=by
  match cs,hcl with
  | [v0,v1,v2,v3],_=>exact ⟨v0,v1,v2,v3,rfl⟩
 simp only [Y7,Yg,Y20,Yh] at hy0 hy1 hy2 hy3
 obtain ⟨z0,e0,_,w0⟩:=DataW.trod_string Qu9 hy0
 obtain ⟨z1,e1,_,w1⟩:=DataW.trod_string Qu9 hy1
 obtain ⟨z2,e2,_⟩:=DataW.trod_bool Qu4 hy2
 obtain ⟨z3,e3,_⟩:=DataW.trod_bool Qu4 hy3
 simp only [List.cons.injEq,and_true] at e0 e1 e2 e3
 subst e0 e1 e2 e3
 exact ⟨⟨z0.data.toList,z1.data.toList,z2,z3⟩,rfl,⟨w0,w1⟩⟩
theorem X98 {α:Type} {cells:α→List Value} {c:Nat} {fit:α→Prop} {t e:TypeId} {H:Type} {enc:TypeId×Value→H} {W:World} {spare:Nat→Bool} {held:Bool} {fuel:Nat} {cs:List Value} {x:DataW H×List MemPlace} (ht:Tryz.prog.underlying t=some (.slice e)) (hc:Tryz.prog.cellsOf e=c) (hc0:0<c)
  (one:∀ n cs y,DataW.trod enc Tryz.prog W 0 spare held n e cs=some y→∃ z:α,cs=cells z∧fit z) (h:DataW.trod enc Tryz.prog W 0 spare held fuel t cs=some x) :
  ∃ (a:Option Addr) (cap:Nat) (l:List α),cs=[.slice a l.length cap]∧l.length≤cap∧cap≤maxLen∧RS (im0 W) a c l.length (Xy cells l)∧∀ z∈l,fit z:=by
 obtain ⟨a,cap,L,n,rfl,h1,h2,h3,h4,h5⟩:=X6m ht hc hc0 h
 have key:∀ L:List (List Value),(∀ l∈L,∃ y,DataW.trod enc Tryz.prog W 0 spare held n e l=some y)→∃ l:List α,L=l.map cells∧∀ z∈l,fit z:=by
  intro L
  induction L with
  | nil=>intro _; exact ⟨[],rfl,fun z h=>by simp at h⟩
  | cons c L ih =>
   intro h
   obtain ⟨y,hy⟩:=h c (by simp)
   obtain ⟨z,rfl,hf⟩:=one n c y hy
   obtain ⟨l,rfl,e2⟩:=ih (fun c hc=>h c (by simp [hc]))
   exact ⟨z::l,rfl,fun u hu=>by
    rcases Y1b.1 hu with e | hu
    ·subst e; exact hf
    ·exact e2 u hu⟩
 obtain ⟨l,rfl,hfit⟩:=key L h5
 rw [Yz] at h1 h4
 exact ⟨a,cap,l,by rw [Yz],h1,h2,h4,hfit⟩
theorem Xnj {H:Type} {enc:TypeId×Value→H} {W:World} {spare:Nat→Bool} {held:Bool} {fuel:Nat} {cs:List Value} {x:DataW H×List MemPlace} (h:DataW.trod enc Tryz.prog W 0 spare held fuel 67 cs=some x):∃ u:Us,UsAt (im0 W) u cs∧u.fits:=by
 obtain ⟨xs,n,_,_,hcl,hxl,hf⟩:=DataW.trod_struct X5g h
 rw [show Tryz.prog.cellsOf 67=3 from by kernel_rfl] at hcl
 obtain ⟨y0,hy0⟩:∃ y,DataW.trod enc Tryz.prog W 0 spare held n 9 ((cs.drop 0).take (Tryz.prog.cellsOf 9))=some y:=⟨_,(hf 0 _ rfl).trans (Y4 (by rw [hxl]; decide))⟩
 rw [show Tryz.prog.cellsOf 9=1 from by kernel_rfl] at hy0
 obtain ⟨y1,hy1⟩:∃ y,DataW.trod enc Tryz.prog W 0 spare held n 9 ((cs.drop 1).take (Tryz.prog.cellsOf 9))=some y:=⟨_,(hf 1 _ rfl).trans (Y4 (by rw [hxl]; decide))⟩
 rw [show Tryz.prog.cellsOf 9=1 from by kernel_rfl] at hy1
 obtain ⟨y2,hy2⟩:∃ y,DataW.trod enc Tryz.prog W 0 spare held n 54 ((cs.drop 2).take (Tryz.prog.cellsOf 54))=some y:=⟨_,(hf 2 _ rfl).trans (Y4 (by rw [hxl]; decide))⟩
 rw [show Tryz.prog.cellsOf 54=1 from by kernel_rfl] at hy2
 obtain ⟨v0,v1,v2,rfl⟩:∃ v0 v1 v2,cs=[v0,v1,v2]:=by
  match cs,hcl with
  | [v0,v1,v2],_=>exact ⟨v0,v1,v2,rfl⟩
 simp only [Y7,Yg,Y20,Yh] at hy0 hy1 hy2
 obtain ⟨z0,e0,_,w0⟩:=DataW.trod_string Qu9 hy0
 obtain ⟨z1,e1,_,w1⟩:=DataW.trod_string Qu9 hy1
 obtain ⟨a,c,l,e2,h1,h2,h3,h4⟩:=X98 (cells:=Xk) (c:=2) (fit:=X1k) X6n (by kernel_rfl) (by decide) (fun n cs y h=>Xj4 h) hy2
 simp only [List.cons.injEq,and_true] at e0 e1 e2
 subst e0 e1 e2
 exact ⟨⟨z0.data.toList,z1.data.toList,l⟩,⟨a,c,rfl,h1,h3⟩,⟨w0,w1,Y3b h1 h2,h4⟩⟩
theorem Xij {H:Type} {enc:TypeId×Value→H} {W:World} {spare:Nat→Bool} {held:Bool} {fuel:Nat} {cs:List Value} {x:DataW H×List MemPlace} (h:DataW.trod enc Tryz.prog W 0 spare held fuel 28 cs=some x):∃ (a:Option Addr) (cap:Nat) (l:List Us),cs=[.slice a l.length cap]∧l.length≤cap∧cap≤maxLen∧UsrsAt (im0 W) a l∧∀ u∈l,u.fits:=by
 obtain ⟨a,cap,L,n,rfl,h1,h2,h3,h4,h5⟩:=X6m (c:=3) X9n (by kernel_rfl) (by decide) h
 have key:∀ L:List (List Value),(∀ l∈L,∃ y,DataW.trod enc Tryz.prog W 0 spare held n 67 l=some y)→∃ l:List Us,L.length=l.length∧∀ (i:Nat) (u:Us),l[i]?=some u→u.fits∧∃ c,L[i]?=some c∧UsAt (im0 W) u c:=by
  intro L
  induction L with
  | nil=>intro _; exact ⟨[],rfl,fun i s h=>by simp at h⟩
  | cons c L ih =>
   intro h
   obtain ⟨y,hy⟩:=h c (by simp)
   obtain ⟨s,hs,hf⟩:=Xnj hy
   obtain ⟨l,e1,e2⟩:=ih (fun c hc=>h c (by simp [hc]))
   refine ⟨s::l,by simp [e1],fun i u hu=>?_⟩
   cases i with
   | zero=>simp at hu; subst hu; exact ⟨hf,c,rfl,hs⟩
   | succ i=>simpa using e2 i u (by simpa using hu)
 obtain ⟨l,e1,e2⟩:=key L h5
 refine ⟨a,cap,l,by rw [e1],by rw [← e1]; exact h1,h2,fun i u hu=>?_,fun u hu=>?_⟩
 ·obtain ⟨_,c,hc,ra,rc,rfl,h6,h7⟩:=e2 i u hu
  obtain ⟨p,rfl,hp⟩:=h4.2 (by have:=(Y5.1 hc).1; omega)
  have h8:=X4g (hp.add (i*3)) 3
  rw [X1w L h3 i _ hc] at h8
  exact ⟨p,ra,rc,rfl,h8,h6,h7⟩
 ·obtain ⟨i,hi⟩:=Y10.1 hu
  exact (e2 i u hi).1
theorem Xbg {H:Type} {enc:TypeId×Value→H} {W:World} {spare:Nat→Bool} {held:Bool} {fuel:Nat} {cs:List Value} {x:DataW H×List MemPlace} (h:DataW.trod enc Tryz.prog W 0 spare held fuel 29 cs=some x):∃ l:List Int,l.length=7∧cs=l.map I64:=by
 obtain ⟨xs,n,_,_,hcl,hxl,hf⟩:=DataW.trod_array Xay h
 rw [show Tryz.prog.cellsOf 29=7 from by kernel_rfl] at hcl
 rw [show Tryz.prog.cellsOf 3=1 from by kernel_rfl] at hf
 have each:∀ v∈cs,∃ z:Int,v=I64 z:=by
  intro v hv
  obtain ⟨i,hi⟩:=Y10.1 hv
  have hil:=(Y5.1 hi).1
  obtain ⟨y,hy⟩:∃ y,xs[i]?=some y:=⟨_,Y4 (by omega)⟩
  have h2:=(hf i (by omega)).trans hy
  obtain ⟨z,e,_⟩:=DataW.trod_int Qu3 h2
  rw [Y1r,Y1j hil,Y20,Yh,(Y5.1 hi).2] at e
  exact ⟨z,(List.cons.inj e).1⟩
 have key:∀ cs:List Value,(∀ v∈cs,∃ z:Int,v=I64 z)→∃ l:List Int,cs=l.map I64:=by
  intro cs
  induction cs with
  | nil=>intro _; exact ⟨[],rfl⟩
  | cons v r ih =>
   intro h
   obtain ⟨z,rfl⟩:=h v (by simp)
   obtain ⟨l,rfl⟩:=ih (fun v hv=>h v (by simp [hv]))
   exact ⟨z::l,rfl⟩
 obtain ⟨l,rfl⟩:=key cs each
 exact ⟨l,by simpa using hcl,rfl⟩
theorem psL_of {L:List Int} (h:L.length=21):psL (fun i=>L.getD i 0)=L:=by
 match L,h with
 | [a0,a1,a2,a3,a4,a5,a6,a7,a8,a9,a10,a11,a12,a13,a14,a15,a16,a17,a18,a19,a20],_=>rfl
theorem Xmg {H:Type} {enc:TypeId×Value→H} {W:World} {spare:Nat→Bool} {held:Bool} {fuel:Nat} {cs:List Value} {x:DataW H×List MemPlace} (h:DataW.trod enc Tryz.prog W 0 spare held fuel 31 cs=some x):∃ p:Nat→Int,cs=(psL p).map I64:=by
 obtain ⟨xs,n,_,_,hcl,hxl,hf⟩:=DataW.trod_struct Xb1 h
 rw [show Tryz.prog.cellsOf 31=21 from by kernel_rfl] at hcl
 obtain ⟨y0,hy0⟩:∃ y,DataW.trod enc Tryz.prog W 0 spare held n 29 ((cs.drop 0).take (Tryz.prog.cellsOf 29))=some y:=⟨_,(hf 0 _ rfl).trans (Y4 (by rw [hxl]; decide))⟩
 rw [show Tryz.prog.cellsOf 29=7 from by kernel_rfl] at hy0
 obtain ⟨y1,hy1⟩:∃ y,DataW.trod enc Tryz.prog W 0 spare held n 29 ((cs.drop 7).take (Tryz.prog.cellsOf 29))=some y:=⟨_,(hf 1 _ rfl).trans (Y4 (by rw [hxl]; decide))⟩
 rw [show Tryz.prog.cellsOf 29=7 from by kernel_rfl] at hy1
 obtain ⟨y2,hy2⟩:∃ y,DataW.trod enc Tryz.prog W 0 spare held n 29 ((cs.drop 14).take (Tryz.prog.cellsOf 29))=some y:=⟨_,(hf 2 _ rfl).trans (Y4 (by rw [hxl]; decide))⟩
 rw [show Tryz.prog.cellsOf 29=7 from by kernel_rfl] at hy2
 obtain ⟨v0,v1,v2,v3,v4,v5,v6,v7,v8,v9,v10,v11,v12,v13,v14,v15,v16,v17,v18,v19,v20,rfl⟩:∃ v0 v1 v2 v3 v4 v5 v6 v7 v8 v9 v10 v11 v12 v13 v14 v15 v16 v17 v18 v19 v20,cs=[v0,v1,v2,v3,v4,v5,v6,v7,v8,v9,v10,v11,v12,v13,v14,v15,v16,v17,v18,v19,v20]:=by
  match cs,hcl with
  | [v0,v1,v2,v3,v4,v5,v6,v7,v8,v9,v10,v11,v12,v13,v14,v15,v16,v17,v18,v19,v20],_=>exact ⟨v0,v1,v2,v3,v4,v5,v6,v7,v8,v9,v10,v11,v12,v13,v14,v15,v16,v17,v18,v19,v20,rfl⟩
 simp only [Y7,Yg,Y20,Yh] at hy0 hy1 hy2
 obtain ⟨l0,h0,e0⟩:=Xbg hy0
 obtain ⟨l1,h1,e1⟩:=Xbg hy1
 obtain ⟨l2,h2,e2⟩:=Xbg hy2
 refine ⟨fun i=>(l0 ++ (l1 ++ l2)).getD i 0,?_⟩
 rw [psL_of (by simp only [Y0]; omega),Yx,Yx,← e0,← e1,← e2]
 rfl
theorem Xmu {H:Type} {enc:TypeId×Value→H} {W:World} {spare:Nat→Bool} {held:Bool} {fuel:Nat} {cs:List Value} {x:DataW H×List MemPlace} (h:DataW.trod enc Tryz.prog W 0 spare held fuel 34 cs=some x):∃ (c:Cf) (a:Option Addr) (cap:Nat) (ua:Option Addr) (ucap:Nat),cs=Xz c a cap ua ucap∧CfAt (im0 W) c a cap ua ucap:=by
 obtain ⟨xs,n,_,_,hcl,hxl,hf⟩:=DataW.trod_struct Xdl h
 rw [show Tryz.prog.cellsOf 34=28 from by kernel_rfl] at hcl
 obtain ⟨y0,hy0⟩:∃ y,DataW.trod enc Tryz.prog W 0 spare held n 27 ((cs.drop 0).take (Tryz.prog.cellsOf 27))=some y:=⟨_,(hf 0 _ rfl).trans (Y4 (by rw [hxl]; decide))⟩
 rw [show Tryz.prog.cellsOf 27=1 from by kernel_rfl] at hy0
 obtain ⟨y1,hy1⟩:∃ y,DataW.trod enc Tryz.prog W 0 spare held n 28 ((cs.drop 1).take (Tryz.prog.cellsOf 28))=some y:=⟨_,(hf 1 _ rfl).trans (Y4 (by rw [hxl]; decide))⟩
 rw [show Tryz.prog.cellsOf 28=1 from by kernel_rfl] at hy1
 obtain ⟨y2,hy2⟩:∃ y,DataW.trod enc Tryz.prog W 0 spare held n 31 ((cs.drop 2).take (Tryz.prog.cellsOf 31))=some y:=⟨_,(hf 2 _ rfl).trans (Y4 (by rw [hxl]; decide))⟩
 rw [show Tryz.prog.cellsOf 31=21 from by kernel_rfl] at hy2
 obtain ⟨y3,hy3⟩:∃ y,DataW.trod enc Tryz.prog W 0 spare held n 3 ((cs.drop 23).take (Tryz.prog.cellsOf 3))=some y:=⟨_,(hf 3 _ rfl).trans (Y4 (by rw [hxl]; decide))⟩
 rw [show Tryz.prog.cellsOf 3=1 from by kernel_rfl] at hy3
 obtain ⟨y4,hy4⟩:∃ y,DataW.trod enc Tryz.prog W 0 spare held n 32 ((cs.drop 24).take (Tryz.prog.cellsOf 32))=some y:=⟨_,(hf 4 _ rfl).trans (Y4 (by rw [hxl]; decide))⟩
 rw [show Tryz.prog.cellsOf 32=1 from by kernel_rfl] at hy4
 obtain ⟨y5,hy5⟩:∃ y,DataW.trod enc Tryz.prog W 0 spare held n 32 ((cs.drop 25).take (Tryz.prog.cellsOf 32))=some y:=⟨_,(hf 5 _ rfl).trans (Y4 (by rw [hxl]; decide))⟩
 rw [show Tryz.prog.cellsOf 32=1 from by kernel_rfl] at hy5
 obtain ⟨y6,hy6⟩:∃ y,DataW.trod enc Tryz.prog W 0 spare held n 32 ((cs.drop 26).take (Tryz.prog.cellsOf 32))=some y:=⟨_,(hf 6 _ rfl).trans (Y4 (by rw [hxl]; decide))⟩
 rw [show Tryz.prog.cellsOf 32=1 from by kernel_rfl] at hy6
 obtain ⟨y7,hy7⟩:∃ y,DataW.trod enc Tryz.prog W 0 spare held n 3 ((cs.drop 27).take (Tryz.prog.cellsOf 3))=some y:=⟨_,(hf 7 _ rfl).trans (Y4 (by rw [hxl]; decide))⟩
 rw [show Tryz.prog.cellsOf 3=1 from by kernel_rfl] at hy7
 obtain ⟨v0,v1,v2,v3,v4,v5,v6,v7,v8,v9,v10,v11,v12,v13,v14,v15,v16,v17,v18,v19,v20,v21,v22,v23,v24,v25,v26,v27,rfl⟩:∃ v0 v1 v2 v3 v4 v5 v6 v7 v8 v9 v10 v11 v12 v13 v14 v15 v16 v17 v18 v19 v20 v21 v22 v23 v24 v25 v26 v27,cs=[v0,v1,v2,v3,v4,v5,v6,v7,v8,v9,v10,v11,v12,v13,v14,v15,v16,v17,v18,v19,v20,v21,v22,v23,v24,v25,v26,v27]:=by
  match cs,hcl with
  | [v0,v1,v2,v3,v4,v5,v6,v7,v8,v9,v10,v11,v12,v13,v14,v15,v16,v17,v18,v19,v20,v21,v22,v23,v24,v25,v26,v27],_=>exact ⟨v0,v1,v2,v3,v4,v5,v6,v7,v8,v9,v10,v11,v12,v13,v14,v15,v16,v17,v18,v19,v20,v21,v22,v23,v24,v25,v26,v27,rfl⟩
 simp only [Y7,Yg,Y20,Yh] at hy0 hy1 hy2 hy3 hy4 hy5 hy6 hy7
 obtain ⟨a,cap,L,l,e0,h1,h2,h3,h4,h5,h6⟩:=Xjf hy0
 obtain ⟨ua,ucap,us,e1,h7,h8,h9,h10⟩:=Xij hy1
 obtain ⟨ps,e2⟩:=Xmg hy2
 obtain ⟨z3,e3,_⟩:=DataW.trod_int Qu3 hy3
 obtain ⟨z4,e4,_⟩:=X3s Qu32 hy4
 obtain ⟨z5,e5,_⟩:=X3s Qu32 hy5
 obtain ⟨z6,e6,_⟩:=X3s Qu32 hy6
 obtain ⟨z7,e7,_⟩:=DataW.trod_int Qu3 hy7
 simp only [List.cons.injEq,and_true] at e0 e1 e3 e4 e5 e6 e7
 subst e0 e1 e3 e4 e5 e6 e7
 refine ⟨⟨l,us,ps,z3,z4,z5,z6,z7⟩,a,cap,ua,ucap,?_,svs_of h4 h5 (fun i s hs=>(h6 i s hs).2),h9,⟨by rw [← h3]; exact h1,h2⟩,Y3b h7 h8,fun s hs=>?_,h10⟩
 ·show _=Value.slice a l.length cap::Value.slice ua us.length ucap::((psL ps).map I64 ++ _)
  rw [← e2,← h3]; rfl
 ·obtain ⟨i,hi⟩:=Y10.1 hs
  exact (h6 i s hi).1
end Go.Proofs.YtadhiihnnkcagaaGreatDoor
namespace Go.Proofs.YtadhiihnnkcagaaGreatDoor
open Gk Ul Pc Tk Tr
structure Op where
 act:Int
 n:Int
 d:List Nat
 a:Int
 b:List UInt8
 c:List UInt8
 f:Bool
 r:Rec
 q:Ak
def Xow (o:Op) (da:Option Addr) (dc:Nat):List Value:=[I64 o.act,I64 o.n,.slice da o.d.length dc,I64 o.a,S o.b,S o.c,.bool o.f,I64 o.r.kind,S o.r.name,S o.r.parent,S o.r.user,S o.r.service,S o.r.url,I64 o.r.made,I64 o.r.used,I64 o.r.uses,.bool o.r.fresh,S o.q.service,S o.q.cookie,.bool o.q.has,.bool o.q.renew,.bool o.q.gateway,.bool o.q.warn]
def OpAt (I:Im) (o:Op) (cs:List Value):Prop:=∃ da dc,cs=Xow o da dc∧o.d.length≤dc∧dc≤maxLen∧RS I da 1 o.d.length (o.d.map fun d=>U64 (d:Nat))
def OpsAt (I:Im) (a:Option Addr) (l:List Op):Prop:=∃ L:List (List Value),L.length=l.length∧(∀ c∈L,c.length=23)∧RS I a 23 l.length L.flatten∧∀ (i:Nat) (o:Op),l[i]?=some o→∃ cs,L[i]?=some cs∧OpAt I o cs
theorem OpAt.mono {I J:Im} {o:Op} {cs:List Value} (h:OpAt I o cs) (hl:Le I J):OpAt J o cs:=by
 obtain ⟨da,dc,e,h1,h2,h3⟩:=h
 exact ⟨da,dc,e,h1,h2,h3.mono hl⟩
theorem OpsAt.mono {I J:Im} {a:Option Addr} {l:List Op} (h:OpsAt I a l) (hl:Le I J):OpsAt J a l:=by
 obtain ⟨L,h1,h2,h3,h4⟩:=h
 exact ⟨L,h1,h2,h3.mono hl,fun i o ho=>by
  obtain ⟨cs,h5,h6⟩:=h4 i o ho
  exact ⟨cs,h5,h6.mono hl⟩⟩
theorem OpsAt.at {I:Im} {a:Option Addr} {l:List Op} (h:OpsAt I a l) (i:Nat) (u:Op) (hu:l[i]?=some u):∃ p cs,a=some p∧At I (p.add (i*23)) cs∧OpAt I u cs:=by
 obtain ⟨L,h1,h2,h3,h4⟩:=h
 obtain ⟨cs,h5,h6⟩:=h4 i u hu
 obtain ⟨p,rfl,hp⟩:=h3.2 (by have:=(Y5.1 hu).1; omega)
 refine ⟨p,cs,rfl,?_,h6⟩
 have h8:=X4g (hp.add (i*23)) 23
 rw [X1w L h2 i _ h5] at h8
 exact h8
structure Op.fits (o:Op):Prop where
 d:∀ x∈o.d,x<18446744073709551616
 b:o.b.length≤maxLen
 c:o.c.length≤maxLen
theorem Xcl (a b:Option Addr) (ca cb:Nat) (la lb:List Rec) (hla:la.length≤9223372036854775807) (B w:World) (I:Im) (hA:RS I a 10 la.length (Xy X7 la)) (hB:RS I b 10 lb.length (Xy X7 lb)) (As:List Xe) (hS:Sat B w I As) :
  Calls Tryz.prog 28 [.slice a la.length ca,.slice b lb.length cb].toArray w (Ret fun v w'=>v=.bool (decide (la=lb))∧Sat B w' I As):=by
 refine calls Tryz.func28 rfl Tryz.ntmps28 rfl (.seq (.q 1 rfl (.seq (.seq (.region (.run 5 rfl ⟨⟨_,X2x⟩,⟨_,X2x⟩,trivial⟩ (.nil ?_)))))))
 refine WC.cond rfl (fun hb10=>?_) (fun hb10=>?_)
 ·
  refine .seq (.q 1 rfl (.ret (Xh Tryz.results28 rfl ?_)))
  refine ⟨_,rfl,congrArg Value.bool (decide_eq_false fun e=>?_).symm,hS⟩
  subst e
  simp at hb10
 have hc10:=hb10; try simp only [Y6] at hc10
 refine .skip (.seq (.seq (.q 1 rfl (.block (.loop (σ:=Nat) (fun i=>[(0,.slice a la.length ca),(1,.slice b lb.length cb),(5,I64 (i:Nat))]) (fun i w=>i≤la.length∧(∀ (j:Nat),j<i→la[j]?=lb[j]?)∧Sat B w I As) (fun i=>la.length - i) 0 ⟨rfl,rfl,rfl,trivial⟩ ⟨Yq _,fun _ h=>absurd h (by omega),hS⟩ ?_)))))
 rintro i w ⟨hi,hsm,hS⟩
 refine .seq (.seq (.region (.run 4 rfl ⟨⟨_,X2x⟩,trivial⟩ (.nil ?_))))
 refine WC.cond rfl (fun hb14=>?_) (fun hb14=>?_)
 ·
  have hc14:=hb14; try simp only [Y6] at hc14
  refine .skip (.seq (.block (.seq ?_)))
  obtain ⟨x,hx0⟩:∃ x,la[i]?=some x:=⟨_,Y4 (by omega)⟩
  obtain ⟨y,hy0⟩:∃ y,lb[i]?=some y:=⟨_,Y4 (by omega)⟩
  obtain ⟨p,hp9,hx⟩:=X4d (cells:=X7) (s:=10) (fun _=>rfl) hA hx0
  obtain ⟨p2,hp8,hy⟩:=X4d (cells:=X7) (s:=10) (fun _=>rfl) hB hy0
  subst hp9
  subst hp8
  refine .quiet (by kernel_rfl) (by kernel_rfl) hS (.val (fun w hS=>(.move (.of rfl))) rfl (.val (fun w hS=>(.move (.of rfl))) rfl ?_))
  refine WQ.val (fun w hS=>(by exact .indexAddrI (.of rfl) (.of rfl) (by omega) (by omega) X2x X17)) rfl ?_
  refine .val (fun w hS=>.ldsI (.of rfl) hS hx X36 X17 rfl (fun _ _ h=>h)) rfl (.val (fun w hS=>(.move (.of rfl))) rfl (.val (fun w hS=>(.move (.of rfl))) rfl ?_))
  refine WQ.val (fun w hS=>(by exact .indexAddrI (.of rfl) (.of rfl) (by omega) (by omega) X2x X17)) rfl ?_
  refine .val (fun w hS=>.ldsI (.of rfl) hS hy X36 X17 rfl (fun _ _ h=>h)) rfl (.val (fun w hS=>Ex.neRec (r:=x) (s:=y) (.of rfl) (.of rfl)) rfl (.nil ?_))
  clear hS; intro w hS
  refine WC.cond rfl (fun hb25=>?_) (fun hb25=>?_)
  ·
   refine .seq (.q 1 rfl (.ret (Xh Tryz.results28 rfl ?_)))
   refine ⟨_,rfl,congrArg Value.bool (decide_eq_false fun e=>?_).symm,hS⟩
   subst e
   rw [hx0] at hy0
   cases hy0
   simp at hb25
  have hc25:=hb25; try simp only [Y6] at hc25
  refine .skip (.region (.run 3 rfl ⟨⟨by omega,by omega⟩,trivial⟩ (.nil ?_)))
  refine ⟨i+1,⟨rfl,rfl,rfl,trivial⟩,⟨by (try dsimp only); omega,fun j hj=>?_,hS⟩,by (try dsimp only); omega⟩
  rcases Yr j i with h1 | h1
  ·exact hsm j h1
  ·have e:j=i:=by omega
   subst e
   rw [hx0,hy0,show x=y by simpa using hb25]
 have hc14:=hb14; try simp only [Y6] at hc14
 refine .exit (.seq (.q 1 rfl (.ret (Xh Tryz.results28 rfl ?_))))
 refine ⟨_,rfl,congrArg Value.bool (decide_eq_true ?_).symm,hS⟩
 refine Y1w fun j=>?_
 rcases Yr j i with h1 | h1
 ·exact hsm j h1
 ·rw [Y1f (by omega),Y1f (by omega)]
theorem Xaj {α:Type} {pr:α→Bool}:∀ {l:List α} {i:Nat} {u:α},l[i]?=some u→pr u=true→(∀ (j:Nat) s,j<i→l[j]?=some s→pr s=false)→l.find? pr=some u
 | [],i,u,h,_,_=>by simp at h
 | x::l,0,u,h,hp,_=>by simp at h; subst h; rw [Y2y,hp]
 | x::l,i+1,u,h,hp,hno=>by
  rw [Y2y,hno 0 x (by omega) rfl]
  exact Xaj (by simpa using h) hp fun j s hj hs=>hno (j+1) s (by omega) (by simpa using hs)
theorem Xae (a:Option Addr) (cap:Nat) (l:List Us) (hln:l.length≤9223372036854775807) (name:List UInt8) (B w:World) (I:Im) (hU:UsrsAt I a l) (As:List Xe) (hS:Sat B w I As) :
  Calls Tryz.prog 94 [.slice a l.length cap,S name].toArray w (Ret fun v w'=>∃ k:Int,v=I64 k∧((k=-1∧l.find? (fun t=>t.name == name)=none)∨∃ (i:Nat) (u:Us),k=(i:Int)∧l[i]?=some u∧l.find? (fun t=>t.name == name)=some u)∧Sat B w' I As):=by
 refine calls Tryz.func94 rfl Tryz.ntmps94 rfl (.seq (.q 1 rfl (.seq (.seq (.q 1 rfl (.block (.loop (σ:=Nat) (fun i=>[(0,.slice a l.length cap),(1,S name),(5,I64 (i:Nat))]) (fun i w=>i≤l.length∧(∀ (j:Nat) u,j<i→l[j]?=some u→(u.name == name)=false)∧Sat B w I As) (fun i=>l.length - i) 0 ⟨rfl,rfl,rfl,trivial⟩ ⟨Yq _,fun _ _ h=>absurd h (by omega),hS⟩ ?_)))))))
 rintro i w ⟨hi,hno,hS⟩
 refine .seq (.seq (.region (.run 4 rfl ⟨⟨_,X9n⟩,trivial⟩ (.nil ?_))))
 refine WC.cond rfl (fun hb9=>?_) (fun hb9=>?_)
 ·
  have hc9:=hb9; try simp only [Y6] at hc9
  refine .skip (.seq (.block (.seq ?_)))
  obtain ⟨u,hu⟩:∃ u,l[i]?=some u:=⟨_,Y4 (by omega)⟩
  obtain ⟨p,ra,rc,hap,hx,hrc,hRR⟩:=hU i u hu
  subst hap
  unfold X2m at hx
  refine .t 2 rfl ?_
  refine WL.val (.indexAddrI (.of rfl) (.of rfl) (by omega) (by omega) X9n X9p) rfl ?_
  refine WL.val (.fieldAddrI 0 (.of rfl) X5g rfl rfl Qs9 rfl) rfl ?_
  refine .val (.ldI (.of rfl) hS (At.add hx _) Qg9 rfl) rfl (.q 2 rfl (.nil ?_))
  refine WC.cond rfl (fun hb18=>?_) (fun hb18=>?_)
  ·
   refine .seq (.q 2 rfl (.ret (Xh Tryz.results94 rfl ?_)))
   exact ⟨_,rfl,_,rfl,.inr ⟨i,u,rfl,hu,Xaj hu hb18 hno⟩,hS⟩
  have hc18:=hb18; try simp only [Y6] at hc18
  refine .skip (.region (.run 3 rfl ⟨⟨by omega,by omega⟩,trivial⟩ (.nil ?_)))
  refine ⟨i+1,⟨rfl,rfl,rfl,trivial⟩,⟨by (try dsimp only); omega,fun j t hj ht=>?_,hS⟩,by (try dsimp only); omega⟩
  rcases Yr j i with h1 | h1
  ·exact hno j t h1 ht
  ·have e:j=i:=by omega
   subst e
   rw [hu] at ht; cases ht
   exact hb18
 have hc9:=hb9; try simp only [Y6] at hc9
 refine .exit (.seq (.q 1 rfl (.ret (Xh Tryz.results94 rfl ?_))))
 refine ⟨_,rfl,_,rfl,.inl ⟨rfl,?_⟩,hS⟩
 rw [Y4j]
 intro u hu
 obtain ⟨q,hq⟩:=Y10.1 hu
 have:=(Y5.1 hq).1
 rw [hno q u (by omega) hq]; decide
theorem Xbo (s:List UInt8) (c:UInt8) (n:Nat):hxS n (s ++ [c])=(hxS n s).bind fun m=>(hx c).map fun d=>16*m+d:=by
 rw [Xe3]
 congr 1
 funext m
 rw [hxS]
 cases hx c with
 | none=>rfl
 | some d=>rfl
theorem X8s {c:UInt8} {r:List UInt8}:∀ {s:List UInt8},Xj [45] s=c::r→c=45
 | [],h=>by simp [Xj] at h
 | x::s,h=>by
  unfold Xj at h
  rw [Y3p] at h
  split at h
  ·exact X8s h
  ·rename_i h1
   cases h
   simpa using h1
theorem X1z (cs s:List UInt8):upto cs s ++ Xj cs s=s:=Y3v
theorem Xol {s t:List UInt8} {k:Nat} (hs:s=pre k ++ 45::t) (hl:t.length=16):s.length=(pre k).length+1+16∧s.take ((pre k).length+1)=pre k ++ [45]∧s.drop ((pre k).length+1)=t:=by
 have e:s=(pre k ++ [45]) ++ t:=by rw [hs]; simp
 have e2:(pre k).length+1=(pre k ++ [45]).length:=by simp
 refine ⟨by rw [hs]; simp [hl],?_,?_⟩
 ·rw [e,e2,Y35]
 ·rw [e,e2,Y3x]
theorem Xff {s:List UInt8} {k d:Nat} (h:Xw s=some (k,d)):∃ t,s=pre k ++ 45::t∧t.length=16∧hxS 0 t=some d:=by
 unfold Xw at h
 split at h
 ·cases h
 ·rename_i hk
  obtain ⟨x,hx,e⟩:=Y1q.1 h
  simp only [Prod.mk.injEq] at e
  obtain ⟨e1,rfl⟩:=e
  have h1:=Xiy hk
  rw [e1] at h1
  unfold X44 at hx
  split at hx
  ·rename_i hl
   have h2:=X1z [45] s
   cases e3:Xj [45] s with
   | nil=>rw [e3] at hl; cases hl
   | cons c r =>
    rw [e3] at hl hx
    have h3:c=45:=X8s e3
    subst h3
    exact ⟨r,by rw [← h1]; rw [e3] at h2; exact h2.symm,hl,hx⟩
  ·cases hx
theorem Xnz {k d:Nat} {t:List UInt8} (h1:1≤k) (h2:k≤6) (hl:t.length=16) (hd:hxS 0 t=some d):Xw (pre k ++ 45::t)=some (k,d):=by
 unfold Xw
 obtain ⟨e1,e2⟩:=Xlr (p:=pre k) (r:=t) Xmj
 rw [e1,e2,Xnm h1 h2,if_neg (by omega),Y7,Yg,X44,if_pos hl,hd]
 rfl
theorem Xnu {k:Nat} (h1:1≤k) (h2:k≤6):Xh2 (k:Int)=pre k:=by
 unfold Xh2
 rw [if_neg (by omega),Yj]
theorem hx_num {c:UInt8} (h1:48≤c.toNat) (h2:c.toNat≤57):hx c=some (c.toNat - 48):=by
 unfold hx
 rw [if_pos]
 simp only [Yo,decide_eq_true_eq,Y1k]
 exact ⟨h1,h2⟩
theorem hx_let {c:UInt8} (h1:97≤c.toNat) (h2:c.toNat≤102):hx c=some (c.toNat - 87):=by
 unfold hx
 rw [if_neg,if_pos]
 ·simp only [Yo,decide_eq_true_eq,Y1k]
  exact ⟨h1,h2⟩
 ·simp only [Yo,decide_eq_true_eq,Y1k]
  intro h
  have:c.toNat≤57:=h.2
  omega
theorem hx_no {c:UInt8} (h1:¬(48≤c.toNat∧c.toNat≤57)) (h2:¬(97≤c.toNat∧c.toNat≤102)):hx c=none:=by
 unfold hx
 rw [if_neg,if_neg]
 ·simp only [Yo,decide_eq_true_eq,Y1k]; exact h2
 ·simp only [Yo,decide_eq_true_eq,Y1k]; exact h1
theorem X8h {s:List UInt8} {n i:Nat} (h1:n≤i) (h2:i<s.length):(s.drop n).take (i+1 - n)=(s.drop n).take (i - n) ++ [at_ s (i:Int)]:=by
 have e:i+1 - n=(i - n)+1:=by omega
 rw [e,Y15,Y1c,show n+(i - n)=i by omega,X11 h2]
 rfl
theorem Xbc (s:List UInt8) (hsl:s.length≤9223372036854775000) (B w:World) (I:Im) (As:List Xe) (hS:Sat B w I As) :
  Calls Tryz.prog 74 [S s].toArray w (Ret fun v w'=>v=(match Xw s with | some (k,d)=>.tuple #[I64 (k:Nat),U64 (d:Nat),.bool true] | none=>.tuple #[I64 0,U64 0,.bool false])∧Sat B w' I As):=by
 refine calls Qf74 rfl Tryz.ntmps74 rfl (.seq (.q 3 rfl (.seq (.seq (.q 1 rfl (.block ?_))))))
 refine WC.loop (σ:=Nat) (fun k=>[(0,S s),(5,I64 (k:Nat))]) (fun k w=>1≤k∧k≤7∧(∀ (j d:Nat),j<k→Xw s≠some (j,d))∧Sat B w I As) (fun k=>7 - k) 1 ⟨rfl,rfl,trivial⟩ ⟨Yu _,by decide,fun j d hj h=>by have:=(X39 h).1; omega,hS⟩ ?_
 rintro k w ⟨hk0,hk7,hno,hS⟩
 refine .seq (.seq (.q 2 rfl ?_))
 refine WC.cond rfl (fun hb13=>?_) (fun hb13=>?_)
 ·
  have hc13:=hb13; try simp only [Y6] at hc13
  refine .skip (.seq (.block (.seq ?_)))
  have hk1:1≤k∧k≤6:=by omega
  have hpr:=Xnu hk1.1 hk1.2
  have hp6:(pre k).length≤6:=by rw [← hpr]; exact Xks _
  have hn9:(pre k ++ [45]).length=(pre k).length+1:=by simp
  refine .t 1 rfl (.call Tryz.func97 rfl (X0 (.of rfl) X4) rfl (X60 (k:Int) B _ I _ hS) ?_)
  clear hS
  rintro _ w ⟨rfl,hS⟩
  rw [hpr]
  refine WL.run 2 rfl ⟨by (try simp only [Y0,Ye,Yn]); omega,trivial⟩ ?_
  refine .nil (.seq (.region (.run 3 rfl ⟨Qu9,trivial⟩ (.nil (.seq (.seq ?_))))))
  rw [hn9]
  refine .region (.run 6 rfl ⟨Qu9,⟨by omega,by omega⟩,trivial⟩ (.gval rfl rfl (fun hg1=>(.move (.of rfl))) rfl (.gval rfl rfl (fun hg1=>(.move (.of rfl))) rfl ?_)))
  refine WL.gval rfl rfl (fun hg1=>(.subTo (.gd hg1 rfl) (.gd hg1 rfl) (by (try simp only [Y6] at hg1); omega) (by (try simp only [Y6] at hg1); omega) Qu9)) rfl ?_
  refine .gval rfl rfl (fun hg1=>(.move (.of rfl))) rfl (.gval rfl rfl (fun hg1=>(.nes (.gd hg1 rfl) (.gd hg1 rfl))) rfl (.val (.por (.of rfl) (.of rfl) (.of rfl)) rfl (.nil ?_)))
  refine WC.cond rfl (fun hb32=>?_) (fun hb32=>?_)
  ·
   refine .exit (.region (.run 3 rfl ⟨⟨by omega,by omega⟩,trivial⟩ (.nil ?_)))
   refine ⟨k+1,⟨rfl,rfl,trivial⟩,⟨by (try dsimp only); omega,by (try dsimp only); omega,fun j d hj h=>?_,hS⟩,by (try dsimp only); omega⟩
   rcases Yr j k with h1 | h1
   ·exact hno j d h1 h
   ·have e:k=j:=by omega
    subst e
    obtain ⟨t,ht,htl,hth⟩:=Xff h
    obtain ⟨g1,g2,g3⟩:=Xol ht htl
    first
    | (have h3:=hb32; simp [g1,g2] at h3; done)
    | (have h3:=hb32; simp [g1,g2] at h3; omega)
    | (have h3:hxS 0 ((s.drop ((pre k).length+1)).take (s.length - ((pre k).length+1)))=some d:=(by (rw [g3,Yy (by omega)]; exact hth)); rw [show i=s.length by omega] at hhx; rw [hhx] at h3; simp [hb70] at h3)
  have hc32:=hb32; try simp only [Y6] at hc32
  refine .skip (.seq ?_)
  obtain ⟨hle,hpf⟩:s.length=(pre k).length+1+16∧s.take ((pre k).length+1)=pre k ++ [45]:=by
   have h:=hb32
   simp at h
   refine ⟨by omega,?_⟩
   simpa using h.2
  refine .q 1 rfl (.seq (.q 1 rfl (.seq (.seq (.q 2 rfl (.block ?_))))))
  refine WC.loop (σ:=Nat×Nat×Bool) (fun ⟨i,d,b⟩=>[(0,S s),(5,I64 (k:Nat)),(8,U64 (d:Nat)),(9,.bool b),(10,I64 (i:Nat))]) (fun ⟨i,d,b⟩ w=>((pre k).length+1)≤i∧i≤s.length∧d<16 ^ (i - ((pre k).length+1))∧hxS 0 ((s.drop ((pre k).length+1)).take (i - ((pre k).length+1)))=(if b=true then some d else none)∧Sat B w I As) (fun ⟨i,d,b⟩=>s.length - i) (((pre k).length+1),0,true) ⟨rfl,rfl,rfl,rfl,rfl,trivial⟩ ⟨Yu _,by (try dsimp only); omega,by (try dsimp only); exact Nat.pow_pos (by decide),by (try dsimp only); rw [Y3y]; rfl,hS⟩ ?_
  rintro ⟨i,d,b⟩ w ⟨hni,hi,hdp,hhx,hS⟩
  refine .seq (.seq (.region (.run 4 rfl ⟨Qu9,trivial⟩ (.nil ?_))))
  refine WC.cond rfl (fun hb37=>?_) (fun hb37=>?_)
  ·
   have hc37:=hb37; try simp only [Y6] at hc37
   refine .skip (.seq (.block (.seq ?_)))
   have hp15:d<1152921504606846976:=Y2q hdp (Y3b (Y3g (by decide) (show i - ((pre k).length+1)≤15 by omega)) (by decide))
   refine .region (.run 4 rfl ⟨⟨⟨by omega,by omega⟩,Qu9⟩,trivial⟩ (.nil (.block (.seq (.t 3 rfl (.gval rfl rfl (fun hg1=>(.move (.of rfl))) rfl (.gval rfl rfl (fun hg1=>(.leq (.gd hg1 rfl) (.of rfl))) rfl (.val (.pand (.of rfl) (.of rfl) (.of rfl)) rfl (.q 1 rfl (.nil ?_))))))))))
   refine WC.cond rfl (fun hb43=>?_) (fun hb43=>?_)
   ·
    have hc43:=hb43; try simp only [Y6] at hc43
    refine .t 1 rfl ?_
    refine WL.val (.mulx (.of rfl) (.of rfl) (by rw [IntKind.wrap_u64]; omega)) rfl ?_
    refine .q 1 rfl ?_
    refine WL.val (.subx (.of rfl) (.of rfl) (by rw [IntKind.wrap_u8]; simp at hb43; omega)) rfl ?_
    refine WL.val (.cvi (.of rfl) Qu5 Xbu (by rw [IntKind.wrap_u64]; omega)) rfl ?_
    refine WL.val (.addx (.of rfl) (.of rfl) (by rw [IntKind.wrap_u64]; omega)) rfl ?_
    rw [show (16*(d:Int)+(((at_ s (i:Int)).toNat:Int) - 48))=((16*d+((at_ s (i:Int)).toNat - 48):Nat):Int) by simp at hb43; omega]
    refine .q 1 rfl (.nil (.region (.run 3 rfl ⟨⟨by omega,by omega⟩,trivial⟩ (.nil ?_))))
    refine ⟨(i+1,16*d+((at_ s (i:Int)).toNat - 48),b),⟨rfl,rfl,rfl,rfl,rfl,trivial⟩,⟨by (try dsimp only); omega,by (try dsimp only); omega,by (try dsimp only); exact Y2q (show 16*d+((at_ s (i:Int)).toNat - 48)<16*16 ^ (i - ((pre k).length+1)) by have h9:(at_ s (i:Int)).toNat≤57:=(by simp at hb43; omega); omega) (by rw [show i+1 - ((pre k).length+1)=(i - ((pre k).length+1))+1 by omega,Y2a]; omega),?_,hS⟩,by (try dsimp only); omega⟩
    try dsimp only
    rw [X8h hni (by omega),Xbo,hhx,hx_num (by simp at hb43; omega) (by simp at hb43; omega)]
    cases b with
     | true=>simp
     | false=>simp
   have hc43:=hb43; try simp only [Y6] at hc43
   refine .seq (.t 3 rfl (.gval rfl rfl (fun hg1=>(.move (.of rfl))) rfl (.gval rfl rfl (fun hg1=>(.leq (.gd hg1 rfl) (.of rfl))) rfl (.val (.pand (.of rfl) (.of rfl) (.of rfl)) rfl (.q 1 rfl (.nil ?_))))))
   refine WC.cond rfl (fun hb56=>?_) (fun hb56=>?_)
   ·
    have hc56:=hb56; try simp only [Y6] at hc56
    refine .t 1 rfl ?_
    refine WL.val (.mulx (.of rfl) (.of rfl) (by rw [IntKind.wrap_u64]; omega)) rfl ?_
    refine .q 1 rfl ?_
    refine WL.val (.subx (.of rfl) (.of rfl) (by rw [IntKind.wrap_u8]; simp at hb56; omega)) rfl ?_
    refine WL.val (.cvi (.of rfl) Qu5 Xbu (by rw [IntKind.wrap_u64]; omega)) rfl ?_
    refine WL.val (.addx (.of rfl) (.of rfl) (by rw [IntKind.wrap_u64]; omega)) rfl ?_
    refine WL.val (.addx (.of rfl) (.of rfl) (by rw [IntKind.wrap_u64]; omega)) rfl ?_
    rw [show (16*(d:Int)+(((at_ s (i:Int)).toNat:Int) - 97)+10)=((16*d+((at_ s (i:Int)).toNat - 97)+10:Nat):Int) by simp at hb56; omega]
    refine .q 1 rfl (.nil (.region (.run 3 rfl ⟨⟨by omega,by omega⟩,trivial⟩ (.nil ?_))))
    refine ⟨(i+1,16*d+((at_ s (i:Int)).toNat - 97)+10,b),⟨rfl,rfl,rfl,rfl,rfl,trivial⟩,⟨by (try dsimp only); omega,by (try dsimp only); omega,by (try dsimp only); exact Y2q (show 16*d+((at_ s (i:Int)).toNat - 97)+10<16*16 ^ (i - ((pre k).length+1)) by have h9:(at_ s (i:Int)).toNat≤102:=(by simp at hb56; omega); have h8:97≤(at_ s (i:Int)).toNat:=(by simp at hb56; omega); omega) (by rw [show i+1 - ((pre k).length+1)=(i - ((pre k).length+1))+1 by omega,Y2a]; omega),?_,hS⟩,by (try dsimp only); omega⟩
    try dsimp only
    rw [X8h hni (by omega),Xbo,hhx,hx_let (by simp at hb56; omega) (by simp at hb56; omega)]
    cases b with
     | true=>simp; omega
     | false=>simp
   have hc56:=hb56; try simp only [Y6] at hc56
   refine .q 1 rfl (.region (.run 3 rfl ⟨⟨by omega,by omega⟩,trivial⟩ (.nil ?_)))
   refine ⟨(i+1,d,false),⟨rfl,rfl,rfl,rfl,rfl,trivial⟩,⟨by (try dsimp only); omega,by (try dsimp only); omega,by (try dsimp only); exact Y2q (show d<16*16 ^ (i - ((pre k).length+1)) by omega) (by rw [show i+1 - ((pre k).length+1)=(i - ((pre k).length+1))+1 by omega,Y2a]; omega),?_,hS⟩,by (try dsimp only); omega⟩
   try dsimp only
   rw [X8h hni (by omega),Xbo,hhx,hx_no (fun h=>by have h1:=h.1; have h2:=h.2; simp at hb43; omega) (fun h=>by have h1:=h.1; have h2:=h.2; simp at hb56; omega)]
   cases b <;> simp
  have hc37:=hb37; try simp only [Y6] at hc37
  refine .exit (.seq (.q 1 rfl ?_))
  refine WC.cond rfl (fun hb70=>?_) (fun hb70=>?_)
  ·
   have hc70:=hb70; try simp only [Y6] at hc70
   refine .seq (.q 5 rfl (.ret (Xbs Tryz.results74 rfl rfl rfl ?_)))
   have hs9:s=pre k ++ 45::s.drop ((pre k).length+1):=by
    have h:=Y11 ((pre k).length+1) s
    rw [hpf,Yf] at h
    exact h.symm
   have hil:i=s.length:=by omega
   have hh:hxS 0 (s.drop ((pre k).length+1))=some d:=by
    rw [hil,Yy (by rw [Yp]; omega),hb70] at hhx
    exact hhx
   have hP:Xw s=some (k,d):=by
    rw [hs9]
    exact Xnz hk1.1 hk1.2 (by rw [Yp]; omega) hh
   rw [hP]
   exact ⟨_,rfl,rfl,hS⟩
  have hc70:=hb70; try simp only [Y6] at hc70
  refine .skip (.region (.run 3 rfl ⟨⟨by omega,by omega⟩,trivial⟩ (.nil ?_)))
  refine ⟨k+1,⟨rfl,rfl,trivial⟩,⟨by (try dsimp only); omega,by (try dsimp only); omega,fun j d hj h=>?_,hS⟩,by (try dsimp only); omega⟩
  rcases Yr j k with h1 | h1
  ·exact hno j d h1 h
  ·have e:k=j:=by omega
   subst e
   obtain ⟨t,ht,htl,hth⟩:=Xff h
   obtain ⟨g1,g2,g3⟩:=Xol ht htl
   first
   | (have h3:=hb32; simp [g1,g2] at h3; done)
   | (have h3:=hb32; simp [g1,g2] at h3; omega)
   | (have h3:hxS 0 ((s.drop ((pre k).length+1)).take (s.length - ((pre k).length+1)))=some d:=(by (rw [g3,Yy (by omega)]; exact hth)); rw [show i=s.length by omega] at hhx; rw [hhx] at h3; simp [hb70] at h3)
 have hc13:=hb13; try simp only [Y6] at hc13
 refine .exit (.seq (.q 3 rfl (.ret (Xbs Tryz.results74 rfl rfl rfl ?_))))
 have hP:Xw s=none:=by
  cases h:Xw s with
  | none=>rfl
  | some x =>
   obtain ⟨j,d⟩:=x
   have:=X39 h
   exact absurd h (hno j d (by omega))
 rw [hP]
 exact ⟨_,rfl,rfl,hS⟩
def PL:List (Int×Int):=[(1,0),(6,0),(2,1),(3,4),(4,2),(4,3),(5,4)]
set_option maxRecDepth 20000 in
theorem Xcd (kind of9:Int) (B w:World) (I:Im) (As:List Xe) (hS:Sat B w I As) :
  Calls Tryz.prog 162 [I64 kind,I64 of9].toArray w (Ret fun v w'=>v=.bool (X6f kind of9)∧Sat B w' I As):=by
 refine calls Tryz.func162 rfl Tryz.ntmps162 rfl (.seq (.q 1 rfl (.seq (.region (.buildSlice (cs:=[_,_]) hS (X5 (.of rfl) (X5 (.of rfl) X6)) Xi Qs3 Qz3 rfl rfl rfl rfl ?_)))))
 clear hS; intro b7 w hS
 refine .buildSlice (cs:=[_,_]) hS (X5 (.of rfl) (X5 (.of rfl) X6)) Xi Qs3 Qz3 rfl rfl rfl rfl ?_
 clear hS; intro b8 w hS
 refine .buildSlice (cs:=[_,_]) hS (X5 (.of rfl) (X5 (.of rfl) X6)) Xi Qs3 Qz3 rfl rfl rfl rfl ?_
 clear hS; intro b9 w hS
 refine .buildSlice (cs:=[_,_]) hS (X5 (.of rfl) (X5 (.of rfl) X6)) Xi Qs3 Qz3 rfl rfl rfl rfl ?_
 clear hS; intro b10 w hS
 refine .buildSlice (cs:=[_,_]) hS (X5 (.of rfl) (X5 (.of rfl) X6)) Xi Qs3 Qz3 rfl rfl rfl rfl ?_
 clear hS; intro b11 w hS
 refine .buildSlice (cs:=[_,_]) hS (X5 (.of rfl) (X5 (.of rfl) X6)) Xi Qs3 Qz3 rfl rfl rfl rfl ?_
 clear hS; intro b12 w hS
 refine .buildSlice (cs:=[_,_]) hS (X5 (.of rfl) (X5 (.of rfl) X6)) Xi Qs3 Qz3 rfl rfl rfl rfl ?_
 clear hS; intro b13 w hS
 refine .buildSlice (cs:=[_,_,_,_,_,_,_]) hS (X5 (.of rfl) (X5 (.of rfl) (X5 (.of rfl) (X5 (.of rfl) (X5 (.of rfl) (X5 (.of rfl) (X5 (.of rfl) X6))))))) X20 X1a Xlw rfl rfl rfl rfl ?_
 clear hS; intro b14 w hS
 refine .q 1 rfl (.nil (.seq (.seq (.q 1 rfl (.block (.loop (σ:=Nat) (fun i=>[(0,I64 kind),(1,I64 of9),(5,.slice (some (ad b14 0)) 7 7),(6,I64 (i:Nat))]) (fun i w=>i≤7∧(∀ (j:Nat) p,j<i→PL[j]?=some p→(p.1 == kind && p.2 == of9)=false)∧Sat B w I (blk b14 [.slice (some (ad b7 0)) 2 2,.slice (some (ad b8 0)) 2 2,.slice (some (ad b9 0)) 2 2,.slice (some (ad b10 0)) 2 2,.slice (some (ad b11 0)) 2 2,.slice (some (ad b12 0)) 2 2,.slice (some (ad b13 0)) 2 2] 195::blk b13 [I64 5,I64 4] 3::blk b12 [I64 4,I64 3] 3::blk b11 [I64 4,I64 2] 3::blk b10 [I64 3,I64 4] 3::blk b9 [I64 2,I64 1] 3::blk b8 [I64 6,I64 0] 3::blk b7 [I64 1,I64 0] 3::As)) (fun i=>7 - i) 0 ⟨rfl,rfl,rfl,rfl,trivial⟩ ⟨Yq _,fun _ _ h=>absurd h (by omega),hS⟩ ?_))))))
 rintro i w ⟨hi,hno,hS⟩
 refine .seq (.seq (.region (.run 4 rfl ⟨⟨_,X20⟩,trivial⟩ (.nil ?_))))
 refine WC.cond rfl (fun hb18=>?_) (fun hb18=>?_)
 ·
  have hc18:=hb18; try simp only [Y6] at hc18
  refine .skip (.seq (.block (.seq (.region ?_))))
  rcases (by omega:i=0∨i=1∨i=2∨i=3∨i=4∨i=5∨i=6) with rfl | rfl | rfl | rfl | rfl | rfl | rfl
  ·
   refine .val (.move (.of rfl)) rfl (.q 1 rfl ?_)
   refine WL.val (.indexAddr (.of rfl) (.of rfl) (by omega) (by omega) X20 X1a) rfl ?_
   refine WL.val (.ld (.of rfl) hS (k:=0) rfl X2z rfl) rfl ?_
   refine WL.val (.indexAddr (.of rfl) (.of rfl) (by omega) (by omega) Xi Qs3) rfl ?_
   refine WL.val (.ld (.of rfl) hS (k:=7) rfl Qg3 rfl) rfl ?_
   refine .q 3 rfl (.gval rfl rfl (fun hg1=>(.move (.of rfl))) rfl (.gval rfl rfl (fun hg1=>(.move (.of rfl))) rfl ?_))
   refine WL.gval rfl rfl (fun hg1=>(by exact .indexAddr (.gd hg1 rfl) (.gd hg1 rfl) (by (try simp only [Y6] at hg1); omega) (by (try simp only [Y6] at hg1); omega) X20 X1a)) rfl ?_
   refine WL.gval rfl rfl (fun hg1=>(by exact (.ld (.gd hg1 rfl) hS (k:=0) rfl X2z rfl))) rfl ?_
   refine WL.gval rfl rfl (fun hg1=>(by exact .indexAddr (.gd hg1 rfl) (.of rfl) (by (try simp only [Y6] at hg1); omega) (by (try simp only [Y6] at hg1); omega) Xi Qs3)) rfl ?_
   refine WL.gval rfl rfl (fun hg1=>(by exact (.ld (.gd hg1 rfl) hS (k:=7) rfl Qg3 rfl))) rfl ?_
   refine .gval rfl rfl (fun hg1=>(.move (.of rfl))) rfl (.gval rfl rfl (fun hg1=>(.eql (.gd hg1 rfl) (.gd hg1 rfl))) rfl (.val (.pand (.of rfl) (.of rfl) (.of rfl)) rfl (.nil ?_)))
   refine WC.cond rfl (fun hb38=>?_) (fun hb38=>?_)
   ·
    refine .seq (.q 1 rfl (.ret (Xh Xd5 rfl ?_)))
    refine ⟨_,rfl,congrArg Value.bool ?_,((((((((hS.drop (k:=0) rfl).drop (k:=0) rfl).drop (k:=0) rfl).drop (k:=0) rfl).drop (k:=0) rfl).drop (k:=0) rfl).drop (k:=0) rfl).drop (k:=0) rfl)⟩
    simp at hb38
    obtain ⟨h1,h2⟩:=hb38
    subst h1 h2
    rfl
   refine .skip (.region (.run 3 rfl ⟨⟨by omega,by omega⟩,trivial⟩ (.nil ?_)))
   refine ⟨1,⟨rfl,rfl,rfl,rfl,trivial⟩,⟨by decide,fun j p hj hp=>?_,hS⟩,by decide⟩
   rcases Yr j 0 with h1 | h1
   ·exact hno j p h1 hp
   ·have e:j=0:=by omega
    subst e
    cases hp
    simpa using hb38
  ·
   refine .val (.move (.of rfl)) rfl (.q 1 rfl ?_)
   refine WL.val (.indexAddr (.of rfl) (.of rfl) (by omega) (by omega) X20 X1a) rfl ?_
   refine WL.val (.ld (.of rfl) hS (k:=0) rfl X2z rfl) rfl ?_
   refine WL.val (.indexAddr (.of rfl) (.of rfl) (by omega) (by omega) Xi Qs3) rfl ?_
   refine WL.val (.ld (.of rfl) hS (k:=6) rfl Qg3 rfl) rfl ?_
   refine .q 3 rfl (.gval rfl rfl (fun hg1=>(.move (.of rfl))) rfl (.gval rfl rfl (fun hg1=>(.move (.of rfl))) rfl ?_))
   refine WL.gval rfl rfl (fun hg1=>(by exact .indexAddr (.gd hg1 rfl) (.gd hg1 rfl) (by (try simp only [Y6] at hg1); omega) (by (try simp only [Y6] at hg1); omega) X20 X1a)) rfl ?_
   refine WL.gval rfl rfl (fun hg1=>(by exact (.ld (.gd hg1 rfl) hS (k:=0) rfl X2z rfl))) rfl ?_
   refine WL.gval rfl rfl (fun hg1=>(by exact .indexAddr (.gd hg1 rfl) (.of rfl) (by (try simp only [Y6] at hg1); omega) (by (try simp only [Y6] at hg1); omega) Xi Qs3)) rfl ?_
   refine WL.gval rfl rfl (fun hg1=>(by exact (.ld (.gd hg1 rfl) hS (k:=6) rfl Qg3 rfl))) rfl ?_
   refine .gval rfl rfl (fun hg1=>(.move (.of rfl))) rfl (.gval rfl rfl (fun hg1=>(.eql (.gd hg1 rfl) (.gd hg1 rfl))) rfl (.val (.pand (.of rfl) (.of rfl) (.of rfl)) rfl (.nil ?_)))
   refine WC.cond rfl (fun hb38=>?_) (fun hb38=>?_)
   ·
    refine .seq (.q 1 rfl (.ret (Xh Xd5 rfl ?_)))
    refine ⟨_,rfl,congrArg Value.bool ?_,((((((((hS.drop (k:=0) rfl).drop (k:=0) rfl).drop (k:=0) rfl).drop (k:=0) rfl).drop (k:=0) rfl).drop (k:=0) rfl).drop (k:=0) rfl).drop (k:=0) rfl)⟩
    simp at hb38
    obtain ⟨h1,h2⟩:=hb38
    subst h1 h2
    rfl
   refine .skip (.region (.run 3 rfl ⟨⟨by omega,by omega⟩,trivial⟩ (.nil ?_)))
   refine ⟨2,⟨rfl,rfl,rfl,rfl,trivial⟩,⟨by decide,fun j p hj hp=>?_,hS⟩,by decide⟩
   rcases Yr j 1 with h1 | h1
   ·exact hno j p h1 hp
   ·have e:j=1:=by omega
    subst e
    cases hp
    simpa using hb38
  ·
   refine .val (.move (.of rfl)) rfl (.q 1 rfl ?_)
   refine WL.val (.indexAddr (.of rfl) (.of rfl) (by omega) (by omega) X20 X1a) rfl ?_
   refine WL.val (.ld (.of rfl) hS (k:=0) rfl X2z rfl) rfl ?_
   refine WL.val (.indexAddr (.of rfl) (.of rfl) (by omega) (by omega) Xi Qs3) rfl ?_
   refine WL.val (.ld (.of rfl) hS (k:=5) rfl Qg3 rfl) rfl ?_
   refine .q 3 rfl (.gval rfl rfl (fun hg1=>(.move (.of rfl))) rfl (.gval rfl rfl (fun hg1=>(.move (.of rfl))) rfl ?_))
   refine WL.gval rfl rfl (fun hg1=>(by exact .indexAddr (.gd hg1 rfl) (.gd hg1 rfl) (by (try simp only [Y6] at hg1); omega) (by (try simp only [Y6] at hg1); omega) X20 X1a)) rfl ?_
   refine WL.gval rfl rfl (fun hg1=>(by exact (.ld (.gd hg1 rfl) hS (k:=0) rfl X2z rfl))) rfl ?_
   refine WL.gval rfl rfl (fun hg1=>(by exact .indexAddr (.gd hg1 rfl) (.of rfl) (by (try simp only [Y6] at hg1); omega) (by (try simp only [Y6] at hg1); omega) Xi Qs3)) rfl ?_
   refine WL.gval rfl rfl (fun hg1=>(by exact (.ld (.gd hg1 rfl) hS (k:=5) rfl Qg3 rfl))) rfl ?_
   refine .gval rfl rfl (fun hg1=>(.move (.of rfl))) rfl (.gval rfl rfl (fun hg1=>(.eql (.gd hg1 rfl) (.gd hg1 rfl))) rfl (.val (.pand (.of rfl) (.of rfl) (.of rfl)) rfl (.nil ?_)))
   refine WC.cond rfl (fun hb38=>?_) (fun hb38=>?_)
   ·
    refine .seq (.q 1 rfl (.ret (Xh Xd5 rfl ?_)))
    refine ⟨_,rfl,congrArg Value.bool ?_,((((((((hS.drop (k:=0) rfl).drop (k:=0) rfl).drop (k:=0) rfl).drop (k:=0) rfl).drop (k:=0) rfl).drop (k:=0) rfl).drop (k:=0) rfl).drop (k:=0) rfl)⟩
    simp at hb38
    obtain ⟨h1,h2⟩:=hb38
    subst h1 h2
    rfl
   refine .skip (.region (.run 3 rfl ⟨⟨by omega,by omega⟩,trivial⟩ (.nil ?_)))
   refine ⟨3,⟨rfl,rfl,rfl,rfl,trivial⟩,⟨by decide,fun j p hj hp=>?_,hS⟩,by decide⟩
   rcases Yr j 2 with h1 | h1
   ·exact hno j p h1 hp
   ·have e:j=2:=by omega
    subst e
    cases hp
    simpa using hb38
  ·
   refine .val (.move (.of rfl)) rfl (.q 1 rfl ?_)
   refine WL.val (.indexAddr (.of rfl) (.of rfl) (by omega) (by omega) X20 X1a) rfl ?_
   refine WL.val (.ld (.of rfl) hS (k:=0) rfl X2z rfl) rfl ?_
   refine WL.val (.indexAddr (.of rfl) (.of rfl) (by omega) (by omega) Xi Qs3) rfl ?_
   refine WL.val (.ld (.of rfl) hS (k:=4) rfl Qg3 rfl) rfl ?_
   refine .q 3 rfl (.gval rfl rfl (fun hg1=>(.move (.of rfl))) rfl (.gval rfl rfl (fun hg1=>(.move (.of rfl))) rfl ?_))
   refine WL.gval rfl rfl (fun hg1=>(by exact .indexAddr (.gd hg1 rfl) (.gd hg1 rfl) (by (try simp only [Y6] at hg1); omega) (by (try simp only [Y6] at hg1); omega) X20 X1a)) rfl ?_
   refine WL.gval rfl rfl (fun hg1=>(by exact (.ld (.gd hg1 rfl) hS (k:=0) rfl X2z rfl))) rfl ?_
   refine WL.gval rfl rfl (fun hg1=>(by exact .indexAddr (.gd hg1 rfl) (.of rfl) (by (try simp only [Y6] at hg1); omega) (by (try simp only [Y6] at hg1); omega) Xi Qs3)) rfl ?_
   refine WL.gval rfl rfl (fun hg1=>(by exact (.ld (.gd hg1 rfl) hS (k:=4) rfl Qg3 rfl))) rfl ?_
   refine .gval rfl rfl (fun hg1=>(.move (.of rfl))) rfl (.gval rfl rfl (fun hg1=>(.eql (.gd hg1 rfl) (.gd hg1 rfl))) rfl (.val (.pand (.of rfl) (.of rfl) (.of rfl)) rfl (.nil ?_)))
   refine WC.cond rfl (fun hb38=>?_) (fun hb38=>?_)
   ·
    refine .seq (.q 1 rfl (.ret (Xh Xd5 rfl ?_)))
    refine ⟨_,rfl,congrArg Value.bool ?_,((((((((hS.drop (k:=0) rfl).drop (k:=0) rfl).drop (k:=0) rfl).drop (k:=0) rfl).drop (k:=0) rfl).drop (k:=0) rfl).drop (k:=0) rfl).drop (k:=0) rfl)⟩
    simp at hb38
    obtain ⟨h1,h2⟩:=hb38
    subst h1 h2
    rfl
   refine .skip (.region (.run 3 rfl ⟨⟨by omega,by omega⟩,trivial⟩ (.nil ?_)))
   refine ⟨4,⟨rfl,rfl,rfl,rfl,trivial⟩,⟨by decide,fun j p hj hp=>?_,hS⟩,by decide⟩
   rcases Yr j 3 with h1 | h1
   ·exact hno j p h1 hp
   ·have e:j=3:=by omega
    subst e
    cases hp
    simpa using hb38
  ·
   refine .val (.move (.of rfl)) rfl (.q 1 rfl ?_)
   refine WL.val (.indexAddr (.of rfl) (.of rfl) (by omega) (by omega) X20 X1a) rfl ?_
   refine WL.val (.ld (.of rfl) hS (k:=0) rfl X2z rfl) rfl ?_
   refine WL.val (.indexAddr (.of rfl) (.of rfl) (by omega) (by omega) Xi Qs3) rfl ?_
   refine WL.val (.ld (.of rfl) hS (k:=3) rfl Qg3 rfl) rfl ?_
   refine .q 3 rfl (.gval rfl rfl (fun hg1=>(.move (.of rfl))) rfl (.gval rfl rfl (fun hg1=>(.move (.of rfl))) rfl ?_))
   refine WL.gval rfl rfl (fun hg1=>(by exact .indexAddr (.gd hg1 rfl) (.gd hg1 rfl) (by (try simp only [Y6] at hg1); omega) (by (try simp only [Y6] at hg1); omega) X20 X1a)) rfl ?_
   refine WL.gval rfl rfl (fun hg1=>(by exact (.ld (.gd hg1 rfl) hS (k:=0) rfl X2z rfl))) rfl ?_
   refine WL.gval rfl rfl (fun hg1=>(by exact .indexAddr (.gd hg1 rfl) (.of rfl) (by (try simp only [Y6] at hg1); omega) (by (try simp only [Y6] at hg1); omega) Xi Qs3)) rfl ?_
   refine WL.gval rfl rfl (fun hg1=>(by exact (.ld (.gd hg1 rfl) hS (k:=3) rfl Qg3 rfl))) rfl ?_
   refine .gval rfl rfl (fun hg1=>(.move (.of rfl))) rfl (.gval rfl rfl (fun hg1=>(.eql (.gd hg1 rfl) (.gd hg1 rfl))) rfl (.val (.pand (.of rfl) (.of rfl) (.of rfl)) rfl (.nil ?_)))
   refine WC.cond rfl (fun hb38=>?_) (fun hb38=>?_)
   ·
    refine .seq (.q 1 rfl (.ret (Xh Xd5 rfl ?_)))
    refine ⟨_,rfl,congrArg Value.bool ?_,((((((((hS.drop (k:=0) rfl).drop (k:=0) rfl).drop (k:=0) rfl).drop (k:=0) rfl).drop (k:=0) rfl).drop (k:=0) rfl).drop (k:=0) rfl).drop (k:=0) rfl)⟩
    simp at hb38
    obtain ⟨h1,h2⟩:=hb38
    subst h1 h2
    rfl
   refine .skip (.region (.run 3 rfl ⟨⟨by omega,by omega⟩,trivial⟩ (.nil ?_)))
   refine ⟨5,⟨rfl,rfl,rfl,rfl,trivial⟩,⟨by decide,fun j p hj hp=>?_,hS⟩,by decide⟩
   rcases Yr j 4 with h1 | h1
   ·exact hno j p h1 hp
   ·have e:j=4:=by omega
    subst e
    cases hp
    simpa using hb38
  ·
   refine .val (.move (.of rfl)) rfl (.q 1 rfl ?_)
   refine WL.val (.indexAddr (.of rfl) (.of rfl) (by omega) (by omega) X20 X1a) rfl ?_
   refine WL.val (.ld (.of rfl) hS (k:=0) rfl X2z rfl) rfl ?_
   refine WL.val (.indexAddr (.of rfl) (.of rfl) (by omega) (by omega) Xi Qs3) rfl ?_
   refine WL.val (.ld (.of rfl) hS (k:=2) rfl Qg3 rfl) rfl ?_
   refine .q 3 rfl (.gval rfl rfl (fun hg1=>(.move (.of rfl))) rfl (.gval rfl rfl (fun hg1=>(.move (.of rfl))) rfl ?_))
   refine WL.gval rfl rfl (fun hg1=>(by exact .indexAddr (.gd hg1 rfl) (.gd hg1 rfl) (by (try simp only [Y6] at hg1); omega) (by (try simp only [Y6] at hg1); omega) X20 X1a)) rfl ?_
   refine WL.gval rfl rfl (fun hg1=>(by exact (.ld (.gd hg1 rfl) hS (k:=0) rfl X2z rfl))) rfl ?_
   refine WL.gval rfl rfl (fun hg1=>(by exact .indexAddr (.gd hg1 rfl) (.of rfl) (by (try simp only [Y6] at hg1); omega) (by (try simp only [Y6] at hg1); omega) Xi Qs3)) rfl ?_
   refine WL.gval rfl rfl (fun hg1=>(by exact (.ld (.gd hg1 rfl) hS (k:=2) rfl Qg3 rfl))) rfl ?_
   refine .gval rfl rfl (fun hg1=>(.move (.of rfl))) rfl (.gval rfl rfl (fun hg1=>(.eql (.gd hg1 rfl) (.gd hg1 rfl))) rfl (.val (.pand (.of rfl) (.of rfl) (.of rfl)) rfl (.nil ?_)))
   refine WC.cond rfl (fun hb38=>?_) (fun hb38=>?_)
   ·
    refine .seq (.q 1 rfl (.ret (Xh Xd5 rfl ?_)))
    refine ⟨_,rfl,congrArg Value.bool ?_,((((((((hS.drop (k:=0) rfl).drop (k:=0) rfl).drop (k:=0) rfl).drop (k:=0) rfl).drop (k:=0) rfl).drop (k:=0) rfl).drop (k:=0) rfl).drop (k:=0) rfl)⟩
    simp at hb38
    obtain ⟨h1,h2⟩:=hb38
    subst h1 h2
    rfl
   refine .skip (.region (.run 3 rfl ⟨⟨by omega,by omega⟩,trivial⟩ (.nil ?_)))
   refine ⟨6,⟨rfl,rfl,rfl,rfl,trivial⟩,⟨by decide,fun j p hj hp=>?_,hS⟩,by decide⟩
   rcases Yr j 5 with h1 | h1
   ·exact hno j p h1 hp
   ·have e:j=5:=by omega
    subst e
    cases hp
    simpa using hb38
  refine .val (.move (.of rfl)) rfl (.q 1 rfl ?_)
  refine WL.val (.indexAddr (.of rfl) (.of rfl) (by omega) (by omega) X20 X1a) rfl ?_
  refine WL.val (.ld (.of rfl) hS (k:=0) rfl X2z rfl) rfl ?_
  refine WL.val (.indexAddr (.of rfl) (.of rfl) (by omega) (by omega) Xi Qs3) rfl ?_
  refine WL.val (.ld (.of rfl) hS (k:=1) rfl Qg3 rfl) rfl ?_
  refine .q 3 rfl (.gval rfl rfl (fun hg1=>(.move (.of rfl))) rfl (.gval rfl rfl (fun hg1=>(.move (.of rfl))) rfl ?_))
  refine WL.gval rfl rfl (fun hg1=>(by exact .indexAddr (.gd hg1 rfl) (.gd hg1 rfl) (by (try simp only [Y6] at hg1); omega) (by (try simp only [Y6] at hg1); omega) X20 X1a)) rfl ?_
  refine WL.gval rfl rfl (fun hg1=>(by exact (.ld (.gd hg1 rfl) hS (k:=0) rfl X2z rfl))) rfl ?_
  refine WL.gval rfl rfl (fun hg1=>(by exact .indexAddr (.gd hg1 rfl) (.of rfl) (by (try simp only [Y6] at hg1); omega) (by (try simp only [Y6] at hg1); omega) Xi Qs3)) rfl ?_
  refine WL.gval rfl rfl (fun hg1=>(by exact (.ld (.gd hg1 rfl) hS (k:=1) rfl Qg3 rfl))) rfl ?_
  refine .gval rfl rfl (fun hg1=>(.move (.of rfl))) rfl (.gval rfl rfl (fun hg1=>(.eql (.gd hg1 rfl) (.gd hg1 rfl))) rfl (.val (.pand (.of rfl) (.of rfl) (.of rfl)) rfl (.nil ?_)))
  refine WC.cond rfl (fun hb38=>?_) (fun hb38=>?_)
  ·
   refine .seq (.q 1 rfl (.ret (Xh Xd5 rfl ?_)))
   refine ⟨_,rfl,congrArg Value.bool ?_,((((((((hS.drop (k:=0) rfl).drop (k:=0) rfl).drop (k:=0) rfl).drop (k:=0) rfl).drop (k:=0) rfl).drop (k:=0) rfl).drop (k:=0) rfl).drop (k:=0) rfl)⟩
   simp at hb38
   obtain ⟨h1,h2⟩:=hb38
   subst h1 h2
   rfl
  refine .skip (.region (.run 3 rfl ⟨⟨by omega,by omega⟩,trivial⟩ (.nil ?_)))
  refine ⟨7,⟨rfl,rfl,rfl,rfl,trivial⟩,⟨by decide,fun j p hj hp=>?_,hS⟩,by decide⟩
  rcases Yr j 6 with h1 | h1
  ·exact hno j p h1 hp
  ·have e:j=6:=by omega
   subst e
   cases hp
   simpa using hb38
 have hc18:=hb18; try simp only [Y6] at hc18
 refine .exit (.seq (.q 1 rfl (.ret (Xh Xd5 rfl ?_))))
 have e7:i=7:=by omega
 subst e7
 refine ⟨_,rfl,congrArg Value.bool ?_,((((((((hS.drop (k:=0) rfl).drop (k:=0) rfl).drop (k:=0) rfl).drop (k:=0) rfl).drop (k:=0) rfl).drop (k:=0) rfl).drop (k:=0) rfl).drop (k:=0) rfl)⟩
 cases h:X6f kind of9 with
 | false=>rfl
 | true =>
  exfalso
  have h0:=hno 0 _ (by decide) rfl
  have h1:=hno 1 _ (by decide) rfl
  have h2:=hno 2 _ (by decide) rfl
  have h3:=hno 3 _ (by decide) rfl
  have h4:=hno 4 _ (by decide) rfl
  have h5:=hno 5 _ (by decide) rfl
  have h6:=hno 6 _ (by decide) rfl
  simp at h0 h1 h2 h3 h4 h5 h6
  simp [X6f] at h
  omega
def kdT (s:List UInt8):Int:=match Xw s with
 | some (k,_)=>(k:Nat)
 | none=>0
def drT (s:List UInt8):Nat:=match Xw s with
 | some (_,d)=>d
 | none=>0
theorem Xka (s:List UInt8):(match Xw s with | some (k,d)=>Value.tuple #[I64 (k:Nat),U64 (d:Nat),.bool true] | none=>.tuple #[I64 0,U64 0,.bool false])=.tuple #[I64 (kdT s),U64 (drT s:Nat),.bool (Xw s).isSome]:=by
 unfold kdT drT
 cases Xw s with
 | none=>rfl
 | some x=>rfl
theorem Xkb (s:List UInt8) (k:Int):isT s k=((Xw s).isSome && decide (kdT s=k)):=by
 unfold isT kdT
 cases Xw s with
 | none=>rfl
 | some x=>obtain ⟨a,b⟩:=x; rfl
theorem Xdv (k:Int) (s:List UInt8):X31 k s=(((Xw s).isSome || decide (s=[])) && X6f k (kdT s)):=by
 unfold X31
 by_cases h:s=[]
 ·subst h; rfl
 ·rw [if_neg h]
  unfold kdT
  cases Xw s with
  | none=>simp [h]
  | some x=>obtain ⟨a,b⟩:=x; simp
theorem X33 (s:List UInt8) (hsl:s.length≤9223372036854775000) (B w:World) (I:Im) (As:List Xe) (hS:Sat B w I As) :
  Calls Tryz.prog 74 [S s].toArray w (Ret fun v w'=>v=.tuple #[I64 (kdT s),U64 (drT s:Nat),.bool (Xw s).isSome]∧Sat B w' I As) :=
 (Xbc s hsl B w I As hS).mono fun e w' ⟨v,he,hv,hS⟩=>⟨v,he,by rw [hv,Xka],hS⟩
theorem X7e (r:Rec) (hn:r.name.length≤9223372036854775000) (hp:r.parent.length≤9223372036854775000) (B w:World) (I:Im) (As:List Xe) (hS:Sat B w I As) :
  Calls Tryz.prog 123 [.agg (X7 r).toArray].toArray w (Ret fun v w'=>v=.bool (Xt r)∧Sat B w' I As):=by
 refine calls Tryz.func123 rfl Tryz.ntmps123 rfl (.seq (.region (.boxA (cs:=[_,_,_,_,_,_,_,_,_,_]) hS (.of rfl) rfl ?_)))
 clear hS; intro b1 w hS
 refine .q 1 rfl (.nil (.seq (.region ?_)))
 refine WL.val (.fieldAddr 1 (.of rfl) X16 rfl rfl Qs9 rfl) rfl ?_
 refine .val (.ld (.of rfl) hS (k:=0) rfl Qg9 rfl) rfl (.call Qf74 rfl (X0 (.of rfl) X4) rfl (X33 r.name hn B _ I _ hS) ?_)
 clear hS
 rintro _ w ⟨rfl,hS⟩
 refine .q 7 rfl (.nil (.seq (.seq (.t 3 rfl (.gval rfl rfl (fun hg1=>(.move (.of rfl))) rfl ?_)))))
 refine WL.gval rfl rfl (fun hg1=>(by exact .fieldAddr 0 (.of rfl) X16 rfl rfl Qs3 rfl)) rfl ?_
 refine .gval rfl rfl (fun hg1=>(.ld (.gd hg1 rfl) hS (k:=0) rfl Qg3 rfl)) rfl (.gval rfl rfl (fun hg1=>(.neq (.gd hg1 rfl) (.gd hg1 rfl))) rfl (.val (.por (.of rfl) (.of rfl) (.of rfl)) rfl (.q 1 rfl ?_)))
 refine WL.gval rfl rfl (fun hg1=>(by exact .fieldAddr 3 (.of rfl) X16 rfl rfl Qs9 rfl)) rfl ?_
 refine .gval rfl rfl (fun hg1=>(.ld (.gd hg1 rfl) hS (k:=0) rfl Qg9 rfl)) rfl (.gval rfl rfl (fun hg1=>(.len (.gd hg1 rfl) Qu9)) rfl (.gval rfl rfl (fun hg1=>(.gtr (.gd hg1 rfl) (.of rfl))) rfl (.val (.por (.of rfl) (.of rfl) (.of rfl)) rfl (.q 1 rfl ?_))))
 refine WL.gval rfl rfl (fun hg1=>(by exact .fieldAddr 4 (.of rfl) X16 rfl rfl Qs9 rfl)) rfl ?_
 refine .gval rfl rfl (fun hg1=>(.ld (.gd hg1 rfl) hS (k:=0) rfl Qg9 rfl)) rfl (.gval rfl rfl (fun hg1=>(.len (.gd hg1 rfl) Qu9)) rfl (.gval rfl rfl (fun hg1=>(.gtr (.gd hg1 rfl) (.of rfl))) rfl (.val (.por (.of rfl) (.of rfl) (.of rfl)) rfl (.q 1 rfl ?_))))
 refine WL.gval rfl rfl (fun hg1=>(by exact .fieldAddr 5 (.of rfl) X16 rfl rfl Qs9 rfl)) rfl ?_
 refine .gval rfl rfl (fun hg1=>(.ld (.gd hg1 rfl) hS (k:=0) rfl Qg9 rfl)) rfl (.gval rfl rfl (fun hg1=>(.len (.gd hg1 rfl) Qu9)) rfl (.gval rfl rfl (fun hg1=>(.gtr (.gd hg1 rfl) (.of rfl))) rfl (.val (.por (.of rfl) (.of rfl) (.of rfl)) rfl (.nil ?_))))
 refine WC.cond rfl (fun hb41=>?_) (fun hb41=>?_)
 ·
  refine .seq (.q 1 rfl (.ret (Xh Xq7 rfl ?_)))
  refine ⟨_,rfl,congrArg Value.bool ?_,hS.drop (k:=0) rfl⟩
  cases h:Xt r with
  | false=>rfl
  | true =>
   exfalso
   unfold Xt at h
   simp only [Yo,decide_eq_true_eq,Xkb] at h
   obtain ⟨⟨⟨⟨⟨h1,h2⟩,h3⟩,_⟩,h4,h5⟩,_⟩:=h
   simp [h4,h5] at hb41
   omega
 refine .skip (.seq (.seq (.region ?_)))
 refine WL.val (.fieldAddr 6 (.of rfl) X16 rfl rfl Qs3 rfl) rfl ?_
 refine .val (.ld (.of rfl) hS (k:=0) rfl Qg3 rfl) rfl (.q 2 rfl ?_)
 refine WL.gval rfl rfl (fun hg1=>(by exact .fieldAddr 7 (.of rfl) X16 rfl rfl Qs3 rfl)) rfl ?_
 refine .gval rfl rfl (fun hg1=>(.ld (.gd hg1 rfl) hS (k:=0) rfl Qg3 rfl)) rfl ?_
 refine WL.gval rfl rfl (fun hg1=>(by exact .fieldAddr 6 (.of rfl) X16 rfl rfl Qs3 rfl)) rfl ?_
 refine .gval rfl rfl (fun hg1=>(.ld (.gd hg1 rfl) hS (k:=0) rfl Qg3 rfl)) rfl (.gval rfl rfl (fun hg1=>(.lss (.gd hg1 rfl) (.gd hg1 rfl))) rfl (.val (.por (.of rfl) (.of rfl) (.of rfl)) rfl (.q 1 rfl ?_)))
 refine WL.gval rfl rfl (fun hg1=>(by exact .fieldAddr 7 (.of rfl) X16 rfl rfl Qs3 rfl)) rfl ?_
 refine .gval rfl rfl (fun hg1=>(.ld (.gd hg1 rfl) hS (k:=0) rfl Qg3 rfl)) rfl (.gval rfl rfl (fun hg1=>(.gtr (.gd hg1 rfl) (.of rfl))) rfl (.val (.por (.of rfl) (.of rfl) (.of rfl)) rfl (.q 1 rfl ?_)))
 refine WL.gval rfl rfl (fun hg1=>(by exact .fieldAddr 8 (.of rfl) X16 rfl rfl Qs3 rfl)) rfl ?_
 refine .gval rfl rfl (fun hg1=>(.ld (.gd hg1 rfl) hS (k:=0) rfl Qg3 rfl)) rfl (.gval rfl rfl (fun hg1=>(.lss (.gd hg1 rfl) (.of rfl))) rfl (.val (.por (.of rfl) (.of rfl) (.of rfl)) rfl (.q 1 rfl ?_)))
 refine WL.gval rfl rfl (fun hg1=>(by exact .fieldAddr 8 (.of rfl) X16 rfl rfl Qs3 rfl)) rfl ?_
 refine .gval rfl rfl (fun hg1=>(.ld (.gd hg1 rfl) hS (k:=0) rfl Qg3 rfl)) rfl (.gval rfl rfl (fun hg1=>(.gtr (.gd hg1 rfl) (.of rfl))) rfl (.val (.por (.of rfl) (.of rfl) (.of rfl)) rfl (.nil ?_)))
 refine WC.cond rfl (fun hb66=>?_) (fun hb66=>?_)
 ·
  refine .seq (.q 1 rfl (.ret (Xh Xq7 rfl ?_)))
  refine ⟨_,rfl,congrArg Value.bool ?_,hS.drop (k:=0) rfl⟩
  cases h:Xt r with
  | false=>rfl
  | true =>
   exfalso
   unfold Xt at h
   simp only [Yo,decide_eq_true_eq,Xkb] at h
   obtain ⟨⟨⟨_,⟨⟨⟨h1,h2⟩,h3⟩,h4⟩,h5⟩,_⟩,_⟩:=h
   simp at hb66
   omega
 refine .skip (.seq (.region ?_))
 refine WL.val (.fieldAddr 2 (.of rfl) X16 rfl rfl Qs9 rfl) rfl ?_
 refine .val (.ld (.of rfl) hS (k:=0) rfl Qg9 rfl) rfl (.call Qf74 rfl (X0 (.of rfl) X4) rfl (X33 r.parent hp B _ I _ hS) ?_)
 clear hS
 rintro _ w ⟨rfl,hS⟩
 refine .q 7 rfl (.nil (.seq (.t 2 rfl ?_)))
 refine WL.gval rfl rfl (fun hg1=>(by exact .fieldAddr 2 (.of rfl) X16 rfl rfl Qs9 rfl)) rfl ?_
 refine .gval rfl rfl (fun hg1=>(.ld (.gd hg1 rfl) hS (k:=0) rfl Qg9 rfl)) rfl (.gval rfl rfl (fun hg1=>(.eqs (.gd hg1 rfl) (.of rfl))) rfl (.val (.por (.of rfl) (.of rfl) (.of rfl)) rfl (.q 1 rfl ?_)))
 refine WL.gval rfl rfl (fun hg1=>(by exact .fieldAddr 0 (.of rfl) X16 rfl rfl Qs3 rfl)) rfl ?_
 refine .gval rfl rfl (fun hg1=>(.ld (.gd hg1 rfl) hS (k:=0) rfl Qg3 rfl)) rfl (.gval rfl rfl (fun hg1=>(.move (.of rfl))) rfl (.gcall (T:=fun w=>Sat B w I _) rfl rfl rfl Tryz.func162 rfl (fun hg1=>(X0 (.gd hg1 rfl) (X0 (.gd hg1 rfl) X4))) rfl (fun hg1=>Xcd r.kind (kdT r.parent) B _ I _ hS) hS ?_))
 clear hS; rintro w hS
 refine .val (.pand (.of rfl) (.of rfl) (.of rfl)) rfl (.q 1 rfl (.nil (.ret (Xh Xq7 rfl ?_))))
 refine ⟨_,rfl,congrArg Value.bool ?_,hS.drop (k:=0) rfl⟩
 rw [Xt,Xkb,Xdv]
 simp at hb41 hb66
 obtain ⟨⟨⟨⟨g1,g2⟩,g3⟩,g4⟩,g5⟩:=hb41
 obtain ⟨⟨⟨⟨f1,f2⟩,f3⟩,f4⟩,f5⟩:=hb66
 simp [g1,g2,f1,f2,f3,f4,f5]
 have e1:((r.user.length:Nat):Int)≤32:=by omega
 have e2:((r.service.length:Nat):Int)≤100:=by omega
 have e3:((r.url.length:Nat):Int)≤100:=by omega
 simp [e1,e2,e3]
 rw [show r.parent.isEmpty=decide (r.parent=[]) by cases r.parent <;> simp]
end Go.Proofs.YtadhiihnnkcagaaGreatDoor
