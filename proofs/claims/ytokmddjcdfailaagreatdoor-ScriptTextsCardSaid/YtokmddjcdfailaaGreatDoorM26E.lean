/- Part 5 of what the proof stands on: Tbw, W21l, W21m, W21n, W18s, W18u, W18v, W21f, W21o, W21q, Scr, W26a, W26b, W26c, W26e, W26k, W26d, W26l, W26m, W26n, W26o, GkK, Kn26, Goes. -/
import Derived.Test.YtokmddjcdfailaaGreatDoorM26D
import Derived.Lib.IndexLaws
import Derived.Lib.ItoaLen
import Derived.Lib.LaidTab
import Derived.Lib.LaidU8
import Derived.Lay
import Derived.Shelf.Vars
import Derived.HandedShaped
import Derived.MakeChecks
import Derived.OpenShut
import Derived.Test.YtokmddjcdfailaaGreatDoorRows
import Derived.KernelRfl
import Derived.Test.YtokmddjcdfailaaGreatDoorCards
import Derived.Test.YtokmddjcdfailaaGreatDoorChecked
import Derived.LaidByTextLater
set_option linter.unusedVariables false
set_option linter.unusedSimpArgs false
namespace Tr
open Tk
inductive Und (l:List Rec) (k:List UInt8):List UInt8→Prop
 | self:Und l k k
 | step {i:Nat} {r:Rec} (hr:l[i]?=some r) (h:Und l k r.parent):Und l k r.name
theorem Und.trans {l:List Rec} {a b c:List UInt8} (h:Und l a b) (k:Und l b c):Und l a c:=by
 induction k with
 | self=>exact h
 | step hr _ ih=>exact .step hr ih
theorem Xfy {l:List Rec} {name x:List UInt8} (h:x∈kids l name):name≠[]∧∃ (i:Nat) (r:Rec),l[i]?=some r∧r.parent=name∧r.name=x:=by
 unfold kids Xih at h
 obtain ⟨r,hr,hx⟩:=Y3b.1 h
 obtain ⟨h1,h2⟩:=Y2q.1 hr
 simp only [Y5,decide_eq_true_eq] at h2
 obtain ⟨i,hi,he⟩:=List.getElem_of_mem h1
 exact ⟨h2.1,i,r,by rw [Yb hi,he],h2.2,hx⟩
theorem kid_at {l:List Rec} (hw:Wf l) {name k:List UInt8} (h:k∈kids l name):at0 l name<at0 l k∧0≤at0 l k∧0≤at0 l name:=by
 obtain ⟨h0,i,r,hr,hp,hn⟩:=Xfy h
 have h1:=(hw.up i r hr)
 have h2:=hw.at_ hr
 subst hp; subst hn
 rcases h1.1 with e | e
 ·exact absurd e h0
 ·rw [h2]; exact ⟨h1.2,by omega,e⟩
theorem X4u {l:List Rec} (hw:Wf l):∀ (n m:Nat) (name:List UInt8),0≤at0 l name→(l.length:Int) - at0 l name≤n→(l.length:Int) - at0 l name≤m→X2p l n name=X2p l m name
 | 0,_,name,_,h,_=>by have:=Xhs l name; omega
 | _+1,0,name,_,_,h=>by have:=Xhs l name; omega
 | n+1,m+1,name,h0,hn,hm=>by
  rw [X2p,X2p]
  congr 1
  rw [List.flatMap_def,List.flatMap_def]
  congr 1
  refine List.map_congr_left fun k hk=>?_
  have:=kid_at hw hk
  exact X4u hw n m k this.2.1 (by omega) (by omega)
theorem X6j {l:List Rec} {i:Nat} {r:Rec} (hr:l[i]?=some r) (h0:r.parent≠[]):∀ (n:Nat) (name:List UInt8),r.parent∈X2p l n name→r.name∈X2p l (n+1) name
 | 0,_,h=>by simp [X2p] at h
 | n+1,name,h=>by
  rw [X2p,Y19] at h ⊢
  refine .inr (List.mem_flatMap.2 ?_)
  rcases h with e | h
  ·refine ⟨r.name,?_,by rw [X2p]; simp⟩
   unfold kids Xih
   exact Y3b.2 ⟨r,Y2q.2 ⟨Yw hr,by simp [← e,h0]⟩,rfl⟩
  ·obtain ⟨k,hk,hx⟩:=List.mem_flatMap.1 h
   exact ⟨k,hk,X6j hr h0 n k hx⟩
theorem Xf4 {l:List Rec} (hw:Wf l) {name:List UInt8} {i:Nat} {r:Rec} (hr:l[i]?=some r) (h0:r.parent≠[]) (h:r.parent∈below l name):r.name∈below l name:=by
 unfold below at h ⊢
 split at h
 ·rename_i h1
  rw [if_pos h1,X4u hw l.length (l.length+1) name h1 (by omega) (by omega)]
  exact X6j hr h0 _ _ h
 ·simp at h
theorem Wf.names {l:List Rec} (hw:Wf l):(l.map Rec.name).Nodup:=by
 rw [List.Nodup,Y3j]
 intro i j hi hj hij e
 simp only [Yo] at hi hj
 simp only [Y2j] at e
 have:=hw.one i j l[i] l[j] (Yb hi) (Yb hj) e
 omega
theorem Wf.split {l:List Rec} (hw:Wf l) {xs ys:List Rec} {r:Rec} (h:l=xs ++ r::ys):r.parent=[]∨∃ t∈xs,t.name=r.parent:=by
 have hr:l[xs.length]?=some r:=by rw [h]; simp
 obtain ⟨h1,h2⟩:=hw.up _ _ hr
 rcases h1 with e | e
 ·exact .inl e
 ·rcases X28 l r.parent with ⟨h3,_⟩ | ⟨j,t,h3,h4,h5,_⟩
  ·omega
  ·refine .inr ⟨t,?_,h5⟩
   rw [h,Ya (by omega)] at h4
   exact Yw h4
theorem Wf.of {l:List Rec} (h1:∀ r∈l,X2u r=true) (h2:(l.map Rec.name).Nodup) (h3:∀ xs r ys,l=xs ++ r::ys→r.parent=[]∨∃ t∈xs,t.name=r.parent):Wf l:=by
 refine ⟨h1,fun i j r s hr hs e=>?_,fun i r hr=>?_⟩
 ·rw [List.Nodup,Y3j] at h2
  obtain ⟨hi,e1⟩:=Y0.1 hr
  obtain ⟨hj,e2⟩:=Y0.1 hs
  rcases Y2v i j with h | h | h
  ·exact absurd (by rw [Y2j,Y2j,e1,e2,e]) (h2 i j (by simpa using hi) (by simpa using hj) h)
  ·exact h
  ·exact absurd (by rw [Y2j,Y2j,e1,e2,e]) (h2 j i (by simpa using hj) (by simpa using hi) h)
 ·obtain ⟨hi,e1⟩:=Y0.1 hr
  have hsp:l=l.take i ++ r::l.drop (i+1):=by
   rw [← e1,← Yz hi]; exact (Y1h i l).symm
  rcases h3 _ _ _ hsp with e | ⟨t,ht,e⟩
  ·refine ⟨.inl e,?_⟩
   rcases X28 l r.parent with ⟨h4,_⟩ | ⟨j,t,h4,h5,h6,_⟩
   ·omega
   ·exact absurd (h6.trans e) (X47 (h1 t (Yw h5)))
  ·obtain ⟨j,hj,e2⟩:=List.getElem_of_mem ht
   rw [Yi] at hj
   have h7:l[j]?=some t:=by rw [← e2,List.getElem_take]; exact Yb (by omega)
   rcases X28 l r.parent with ⟨_,h5⟩ | ⟨q,u,h4,h5,h6,h8⟩
   ·exact absurd e (h5 t (Yw h7))
   ·have:q≤j:=Y3p fun hh=>h8 j t hh h7 e
    exact ⟨.inr (by omega),by omega⟩
theorem Wf.drop {l:List Rec} (hw:Wf l) (name:List UInt8):Wf (drop l name):=by
 refine Wf.of (fun r hr=>hw.right r (Y2q.1 hr).1) (hw.names.sublist (List.filter_sublist.map Rec.name)) fun xs r ys h=>?_
 obtain ⟨l1,l2,e1,e2,e3⟩:=List.filter_eq_append_iff.1 h
 obtain ⟨m1,m2,e4,e5,e6,_⟩:=List.filter_eq_cons_iff.1 e3
 have hsp:l=(l1 ++ m1) ++ r::m2:=by rw [e1,e4,Y7]
 have hr:l[(l1 ++ m1).length]?=some r:=by rw [hsp]; simp
 rcases hw.split hsp with e | ⟨t,ht,e⟩
 ·exact .inl e
 ·by_cases h0:r.parent=[]
  ·exact .inl h0
  ·refine .inr ⟨t,?_,e⟩
   have hk:((below l name).contains t.name)=false:=by
    cases hc:(below l name).contains t.name with
    | false=>rfl
    | true =>
     have h1:=Xf4 hw hr h0 (by rw [← e]; simpa using hc)
     have h2:(below l name).contains r.name=true:=by simpa using h1
     rw [h2] at e6; cases e6
   rcases Y1n.1 ht with h1 | h1
   ·rw [← e2]; exact Y2q.2 ⟨h1,by rw [hk]; rfl⟩
   ·exact absurd (by rw [hk]; rfl) (e5 t h1)
end Tr
namespace Go.Proofs.YtokmddjcdfailaaGreatDoor
open Gk Ul Pc Tk Tr
theorem WL.clear {P:Program} {n:Nat} {ops:Array Oper} {K:X1u} {rest:List Oper} {L:Env} {w B:World} {I:Im} {As:List Xe} {k b o m cap s:Nat} {cs:List Value} {E e t ty:TypeId} {x:Operand} {z:Value} {pos:String} {af:Array Edge} (hS:Sat B w I As) (hk:As[k]?=some (blk b cs E)) (hx:Ev n L x (.slice (some (ad b o)) m cap)) (ht:P.underlying t=some (.slice e)) (hz:∀ w,(zeroValue e).run P w=.ok z w) (hs:z.cells.size=s) (h1:∀ v∈z.cells,v.oneCell'=true) (ho:o+m*s≤cs.length)
  (h:∀ w' cs',cs'.length=cs.length→cs'.take o=cs.take o→Sat B w' I (As.set k (blk b cs' E))→WL P n ops K rest L w'):WL P n ops K (⟨none,.call ⟨.builtin .clear,#[x],#[t]⟩,ty,pos,af,none⟩::rest) L w:=by
 subst hs
 have go:∀ w' v,(∀ a,Holds n L a→(execOp a.eval (⟨none,.call ⟨.builtin .clear,#[x],#[t]⟩,ty,pos,af,none⟩:Oper)).run P w=.ok (.value v) w')→WL P n ops K rest L w'→WL P n ops K (⟨none,.call ⟨.builtin .clear,#[x],#[t]⟩,ty,pos,af,none⟩::rest) L w:=by
  intro w' v hx h a ha
  refine wpList_plain rfl fun K' hK=>?_
  unfold Oper.wp
  rw [hx a ha]
  exact hK _ _ (h _ (ha.skip v))
 have hb:=hS.block hk
 have hzl:(Builtin.zeroCells z.cells m).toList.length=m*z.cells.size:=by rw [Y1g,size_zeroCells]
 have hst:=run_storeCells_at P b o E (Builtin.zeroCells z.cells m).toList 0 cs.toArray w hb (by simp only [Yt,hzl,Y1w]; exact ho) (fun v hv=>by
  rw [Array.mem_toList_iff] at hv
  unfold Builtin.zeroCells at hv
  obtain ⟨i,hi,rfl⟩:=Array.mem_map.1 hv
  have hi2:i<m*z.cells.size:=by simpa using hi
  have hp:0<z.cells.size:=Nat.pos_of_ne_zero fun e=>by rw [e] at hi2; omega
  have hlt:=Nat.mod_lt i hp
  rw [getElem!_pos z.cells (i % z.cells.size) hlt]
  exact h1 _ (Array.getElem_mem hlt))
 simp only [Yt] at hst
 cases m with
 | zero =>
  refine go w (.tuple #[]) (fun a ha=>?_) (h w cs rfl rfl ?_)
  ·simp [execOp,resolve,invoke,builtin,hx a ha,Builtin.clear_,run_underlying ht]
  ·have e:As.set k (blk b cs E)=As:=by
    apply Y17
    intro i
    rw [Y1f]
    split
    ·rename_i e; subst e
     split
     ·exact hk.symm
     ·rename_i hlt; rw [Y15 (by omega)]
    ·rfl
   rw [e]; exact hS
 | succ m =>
  refine go (w.setRow b _) (.tuple #[]) (fun a ha=>?_) (h _ _ ?_ ?_ (hS.write (o':=Xh (cs.take o ++ (Builtin.zeroCells z.cells (m+1)).toList ++ cs.drop (o+(Builtin.zeroCells z.cells (m+1)).toList.length)) E) hk rfl rfl rfl (setRow_heap w b _ _ E _ hb) fun c hc=>setRow_other w b c _ hc))
  ·simp [execOp,resolve,invoke,builtin,hx a ha,Builtin.clear_,run_underlying ht,hz,hst]
  ·simp only [Y2,Yi,Y6,hzl]; omega
  ·rw [Y7,Y23 (by rw [Yi]; omega),List.take_take,Nat.min_self]
abbrev Pr:=List UInt8×List UInt8
def Xe2 (p:Pr):List Value:=[S p.1,S p.2]
structure Us where
 name:List UInt8
 pw:List UInt8
 attrs:List Pr
def Xen (u:Us) (a:Option Addr) (c:Nat):List Value:=[S u.name,S u.pw,.slice a u.attrs.length c]
def UsAt (I:Im) (u:Us) (l:List Value):Prop:=∃ a c,l=Xen u a c∧u.attrs.length≤c∧RS I a 2 u.attrs.length (X8r Xe2 u.attrs)
theorem UsAt.mono {I J:Im} {u:Us} {l:List Value} (h:UsAt I u l) (hl:Le I J):UsAt J u l:=by
 obtain ⟨a,c,e,h1,h2⟩:=h
 exact ⟨a,c,e,h1,h2.mono hl⟩
def Xi9 (p:Pr):Prop:=p.1.length≤maxLen∧p.2.length≤maxLen
def UsrsAt (I:Im) (a:Option Addr) (l:List Us):Prop:=∀ (i:Nat) (u:Us),l[i]?=some u→∃ p ra rc,a=some p∧At I (p.add (i*3)) (Xen u ra rc)∧u.attrs.length≤rc∧RS I ra 2 u.attrs.length (X8r Xe2 u.attrs)
theorem UsrsAt.mono {I J:Im} {a:Option Addr} {l:List Us} (h:UsrsAt I a l) (hl:Le I J):UsrsAt J a l:=fun i u hu=>by
 obtain ⟨p,ra,rc,e,h1,h2,h3⟩:=h i u hu
 exact ⟨p,ra,rc,e,h1.mono hl,h2,h3.mono hl⟩
structure Us.fits (u:Us):Prop where
 name:u.name.length≤maxLen
 pw:u.pw.length≤maxLen
 attrs:u.attrs.length≤9223372036854775807∧∀ p∈u.attrs,Xi9 p
def KvOf (J:Im) (kv:List (List UInt8×Value)) (l:List Us):Prop:=kv.length=l.length∧∀ (i:Nat) (u:Us),l[i]?=some u→∃ cs,kv[i]?=some (u.name,.agg (List.toArray cs))∧UsAt J u cs
theorem KvOf.mono {I J:Im} {kv:List (List UInt8×Value)} {l:List Us} (h:KvOf I kv l) (hl:Le I J):KvOf J kv l:=⟨h.1,fun i u hu=>by
 obtain ⟨cs,h1,h2⟩:=h.2 i u hu
 exact ⟨cs,h1,h2.mono hl⟩⟩
theorem KvOf.snoc {J:Im} {kv:List (List UInt8×Value)} {l:List Us} {u:Us} {cs:List Value} (h:KvOf J kv l) (hu:UsAt J u cs):KvOf J (kv ++ [(u.name,.agg cs.toArray)]) (l ++ [u]):=⟨by simp [h.1],fun i t ht=>by
 rcases Y1c i l.length with h1 | h1
 ·rw [Ya h1] at ht
  rw [Ya (by rw [h.1]; exact h1)]
  exact h.2 i t ht
 ·have h2:=(Y0.1 ht).1
  simp only [Y2,Y3,Ye] at h2
  have e:i=l.length:=by omega
  subst e
  simp at ht; subst ht
  exact ⟨cs,by rw [← h.1]; simp,hu⟩⟩
def TabAt (J:Im) (tb:Nat) (l:List Us):Prop:=∃ mb kv,At J (ad tb 0) [.map (some mb)]∧MapI J S mb kv∧KvOf J kv l
theorem TabAt.mono {I J:Im} {tb:Nat} {l:List Us} (h:TabAt I tb l) (hl:Le I J):TabAt J tb l:=by
 obtain ⟨mb,kv,h1,h2,h3⟩:=h
 exact ⟨mb,kv,h1.mono hl,h2.mono hl,h3.mono hl⟩
end Go.Proofs.YtokmddjcdfailaaGreatDoor
namespace Go.Proofs.YtokmddjcdfailaaGreatDoor
open Gk Pat
def CompT (I:Im) (l:List UInt8) (po:Option Addr) (e a:Int):Prop:=match cmp l with
 | .error (e',a')=>po=none∧e=e'∧a=a'
 | .ok Q=>∃ p,po=some p∧e=0∧a=0∧PatI I p Q l.length
theorem CompT.mono {I J:Im} {l:List UInt8} {po:Option Addr} {e a:Int} (h:CompT I l po e a) (hl:Le I J):CompT J l po e a:=by
 unfold CompT at h ⊢
 cases hq:cmp l with
 | error x=>rw [hq] at h; exact h
 | ok Q=>rw [hq] at h; obtain ⟨p,h1,h2,h3,h4⟩:=h; exact ⟨p,h1,h2,h3,h4.mono hl⟩
def RegAt (I:Im) (pr:Addr) (lo:List Sv):Prop:=∃ a c E,At I pr [.slice a lo.length c]∧lo.length≤c∧EntsIn I a E lo
theorem EntsIn.mono {I J:Im} {a:Option Addr} {E:List (List Value)} {l:List Sv} (h:EntsIn I a E l) (hl:Le I J):EntsIn J a E l:=⟨h.1,fun i s hs=>by
 obtain ⟨p,c,e,h0,h1,ra,rc,pp,qq,Q,T,e2,h2,h3,h4,h5,h6,h7⟩:=h.2 i s hs
 exact ⟨p,c,e,h0,h1.mono hl,ra,rc,pp,qq,Q,T,e2,h2,h3.mono hl,h4,h5.mono hl,h6,h7.mono hl⟩⟩
def RowsOf (J:Im) (C:List (List Value)) (l:List Sv):Prop:=C.length=l.length∧∀ (i:Nat) (s:Sv),l[i]?=some s→∃ c,C[i]?=some c∧SvAt J s c
theorem RowsOf.mono {J K:Im} {C:List (List Value)} {l:List Sv} (h:RowsOf J C l) (hl:Le J K):RowsOf K C l:=⟨h.1,fun i s hs=>by
 obtain ⟨c,h1,h2⟩:=h.2 i s hs
 exact ⟨c,h1,h2.mono hl⟩⟩
theorem RowsOf.snoc {J:Im} {C:List (List Value)} {l:List Sv} {s:Sv} {c:List Value} (h:RowsOf J C l) (hs:SvAt J s c):RowsOf J (C ++ [c]) (l ++ [s]):=⟨by simp [h.1],fun i t ht=>by
 rcases Y1c i l.length with hi | hi
 ·rw [Ya hi] at ht
  obtain ⟨d,h1,h2⟩:=h.2 i t ht
  exact ⟨d,by rw [Ya (by rw [h.1]; exact hi)]; exact h1,h2⟩
 ·rw [Yn hi] at ht
  have hi0:i - l.length=0:=by have:=(Y0.1 ht).1; simp at this; omega
  rw [hi0] at ht
  cases ht
  exact ⟨c,by rw [Yn (by rw [h.1]; exact hi),h.1,hi0]; rfl,hs⟩⟩
theorem EntAt.mono {I J:Im} {s:Sv} {l:List Value} (h:EntAt I s l) (hl:Le I J):EntAt J s l:=by
 obtain ⟨ra,rc,pp,qq,Q,T,e2,h2,h3,h4,h5,h6,h7⟩:=h
 exact ⟨ra,rc,pp,qq,Q,T,e2,h2,h3.mono hl,h4,h5.mono hl,h6,h7.mono hl⟩
theorem EntAt.len {I:Im} {s:Sv} {l:List Value} (h:EntAt I s l):l.length=10:=by
 obtain ⟨ra,rc,pp,qq,Q,T,rfl,_⟩:=h
 rfl
end Go.Proofs.YtokmddjcdfailaaGreatDoor
namespace Go.Proofs.YtokmddjcdfailaaGreatDoor
open Gk Ul Pc Tk Tr
theorem Ex.bytesStr {P:Program} {n:Nat} {L:Env} {B w:World} {I:Im} {As:List Xe} {k:Nat} {ty:TypeId} {pos:String} {af:Array Edge} {g:Option (Nat×Bool)} {x:Operand} {d:Option Nat} {src dst E:TypeId} {b o cap m:Nat} {l:List UInt8} {cs:List Value} (hx:Ev n L x (.slice (some (ad b o)) m cap)) (hm:l.length=m) (hS:Sat B w I As) (hk:As[k]?=some (blk b cs E)) (hs:P.underlying src=some (.slice E)) (he:P.underlying E=some (.int .u8)) (hd:P.underlying dst=some .string)
  (hc:∀ j (hj:j<l.length),cs[o+j]?=some (U8 (l[j].toNat:Int))):Ex P n L w ⟨d,.convert src dst x,ty,pos,af,g⟩ (S l) w:=fun a ha=>by
 subst hm
 have hb:=hS.block hk
 have h:=run_convert_bytes_back (P:=P) w src dst E (ad b o) cap l hs he hd (fun j hj=>by rw [Xo]; exact X29 hb (hc j hj))
 simp [execOp,hx a ha,h]
theorem Xiw (k:Int):(X8o k).length≤6:=by
 unfold X8o
 split
 ·simp
 ·rename_i h
  have:k=1∨k=2∨k=3∨k=4∨k=5∨k=6:=by omega
  rcases this with e | e | e | e | e | e <;> (subst e; decide)
structure Wp where
 wb:Nat
 tb:Nat
 mb:Nat
 ub:Nat
 pr:Addr
 lo:List Sv
 us:List Us
 ps:Nat→Int
structure Wd where
 room:Int
 l:List Rec
 D:List Nat
 now:Int
structure WpOk (I:Im) (p:Wp):Prop where
 reg:RegAt I p.pr p.lo
 tab:TabAt I p.ub p.us
 lo:p.lo.length≤100000
 rel:∀ s∈p.lo,s.rel.length≤1000000
 fit:∀ u∈p.us,u.fits
 att:∀ u∈p.us,u.attrs.length≤8
 known:Known I
 pre:PreAt I
theorem RegAt.mono {I J:Im} {pr:Addr} {lo:List Sv} (h:RegAt I pr lo) (hl:Le I J):RegAt J pr lo:=by
 obtain ⟨a,c,E,h1,h2,h3⟩:=h
 exact ⟨a,c,E,h1.mono hl,h2,h3.mono hl⟩
theorem WpOk.mono {I J:Im} {p:Wp} (h:WpOk I p) (hl:Le I J):WpOk J p:=⟨h.reg.mono hl,h.tab.mono hl,h.lo,h.rel,h.fit,h.att,h.known.mono hl,h.pre.mono hl⟩
theorem Sat.swap {B w:World} {I:Im} {M As:List Xe} (hS:Sat B w I (M ++ As)):Sat B w I (As ++ M):=by
 obtain ⟨h,hs,hg⟩:=hS
 obtain ⟨h1,h2,rfl,h3,h4⟩:=SepAll.app.1 hs
 exact ⟨h2 ++ h1,SepAll.app.2 ⟨h2,h1,rfl,h4,h3⟩,hg.perm Y11⟩
structure Cf where
 svs:List Sv
 us:List Us
 ps:Nat→Int
 room:Int
 base:Nat
 factor:Nat
 most:Nat
 tries:Int
structure Cf.fits (c:Cf):Prop where
 svs:c.svs.length≤100000
 ords:∀ v∈ords c.svs,v<18446744073709551616
 sfit:∀ s∈c.svs,s.urls.length≤9223372036854775807∧s.calls.length≤9223372036854775807∧s.rel.length≤1000000
 us:c.us.length≤9223372036854775807
 ufit:∀ u∈c.us,u.fits
def w0 (c:Cf):Wd:=⟨roomI c.room,[],[],0⟩
end Go.Proofs.YtokmddjcdfailaaGreatDoor
namespace Sc
open Pc Gk Ul Tk
def X16 (s:List UInt8):Nat:=if (X8 (s.take ((upto [45] s).length+17))).isSome then (upto [45] s).length+17 else 0
theorem X59:∀ t:List UInt8,X1e [45] t=[]∨∃ r,X1e [45] t=45::r
 | []=>.inl rfl
 | c::t=>by
  by_cases h:c=45
  ·subst h
   exact .inr ⟨t,by simp [X1e]⟩
  ·have e:X1e [45] (c::t)=X1e [45] t:=by simp [X1e,h]
   rw [e]
   exact X59 t
theorem shape {t:List UInt8} {k d:Nat} (h:X8 t=some (k,d)):∃ r,t=pre k ++ 45::r∧r.length=16∧upto [45] t=pre k∧1≤k∧k≤6:=by
 obtain ⟨h1,h2,_,_,_⟩:=X33 h
 unfold X8 at h
 split at h
 ·cases h
 ·rename_i hk
  obtain ⟨x,hx,e⟩:=Y13.1 h
  simp only [Prod.mk.injEq] at e
  obtain ⟨rfl,rfl⟩:=e
  have hu:=X9h hk
  unfold X2j at hx
  split at hx
  ·rename_i h16
   rcases X59 t with h0 | ⟨r,hr⟩
   ·rw [h0] at h16; simp at h16
   ·rw [hr,Yx,Y1i] at h16
    refine ⟨r,?_,h16,hu,h1,h2⟩
    rw [← hu,← hr]
    exact (X27 [45] t).symm
  ·cases hx
theorem X9q {k:Nat} (h:k≤6):(pre k).length≤6:=by
 have:=(by decide:∀ k:Fin 7,(pre k.val).length≤6) ⟨k,by omega⟩
 exact this
theorem Xg9 {k:Nat} (h1:1≤k) (h:k≤6):(pre k).length=2∨(pre k).length=3∨(pre k).length=6:=by
 have:=(by decide:∀ k:Fin 7,1≤k.val→(pre k.val).length=2∨(pre k.val).length=3∨(pre k.val).length=6) ⟨k,by omega⟩ h1
 exact this
theorem X8i {t:List UInt8} (h:(X8 t).isSome):t.length=19∨t.length=20∨t.length=23:=by
 obtain ⟨⟨k,d⟩,hk⟩:=Y1t.1 h
 obtain ⟨r,e,hr,_,h1,h2⟩:=shape hk
 have:=Xg9 h1 h2
 rw [e,Y2,Y3,hr]
 omega
theorem X9e {s:List UInt8} {z:Nat} (hz:z≤s.length) (h:(X8 (s.take z)).isSome):X16 s=z:=by
 obtain ⟨⟨k,d⟩,hk⟩:=Y1t.1 h
 obtain ⟨r,e,hr,hu,h1,h2⟩:=shape hk
 have hl:z=(pre k).length+17:=by
  have:=congrArg List.length e
  rw [Yi,Y2e hz,Y2,Y3,hr] at this
  omega
 have hs:s=pre k ++ 45::(r ++ s.drop z):=by
  conv=>lhs; rw [← Y1h z s,e]
  simp
 have hus:upto [45] s=pre k:=by
  rw [hs]
  exact (X79 X7k).1
 unfold X16
 rw [hus,← hl,if_pos h]
theorem X1w (s:List UInt8):X16 s≤s.length:=by
 unfold X16
 split
 ·rename_i h
  obtain ⟨⟨k,d⟩,hk⟩:=Y1t.1 h
  obtain ⟨r,e,hr,hu,h1,h2⟩:=shape hk
  have hl:=congrArg List.length e
  rw [Yi,Y2,Y3,hr] at hl
  have hp:(upto [45] s).length≤s.length:=by
   have:=X3v [45] s
   omega
  have hq:pre k ++ 45::r=s.take ((upto [45] s).length+17):=e.symm
  have hs:s=pre k ++ 45::(r ++ s.drop ((upto [45] s).length+17)):=by
   conv=>lhs; rw [← Y1h ((upto [45] s).length+17) s,e]
   simp
  have hus:upto [45] s=pre k:=by
   rw [hs]
   exact (X79 X7k).1
  rw [hus] at hl ⊢
  omega
 ·exact Y14 _
theorem X5c {s:List UInt8} (h:X16 s≠0):(X8 (s.take (X16 s))).isSome:=by
 unfold X16 at h ⊢
 split
 ·assumption
 ·rename_i h0; rw [if_neg h0] at h; exact absurd rfl h
theorem X8d (s:List UInt8) (h:X16 s≠0):X16 s=19∨X16 s=20∨X16 s=23:=by
 have:=X8i (X5c h)
 rw [Yi,Y2e (X1w s)] at this
 exact this
theorem Xaq:X16 []=0:=by
 have:=X1w []
 simpa using this
def Xc2 (s:List UInt8) (n z:Nat):Nat:=if z≤s.length∧(X8 (s.take z)).isSome then z else n
theorem Xa2 (s:List UInt8):∀ (L:List Nat) (n:Nat),(n=0∨n=X16 s)→L.foldl (Xc2 s) n=if n=X16 s∨X16 s∈L then X16 s else 0
 | [],n,h=>by
  rcases h with h | h
  ·subst h
   by_cases e:0=X16 s
   ·simp [← e]
   ·simp [e]
  ·simp [h]
 | z::L,n,h=>by
  rw [List.foldl_cons,Xc2]
  split
  ·rename_i hz
   have e:=X9e hz.1 hz.2
   rw [Xa2 s L z (.inr e.symm),if_pos (.inl e.symm),if_pos (.inr (by rw [e]; simp))]
  ·rename_i hz
   rw [Xa2 s L n h]
   by_cases hn:n=X16 s
   ·simp [hn]
   ·by_cases hm:X16 s∈L
    ·simp [hm]
    ·by_cases he:X16 s=z
     ·by_cases h0:X16 s=0
      ·have h1:n=0:=h.elim id (fun h=>h.trans h0)
       exact absurd (h1.trans h0.symm) hn
      ·exact absurd ⟨he ▸ X1w s,he ▸ X5c h0⟩ hz
     ·simp [hn,hm,he]
theorem Xbf (s:List UInt8) {L:List Nat} (h1:19∈L) (h2:20∈L) (h3:23∈L):L.foldl (Xc2 s) 0=X16 s:=by
 rw [Xa2 s L 0 (.inl rfl)]
 split
 ·rfl
 ·rename_i h
  refine Classical.byContradiction fun h0=>h (.inr ?_)
  rcases X8d s (fun e=>h0 e.symm) with e | e | e <;> rw [e] <;> assumption
def X57:Nat→List UInt8→List (List UInt8)
 | 0,_=>[]
 | k+1,s=>if X16 s=0 then X57 k (s.drop 1) else s.take (X16 s)::X57 k (s.drop (X16 s))
theorem X21:∀ k,X57 k []=[]
 | 0=>rfl
 | k+1=>by rw [X57,if_pos Xaq,Y3y,X21 k]
theorem X58:∀ (n k:Nat) (s:List UInt8),s.length≤n→s.length≤k→X57 k s=X57 n s
 | 0,k,s,hn,_=>by
  have:s=[]:=Yc (by omega)
  subst this
  rw [X21,X21]
 | n+1,0,s,_,hk=>by
  have:s=[]:=Yc (by omega)
  subst this
  rw [X21,X21]
 | n+1,k+1,s,hn,hk=>by
  rw [X57,X57]
  split
  ·exact X58 n k _ (by rw [Y6]; omega) (by rw [Y6]; omega)
  ·rename_i h
   rw [X58 n k _ (by rw [Y6]; omega) (by rw [Y6]; omega)]
def Xk (s:List UInt8):List (List UInt8):=X57 s.length s
theorem X2z:Xk []=[]:=rfl
theorem X30 {s:List UInt8} (h:X16 s=0):Xk s=Xk (s.drop 1):=by
 cases s with
 | nil=>rfl
 | cons c r =>
  unfold Xk
  rw [Y3,X57,if_pos h,Yx,Y1i]
theorem X2d {s:List UInt8} (h:X16 s≠0):Xk s=s.take (X16 s)::Xk (s.drop (X16 s)):=by
 have h2:=X1w s
 unfold Xk
 rw [show s.length=(s.length - 1)+1 by omega,X57,if_neg h,X58 (s.drop (X16 s)).length (s.length - 1) _ (Yd _) (by rw [Y6]; omega)]
theorem X22:∀ (n:Nat) (s:List UInt8),s.length≤n→∀ x∈Xk s,(X8 x).isSome
 | 0,s,h,x,hx=>by
  have:s=[]:=Yc (by omega)
  subst this
  rw [X2z] at hx; cases hx
 | n+1,s,h,x,hx=>by
  cases s with
  | nil=>rw [X2z] at hx; cases hx
  | cons c r =>
   by_cases h0:X16 (c::r)=0
   ·rw [X30 h0,Yx,Y1i] at hx
    exact X22 n r (by simpa using h) x hx
   ·rw [X2d h0] at hx
    rcases Y19.1 hx with e | hx
    ·rw [e]; exact X5c h0
    ·exact X22 n _ (by rw [Y6]; omega) x hx
theorem X1m:∀ (n:Nat) (s:List UInt8),s.length≤n→(Xk s).length*19≤s.length
 | 0,s,h=>by
  have:s=[]:=Yc (by omega)
  subst this
  rw [X2z]; simp
 | n+1,s,h=>by
  cases s with
  | nil=>rw [X2z]; simp
  | cons c r =>
   by_cases h0:X16 (c::r)=0
   ·rw [X30 h0,Yx,Y1i]
    have:=X1m n r (by simpa using h)
    rw [Y3]; omega
   ·have h1:=X8d _ h0
    have h2:=X1w (c::r)
    have:=X1m n ((c::r).drop (X16 (c::r))) (by rw [Y6]; omega)
    rw [Y6] at this
    rw [X2d h0,Y3]
    omega
def tag (x:List UInt8):List UInt8:=match X8 x with | some (k,_)=>pre k | none=>[]
def grow (seen:List (List UInt8)) (x:List UInt8):List (List UInt8):=if x∈seen then seen else seen ++ [x]
def Xbz (seen:List (List UInt8)) (x:List UInt8):List UInt8:=tag x ++ 35::Go.Lib.decDigits (seen.idxOf x)
def X43:Nat→List (List UInt8)→List UInt8→List (List UInt8)×List UInt8
 | 0,seen,s=>(seen,s)
 | k+1,seen,s=>if X16 s=0 then ((X43 k seen (s.drop 1)).1,s.take 1 ++ (X43 k seen (s.drop 1)).2) else
  ((X43 k (grow seen (s.take (X16 s))) (s.drop (X16 s))).1,Xbz seen (s.take (X16 s)) ++ (X43 k (grow seen (s.take (X16 s))) (s.drop (X16 s))).2)
theorem X24:∀ k seen,X43 k seen []=(seen,[])
 | 0,_=>rfl
 | k+1,seen=>by rw [X43,if_pos Xaq,Y3y,X24 k seen]; rfl
theorem X5m:∀ (n k:Nat) (seen:List (List UInt8)) (s:List UInt8),s.length≤n→s.length≤k→X43 k seen s=X43 n seen s
 | 0,k,seen,s,hn,_=>by
  have:s=[]:=Yc (by omega)
  subst this
  rw [X24,X24]
 | n+1,0,seen,s,_,hk=>by
  have:s=[]:=Yc (by omega)
  subst this
  rw [X24,X24]
 | n+1,k+1,seen,s,hn,hk=>by
  rw [X43,X43]
  split
  ·rw [X5m n k seen _ (by rw [Y6]; omega) (by rw [Y6]; omega)]
  ·rename_i h
   rw [X5m n k _ _ (by rw [Y6]; omega) (by rw [Y6]; omega)]
def X11 (seen:List (List UInt8)) (s:List UInt8):List (List UInt8)×List UInt8:=X43 s.length seen s
theorem X4l {s:List UInt8} (seen:List (List UInt8)) (h:X16 s=0):X11 seen s=((X11 seen (s.drop 1)).1,s.take 1 ++ (X11 seen (s.drop 1)).2):=by
 cases s with
 | nil=>rfl
 | cons c r =>
  unfold X11
  rw [Y3,X43,if_pos h,Yx,Y1i]
theorem X7g {s:List UInt8} (seen:List (List UInt8)) (h:X16 s≠0):X11 seen s=((X11 (grow seen (s.take (X16 s))) (s.drop (X16 s))).1,Xbz seen (s.take (X16 s)) ++ (X11 (grow seen (s.take (X16 s))) (s.drop (X16 s))).2):=by
 have h2:=X1w s
 unfold X11
 rw [show s.length=(s.length - 1)+1 by omega,X43,if_neg h,X5m (s.drop (X16 s)).length (s.length - 1) _ _ (Yd _) (by rw [Y6]; omega)]
theorem X5n:∀ (n:Nat) (seen:List (List UInt8)) (s:List UInt8),s.length≤n→Xk s=[]→X11 seen s=(seen,s)
 | 0,seen,s,h,_=>by
  have:s=[]:=Yc (by omega)
  subst this
  rfl
 | n+1,seen,s,h,hf=>by
  cases s with
  | nil=>rfl
  | cons c r =>
   by_cases h0:X16 (c::r)=0
   ·rw [X30 h0,Yx,Y1i] at hf
    rw [X4l seen h0,Yx,Y1i,X5n n seen r (by simpa using h) hf]
    rfl
   ·rw [X2d h0] at hf; cases hf
theorem X41:∀ (n:Nat) (seen:List (List UInt8)) (s x:List UInt8) (L:List (List UInt8)),s.length≤n→Xk s=x::L →
  ∃ v u,s=v ++ (x ++ u)∧Xk u=L∧(∀ j,j<v.length→X16 (s.drop j)=0)∧X11 seen s=((X11 (grow seen x) u).1,v ++ (Xbz seen x ++ (X11 (grow seen x) u).2))
 | 0,seen,s,x,L,h,hf=>by
  have:s=[]:=Yc (by omega)
  subst this
  cases hf
 | n+1,seen,s,x,L,h,hf=>by
  cases s with
  | nil=>cases hf
  | cons c r =>
   by_cases h0:X16 (c::r)=0
   ·rw [X30 h0,Yx,Y1i] at hf
    obtain ⟨v,u,e1,e2,e3,e4⟩:=X41 n seen r x L (by simpa using h) hf
    refine ⟨c::v,u,by rw [e1]; rfl,e2,fun j hj=>?_,?_⟩
    ·cases j with
     | zero=>exact h0
     | succ j=>exact e3 j (by simpa using hj)
    ·rw [X4l seen h0,Yx,Y1i,e4]
     rfl
   ·rw [X2d h0,List.cons.injEq] at hf
    refine ⟨[],(c::r).drop (X16 (c::r)),?_,hf.2,fun j hj=>absurd hj (Nat.not_lt_zero _),?_⟩
    ·rw [← hf.1,Y1e,Y1h]
    ·rw [X7g seen h0,hf.1]
     rfl
theorem X9c {s x:List UInt8} {L:List (List UInt8)} (hf:Xk s=x::L):(s.take x.length=x ↔ X16 s≠0)∧(X16 s≠0→x=s.take (X16 s)∧x.length=X16 s):=by
 have hx:(X8 x).isSome:=X22 _ s (Yd _) x (by rw [hf]; simp)
 have h2:X16 s≠0→x=s.take (X16 s)∧x.length=X16 s:=fun h0=>by
  rw [X2d h0,List.cons.injEq] at hf
  rw [← hf.1,Yi,Y2e (X1w s)]
  exact ⟨rfl,rfl⟩
 refine ⟨⟨fun e=>?_,fun h0=>?_⟩,h2⟩
 ·have hl:x.length≤s.length:=by
   have:=congrArg List.length e
   rw [Yi] at this
   omega
  have h3:=X9e hl (by rw [e]; exact hx)
  have:=X8i hx
  omega
 ·rw [(h2 h0).2]; exact (h2 h0).1.symm
theorem Xd0 {s v u x:List UInt8} (hx:(X8 x).isSome) (e:s=v ++ (x ++ u)) (h:∀ j,j<v.length→X16 (s.drop j)=0):Go.Lib.index s x=(v.length:Int):=by
 have hl:=X8i hx
 refine Go.Lib.index_first (by rw [e,Y2]; omega) ?_ ?_
 ·rw [Go.Lib.occAt,e,Y3i]
  exact Y38.2 ⟨u,rfl⟩
 ·intro j hj
  cases ho:Go.Lib.occAt s x j with
  | false=>rfl
  | true =>
   exfalso
   rw [Go.Lib.occAt] at ho
   obtain ⟨t,ht⟩:=Y38.1 ho
   have h0:=h j hj
   have h1:X16 (s.drop j)=x.length:=X9e (by rw [← ht,Y2]; omega) (by rw [← ht,Y2w]; exact hx)
   omega
def X9f (s:List UInt8):Bool:=decide (3≤s.length) && (s.getD 0 0 == 123) && (decide (48≤(s.getD 1 0).toNat) && decide ((s.getD 1 0).toNat≤57)) && (s.getD 2 0 == 125)
def back (told:List (List UInt8)) (s:List UInt8):List UInt8:=if (s.getD 1 0).toNat - 47≤told.length then told.getD (told.length - ((s.getD 1 0).toNat - 47)) [] else []
def X54 (told:List (List UInt8)):Nat→List UInt8→List UInt8
 | 0,_=>[]
 | k+1,s=>if X9f s=true then back told s ++ X54 told k (s.drop 3) else s.take 1 ++ X54 told k (s.drop 1)
theorem Xar:X9f []=false:=rfl
theorem X20 (told:List (List UInt8)):∀ k,X54 told k []=[]
 | 0=>rfl
 | k+1=>by
  rw [X54,if_neg (by rw [Xar]; decide),Y3y,X20 told k]
  rfl
theorem X56 (told:List (List UInt8)):∀ (n k:Nat) (s:List UInt8),s.length≤n→s.length≤k→X54 told k s=X54 told n s
 | 0,k,s,hn,_=>by
  have:s=[]:=Yc (by omega)
  subst this
  rw [X20,X20]
 | n+1,0,s,_,hk=>by
  have:s=[]:=Yc (by omega)
  subst this
  rw [X20,X20]
 | n+1,k+1,s,hn,hk=>by
  rw [X54,X54,X56 told n k (s.drop 3) (by rw [Y6]; omega) (by rw [Y6]; omega),X56 told n k (s.drop 1) (by rw [Y6]; omega) (by rw [Y6]; omega)]
def X4i (told:List (List UInt8)) (s:List UInt8):List UInt8:=X54 told s.length s
theorem X3o {told:List (List UInt8)} {s:List UInt8} (h:X9f s=true):X4i told s=back told s ++ X4i told (s.drop 3):=by
 have hs:s≠[]:=fun e=>by rw [e,Xar] at h; cases h
 have hl:=List.length_pos_iff.2 hs
 unfold X4i
 rw [show s.length=(s.length - 1)+1 by omega,X54,if_pos h,X56 told (s.drop 3).length (s.length - 1) _ (Yd _) (by rw [Y6]; omega)]
theorem Xan {told:List (List UInt8)} {s:List UInt8} (h:X9f s=false):X4i told s=s.take 1 ++ X4i told (s.drop 1):=by
 cases s with
 | nil=>rfl
 | cons c r =>
  unfold X4i
  rw [Y3,X54,if_neg (by rw [h]; decide),Yx,Y1i]
def X2m:List (List UInt8)→List (List UInt8)→List (List UInt8)
 | _,[]=>[]
 | seen,s::l=>(X11 seen s).2::X2m (X11 seen s).1 l
end Sc
namespace Go.Proofs.YtokmddjcdfailaaGreatDoor
open Gk Ul Pc Tk Tr Sc
theorem Xn:Tryz.prog.info? 9=some Tryz.t9:=by kernel_rfl
theorem Ex.slcArrL {P:Program} {n:Nat} {L:Env} {w:World} {d:Option Nat} {ty:TypeId} {pos:String} {af:Array Edge} {gg:Option (Nat×Bool)} {t e:TypeId} {x y:Operand} {p:Addr} {m s:Nat} {k:Int} (hx:Ev n L x (.pointer (some p))) (hy:Ev n L y (I64 k)) (h0:0≤k) (hm:k<m) (ht:P.underlying t=some (.array m e)) (hs:∀ w,(Go.sizeOf e).run P w=.ok s w) :
  Ex P n L w ⟨d,.slice t x (some y) none none,ty,pos,af,gg⟩ (.slice (some (p.add (k.toNat*s))) (m - k.toNat) (m - k.toNat)) w:=fun a ha=>by
 obtain ⟨e1,e2⟩:=X3m ht
 have h:=run_sliceAt_array_l (P:=P) w t p (by rw [e1,e2]; exact ht) .i64 k h0 (by rw [e2]; omega)
 rw [e1,e2,hs] at h
 have hne:m≠k.toNat:=by omega
 simp [execOp,hx a ha,hy a ha,h,slicedAt,hne]
def SZ:List Nat:=[20,19,19,20,23,19]
theorem Xiz {k:Nat} (h:k<6):SZ[k]?=some ((pre (k+1)).length+17):=by
 match k,h with
 | 0,_=>exact rfl
 | 1,_=>exact rfl
 | 2,_=>exact rfl
 | 3,_=>exact rfl
 | 4,_=>exact rfl
 | 5,_=>exact rfl
theorem pre_at {I:Im} (hP:PreAt I) {k:Nat} (h:k<6):∃ vs,At I { block:=0,off:=0+1*1+(k:Int).toNat*1 } vs∧vs[0]?=some (S (pre (k+1))):=by
 match k,h with
 | 0,_=>exact ⟨_,At.add hP (1+0),rfl⟩
 | 1,_=>exact ⟨_,At.add hP (1+1),rfl⟩
 | 2,_=>exact ⟨_,At.add hP (1+2),rfl⟩
 | 3,_=>exact ⟨_,At.add hP (1+3),rfl⟩
 | 4,_=>exact ⟨_,At.add hP (1+4),rfl⟩
 | 5,_=>exact ⟨_,At.add hP (1+5),rfl⟩
abbrev tupP (s:List UInt8):Value:=.tuple #[I64 (((X8 s).getD (0,0)).1:Nat),U64 (((X8 s).getD (0,0)).2:Nat),.bool (X8 s).isSome]
theorem X94 (s:List UInt8) (hs:s.length≤1000000) (B w:World) (I:Im) (hK:Known I) (hP:PreAt I) (As:List Xe) (hS:Sat B w I As):Calls Tryz.prog 19 [S s].toArray w (Ret fun v w'=>v=tupP s∧Sat B w' I As) :=
 (Xca s hs B w I hK hP As hS).mono fun e w' ⟨v,he,hv,hS⟩=>⟨v,he,by rw [hv]; unfold tupP; cases X8 s <;> rfl,hS⟩
def tryN (s:List UInt8) (i:Nat):Nat:=(SZ.take i).foldl (Xc2 s) 0
theorem X65 {s:List UInt8} {i z:Nat} (h:SZ[i]?=some z):tryN s (i+1)=Xc2 s (tryN s i) z:=by
 unfold tryN
 rw [Y2u,h,Y3f,List.foldl_append]
 rfl
theorem Xbe (s:List UInt8):tryN s 6=X16 s:=Xbf s (L:=SZ) (by decide) (by decide) (by decide)
theorem Xa7 (s:List UInt8) (hs:s.length≤100000) (B w:World) (I:Im) (hK:Known I) (hP:PreAt I) (As:List Xe) (hS:Sat B w I As) :
  Calls Tryz.prog 16 [S s].toArray w (Ret fun v w'=>Sat B w' I (Vec 9 1 v (Xk s).length ((Xk s).map S)::As)):=by
 refine calls Qf16 rfl Tryz.ntmps16 rfl (.seq (.q 1 rfl (.seq (.q 1 rfl (.seq (.seq (.q 1 rfl (.block ?_))))))))
 replace hS:=hS.vecNil 9 1
 refine .loop (σ:=Nat×Value×List (List UInt8)) (fun ⟨at_,kv,out⟩=>[(0,S s),(3,kv),(4,I64 (at_:Nat))]) (fun ⟨at_,kv,out⟩ w=>at_≤s.length∧out ++ Xk (s.drop at_)=Xk s∧Sat B w I (Vec 9 1 kv out.length (out.map S)::As)) (fun ⟨at_,kv,out⟩=>s.length - at_) (0,.slice none 0 0,[]) ⟨rfl,rfl,rfl,trivial⟩ ⟨Y14 _,rfl,hS⟩ ?_
 rintro ⟨at_,kv,out⟩ w ⟨hat,hout,hS⟩
 change WC _ _ _ _ [(0,S s),(3,kv),(4,I64 (at_:Nat))] w
 refine .seq (.seq (.region (.run 4 rfl ⟨Qu9,trivial⟩ (.nil ?_))))
 refine WC.cond rfl (fun hb15=>?_) (fun hb15=>?_)
 ·
  have hc15:=hb15; try simp only [Yf] at hc15
  refine .skip (.block (.seq (.q 1 rfl (.seq (.seq (.region (.val (Ex.slcArrL (m:=7) (s:=1) (.of rfl) (.of rfl) (by decide) (by decide) Qu79 Qs9) rfl (.run 2 rfl ⟨⟨_,Xw⟩,trivial⟩ (.nil (.block (.loop (σ:=Nat×Nat) (fun ⟨i,n⟩=>[(0,S s),(3,kv),(4,I64 (at_:Nat)),(5,I64 (n:Nat)),(16,.slice (some (ad 0 (0+1*1))) 6 6),(17,I64 6),(18,I64 (i:Nat))]) (fun ⟨i,n⟩ w=>i≤6∧n=tryN (s.drop at_) i∧Sat B w I (Vec 9 1 kv out.length (out.map S)::As)) (fun ⟨i,n⟩=>6 - i) (0,0) ⟨rfl,rfl,rfl,rfl,rfl,rfl,rfl,trivial⟩ ⟨Y14 _,rfl,hS⟩ ?_)))))))))))
  rintro ⟨i,n⟩ w ⟨hi,hn,hS⟩
  change WC _ _ _ _ [(0,S s),(3,kv),(4,I64 (at_:Nat)),(5,I64 (n:Nat)),(16,.slice (some (ad 0 (0+1*1))) 6 6),(17,I64 6),(18,I64 (i:Nat))] w
  refine .seq (.q 1 rfl (.seq ?_))
  refine WC.cond rfl (fun hb19=>?_) (fun hb19=>?_)
  ·
   have hc19:=hb19; try simp only [Yf] at hc19
   refine .skip (.seq (.block (.seq ?_)))
   have hsz:=Xiz (k:=i) (by omega)
   have hpl:=X9q (k:=i+1) (by omega)
   obtain ⟨vs,hpa,hpz⟩:=pre_at hP (k:=i) (by omega)
   refine .region ?_
   first | refine WL.val (.indexAddr (.of rfl) (.of rfl) (by omega) (by omega) Xw Qs9) rfl ?_ | refine WL.val (.indexAddrI (.of rfl) (.of rfl) (by omega) (by omega) Xw Qs9) rfl ?_
   refine .val (.ldI (v:=S (pre (i+1))) (.of rfl) hS hpa Qg9 hpz) rfl (.q 1 rfl (.nil (.seq (.region (.run 5 rfl ⟨Qu9,⟨by omega,by omega⟩,⟨by omega,by omega⟩,trivial⟩ (.nil (.seq (.region (.run 6 rfl ⟨⟨by omega,by omega⟩,Qu9,trivial⟩ (.nil ?_))))))))))
   refine WC.cond rfl (fun hb31=>?_) (fun hb31=>?_)
   ·
    have hc31:=hb31; try simp only [Yf] at hc31
    refine .seq (.region (.run 5 rfl ⟨⟨by omega,by omega⟩,trivial⟩ (.val (.sub3 (l:=s) (i:=(at_:Int)) (j:=((at_+((pre (i+1)).length+17):Nat):Int)) (.of rfl) (.of rfl) (.of rfl) (by omega) (by omega) (by omega) Qu9) rfl ?_)))
    rw [show (s.drop (at_:Int).toNat).take (((at_+((pre (i+1)).length+17):Nat):Int).toNat - (at_:Int).toNat)=(s.drop at_).take ((pre (i+1)).length+17) by rw [Yh,Yh,Y1q]]
    refine WL.call Qf19 rfl (X1 (.of rfl) X6) rfl (X94 ((s.drop at_).take ((pre (i+1)).length+17)) (by rw [Yi]; omega) B _ I hK hP _ hS) ?_
    clear hS
    rintro _ w ⟨rfl,hS⟩
    refine .q 7 rfl (.nil (.seq (.q 1 rfl ?_)))
    refine WC.cond rfl (fun hb43=>?_) (fun hb43=>?_)
    ·
     have hc43:=hb43; try simp only [Yf] at hc43
     refine .q 2 rfl (.region (.run 2 rfl ⟨⟨by omega,by omega⟩,trivial⟩ (.nil ?_)))
     refine ⟨(i+1,((pre (i+1)).length+17)),⟨rfl,rfl,rfl,rfl,rfl,rfl,rfl,trivial⟩,⟨by (try dsimp only); omega,?_,hS⟩,by (try dsimp only); omega⟩
     (try dsimp only)
     rw [X65 hsz,Xc2,if_pos ⟨by rw [Y6]; omega,hb43⟩]
    have hc43:=hb43; try simp only [Yf] at hc43
    refine .skip (.region (.run 2 rfl ⟨⟨by omega,by omega⟩,trivial⟩ (.nil ?_)))
    refine ⟨(i+1,n),⟨rfl,rfl,rfl,rfl,rfl,rfl,rfl,trivial⟩,⟨by (try dsimp only); omega,?_,hS⟩,by (try dsimp only); omega⟩
    (try dsimp only)
    rw [X65 hsz,Xc2,if_neg (fun h=>by rw [h.2] at hb43; cases hb43)]
    exact hn
   have hc31:=hb31; try simp only [Yf] at hc31
   refine .skip (.region (.run 2 rfl ⟨⟨by omega,by omega⟩,trivial⟩ (.nil ?_)))
   refine ⟨(i+1,n),⟨rfl,rfl,rfl,rfl,rfl,rfl,rfl,trivial⟩,⟨by (try dsimp only); omega,?_,hS⟩,by (try dsimp only); omega⟩
   (try dsimp only)
   rw [X65 hsz,Xc2,if_neg (fun h=>by have:=h.1; rw [Y6] at this; omega)]
   exact hn
  have hc19:=hb19; try simp only [Yf] at hc19
  refine .exit (.seq (.seq (.q 2 rfl ?_)))
  refine WC.cond rfl (fun hb47=>?_) (fun hb47=>?_)
  ·
   have hc47:=hb47; try simp only [Yf] at hc47
   refine .seq (.region (.run 3 rfl ⟨⟨by omega,by omega⟩,trivial⟩ (.nil (.exit ?_))))
   have e6:i=6:=by omega
   subst e6
   rw [Xbe] at hn
   have hle:=X1w (s.drop at_)
   rw [Y6] at hle
   have hfc:=X1m _ s (Yd _)
   have hol:=congrArg List.length hout
   rw [Y2] at hol
   refine ⟨(at_+1,kv,out),⟨rfl,rfl,rfl,trivial⟩,⟨by (try dsimp only); omega,?_,hS⟩,by (try dsimp only); omega⟩
   (try dsimp only)
   rw [← hout,X30 (s:=s.drop at_) (by omega),Yy]
  have hc47:=hb47; try simp only [Yf] at hc47
  refine .skip (.seq ?_)
  have e6:i=6:=by omega
  subst e6
  rw [Xbe] at hn
  have hle:=X1w (s.drop at_)
  rw [Y6] at hle
  have hfc:=X1m _ s (Yd _)
  have hol:=congrArg List.length hout
  rw [Y2] at hol
  refine .region (.run 6 rfl ⟨⟨by omega,by omega⟩,trivial⟩ (.val (.sub3 (l:=s) (i:=(at_:Int)) (j:=((at_+n:Nat):Int)) (.of rfl) (.of rfl) (.of rfl) (by omega) (by omega) (by omega) Qu9) rfl ?_))
  rw [show (s.drop (at_:Int).toNat).take (((at_+n:Nat):Int).toNat - (at_:Int).toNat)=(s.drop at_).take n by rw [Yh,Yh,Y1q]]
  refine .buildSlice (cs:=[_]) hS (X10 (.of rfl) X18) Xw Qs9 Qz9 rfl rfl rfl rfl ?_
  clear hS; intro b57 w hS
  refine WL.append (size:=1) (bytes:=16) hS (.of rfl) (.of rfl) (k:=0) rfl Xw Xn rfl rfl rfl rfl rfl rfl rfl ⟨by omega,by unfold maxLen; omega⟩ rfl ?_
  clear hS; intro v58 w hS; try dsimp only [List.set] at hS
  obtain ⟨a58,c58,rfl,hcap58,_⟩:=hS.vecSlice (k:=0) (v:=v58) rfl
  refine .q 1 rfl (.nil (.region (.run 4 rfl ⟨⟨by omega,by omega⟩,trivial⟩ (.nil ?_))))
  refine ⟨(at_+n,.slice a58 (out.length+1) c58,out ++ [(s.drop at_).take n]),⟨rfl,rfl,rfl,trivial⟩,⟨by (try dsimp only); omega,?_,?_⟩,by (try dsimp only); omega⟩
  ·(try dsimp only)
   rw [← hout,X2d (s:=s.drop at_) (by omega),← hn,Yy,Y7]
   rfl
  ·(try dsimp only)
   rw [Y2,Y18]
   exact hS
 have hc15:=hb15; try simp only [Yf] at hc15
 refine .exit (.seq (.q 2 rfl (.ret (X38 Tryz.results16 rfl ?_))))
 have hin:at_=s.length:=by omega
 subst hin
 rw [Y1r,X2z,Y1d] at hout
 subst hout
 exact ⟨_,rfl,hS⟩
theorem X3r (k:Int) (B w:World) (I:Im) (As:List Xe) (hS:Sat B w I As) :
  Calls Tryz.prog 23 [I64 k].toArray w (Ret fun v w'=>v=S (X8o k)∧Sat B w' I As):=by
 refine calls Qf23 rfl Tryz.ntmps23 rfl (.seq (.q 1 rfl (.seq (.seq (.q 1 rfl (.block (.seq (.q 2 rfl ?_))))))))
 refine WC.cond rfl (fun hb4=>?_) (fun hb4=>?_)
 ·
  have hc4:=hb4; try simp only [Yf] at hc4
  refine .seq (.q 1 rfl (.ret (X38 Xhi rfl ?_)))
  refine ⟨_,rfl,congrArg S ?_,hS⟩
  simp only [beq_iff_eq,beq_eq_false_iff_ne] at *
  first | subst_vars; rfl | (rw [X8o,if_pos (by omega)])
 have hc4:=hb4; try simp only [Yf] at hc4
 refine .seq (.q 2 rfl ?_)
 refine WC.cond rfl (fun hb6=>?_) (fun hb6=>?_)
 ·
  have hc6:=hb6; try simp only [Yf] at hc6
  refine .seq (.q 1 rfl (.ret (X38 Xhi rfl ?_)))
  refine ⟨_,rfl,congrArg S ?_,hS⟩
  simp only [beq_iff_eq,beq_eq_false_iff_ne] at *
  first | subst_vars; rfl | (rw [X8o,if_pos (by omega)])
 have hc6:=hb6; try simp only [Yf] at hc6
 refine .seq (.q 2 rfl ?_)
 refine WC.cond rfl (fun hb8=>?_) (fun hb8=>?_)
 ·
  have hc8:=hb8; try simp only [Yf] at hc8
  refine .seq (.q 1 rfl (.ret (X38 Xhi rfl ?_)))
  refine ⟨_,rfl,congrArg S ?_,hS⟩
  simp only [beq_iff_eq,beq_eq_false_iff_ne] at *
  first | subst_vars; rfl | (rw [X8o,if_pos (by omega)])
 have hc8:=hb8; try simp only [Yf] at hc8
 refine .seq (.q 2 rfl ?_)
 refine WC.cond rfl (fun hb10=>?_) (fun hb10=>?_)
 ·
  have hc10:=hb10; try simp only [Yf] at hc10
  refine .seq (.q 1 rfl (.ret (X38 Xhi rfl ?_)))
  refine ⟨_,rfl,congrArg S ?_,hS⟩
  simp only [beq_iff_eq,beq_eq_false_iff_ne] at *
  first | subst_vars; rfl | (rw [X8o,if_pos (by omega)])
 have hc10:=hb10; try simp only [Yf] at hc10
 refine .seq (.q 2 rfl ?_)
 refine WC.cond rfl (fun hb12=>?_) (fun hb12=>?_)
 ·
  have hc12:=hb12; try simp only [Yf] at hc12
  refine .seq (.q 1 rfl (.ret (X38 Xhi rfl ?_)))
  refine ⟨_,rfl,congrArg S ?_,hS⟩
  simp only [beq_iff_eq,beq_eq_false_iff_ne] at *
  first | subst_vars; rfl | (rw [X8o,if_pos (by omega)])
 have hc12:=hb12; try simp only [Yf] at hc12
 refine .seq (.q 2 rfl ?_)
 refine WC.cond rfl (fun hb14=>?_) (fun hb14=>?_)
 ·
  have hc14:=hb14; try simp only [Yf] at hc14
  refine .seq (.q 1 rfl (.ret (X38 Xhi rfl ?_)))
  refine ⟨_,rfl,congrArg S ?_,hS⟩
  simp only [beq_iff_eq,beq_eq_false_iff_ne] at *
  first | subst_vars; rfl | (rw [X8o,if_pos (by omega)])
 have hc14:=hb14; try simp only [Yf] at hc14
 refine .skip (.seq (.q 1 rfl (.ret (X38 Xhi rfl ?_))))
 refine ⟨_,rfl,congrArg S ?_,hS⟩
 simp only [beq_iff_eq,beq_eq_false_iff_ne] at *
 first | subst_vars; rfl | (rw [X8o,if_pos (by omega)])
theorem X7d (s:List UInt8) (c:UInt8) (n:Nat):hxS n (s ++ [c])=(hxS n s).bind fun m=>(hx c).map fun d=>16*m+d:=by
 rw [X9g]
 congr 1
 funext m
 rw [hxS]
 cases hx c with
 | none=>rfl
 | some d=>rfl
theorem X5a {c:UInt8} {r:List UInt8}:∀ {s:List UInt8},X1e [45] s=c::r→c=45
 | [],h=>by simp [X1e] at h
 | x::s,h=>by
  unfold X1e at h
  rw [Y2l] at h
  split at h
  ·exact X5a h
  ·rename_i h1
   cases h
   simpa using h1
theorem X27 (cs s:List UInt8):upto cs s ++ X1e cs s=s:=Y2t
theorem Xh7 {s t:List UInt8} {k:Nat} (hs:s=pre k ++ 45::t) (hl:t.length=16):s.length=(pre k).length+1+16∧s.take ((pre k).length+1)=pre k ++ [45]∧s.drop ((pre k).length+1)=t:=by
 have e:s=(pre k ++ [45]) ++ t:=by rw [hs]; simp
 have e2:(pre k).length+1=(pre k ++ [45]).length:=by simp
 refine ⟨by rw [hs]; simp [hl],?_,?_⟩
 ·rw [e,e2,Y2w]
 ·rw [e,e2,Y3i]
theorem Xb7 {s:List UInt8} {k d:Nat} (h:X8 s=some (k,d)):∃ t,s=pre k ++ 45::t∧t.length=16∧hxS 0 t=some d:=by
 unfold X8 at h
 split at h
 ·cases h
 ·rename_i hk
  obtain ⟨x,hx,e⟩:=Y13.1 h
  simp only [Prod.mk.injEq] at e
  obtain ⟨e1,rfl⟩:=e
  have h1:=X9h hk
  rw [e1] at h1
  unfold X2j at hx
  split at hx
  ·rename_i hl
   have h2:=X27 [45] s
   cases e3:X1e [45] s with
   | nil=>rw [e3] at hl; cases hl
   | cons c r =>
    rw [e3] at hl hx
    have h3:c=45:=X5a e3
    subst h3
    exact ⟨r,by rw [← h1]; rw [e3] at h2; exact h2.symm,hl,hx⟩
  ·cases hx
theorem Xg6 {k d:Nat} {t:List UInt8} (h1:1≤k) (h2:k≤6) (hl:t.length=16) (hd:hxS 0 t=some d):X8 (pre k ++ 45::t)=some (k,d):=by
 unfold X8
 obtain ⟨e1,e2⟩:=X79 (p:=pre k) (r:=t) X7k
 rw [e1,e2,Xfu h1 h2,if_neg (by omega),Yx,Y1i,X2j,if_pos hl,hd]
 rfl
theorem Xg8 {k:Nat} (h1:1≤k) (h2:k≤6):X8o (k:Int)=pre k:=by
 unfold X8o
 rw [if_neg (by omega),Yh]
theorem hx_num {c:UInt8} (h1:48≤c.toNat) (h2:c.toNat≤57):hx c=some (c.toNat - 48):=by
 unfold hx
 rw [if_pos]
 simp only [Y5,decide_eq_true_eq,Y20]
 exact ⟨h1,h2⟩
theorem hx_let {c:UInt8} (h1:97≤c.toNat) (h2:c.toNat≤102):hx c=some (c.toNat - 87):=by
 unfold hx
 rw [if_neg,if_pos]
 ·simp only [Y5,decide_eq_true_eq,Y20]
  exact ⟨h1,h2⟩
 ·simp only [Y5,decide_eq_true_eq,Y20]
  intro h
  have:c.toNat≤57:=h.2
  omega
theorem hx_no {c:UInt8} (h1:¬(48≤c.toNat∧c.toNat≤57)) (h2:¬(97≤c.toNat∧c.toNat≤102)):hx c=none:=by
 unfold hx
 rw [if_neg,if_neg]
 ·simp only [Y5,decide_eq_true_eq,Y20]; exact h2
 ·simp only [Y5,decide_eq_true_eq,Y20]; exact h1
theorem X63 {s:List UInt8} {n i:Nat} (h1:n≤i) (h2:i<s.length):(s.drop n).take (i+1 - n)=(s.drop n).take (i - n) ++ [at_ s (i:Int)]:=by
 have e:i+1 - n=(i - n)+1:=by omega
 rw [e,Y2u,Yp,show n+(i - n)=i by omega,Xcl h2]
 rfl
theorem X7l (s:List UInt8) (hsl:s.length≤9223372036854775000) (B w:World) (I:Im) (As:List Xe) (hS:Sat B w I As) :
  Calls Tryz.prog 22 [S s].toArray w (Ret fun v w'=>v=(match X8 s with | some (k,d)=>.tuple #[I64 (k:Nat),U64 (d:Nat),.bool true] | none=>.tuple #[I64 0,U64 0,.bool false])∧Sat B w' I As):=by
 refine calls Qf22 rfl Tryz.ntmps22 rfl (.seq (.q 3 rfl (.seq (.seq (.q 1 rfl (.block ?_))))))
 refine WC.loop (σ:=Nat) (fun k=>[(0,S s),(5,I64 (k:Nat))]) (fun k w=>1≤k∧k≤7∧(∀ (j d:Nat),j<k→X8 s≠some (j,d))∧Sat B w I As) (fun k=>7 - k) 1 ⟨rfl,rfl,trivial⟩ ⟨Yd _,by decide,fun j d hj h=>by have:=(X33 h).1; omega,hS⟩ ?_
 rintro k w ⟨hk0,hk7,hno,hS⟩
 change WC _ _ _ _ [(0,S s),(5,I64 (k:Nat))] w
 refine .seq (.seq (.q 2 rfl ?_))
 refine WC.cond rfl (fun hb13=>?_) (fun hb13=>?_)
 ·
  have hc13:=hb13; try simp only [Yf] at hc13
  refine .skip (.seq (.block (.seq ?_)))
  have hk1:1≤k∧k≤6:=by omega
  have hpr:=Xg8 hk1.1 hk1.2
  have hp6:(pre k).length≤6:=by rw [← hpr]; exact Xiw _
  have hn9:(pre k ++ [45]).length=(pre k).length+1:=by simp
  refine .t 1 rfl (.call Qf23 rfl (X1 (.of rfl) X6) rfl (X3r (k:Int) B _ I _ hS) ?_)
  clear hS
  rintro _ w ⟨rfl,hS⟩
  rw [hpr]
  refine WL.run 2 rfl ⟨by (try simp only [Y2,Y3,Ye]); omega,trivial⟩ ?_
  refine .nil (.seq (.region (.run 3 rfl ⟨Qu9,trivial⟩ (.nil (.seq (.seq ?_))))))
  rw [hn9]
  refine .region (.run 6 rfl ⟨Qu9,⟨by omega,by omega⟩,trivial⟩ (.gval rfl rfl (fun hg1=>(.move (.of rfl))) rfl (.gval rfl rfl (fun hg1=>(.move (.of rfl))) rfl ?_)))
  refine WL.gval rfl rfl (fun hg1=>(.subTo (.gd hg1 rfl) (.gd hg1 rfl) (by (try simp only [Yf] at hg1); omega) (by (try simp only [Yf] at hg1); omega) Qu9)) rfl ?_
  refine .gval rfl rfl (fun hg1=>(.move (.of rfl))) rfl (.gval rfl rfl (fun hg1=>(.nes (.gd hg1 rfl) (.gd hg1 rfl))) rfl (.val (.por (.of rfl) (.of rfl) (.of rfl)) rfl (.nil ?_)))
  refine WC.cond rfl (fun hb32=>?_) (fun hb32=>?_)
  ·
   have hc32:=hb32; try simp only [Yf] at hc32
   refine .exit (.region (.run 3 rfl ⟨⟨by omega,by omega⟩,trivial⟩ (.nil ?_)))
   refine ⟨k+1,⟨rfl,rfl,trivial⟩,⟨by (try dsimp only); omega,by (try dsimp only); omega,fun j d hj h=>?_,hS⟩,by (try dsimp only); omega⟩
   rcases Y1c j k with h1 | h1
   ·exact hno j d h1 h
   ·have e:k=j:=by omega
    subst e
    obtain ⟨t,ht,htl,hth⟩:=Xb7 h
    obtain ⟨g1,g2,g3⟩:=Xh7 ht htl
    first
    | (have h3:=hb32; simp [g1,g2] at h3; done)
    | (have h3:=hb32; simp [g1,g2] at h3; omega)
    | (have h3:hxS 0 ((s.drop ((pre k).length+1)).take (s.length - ((pre k).length+1)))=some d:=(by (rw [g3,Y1k (by omega)]; exact hth)); rw [show i=s.length by omega] at hhx; rw [hhx] at h3; simp [hb70] at h3)
  have hc32:=hb32; try simp only [Yf] at hc32
  refine .skip (.seq ?_)
  obtain ⟨hle,hpf⟩:s.length=(pre k).length+1+16∧s.take ((pre k).length+1)=pre k ++ [45]:=by
   have h:=hb32
   simp at h
   refine ⟨by omega,?_⟩
   simpa using h.2
  refine .q 1 rfl (.seq (.q 1 rfl (.seq (.seq (.q 2 rfl (.block ?_))))))
  refine WC.loop (σ:=Nat×Nat×Bool) (fun ⟨i,d,b⟩=>[(0,S s),(5,I64 (k:Nat)),(8,U64 (d:Nat)),(9,.bool b),(10,I64 (i:Nat))]) (fun ⟨i,d,b⟩ w=>((pre k).length+1)≤i∧i≤s.length∧d<16 ^ (i - ((pre k).length+1))∧hxS 0 ((s.drop ((pre k).length+1)).take (i - ((pre k).length+1)))=(if b=true then some d else none)∧Sat B w I As) (fun ⟨i,d,b⟩=>s.length - i) (((pre k).length+1),0,true) ⟨rfl,rfl,rfl,rfl,rfl,trivial⟩ ⟨Yd _,by (try dsimp only); omega,by (try dsimp only); exact Nat.pow_pos (by decide),by (try dsimp only); rw [Nat.sub_self]; rfl,hS⟩ ?_
  rintro ⟨i,d,b⟩ w ⟨hni,hi,hdp,hhx,hS⟩
  change WC _ _ _ _ [(0,S s),(5,I64 (k:Nat)),(8,U64 (d:Nat)),(9,.bool b),(10,I64 (i:Nat))] w
  refine .seq (.seq (.region (.run 4 rfl ⟨Qu9,trivial⟩ (.nil ?_))))
  refine WC.cond rfl (fun hb37=>?_) (fun hb37=>?_)
  ·
   have hc37:=hb37; try simp only [Yf] at hc37
   refine .skip (.seq (.block (.seq ?_)))
   have hp15:d<1152921504606846976:=Y27 hdp (Y1z (Nat.pow_le_pow_right (by decide) (show i - ((pre k).length+1)≤15 by omega)) (by decide))
   refine .region (.run 4 rfl ⟨⟨⟨by omega,by omega⟩,Qu9⟩,trivial⟩ (.nil (.block (.seq (.t 3 rfl (.gval rfl rfl (fun hg1=>(.move (.of rfl))) rfl (.gval rfl rfl (fun hg1=>(.leq (.gd hg1 rfl) (.of rfl))) rfl (.val (.pand (.of rfl) (.of rfl) (.of rfl)) rfl (.q 1 rfl (.nil ?_))))))))))
   refine WC.cond rfl (fun hb43=>?_) (fun hb43=>?_)
   ·
    have hc43:=hb43; try simp only [Yf] at hc43
    refine .t 1 rfl ?_
    first | refine WL.val (.mulx (.of rfl) (.of rfl) (by rw [IntKind.wrap_u64]; omega)) rfl ?_ | refine WL.val (.mulw (.of rfl) (.of rfl)) rfl ?_
    refine .q 1 rfl ?_
    refine WL.val (.subx (.of rfl) (.of rfl) (by rw [IntKind.wrap_u8]; simp at hb43; omega)) rfl ?_
    refine WL.val (.cvi (.of rfl) Qu5 Qu40 (by rw [IntKind.wrap_u64]; omega)) rfl ?_
    first | refine WL.val (.addx (.of rfl) (.of rfl) (by rw [IntKind.wrap_u64]; omega)) rfl ?_ | refine WL.val (.addw (.of rfl) (.of rfl)) rfl ?_
    rw [show (16*(d:Int)+(((at_ s (i:Int)).toNat:Int) - 48))=((16*d+((at_ s (i:Int)).toNat - 48):Nat):Int) by simp at hb43; omega]
    refine .q 1 rfl (.nil (.region (.run 3 rfl ⟨⟨by omega,by omega⟩,trivial⟩ (.nil ?_))))
    refine ⟨(i+1,16*d+((at_ s (i:Int)).toNat - 48),b),⟨rfl,rfl,rfl,rfl,rfl,trivial⟩,⟨by (try dsimp only); omega,by (try dsimp only); omega,by (try dsimp only); exact Y27 (show 16*d+((at_ s (i:Int)).toNat - 48)<16*16 ^ (i - ((pre k).length+1)) by have h9:(at_ s (i:Int)).toNat≤57:=(by simp at hb43; omega); omega) (by rw [show i+1 - ((pre k).length+1)=(i - ((pre k).length+1))+1 by omega,Y2y]; omega),?_,hS⟩,by (try dsimp only); omega⟩
    try dsimp only
    rw [X63 hni (by omega),X7d,hhx,hx_num (by simp at hb43; omega) (by simp at hb43; omega)]
    cases b with
     | true=>simp
     | false=>simp
   have hc43:=hb43; try simp only [Yf] at hc43
   refine .seq (.t 3 rfl (.gval rfl rfl (fun hg1=>(.move (.of rfl))) rfl (.gval rfl rfl (fun hg1=>(.leq (.gd hg1 rfl) (.of rfl))) rfl (.val (.pand (.of rfl) (.of rfl) (.of rfl)) rfl (.q 1 rfl (.nil ?_))))))
   refine WC.cond rfl (fun hb56=>?_) (fun hb56=>?_)
   ·
    have hc56:=hb56; try simp only [Yf] at hc56
    refine .t 1 rfl ?_
    first | refine WL.val (.mulx (.of rfl) (.of rfl) (by rw [IntKind.wrap_u64]; omega)) rfl ?_ | refine WL.val (.mulw (.of rfl) (.of rfl)) rfl ?_
    refine .q 1 rfl ?_
    refine WL.val (.subx (.of rfl) (.of rfl) (by rw [IntKind.wrap_u8]; simp at hb56; omega)) rfl ?_
    refine WL.val (.cvi (.of rfl) Qu5 Qu40 (by rw [IntKind.wrap_u64]; omega)) rfl ?_
    first | refine WL.val (.addx (.of rfl) (.of rfl) (by rw [IntKind.wrap_u64]; omega)) rfl ?_ | refine WL.val (.addw (.of rfl) (.of rfl)) rfl ?_
    first | refine WL.val (.addx (.of rfl) (.of rfl) (by rw [IntKind.wrap_u64]; omega)) rfl ?_ | refine WL.val (.addw (.of rfl) (.of rfl)) rfl ?_
    rw [show (16*(d:Int)+(((at_ s (i:Int)).toNat:Int) - 97)+10)=((16*d+((at_ s (i:Int)).toNat - 97)+10:Nat):Int) by simp at hb56; omega]
    refine .q 1 rfl (.nil (.region (.run 3 rfl ⟨⟨by omega,by omega⟩,trivial⟩ (.nil ?_))))
    refine ⟨(i+1,16*d+((at_ s (i:Int)).toNat - 97)+10,b),⟨rfl,rfl,rfl,rfl,rfl,trivial⟩,⟨by (try dsimp only); omega,by (try dsimp only); omega,by (try dsimp only); exact Y27 (show 16*d+((at_ s (i:Int)).toNat - 97)+10<16*16 ^ (i - ((pre k).length+1)) by have h9:(at_ s (i:Int)).toNat≤102:=(by simp at hb56; omega); have h8:97≤(at_ s (i:Int)).toNat:=(by simp at hb56; omega); omega) (by rw [show i+1 - ((pre k).length+1)=(i - ((pre k).length+1))+1 by omega,Y2y]; omega),?_,hS⟩,by (try dsimp only); omega⟩
    try dsimp only
    rw [X63 hni (by omega),X7d,hhx,hx_let (by simp at hb56; omega) (by simp at hb56; omega)]
    cases b with
     | true=>simp; omega
     | false=>simp
   have hc56:=hb56; try simp only [Yf] at hc56
   refine .q 1 rfl (.region (.run 3 rfl ⟨⟨by omega,by omega⟩,trivial⟩ (.nil ?_)))
   refine ⟨(i+1,d,false),⟨rfl,rfl,rfl,rfl,rfl,trivial⟩,⟨by (try dsimp only); omega,by (try dsimp only); omega,by (try dsimp only); exact Y27 (show d<16*16 ^ (i - ((pre k).length+1)) by omega) (by rw [show i+1 - ((pre k).length+1)=(i - ((pre k).length+1))+1 by omega,Y2y]; omega),?_,hS⟩,by (try dsimp only); omega⟩
   try dsimp only
   rw [X63 hni (by omega),X7d,hhx,hx_no (fun h=>by have h1:=h.1; have h2:=h.2; simp at hb43; omega) (fun h=>by have h1:=h.1; have h2:=h.2; simp at hb56; omega)]
   cases b <;> simp
  have hc37:=hb37; try simp only [Yf] at hc37
  refine .exit (.seq (.q 1 rfl ?_))
  refine WC.cond rfl (fun hb70=>?_) (fun hb70=>?_)
  ·
   have hc70:=hb70; try simp only [Yf] at hc70
   refine .seq (.q 5 rfl (.ret (ret3 Tryz.results22 rfl rfl rfl ?_)))
   have hs9:s=pre k ++ 45::s.drop ((pre k).length+1):=by
    have h:=Y1h ((pre k).length+1) s
    rw [hpf,Y7] at h
    exact h.symm
   have hil:i=s.length:=by omega
   have hh:hxS 0 (s.drop ((pre k).length+1))=some d:=by
    rw [hil,Y1k (by rw [Y6]; omega),hb70] at hhx
    exact hhx
   have hP:X8 s=some (k,d):=by
    rw [hs9]
    exact Xg6 hk1.1 hk1.2 (by rw [Y6]; omega) hh
   rw [hP]
   exact ⟨_,rfl,rfl,hS⟩
  have hc70:=hb70; try simp only [Yf] at hc70
  refine .skip (.region (.run 3 rfl ⟨⟨by omega,by omega⟩,trivial⟩ (.nil ?_)))
  refine ⟨k+1,⟨rfl,rfl,trivial⟩,⟨by (try dsimp only); omega,by (try dsimp only); omega,fun j d hj h=>?_,hS⟩,by (try dsimp only); omega⟩
  rcases Y1c j k with h1 | h1
  ·exact hno j d h1 h
  ·have e:k=j:=by omega
   subst e
   obtain ⟨t,ht,htl,hth⟩:=Xb7 h
   obtain ⟨g1,g2,g3⟩:=Xh7 ht htl
   first
   | (have h3:=hb32; simp [g1,g2] at h3; done)
   | (have h3:=hb32; simp [g1,g2] at h3; omega)
   | (have h3:hxS 0 ((s.drop ((pre k).length+1)).take (s.length - ((pre k).length+1)))=some d:=(by (rw [g3,Y1k (by omega)]; exact hth)); rw [show i=s.length by omega] at hhx; rw [hhx] at h3; simp [hb70] at h3)
 have hc13:=hb13; try simp only [Yf] at hc13
 refine .exit (.seq (.q 3 rfl (.ret (ret3 Tryz.results22 rfl rfl rfl ?_))))
 have hP:X8 s=none:=by
  cases h:X8 s with
  | none=>rfl
  | some x =>
   obtain ⟨j,d⟩:=x
   have:=X33 h
   exact absurd h (hno j d (by omega))
 rw [hP]
 exact ⟨_,rfl,rfl,hS⟩
def SY:List Nat:=[18,19,20,21,22,23]
def tryM (s:List UInt8) (j:Nat):Nat:=(SY.take j).foldl (Xc2 s) 0
theorem sy_get {j:Nat} (h:j<6):SY[j]?=some (18+j):=by
 match j,h with
 | 0,_=>rfl
 | 1,_=>rfl
 | 2,_=>rfl
 | 3,_=>rfl
 | 4,_=>rfl
 | 5,_=>rfl
theorem X64 {s:List UInt8} {j:Nat} (h:j<6):tryM s (j+1)=Xc2 s (tryM s j) (18+j):=by
 unfold tryM
 rw [Y2u,sy_get h,Y3f,List.foldl_append]
 rfl
theorem Xgk (s:List UInt8):tryM s 6=X16 s:=Xbf s (L:=SY) (by decide) (by decide) (by decide)
theorem Xbd {s:List UInt8}:∀ (k j:Nat),j+k=6→(j=6∨s.length<18+j)→tryM s j=X16 s
 | 0,j,h,_=>by
  have:j=6:=by omega
  subst this
  exact Xgk s
 | k+1,j,h,hl=>by
  have h1:s.length<18+j:=hl.elim (fun e=>by omega) id
  rw [← Xbd k (j+1) (by omega) (.inr (by omega)),X64 (by omega),Xc2,if_neg (fun h=>by omega)]
abbrev tupR (s:List UInt8):Value:=.tuple #[I64 (((X8 s).getD (0,0)).1:Nat),U64 (((X8 s).getD (0,0)).2:Nat),.bool (X8 s).isSome]
theorem X45 (s:List UInt8) (hs:s.length≤9223372036854775000) (B w:World) (I:Im) (As:List Xe) (hS:Sat B w I As):Calls Tryz.prog 22 [S s].toArray w (Ret fun v w'=>v=tupR s∧Sat B w' I As) :=
 (X7l s hs B w I As hS).mono fun e w' ⟨v,he,hv,hS⟩=>⟨v,he,by rw [hv]; unfold tupR; cases X8 s <;> rfl,hS⟩
theorem X5v (s:List UInt8) (hs:s.length≤100000) (B w:World) (I:Im) (As:List Xe) (hS:Sat B w I As) :
  Calls Tryz.prog 12 [S s].toArray w (Ret fun v w'=>Sat B w' I (Vec 9 1 v (Xk s).length ((Xk s).map S)::As)):=by
 refine calls Tryz.func12 rfl Tryz.ntmps12 rfl (.seq (.q 1 rfl (.seq (.q 1 rfl (.seq (.q 1 rfl (.seq (.block ?_))))))))
 replace hS:=hS.vecNil 9 1
 refine .loop (σ:=Nat×Value×List (List UInt8)) (fun ⟨at_,kv,out⟩=>[(0,S s),(3,kv),(4,I64 (at_:Nat))]) (fun ⟨at_,kv,out⟩ w=>at_≤s.length∧out ++ Xk (s.drop at_)=Xk s∧Sat B w I (Vec 9 1 kv out.length (out.map S)::As)) (fun ⟨at_,kv,out⟩=>s.length - at_) (0,.slice none 0 0,[]) ⟨rfl,rfl,rfl,trivial⟩ ⟨Y14 _,rfl,hS⟩ ?_
 rintro ⟨at_,kv,out⟩ w ⟨hat,hout,hS⟩
 change WC _ _ _ _ [(0,S s),(3,kv),(4,I64 (at_:Nat))] w
 refine .seq (.seq (.region (.run 4 rfl ⟨Qu9,trivial⟩ (.nil ?_))))
 refine WC.cond rfl (fun hb13=>?_) (fun hb13=>?_)
 ·
  have hc13:=hb13; try simp only [Yf] at hc13
  refine .skip (.block (.seq (.q 1 rfl (.seq (.seq (.q 1 rfl (.block (.loop (σ:=Nat×Nat) (fun ⟨j,n⟩=>[(0,S s),(3,kv),(4,I64 (at_:Nat)),(5,I64 (n:Nat)),(6,I64 ((18+j:Nat):Int))]) (fun ⟨j,n⟩ w=>j≤6∧n=tryM (s.drop at_) j∧Sat B w I (Vec 9 1 kv out.length (out.map S)::As)) (fun ⟨j,n⟩=>6 - j) (0,0) ⟨rfl,rfl,rfl,rfl,rfl,trivial⟩ ⟨Y14 _,rfl,hS⟩ ?_))))))))
  rintro ⟨j,n⟩ w ⟨hj,hn,hS⟩
  change WC _ _ _ _ [(0,S s),(3,kv),(4,I64 (at_:Nat)),(5,I64 (n:Nat)),(6,I64 ((18+j:Nat):Int))] w
  refine .seq (.seq (.t 3 rfl (.gval rfl rfl (fun hg1=>(.move (.of rfl))) rfl (.gval rfl rfl (fun hg1=>(.move (.of rfl))) rfl (.gval rfl rfl (fun hg1=>(.add (.gd hg1 rfl) (.gd hg1 rfl) ⟨by omega,by omega⟩)) rfl (.gval rfl rfl (fun hg1=>(.move (.of rfl))) rfl (.gval rfl rfl (fun hg1=>(.len (.gd hg1 rfl) Qu9)) rfl (.gval rfl rfl (fun hg1=>(.leq (.gd hg1 rfl) (.gd hg1 rfl))) rfl (.val (.pand (.of rfl) (.of rfl) (.of rfl)) rfl (.nil ?_))))))))))
  refine WC.cond rfl (fun hb23=>?_) (fun hb23=>?_)
  ·
   have hc23:=hb23; try simp only [Yf] at hc23
   refine .skip (.seq (.block (.seq ?_)))
   have hj6:j<6:=by omega
   refine .region (.run 5 rfl ⟨⟨by omega,by omega⟩,trivial⟩ (.val (.sub3 (l:=s) (i:=(at_:Int)) (j:=((at_+(18+j):Nat):Int)) (.of rfl) (.of rfl) (.of rfl) (by omega) (by omega) (by omega) Qu9) rfl ?_))
   rw [show (s.drop (at_:Int).toNat).take (((at_+(18+j):Nat):Int).toNat - (at_:Int).toNat)=(s.drop at_).take (18+j) by rw [Yh,Yh,Y1q]]
   refine WL.call Qf22 rfl (X1 (.of rfl) X6) rfl (X45 ((s.drop at_).take (18+j)) (by rw [Yi]; omega) B _ I _ hS) ?_
   clear hS
   rintro _ w ⟨rfl,hS⟩
   refine .q 7 rfl (.nil (.seq (.q 1 rfl ?_)))
   refine WC.cond rfl (fun hb37=>?_) (fun hb37=>?_)
   ·
    have hc37:=hb37; try simp only [Yf] at hc37
    refine .q 2 rfl (.region (.run 3 rfl ⟨⟨by omega,by omega⟩,trivial⟩ (.nil ?_)))
    refine ⟨(j+1,18+j),⟨rfl,rfl,rfl,rfl,rfl,trivial⟩,⟨by (try dsimp only); omega,?_,hS⟩,by (try dsimp only); omega⟩
    (try dsimp only)
    rw [X64 hj6,Xc2,if_pos ⟨by rw [Y6]; omega,hb37⟩]
   have hc37:=hb37; try simp only [Yf] at hc37
   refine .skip (.region (.run 3 rfl ⟨⟨by omega,by omega⟩,trivial⟩ (.nil ?_)))
   refine ⟨(j+1,n),⟨rfl,rfl,rfl,rfl,rfl,trivial⟩,⟨by (try dsimp only); omega,?_,hS⟩,by (try dsimp only); omega⟩
   (try dsimp only)
   rw [X64 hj6,Xc2,if_neg (fun h=>by rw [h.2] at hb37; cases hb37)]
   exact hn
  have hc23:=hb23; try simp only [Yf] at hc23
  refine .exit (.seq (.seq ?_))
  have hn2:n=X16 (s.drop at_):=by
   rw [hn]
   refine Xbd (6 - j) j (by omega) ?_
   rw [Y6]
   rcases Y1c j 6 with h6 | h6
   ·refine .inr ?_
    have h:=hb23
    simp only [Bool.and_eq_false_iff,decide_eq_false_iff_not] at h
    omega
   ·exact .inl (by omega)
  have hle:=X1w (s.drop at_)
  rw [Y6] at hle
  have hfc:=X1m _ s (Yd _)
  have hol:=congrArg List.length hout
  rw [Y2] at hol
  refine .q 2 rfl ?_
  refine WC.cond rfl (fun hb40=>?_) (fun hb40=>?_)
  ·
   have hc40:=hb40; try simp only [Yf] at hc40
   refine .region (.run 6 rfl ⟨⟨by omega,by omega⟩,trivial⟩ (.val (.sub3 (l:=s) (i:=(at_:Int)) (j:=((at_+n:Nat):Int)) (.of rfl) (.of rfl) (.of rfl) (by omega) (by omega) (by omega) Qu9) rfl ?_))
   rw [show (s.drop (at_:Int).toNat).take (((at_+n:Nat):Int).toNat - (at_:Int).toNat)=(s.drop at_).take n by rw [Yh,Yh,Y1q]]
   refine .buildSlice (cs:=[_]) hS (X10 (.of rfl) X18) Xw Qs9 Qz9 rfl rfl rfl rfl ?_
   clear hS; intro b48 w hS
   refine WL.append (size:=1) (bytes:=16) hS (.of rfl) (.of rfl) (k:=0) rfl Xw Xn rfl rfl rfl rfl rfl rfl rfl ⟨by omega,by unfold maxLen; omega⟩ rfl ?_
   clear hS; intro v49 w hS; try dsimp only [List.set] at hS
   obtain ⟨a49,c49,rfl,hcap49,_⟩:=hS.vecSlice (k:=0) (v:=v49) rfl
   refine .q 1 rfl (.nil (.t 2 rfl (.val (.max2 (.of rfl) (.of rfl)) rfl (.run 2 rfl ⟨⟨by omega,by omega⟩,trivial⟩ (.nil ?_)))))
   refine ⟨(at_+n,.slice a49 (out.length+1) c49,out ++ [(s.drop at_).take n]),⟨rfl,rfl,by show some (Value.int IntKind.i64 _)=some (Value.int IntKind.i64 _); rw [show (max 1 (n:Int))=(n:Int) by omega]; rfl,trivial⟩,⟨by (try dsimp only); omega,?_,?_⟩,by (try dsimp only); omega⟩
   ·(try dsimp only)
    rw [← hout,X2d (s:=s.drop at_) (by omega),← hn2,Yy,Y7]
    rfl
   ·(try dsimp only)
    rw [Y2,Y18]
    exact hS
  have hc40:=hb40; try simp only [Yf] at hc40
  refine .skip (.t 2 rfl (.val (.max2 (.of rfl) (.of rfl)) rfl (.run 2 rfl ⟨⟨by omega,by omega⟩,trivial⟩ (.nil ?_))))
  refine ⟨(at_+1,kv,out),⟨rfl,rfl,by show some (Value.int IntKind.i64 _)=some (Value.int IntKind.i64 _); rw [show (max 1 (n:Int))=1 by omega]; rfl,trivial⟩,⟨by (try dsimp only); omega,?_,hS⟩,by (try dsimp only); omega⟩
  (try dsimp only)
  rw [← hout,X30 (s:=s.drop at_) (by omega),Yy]
 have hc13:=hb13; try simp only [Yf] at hc13
 refine .exit (.seq (.q 2 rfl (.ret (X38 Tryz.results12 rfl ?_))))
 have hin:at_=s.length:=by omega
 subst hin
 rw [Y1r,X2z,Y1d] at hout
 subst hout
 exact ⟨_,rfl,hS⟩
def HVS:List Value:=[0,274646895,549293790,820201905,1098587580,1361435347,1640403810,1905808397,2197175160,2460548119,2722870694,2987750089,3280807620,3553878443,3811616794,4084100981].map fun n:Nat=>.int .u32 (n:Int)
def Xa8 (I:Im):Prop:=At I ⟨8,0,none⟩ HVS
theorem X8b (a:Option Addr) (c:Nat) (B w:World) (I:Im) (As:List Xe) (hS:Sat B w I As) :
  Calls Tryz.prog 292 [.slice a 0 c].toArray w (Ret fun v w'=>v=.slice none 0 0∧Sat B w' I As):=by
 refine calls Tryz.func292 rfl Tryz.ntmps292 rfl (.seq (.q 1 rfl (.seq (.seq (.region (.run 3 rfl ⟨⟨_,Xab⟩,trivial⟩ (.nil ?_)))))))
 refine WC.cond rfl (fun hb8=>?_) (fun hb8=>by exfalso; simp only [Yf] at hb8; omega)
 have hc8:=hb8; try simp only [Yf] at hc8
 refine .seq (.q 1 rfl (.ret (X38 Tryz.results292 rfl ?_)))
 exact ⟨_,rfl,rfl,hS⟩
theorem Xbr (y:Value) (a:Option Addr) (b c:Nat) (B w:World) (I:Im) (As:List Xe) (hS:Sat B w I (blk b [.slice a 0 c] 43::As)) :
  Calls Tryz.prog 291 [y,ptr b 0].toArray w (Ret fun v w'=>v=.tuple #[]∧Sat B w' I (blk b [.slice a 0 c] 43::As)):=by
 refine calls Tryz.func291 rfl Tryz.ntmps291 rfl (.seq (.region (.val (.ld (.of rfl) hS (k:=0) rfl Xaa rfl) rfl (.call Tryz.func292 rfl (X1 (.of rfl) X6) rfl (X8b _ _ _ _ _ _ hS) ?_))))
 clear hS
 rintro _ w ⟨rfl,hS⟩
 refine .q 1 rfl (.nil (.block (.unroll (WI.round (.seq (.seq (.t 1 rfl (.val (v:=.bool false) (.slNe (a:=none) (.of rfl) (.of rfl) Xab) rfl (.q 1 rfl (.gval rfl rfl (fun hg1=>(.move (.of rfl))) rfl (.gval rfl rfl (fun hg1=>(.move (.of rfl))) rfl (.gval (b:=false) (v:=.bool false) rfl rfl (fun h=>absurd h (by decide)) rfl (.val (.pand (.of rfl) (.of rfl) (.of rfl)) rfl (.nil (.condF (rfl) (.exit (end0 Tryz.results291 ?_)))))))))))))))))
 exact ⟨_,rfl,rfl,hS⟩
theorem Xd3 (a:Option Addr) (c:Nat) (B w:World) (I:Im) (As:List Xe) (hS:Sat B w I As) :
  Calls Tryz.prog 209 [.slice a 0 c].toArray w (Ret fun v w'=>∃ b,v=.func (.func 291) #[] #[ptr b 0]∧Sat B w' I (blk b [.slice a 0 c] 43::As)):=by
 refine calls Tryz.func209 rfl Tryz.ntmps209 rfl (.seq (.region (.box1 hS (.of rfl) rfl rfl ?_)))
 clear hS; intro b1 w hS
 refine .q 1 rfl (.nil (.seq (.region (.val (.makeFunc (X1 (.of rfl) X6)) rfl (.q 1 rfl (.nil (.ret (X38 Tryz.results209 rfl ?_))))))))
 exact ⟨_,rfl,_,rfl,hS⟩
theorem X7v (a:Option Addr) (c:Nat) (B w:World) (I:Im) (As:List Xe) (hS:Sat B w I As) :
  Calls Tryz.prog 117 [.slice a 0 c].toArray w (Ret fun v w'=>v=.tuple #[.slice none 0 0,I64 0]∧Sat B w' I As):=by
 refine callsM Tryz.func117 rfl Tryz.ntmps117 rfl (.seq (.q 2 rfl (.seq (.region (.alloc1 hS Tryz.zeroValue143 rfl rfl ?_)))))
 clear hS; intro b4 w hS
 refine .nil (.seq (.region (.alloc1 hS Qz3 rfl rfl ?_)))
 clear hS; intro b5 w hS
 first | refine WL.st1 hS (k:=0) rfl (.of rfl) (.of rfl) rfl Qs3 (by simp) ?_ | refine WL.st1 hS (k:=1) rfl (.of rfl) (.of rfl) rfl Qs3 (by simp) ?_
 clear hS; intro w hS; try dsimp only [List.set] at hS
 refine .nil (.seq (.seq (.t 1 rfl (.call Tryz.func209 rfl (X1 (.of rfl) X6) rfl (Xd3 _ _ _ _ _ _ hS) ?_))))
 clear hS
 rintro _ w ⟨bE,rfl,hS⟩
 refine .nil (.block ?_)
 refine WC.rangeNone hS (.of rfl) Tryz.func291 rfl rfl (fun l D r w hS=>?_) (fun D w hS=>?_)
 ·
  have hS:=hS.pick 2 rfl; try dsimp only [List.eraseIdx] at hS
  refine (Xbr _ _ _ _ _ _ _ _ hS).mono ?_
  rintro e w1 ⟨_,rfl,rfl,hS⟩
  have hS:=hS.pick 2 rfl; try dsimp only [List.eraseIdx] at hS
  exact ⟨_,rfl,hS.pick 2 rfl⟩
 refine .seq (.quiet (by kernel_rfl) (by kernel_rfl) hS ?_)
 refine WQ.val (fun w hS=>(by first | exact (.ld (.of rfl) hS (k:=0) rfl Xcc rfl) | exact (.ld (.of rfl) hS (k:=1) rfl Xcc rfl) | exact (.ld (.of rfl) hS (k:=2) rfl Xcc rfl) | exact (.ld (.of rfl) hS (k:=3) rfl Xcc rfl))) rfl ?_
 refine WQ.val (fun w hS=>(by first | exact (.ld (.of rfl) hS (k:=0) rfl Qg3 rfl) | exact (.ld (.of rfl) hS (k:=1) rfl Qg3 rfl) | exact (.ld (.of rfl) hS (k:=2) rfl Qg3 rfl) | exact (.ld (.of rfl) hS (k:=3) rfl Qg3 rfl))) rfl ?_
 refine .val (fun w hS=>(.assign (.of rfl))) rfl (.val (fun w hS=>(.assign (.of rfl))) rfl (.nil ?_))
 clear hS; intro w hS
 refine .ret ?_
 refine retM2 Tryz.results117 hS (k:=0) rfl rfl rfl rfl (fun w hS=>?_)
 exact ⟨_,rfl,rfl,((hS.drop (k:=0) rfl).drop (k:=0) rfl).drop (k:=0) rfl⟩
end Go.Proofs.YtokmddjcdfailaaGreatDoor
namespace Go.Proofs.YtokmddjcdfailaaGreatDoor
open Gk Sx Ul Pc Tk Tr Sc Xm
set_option maxRecDepth 100000
def POWC:List Value:=[1,10,100,1000,10000,100000,1000000,10000000,100000000,1000000000,10000000000,100000000000,1000000000000,10000000000000,100000000000000,1000000000000000,10000000000000000,100000000000000000,1000000000000000000,10000000000000000000].map fun n:Nat=>.int .u64 (n:Int)
structure K26 (I:Im):Prop where
 kn:Known I
 pre:PreAt I
 pow:At I ⟨2,0,none⟩ POWC
 mks:At I (ad 7 0) MKC
 hal:Xa8 I
theorem Xi7 : ∃ fn e, Tryz.prog.funcs[51]? = some fn ∧ (fn.name == "runtime.NumGoroutine") = false ∧ fn.body.isNone = true ∧ Extern.findNext fn = none ∧ Extern.find fn = some e ∧
  ∀ (αs:List AV) (γ:AV) (ρ:Ren) (vs:List Value) (w:World),Xd4 αs=some γ→X5 ρ αs=some vs→∃ v,Xb ρ γ=some v∧(e vs.toArray).run Tryz.prog w=.ok v w:=by
 refine ⟨Tryz.f51,Extern.AbiNoEscape.same,Tryz.func51,by kernel_rfl,by kernel_rfl,by kernel_rfl,by kernel_rfl,fun αs γ ρ vs w h hv=>?_⟩
 unfold Xd4 at h
 split at h
 ·rename_i x
  cases h
  obtain ⟨v,us,h1,h2,rfl⟩:=concL_cons.1 hv
  rw [X5] at h2; cases h2
  exact ⟨v,h1,Go.Lib.run_noEscape w v⟩
 ·cases h
theorem ofNat_toNat (c:Nat):(Int.ofNat c).toNat.toUInt8=UInt8.ofNat c:=rfl
theorem ex_idx : ∃ fn e, Tryz.prog.funcs[185]? = some fn ∧ (fn.name == "runtime.NumGoroutine") = false ∧ fn.body.isNone = true ∧ Extern.findNext fn = none ∧ Extern.find fn = some e ∧
  ∀ (αs:List AV) (γ:AV) (ρ:Ren) (vs:List Value) (w:World),Xi6 αs=some γ→X5 ρ αs=some vs→∃ v,Xb ρ γ=some v∧(e vs.toArray).run Tryz.prog w=.ok v w:=by
 refine ⟨Tryz.f185,Extern.BytealgIndexByte.indexByte,Qf185,by kernel_rfl,by kernel_rfl,by kernel_rfl,by kernel_rfl,fun αs γ ρ vs w h hv=>?_⟩
 unfold Xi6 at h
 split at h
 ·rename_i l c
  cases hb:Nat.blt c 256 with
  | false=>rw [hb] at h; cases h
  | true =>
   rw [hb] at h; cases h
   obtain ⟨v,us,h1,h2,rfl⟩:=concL_cons.1 hv
   obtain ⟨v2,us2,h3,h4,rfl⟩:=concL_cons.1 h2
   rw [X5] at h4; cases h4
   cases h1; cases h3
   have hc:c<256:=Y1 hb
   refine ⟨_,rfl,(Go.Lib.run_indexByteString ⟨⟨byt l⟩⟩ (Int.ofNat c) w).trans ?_⟩
   rw [ofNat_toNat,Xdn c hc l 0]
   congr 3
   split
   ·rename_i he; exact eq_of_beq he
   ·simp
 ·cases h
theorem ex_cnt : ∃ fn e, Tryz.prog.funcs[409]? = some fn ∧ (fn.name == "runtime.NumGoroutine") = false ∧ fn.body.isNone = true ∧ Extern.findNext fn = none ∧ Extern.find fn = some e ∧
  ∀ (αs:List AV) (γ:AV) (ρ:Ren) (vs:List Value) (w:World),Xi5 αs=some γ→X5 ρ αs=some vs→∃ v,Xb ρ γ=some v∧(e vs.toArray).run Tryz.prog w=.ok v w:=by
 refine ⟨Tryz.f409,Extern.BytealgCount.count,Tryz.func409,by kernel_rfl,by kernel_rfl,by kernel_rfl,by kernel_rfl,fun αs γ ρ vs w h hv=>?_⟩
 unfold Xi5 at h
 split at h
 ·rename_i l c
  cases hb:Nat.blt c 256 with
  | false=>rw [hb] at h; cases h
  | true =>
   rw [hb] at h; cases h
   obtain ⟨v,us,h1,h2,rfl⟩:=concL_cons.1 hv
   obtain ⟨v2,us2,h3,h4,rfl⟩:=concL_cons.1 h2
   rw [X5] at h4; cases h4
   cases h1; cases h3
   have hc:c<256:=Y1 hb
   refine ⟨_,rfl,(Go.Lib.run_countString ⟨⟨byt l⟩⟩ (Int.ofNat c) w).trans ?_⟩
   rw [ofNat_toNat,Xcy c hc l 0]
   simp
 ·cases h
theorem cx26:X66 X26 where
 ty:=tyT_ok
 ls:=fun p hp=>by
  have e:p=(50,2,50):=by simpa [X26] using hp
  subst e
  show liesAt Tryz.prog Tryz.prog.depth 50 (2 / Tryz.prog.cellsOf 50) 0 50 1=true
  kernel_rfl
 c1:=fun e he=>by
  have:e=5:=by simpa [X26] using he
  subst this
  show Tryz.prog.cellsOf 5=1
  kernel_rfl
 ex:=⟨ex_idx,⟨Xi7,trivial,trivial⟩,⟨ex_cnt,trivial,trivial⟩⟩
section
variable {B:World} {I:Im}
theorem Xir (hK:Known I):Xc9 X26 B I 52 Xis:=by
 intro args H nx r H' nx' h
 unfold Xis at h
 split at h
 ·rename_i l t
  cases hb:Nat.ble (len l) 1000000 with
  | false=>rw [hb] at h; cases h
  | true =>
   rw [hb] at h; cases h
   refine ⟨Yd _,⟨_,Tryz.func52,rfl⟩,fun ρ F w vs hF hW hv=>?_⟩
   obtain ⟨v,us,h1,h2,rfl⟩:=concL_cons.1 hv
   obtain ⟨v2,us2,h3,h4,rfl⟩:=concL_cons.1 h2
   rw [X5] at h4; cases h4
   cases h1; cases h3
   have hl:=Y1 hb
   rw [Xg] at hl
   obtain ⟨m,hm⟩:=hK.max B w _ hW.h
   refine (Tryz.stringslite_Index ⟨⟨byt l⟩⟩ ⟨⟨byt t⟩⟩ m w (by show (byt l).length<_; simp only [byt,Yo]; omega) hm).mono fun e w' he=>?_
   obtain ⟨rfl,rfl⟩:=he
   refine ⟨_,rfl,ρ,Ext.refl _ _ _,?_,hW⟩
   rw [Xb,Xeg t l 0]
   congr 2
   split
   ·rename_i he; exact (eq_of_beq he).symm
   ·simp
 ·cases h
theorem Xg0:Xc9 X26 B I 117 Xdt:=by
 intro args H nx r H' nx' h
 unfold Xdt at h
 split at h
 ·rename_i b o z
  cases h
  refine ⟨Yd _,⟨_,Tryz.func117,rfl⟩,fun ρ F w vs hF hW hv=>?_⟩
  obtain ⟨v,us,h1,h2,rfl⟩:=concL_cons.1 hv
  rw [X5] at h2; cases h2
  obtain ⟨ad,ba,cap,_,rfl⟩:=X2v h1
  refine (X7v _ _ B w I _ hW.h).mono fun e w' he=>?_
  obtain ⟨v,rfl,rfl,hS⟩:=he
  exact ⟨_,rfl,ρ,Ext.refl _ _ _,rfl,hW.z,hS⟩
 ·cases h
  refine ⟨Yd _,⟨_,Tryz.func117,rfl⟩,fun ρ F w vs hF hW hv=>?_⟩
  obtain ⟨v,us,h1,h2,rfl⟩:=concL_cons.1 hv
  rw [X5] at h2; cases h2
  cases h1
  refine (X7v _ _ B w I _ hW.h).mono fun e w' he=>?_
  obtain ⟨v,rfl,rfl,hS⟩:=he
  exact ⟨_,rfl,ρ,Ext.refl _ _ _,rfl,hW.z,hS⟩
 ·cases h
theorem Xde:Xk (byt PAGE)=[byt NAME]:=by kernel_rfl
theorem Xb3 {f:Nat} (hf:∃ fn,Tryz.prog.funcs[f]?=some fn∧X13 fn=true) (hc:∀ (w:World) (As:List Xe),Sat B w I As→Calls Tryz.prog f [S (byt PAGE)].toArray w (Ret fun v w'=>Sat B w' I (Vec 9 1 v (Xk (byt PAGE)).length ((Xk (byt PAGE)).map S)::As))) :
  Xc9 X26 B I f Xb4:=by
 intro args H nx r H' nx' h
 unfold Xb4 at h
 split at h
 ·rename_i s
  cases hb:X5q s PAGE with
  | false=>rw [hb] at h; cases h
  | true =>
   rw [hb] at h; cases h
   have:=X5r hb
   subst this
   refine ⟨Y3v _,hf,fun ρ F w vs hF hW hv=>?_⟩
   obtain ⟨v,us,h1,h2,rfl⟩:=concL_cons.1 hv
   rw [X5] at h2; cases h2
   cases h1
   refine (hc w _ hW.h).mono fun e w' he=>?_
   obtain ⟨v,rfl,hS⟩:=he
   rw [Xde] at hS
   have hn:ρ nx=none:=hF nx (Yd _) (Nat.lt_succ_self _)
   obtain ⟨b,cap,rest,rfl,h3,h4,h5,h6,hS⟩:=hS.vecOpen (k:=0) rfl (by decide)
   simp only [List.set_cons_zero] at hS
   have he:=X19 (b,0,cap) hn
   refine ⟨_,rfl,X7s ρ nx (b,0,cap),he,by simp [Xb,X17],hW.z.mono he.1,?_⟩
   have hS2:Sat B w' I (blk b ([S (byt NAME)] ++ rest) 9::(H.map (den (X7s ρ nx (b,0,cap))) ++ F)):=by
    obtain ⟨g,⟨g1,g2,rfl,ha,hr⟩,hg⟩:=hS
    exact ⟨_,⟨g1,g2,rfl,ha,X7n he.1 hr⟩,hg⟩
   have h7:([S (byt NAME)]:List Value).length=1:=rfl
   exact hS2.say (k:=0) rfl (A':=den (X7s ρ nx (b,0,cap)) (nx,.row 9 1 false [.st NAME])) fun g hg=>⟨b,0,cap,[S (byt NAME)],[],rest,(0,0),X17 _ _ _,rfl,rfl,by simpa using h6,h4,Thaw.zero _,(fun h=>by cases h),by simpa [blk,own,Xh] using hg⟩
 ·cases h
end
def R0:Ren:=fun i=>if i<11 then some (i,0,0) else none
theorem z26 {I:Im} (hK:K26 I):ZOK I R0 Z26 11:=by
 refine ⟨fun id cs h=>?_,fun g hg=>⟨0,by simp [R0,hg]⟩⟩
 have key:∀ {L:List (Nat×List AV)},(∀ p∈L,p.1<11∧∃ vs,X5 R0 p.2=some vs∧At I ⟨p.1,0,none⟩ vs)→∀ {id cs},Xc5 L id=some cs→id<11∧∃ vs,X5 R0 cs=some vs∧At I ⟨id,0,none⟩ vs:=by
  intro L
  induction L with
  | nil=>intro _ id cs h; cases h
  | cons p L ih =>
   intro hp id cs h
   obtain ⟨k,c⟩:=p
   unfold Xc5 at h
   cases hb:Nat.beq k id with
   | true =>
    rw [hb] at h; cases h
    have:=Y4 hb
    subst this
    exact hp _ (Y1o)
   | false=>rw [hb] at h; exact ih (fun q hq=>hp q (Y16 _ hq)) h
 obtain ⟨h1,vs,h2,h3⟩:=key (L:=Z26) (by
  intro p hp
  simp only [Z26,Y19,List.not_mem_nil,or_false] at hp
  rcases hp with rfl | rfl | rfl | rfl
  ·exact ⟨by decide,_,rfl,hK.pre⟩
  ·exact ⟨by decide,_,rfl,hK.pow⟩
  ·exact ⟨by decide,_,rfl,hK.mks⟩
  ·exact ⟨by decide,_,rfl,hK.hal⟩) h
 exact ⟨id,0,0,vs,by simp [R0,h1],h2,h3⟩
theorem Xg3 {r:Option (AV×X3×Nat)} (h:okT r=true):∃ H nx,r=some (.v (.bool true),H,nx):=by
 unfold okT at h
 split at h
 ·exact ⟨_,_,rfl⟩
 ·cases h
theorem X95 (B w:World) (I:Im) (hK:K26 I) (As:List Xe) (hS:Sat B w I As):Calls Tryz.prog 4 #[] w (Ret fun v w'=>v=.bool true∧Sat B w' I As):=by
 obtain ⟨H,nx,h⟩:=Xg3 Xco
 rw [Xag] at h
 have hN:ntT.All (Xc9 X26 B I):=⟨Xir hK.kn,⟨(Xb3 ⟨_,Qf16,rfl⟩ fun w As hS=>(Xa7 _ (by decide) B w I hK.kn hK.pre As hS)),⟨(Xb3 ⟨_,Tryz.func12,rfl⟩ fun w As hS=>(X5v _ (by decide) B w I As hS)),trivial,trivial⟩,trivial⟩,⟨Xg0,trivial,trivial⟩⟩
 obtain ⟨_,_,h3⟩:=Xah (B:=B) (I:=I) cx26 rfl fnT_ok hN 60 4 [] [] 1000 _ H nx h
 refine (h3 R0 As w [] (fun i h1 _=>by simp only [R0]; rw [if_neg (by omega)]) ⟨z26 hK,hS⟩ rfl).mono fun e w' he=>?_
 obtain ⟨v,rfl,σ,_,h5,h6⟩:=he
 cases h5
 refine ⟨_,rfl,rfl,?_⟩
 have hS2:Sat B w' I (H.map (den σ) ++ As):=h6.h
 generalize H.map (den σ)=D at hS2
 clear h h3 h6
 induction D with
 | nil=>exact hS2
 | cons d D ih=>exact ih (hS2.drop (k:=0) rfl)
end Go.Proofs.YtokmddjcdfailaaGreatDoor
namespace Go.Proofs.YtokmddjcdfailaaGreatDoor
open Gk Ul Pc Tk Tr Sc
theorem X7b {s:List UInt8} {i:Nat} (b:Bool) (h:(decide ((s.length:Int)≤(i:Int)+2) || ((at_ s (i:Int)).toNat:Int) != 123 || decide (((at_ s ((i:Int)+1)).toNat:Int)<48) || decide (57<((at_ s ((i:Int)+1)).toNat:Int)) || ((at_ s ((i:Int)+2)).toNat:Int) != 125)=b):X9f (s.drop i)=!b:=by
 have e0:(s.drop i).getD 0 0=at_ s (i:Int):=by simp [at_,Y8]
 have e1:(s.drop i).getD 1 0=at_ s ((i:Int)+1):=by simp [at_,Y8,show ((i:Int)+1).toNat=i+1 by omega]
 have e2:(s.drop i).getD 2 0=at_ s ((i:Int)+2):=by simp [at_,Y8,show ((i:Int)+2).toNat=i+2 by omega]
 subst h
 unfold X9f
 rw [e0,e1,e2,Y28]
 simp only [Bool.not_eq_true',Bool.or_eq_false_iff,decide_eq_false_iff_not,bne_eq_false_iff_eq,Y5,decide_eq_true_eq,beq_iff_eq,Y6,← Y2r]
 constructor
 ·intro h
  obtain ⟨⟨⟨h1,h2⟩,h3,h4⟩,h5⟩:=h
  refine ⟨⟨⟨⟨by omega,?_⟩,by omega⟩,by omega⟩,?_⟩
  ·rw [h2]; rfl
  ·rw [h5]; rfl
 ·intro h
  obtain ⟨⟨⟨⟨h1,h2⟩,h3⟩,h4⟩,h5⟩:=h
  refine ⟨⟨⟨by omega,?_⟩,by omega,by omega⟩,?_⟩
  ·show _=123; omega
  ·show _=125; omega
theorem X4h (bb:Nat) (p v:Value) (l:List UInt8) (hp:p=.pointer none∨p=ptr bb 0) (B w:World) (I:Im) (F:List Xe) (hS:Sat B w I (blk bb [p,v] 50::Vec 5 1 v l.length (bcs l)::F)) :
  Calls Tryz.prog 14 [ptr bb 0,S []].toArray w (Ret fun u w'=>u=.tuple #[I64 0,.nilIface]∧Sat B w' I (blk bb [ptr bb 0,v] 50::Vec 5 1 v l.length (bcs l)::F)):=by
 refine calls Xhh rfl Tryz.ntmps14 rfl (.seq (.q 2 rfl (.seq (.t 1 rfl (.call Qf28 rfl (X1 (.of rfl) X6) rfl (X2c bb p v hp B w I _ hS) ?_)))))
 clear hS
 rintro _ w ⟨rfl,hS⟩
 refine .nil (.seq ?_)
 obtain ⟨va,vc,rfl,hvc,_⟩:=hS.vecSlice (k:=1) rfl
 refine .t 3 rfl ?_
 first | refine WL.val (.fieldAddr 1 (.of rfl) X7u rfl rfl X6h rfl) rfl ?_ | refine WL.val (.fieldAddrI 1 (.of rfl) X7u rfl rfl X6h rfl) rfl ?_
 first | refine WL.val (.ld (.of rfl) hS (k:=0) rfl Xaa rfl) rfl ?_ | refine WL.val (.ld (.of rfl) hS (k:=1) rfl Xaa rfl) rfl ?_
 refine .q 1 rfl (.val (.appendNo (.of rfl) (.of rfl) Xab Qu9 X5f hvc) rfl (.q 1 rfl ?_))
 first | refine WL.val (.fieldAddr 1 (.of rfl) X7u rfl rfl X6h rfl) rfl ?_ | refine WL.val (.fieldAddrI 1 (.of rfl) X7u rfl rfl X6h rfl) rfl ?_
 first | refine WL.st1 hS (k:=0) rfl (.of rfl) (.of rfl) rfl X6h (by simp) ?_ | refine WL.st1 hS (k:=1) rfl (.of rfl) (.of rfl) rfl X6h (by simp) ?_
 clear hS; intro w hS; try dsimp only [List.set] at hS
 refine .nil (.seq (.region (.run 4 rfl ⟨Qu9,trivial⟩ (.nil (.ret (ret2 Tryz.results14 rfl rfl ?_))))))
 exact ⟨_,rfl,rfl,by simpa using hS⟩
theorem Xew (s:List UInt8) (told:List (List UInt8)) (ta:Option Addr) (tc:Nat) (hs:s.length≤10000) (htl:told.length≤1000) (htx:∀ x∈told,x.length≤60) (B w:World) (I:Im) (hT:RS I ta 1 told.length (told.map S)) (As:List Xe) (hS:Sat B w I As) :
  Calls Tryz.prog 5 [S s,.slice ta told.length tc].toArray w (Ret fun v w'=>v=S (X4i told s)∧Sat B w' I As):=by
 refine calls Tryz.func5 rfl Tryz.ntmps5 rfl (.seq (.q 1 rfl (.seq (.region (.allocA (cs:=[_,_]) hS Tryz.zeroValue50 rfl ?_)))))
 clear hS; intro b5 w hS
 refine .nil (.seq (.seq (.q 1 rfl (.block ?_))))
 replace hS:=(hS.vecNil 5 1).pick 1 rfl; try dsimp only [List.eraseIdx] at hS
 refine .loop (σ:=List UInt8×Value×Value×Nat) (fun ⟨out,p,v,i⟩=>[(0,S s),(1,.slice ta told.length tc),(5,ptr b5 0),(6,I64 (i:Nat))]) (fun ⟨out,p,v,i⟩ w=>i≤s.length∧out.length≤60*i∧out ++ X4i told (s.drop i)=X4i told s∧(p=.pointer none∨p=ptr b5 0)∧(out=[]→v=.slice none 0 0)∧Sat B w I (blk b5 [p,v] 50::Vec 5 1 v (out).length (bcs (out))::As)) (fun ⟨out,p,v,i⟩=>s.length - i) ([],.pointer none,.slice none 0 0,0) ⟨rfl,rfl,rfl,rfl,trivial⟩ ⟨Y14 _,Y14 _,rfl,.inl rfl,fun _=>rfl,hS⟩ ?_
 rintro ⟨out,p,v,i⟩ w ⟨hi,hol,hout,hp,hpv,hS⟩
 change WC _ _ _ _ [(0,S s),(1,.slice ta told.length tc),(5,ptr b5 0),(6,I64 (i:Nat))] w
 refine .seq (.seq (.region (.run 4 rfl ⟨Qu9,trivial⟩ (.nil ?_))))
 refine WC.cond rfl (fun hb11=>?_) (fun hb11=>?_)
 ·
  have hc11:=hb11; try simp only [Yf] at hc11
  refine .skip (.seq (.block (.seq (.seq (.region (.run 6 rfl ⟨⟨by omega,by omega⟩,Qu9,trivial⟩ (.gval rfl rfl (fun hg1=>(.move (.of rfl))) rfl (.gval rfl rfl (fun hg1=>(.move (.of rfl))) rfl ?_))))))))
  refine WL.gval rfl rfl (fun hg1=>(.index (.gd hg1 rfl) (.gd hg1 rfl) (by (try simp only [Yf] at hg1); omega) (by (try simp only [Yf] at hg1); omega) Qu9)) rfl ?_
  refine .gval rfl rfl (fun hg1=>(.neq (.gd hg1 rfl) (.of rfl))) rfl (.val (.por (.of rfl) (.of rfl) (.of rfl)) rfl (.q 1 rfl (.gval rfl rfl (fun hg1=>(.move (.of rfl))) rfl (.gval rfl rfl (fun hg1=>(.move (.of rfl))) rfl (.gval rfl rfl (fun hg1=>(.add (.gd hg1 rfl) (.of rfl) ⟨by omega,by omega⟩)) rfl ?_)))))
  refine WL.gval rfl rfl (fun hg1=>(.index (.gd hg1 rfl) (.gd hg1 rfl) (by (try simp only [Yf] at hg1); omega) (by (try simp only [Yf] at hg1); omega) Qu9)) rfl ?_
  refine .gval rfl rfl (fun hg1=>(.lss (.gd hg1 rfl) (.of rfl))) rfl (.val (.por (.of rfl) (.of rfl) (.of rfl)) rfl (.q 1 rfl (.gval rfl rfl (fun hg1=>(.move (.of rfl))) rfl (.gval rfl rfl (fun hg1=>(.move (.of rfl))) rfl (.gval rfl rfl (fun hg1=>(.add (.gd hg1 rfl) (.of rfl) ⟨by omega,by omega⟩)) rfl ?_)))))
  refine WL.gval rfl rfl (fun hg1=>(.index (.gd hg1 rfl) (.gd hg1 rfl) (by (try simp only [Yf] at hg1); omega) (by (try simp only [Yf] at hg1); omega) Qu9)) rfl ?_
  refine .gval rfl rfl (fun hg1=>(.gtr (.gd hg1 rfl) (.of rfl))) rfl (.val (.por (.of rfl) (.of rfl) (.of rfl)) rfl (.q 1 rfl (.gval rfl rfl (fun hg1=>(.move (.of rfl))) rfl (.gval rfl rfl (fun hg1=>(.move (.of rfl))) rfl (.gval rfl rfl (fun hg1=>(.add (.gd hg1 rfl) (.of rfl) ⟨by omega,by omega⟩)) rfl ?_)))))
  refine WL.gval rfl rfl (fun hg1=>(.index (.gd hg1 rfl) (.gd hg1 rfl) (by (try simp only [Yf] at hg1); omega) (by (try simp only [Yf] at hg1); omega) Qu9)) rfl ?_
  refine .gval rfl rfl (fun hg1=>(.neq (.gd hg1 rfl) (.of rfl))) rfl (.val (.por (.of rfl) (.of rfl) (.of rfl)) rfl (.nil ?_))
  refine WC.cond rfl (fun hb45=>?_) (fun hb45=>?_)
  ·
   have hc45:=hb45; try simp only [Yf] at hc45
   refine .seq (.region (.run 3 rfl ⟨⟨⟨by omega,by omega⟩,Qu9⟩,trivial⟩ (.call Tryz.func13 rfl (X1 (.of rfl) (X1 (.of rfl) X6)) rfl (X6z b5 p v out (at_ s (i:Int)) hp B w I _ hS (by omega)) ?_)))
   clear hS
   rintro _ w ⟨rfl,v2,hS⟩
   refine .nil (.exit (.region (.run 3 rfl ⟨⟨by omega,by omega⟩,trivial⟩ (.nil ?_))))
   have hh:X9f (s.drop i)=false:=X7b true hb45
   refine ⟨(out ++ [at_ s (i:Int)],ptr b5 0,v2,i+1),⟨rfl,rfl,rfl,rfl,trivial⟩,⟨by (try dsimp only); omega,by (try dsimp only); rw [Y2]; simp only [Y3,Ye]; omega,?_,.inr rfl,fun h=>absurd h (by simp),hS⟩,by (try dsimp only); omega⟩
   (try dsimp only)
   rw [← hout,Xan hh,show (s.drop i).take 1=[at_ s (i:Int)] by rw [Xi3 s (by omega)]; rfl,Yy,Y7]
  have hc45:=hb45; try simp only [Yf] at hc45
  refine .skip (.seq (.seq (.region (.run 7 rfl ⟨⟨_,Xw⟩,⟨by omega,by omega⟩,⟨by omega,by omega⟩,⟨⟨by omega,by omega⟩,Qu9⟩,trivial⟩ ?_))))
  refine WL.val (.subx (.of rfl) (.of rfl) (by rw [IntKind.wrap_u8]; omega)) rfl ?_
  refine WL.val (.cvi (.of rfl) Qu5 Qu3 (by rw [IntKind.wrap_i64]; omega)) rfl ?_
  refine .run 2 rfl ⟨⟨by omega,by omega⟩,trivial⟩ (.nil (.seq (.q 2 rfl ?_)))
  refine WC.cond rfl (fun hb61=>?_) (fun hb61=>?_)
  ·
   have hc61:=hb61; try simp only [Yf] at hc61
   obtain ⟨q,rfl,hq⟩:=hT.2 (by omega)
   obtain ⟨x,hx⟩:∃ x,told[((told.length:Int) - 1 - (((at_ s ((i:Int)+1)).toNat:Int) - 48)).toNat]?=some x:=⟨_,Yb (by omega)⟩
   have hqx:((told.map S).drop (((told.length:Int) - 1 - (((at_ s ((i:Int)+1)).toNat:Int) - 48)).toNat*1))[0]?=some (S x):=by rw [Yp,Y1x,Yt,Yk,hx]; rfl
   have hx60:=htx x (Yw hx)
   refine .t 2 rfl ?_
   first | refine WL.val (.indexAddr (.of rfl) (.of rfl) (by omega) (by omega) Xw Qs9) rfl ?_ | refine WL.val (.indexAddrI (.of rfl) (.of rfl) (by omega) (by omega) Xw Qs9) rfl ?_
   refine .val (.ldI (v:=S x) (.of rfl) hS (hq.add _) Qg9 hqx) rfl ?_
   by_cases hx0:x=[]
   ·
    subst hx0
    refine .call Xhh rfl (X1 (.of rfl) (X1 (.of rfl) X6)) rfl (X4h b5 p v out hp B w I _ hS) ?_
    clear hS
    rintro _ w ⟨rfl,hS⟩
    refine .nil (.region (.run 3 rfl ⟨⟨by omega,by omega⟩,trivial⟩ (.nil (.region (.run 3 rfl ⟨⟨by omega,by omega⟩,trivial⟩ (.nil ?_))))))
    have hh:X9f (s.drop i)=true:=X7b false hb45
    have e1:(s.drop i).getD 1 0=at_ s ((i:Int)+1):=by simp [at_,Y8,show ((i:Int)+1).toNat=i+1 by omega]
    have hbk:back told (s.drop i)=[]:=by
     unfold back
     rw [e1,if_pos (by omega),Y8,show told.length - ((at_ s ((i:Int)+1)).toNat - 47)=((told.length:Int) - 1 - (((at_ s ((i:Int)+1)).toNat:Int) - 48)).toNat by omega,hx]
     rfl
    refine ⟨(out,ptr b5 0,v,i+3),⟨rfl,rfl,rfl,rfl,trivial⟩,⟨by (try dsimp only); omega,by (try dsimp only); omega,?_,.inr rfl,hpv,hS⟩,by (try dsimp only); omega⟩
    (try dsimp only)
    rw [← hout,X3o hh,hbk,Yy,Y1e]
   refine .call Xhh rfl (X1 (.of rfl) (X1 (.of rfl) X6)) rfl (X1o b5 p v out x hp B w I _ hS (by omega)) ?_
   clear hS
   rintro _ w ⟨rfl,v2,hS⟩
   refine .nil (.region (.run 3 rfl ⟨⟨by omega,by omega⟩,trivial⟩ (.nil (.region (.run 3 rfl ⟨⟨by omega,by omega⟩,trivial⟩ (.nil ?_))))))
   have hh:X9f (s.drop i)=true:=X7b false hb45
   have e1:(s.drop i).getD 1 0=at_ s ((i:Int)+1):=by simp [at_,Y8,show ((i:Int)+1).toNat=i+1 by omega]
   have hbk:back told (s.drop i)=x:=by
    unfold back
    rw [e1,if_pos (by omega),Y8,show told.length - ((at_ s ((i:Int)+1)).toNat - 47)=((told.length:Int) - 1 - (((at_ s ((i:Int)+1)).toNat:Int) - 48)).toNat by omega,hx]
    rfl
   refine ⟨(out ++ x,ptr b5 0,v2,i+3),⟨rfl,rfl,rfl,rfl,trivial⟩,⟨by (try dsimp only); omega,by (try dsimp only); rw [Y2]; omega,?_,.inr rfl,fun h=>absurd (List.append_eq_nil_iff.1 h).2 hx0,hS⟩,by (try dsimp only); omega⟩
   (try dsimp only)
   rw [← hout,X3o hh,hbk,Yy,Y7]
  have hc61:=hb61; try simp only [Yf] at hc61
  refine .skip (.region (.run 3 rfl ⟨⟨by omega,by omega⟩,trivial⟩ (.nil (.region (.run 3 rfl ⟨⟨by omega,by omega⟩,trivial⟩ (.nil ?_))))))
  have hh:X9f (s.drop i)=true:=X7b false hb45
  have e1:(s.drop i).getD 1 0=at_ s ((i:Int)+1):=by simp [at_,Y8,show ((i:Int)+1).toNat=i+1 by omega]
  have hbk:back told (s.drop i)=[]:=by
   unfold back
   rw [e1,if_neg (by omega)]
  refine ⟨(out,p,v,i+3),⟨rfl,rfl,rfl,rfl,trivial⟩,⟨by (try dsimp only); omega,by (try dsimp only); omega,?_,hp,hpv,hS⟩,by (try dsimp only); omega⟩
  (try dsimp only)
  rw [← hout,X3o hh,hbk,Yy,Y1e]
 have hc11:=hb11; try simp only [Yf] at hc11
 refine .exit (.seq (.region (.call Qf15 rfl (X1 (.of rfl) X6) rfl (X6i b5 p v out hpv B w I _ hS) ?_)))
 clear hS
 rintro _ w ⟨rfl,hS⟩
 refine .q 1 rfl (.nil (.ret (X38 Tryz.results5 rfl ?_)))
 refine ⟨_,rfl,?_,hS⟩
 rw [show i=s.length by omega,Y1r] at hout
 rw [← hout]; exact congrArg S (Y1d _).symm
theorem X7c {s:List UInt8} {i:Nat} (b:Bool) (h:(decide ((i:Int)+3≤(s.length:Int)) && ((at_ s (i:Int)).toNat:Int) == 123 && ((at_ s ((i:Int)+2)).toNat:Int) == 125 && decide (48≤((at_ s ((i:Int)+1)).toNat:Int)) && decide (((at_ s ((i:Int)+1)).toNat:Int)≤57))=b):X9f (s.drop i)=b:=by
 have e0:(s.drop i).getD 0 0=at_ s (i:Int):=by simp [at_,Y8]
 have e1:(s.drop i).getD 1 0=at_ s ((i:Int)+1):=by simp [at_,Y8,show ((i:Int)+1).toNat=i+1 by omega]
 have e2:(s.drop i).getD 2 0=at_ s ((i:Int)+2):=by simp [at_,Y8,show ((i:Int)+2).toNat=i+2 by omega]
 subst h
 unfold X9f
 rw [e0,e1,e2,Y28]
 simp only [Y5,decide_eq_true_eq,beq_iff_eq,Y6,← Y2r]
 constructor
 ·intro h
  obtain ⟨⟨⟨h1,h2⟩,h3,h4⟩,h5⟩:=h
  have h2:(at_ s (i:Int)).toNat=123:=h2
  have h5:(at_ s ((i:Int)+2)).toNat=125:=h5
  exact ⟨⟨⟨⟨by omega,by omega⟩,by omega⟩,by omega⟩,by omega⟩
 ·intro h
  obtain ⟨⟨⟨⟨h1,h2⟩,h5⟩,h3⟩,h4⟩:=h
  refine ⟨⟨⟨by omega,?_⟩,by omega,by omega⟩,?_⟩
  ·show _=123; omega
  ·show _=125; omega
theorem X9s (s:List UInt8) (told:List (List UInt8)) (ta:Option Addr) (tc:Nat) (hs:s.length≤10000) (htl:told.length≤1000) (htx:∀ x∈told,x.length≤60) (B w:World) (I:Im) (hT:RS I ta 1 told.length (told.map S)) (As:List Xe) (hS:Sat B w I As) :
  Calls Tryz.prog 6 [S s,.slice ta told.length tc].toArray w (Ret fun v w'=>v=S (X4i told s)∧Sat B w' I As):=by
 refine calls Tryz.func6 rfl Tryz.ntmps6 rfl (.seq (.q 1 rfl (.seq (.q 1 rfl (.seq (.q 1 rfl (.seq (.block (.loop (σ:=List UInt8×Nat) (fun ⟨out,i⟩=>[(0,S s),(1,.slice ta told.length tc),(5,S out),(6,I64 (i:Nat))]) (fun ⟨out,i⟩ w=>i≤s.length∧out.length≤60*i∧out ++ X4i told (s.drop i)=X4i told s∧Sat B w I As) (fun ⟨out,i⟩=>s.length - i) ([],0) ⟨rfl,rfl,rfl,rfl,trivial⟩ ⟨Y14 _,Y14 _,rfl,hS⟩ ?_)))))))))
 rintro ⟨out,i⟩ w ⟨hi,hol,hout,hS⟩
 change WC _ _ _ _ [(0,S s),(1,.slice ta told.length tc),(5,S out),(6,I64 (i:Nat))] w
 refine .seq (.seq (.region (.run 4 rfl ⟨Qu9,trivial⟩ (.nil ?_))))
 refine WC.cond rfl (fun hb11=>?_) (fun hb11=>?_)
 ·
  have hc11:=hb11; try simp only [Yf] at hc11
  refine .skip (.block (.seq (.region (.run 6 rfl ⟨⟨by omega,by omega⟩,Qu9,trivial⟩ (.gval rfl rfl (fun hg1=>(.move (.of rfl))) rfl (.gval rfl rfl (fun hg1=>(.move (.of rfl))) rfl ?_))))))
  refine WL.gval rfl rfl (fun hg1=>(.index (.gd hg1 rfl) (.gd hg1 rfl) (by (try simp only [Yf] at hg1); omega) (by (try simp only [Yf] at hg1); omega) Qu9)) rfl ?_
  refine .gval rfl rfl (fun hg1=>(.eql (.gd hg1 rfl) (.of rfl))) rfl (.val (.pand (.of rfl) (.of rfl) (.of rfl)) rfl (.q 1 rfl (.gval rfl rfl (fun hg1=>(.move (.of rfl))) rfl (.gval rfl rfl (fun hg1=>(.move (.of rfl))) rfl (.gval rfl rfl (fun hg1=>(.add (.gd hg1 rfl) (.of rfl) ⟨by omega,by omega⟩)) rfl ?_)))))
  refine WL.gval rfl rfl (fun hg1=>(.index (.gd hg1 rfl) (.gd hg1 rfl) (by (try simp only [Yf] at hg1); omega) (by (try simp only [Yf] at hg1); omega) Qu9)) rfl ?_
  refine .gval rfl rfl (fun hg1=>(.eql (.gd hg1 rfl) (.of rfl))) rfl (.val (.pand (.of rfl) (.of rfl) (.of rfl)) rfl (.q 1 rfl (.gval rfl rfl (fun hg1=>(.move (.of rfl))) rfl (.gval rfl rfl (fun hg1=>(.move (.of rfl))) rfl (.gval rfl rfl (fun hg1=>(.add (.gd hg1 rfl) (.of rfl) ⟨by omega,by omega⟩)) rfl ?_)))))
  refine WL.gval rfl rfl (fun hg1=>(.index (.gd hg1 rfl) (.gd hg1 rfl) (by (try simp only [Yf] at hg1); omega) (by (try simp only [Yf] at hg1); omega) Qu9)) rfl ?_
  refine .gval rfl rfl (fun hg1=>(.geq (.gd hg1 rfl) (.of rfl))) rfl (.val (.pand (.of rfl) (.of rfl) (.of rfl)) rfl (.q 1 rfl (.gval rfl rfl (fun hg1=>(.move (.of rfl))) rfl (.gval rfl rfl (fun hg1=>(.move (.of rfl))) rfl (.gval rfl rfl (fun hg1=>(.add (.gd hg1 rfl) (.of rfl) ⟨by omega,by omega⟩)) rfl ?_)))))
  refine WL.gval rfl rfl (fun hg1=>(.index (.gd hg1 rfl) (.gd hg1 rfl) (by (try simp only [Yf] at hg1); omega) (by (try simp only [Yf] at hg1); omega) Qu9)) rfl ?_
  refine .gval rfl rfl (fun hg1=>(.leq (.gd hg1 rfl) (.of rfl))) rfl (.val (.pand (.of rfl) (.of rfl) (.of rfl)) rfl (.nil ?_))
  refine WC.cond rfl (fun hb43=>?_) (fun hb43=>?_)
  ·
   have hc43:=hb43; try simp only [Yf] at hc43
   refine .seq (.region (.run 4 rfl ⟨⟨by omega,by omega⟩,⟨⟨by omega,by omega⟩,Qu9⟩,trivial⟩ ?_))
   refine WL.val (.subx (.of rfl) (.of rfl) (by rw [IntKind.wrap_u8]; omega)) rfl ?_
   refine WL.val (.cvi (.of rfl) Qu5 Qu3 (by rw [IntKind.wrap_i64]; omega)) rfl ?_
   refine .run 2 rfl ⟨⟨by omega,by omega⟩,trivial⟩ (.nil (.seq (.seq (.region (.run 4 rfl ⟨⟨_,Xw⟩,trivial⟩ (.nil ?_))))))
   refine WC.cond rfl (fun hb54=>?_) (fun hb54=>?_)
   ·
    have hc54:=hb54; try simp only [Yf] at hc54
    obtain ⟨q,rfl,hq⟩:=hT.2 (by omega)
    obtain ⟨x,hx⟩:∃ x,told[((told.length:Int) - (((at_ s ((i:Int)+1)).toNat:Int) - 48+1)).toNat]?=some x:=⟨_,Yb (by omega)⟩
    have hqx:((told.map S).drop (((told.length:Int) - (((at_ s ((i:Int)+1)).toNat:Int) - 48+1)).toNat*1))[0]?=some (S x):=by rw [Yp,Y1x,Yt,Yk,hx]; rfl
    have hx60:=htx x (Yw hx)
    refine .region (.run 6 rfl ⟨⟨_,Xw⟩,⟨by omega,by omega⟩,trivial⟩ ?_)
    first | refine WL.val (.indexAddr (.of rfl) (.of rfl) (by omega) (by omega) Xw Qs9) rfl ?_ | refine WL.val (.indexAddrI (.of rfl) (.of rfl) (by omega) (by omega) Xw Qs9) rfl ?_
    refine .val (.ldI (v:=S x) (.of rfl) hS (hq.add _) Qg9 hqx) rfl ?_
    refine WL.run 2 rfl ⟨by (try simp only [Y2,Y3,Ye]); omega,trivial⟩ ?_
    refine .nil (.region (.run 3 rfl ⟨⟨by omega,by omega⟩,trivial⟩ (.nil ?_)))
    have hh:X9f (s.drop i)=true:=X7c true hb43
    have e1:(s.drop i).getD 1 0=at_ s ((i:Int)+1):=by simp [at_,Y8,show ((i:Int)+1).toNat=i+1 by omega]
    have hbk:back told (s.drop i)=x:=by
     unfold back
     rw [e1,if_pos (by omega),Y8,show told.length - ((at_ s ((i:Int)+1)).toNat - 47)=((told.length:Int) - (((at_ s ((i:Int)+1)).toNat:Int) - 48+1)).toNat by omega,hx]
     rfl
    refine ⟨(out ++ x,i+3),⟨rfl,rfl,rfl,rfl,trivial⟩,⟨by (try dsimp only); omega,by (try dsimp only); rw [Y2]; omega,?_,hS⟩,by (try dsimp only); omega⟩
    (try dsimp only)
    rw [← hout,X3o hh,hbk,Yy,Y7]
   have hc54:=hb54; try simp only [Yf] at hc54
   refine .skip (.region (.run 3 rfl ⟨⟨by omega,by omega⟩,trivial⟩ (.nil ?_)))
   have hh:X9f (s.drop i)=true:=X7c true hb43
   have e1:(s.drop i).getD 1 0=at_ s ((i:Int)+1):=by simp [at_,Y8,show ((i:Int)+1).toNat=i+1 by omega]
   have hbk:back told (s.drop i)=[]:=by
    unfold back
    rw [e1,if_neg (by omega)]
   refine ⟨(out,i+3),⟨rfl,rfl,rfl,rfl,trivial⟩,⟨by (try dsimp only); omega,by (try dsimp only); omega,?_,hS⟩,by (try dsimp only); omega⟩
   (try dsimp only)
   rw [← hout,X3o hh,hbk,Yy,Y1e]
  have hc43:=hb43; try simp only [Yf] at hc43
  refine .seq (.region (.run 5 rfl ⟨⟨by omega,by omega⟩,trivial⟩ (.val (.sub3 (.of rfl) (.of rfl) (.of rfl) (by omega) (by omega) (by omega) Qu9) rfl ?_)))
  have e9:List.take (((i:Int)+1).toNat - (i:Int).toNat) (List.drop (i:Int).toNat s)=(s.drop i).take 1:=by rw [show ((i:Int)+1).toNat - (i:Int).toNat=1 by omega]; rfl
  rw [e9]
  have l9:((s.drop i).take 1).length≤1:=by rw [Yi]; omega
  refine WL.run 2 rfl ⟨by (try simp only [Y2,Y3,Ye]); omega,trivial⟩ ?_
  refine .nil (.region (.run 3 rfl ⟨⟨by omega,by omega⟩,trivial⟩ (.nil ?_)))
  have hh:X9f (s.drop i)=false:=X7c false hb43
  refine ⟨(out ++ (s.drop i).take 1,i+1),⟨rfl,rfl,rfl,rfl,trivial⟩,⟨by (try dsimp only); omega,by (try dsimp only); rw [Y2,Yi]; omega,?_,hS⟩,by (try dsimp only); omega⟩
  (try dsimp only)
  rw [← hout,Xan hh,Yy,Y7]
 have hc11:=hb11; try simp only [Yf] at hc11
 refine .exit (.seq (.q 2 rfl (.ret (X38 Tryz.results6 rfl ?_))))
 refine ⟨_,rfl,?_,hS⟩
 rw [show i=s.length by omega,Y1r] at hout
 rw [← hout]; exact congrArg S (Y1d _).symm
def tC (s:List UInt8):List Value:=[S s]
theorem X6t (l:List (List UInt8)):X8r tC l=l.map S:=by
 induction l with
 | nil=>rfl
 | cons x l ih=>rw [Yl,← ih]; rfl
theorem Xbi (a:Option Addr) (c:Nat) (l:List (List UInt8)) (hll:l.length≤100000) (p:List UInt8) (B w:World) (I:Im) (As:List Xe) (hE:∀ w,Sat B w I As→Xho w tC 1 a l) (hS:Sat B w I As) :
  Calls Tryz.prog 17 [.slice a l.length c,S p].toArray w (Ret fun v w'=>v=I64 (X8f p l 0)∧Sat B w' I As):=by
 refine calls Qf17 rfl Tryz.ntmps17 rfl (.seq (.q 1 rfl (.seq (.seq (.region (.run 3 rfl ⟨⟨_,Xw⟩,trivial⟩ (.nil (.block (.loop (σ:=Nat) (fun i=>[(0,.slice a l.length c),(1,S p),(7,I64 (l.length:Nat)),(8,I64 (i:Nat))]) (fun i w=>i≤l.length∧(∀ (j:Nat) x,j<i→l[j]?=some x→p≠x)∧Sat B w I As) (fun i=>l.length - i) 0 ⟨rfl,rfl,rfl,rfl,trivial⟩ ⟨Y14 _,fun _ _ h=>absurd h (by omega),hS⟩ ?_)))))))))
 rintro i w ⟨hi,hno,hS⟩
 change WC _ _ _ _ [(0,.slice a l.length c),(1,S p),(7,I64 (l.length:Nat)),(8,I64 (i:Nat))] w
 refine .seq (.q 1 rfl (.seq ?_))
 refine WC.cond rfl (fun hb9=>?_) (fun hb9=>?_)
 ·
  have hc9:=hb9; try simp only [Yf] at hc9
  refine .skip (.seq (.block (.seq ?_)))
  obtain ⟨x,hx⟩:∃ x,l[i]?=some x:=⟨_,Yb (by omega)⟩
  obtain ⟨q,rfl,hqv⟩:=hE _ hS i x hx
  refine .q 2 rfl (.seq (.t 3 rfl ?_))
  first | refine WL.val (.indexAddr (.of rfl) (.of rfl) (by omega) (by omega) Xw Qs9) rfl ?_ | refine WL.val (.indexAddrI (.of rfl) (.of rfl) (by omega) (by omega) Xw Qs9) rfl ?_
  refine .val (.ld1 (v:=S x) (.of rfl) (hqv 0 _ rfl) Qg9) rfl (.q 1 rfl (.nil ?_))
  refine WC.cond rfl (fun hb16=>?_) (fun hb16=>?_)
  ·
   have hc16:=hb16; try simp only [Yf] at hc16
   refine .seq (.q 2 rfl (.ret (X38 Qr17 rfl ?_)))
   have e:p=x:=by simpa using hb16
   subst e
   exact ⟨_,rfl,by rw [Xau hno hx],hS⟩
  have hc16:=hb16; try simp only [Yf] at hc16
  refine .skip (.region (.run 2 rfl ⟨⟨by omega,by omega⟩,trivial⟩ (.nil ?_)))
  refine ⟨i+1,⟨rfl,rfl,rfl,rfl,trivial⟩,⟨by omega,fun j y hj hy=>?_,hS⟩,by omega⟩
  rcases Y1c j i with h1 | h1
  ·exact hno j y h1 hy
  ·have e:j=i:=by omega
   subst e
   rw [hx] at hy; cases hy
   simpa using hb16
 have hc9:=hb9; try simp only [Yf] at hc9
 refine .exit (.seq (.q 1 rfl (.ret (X38 Qr17 rfl ?_))))
 exact ⟨_,rfl,by rw [X8g (fun j x hx=>hno j x (by have:=(Y0.1 hx).1; omega) hx)],hS⟩
theorem Xgx (p:List UInt8):∀ (l:List (List UInt8)) (i:Nat),X8f p l i=if p∈l then ((l.idxOf p+i:Nat):Int) else -1
 | [],i=>by simp [X8f]
 | x::l,i=>by
  rw [X8f,Xgx p l (i+1)]
  by_cases h:p=x
  ·subst h; simp
  ·rw [if_neg h]
   by_cases h2:p∈l
   ·rw [if_pos h2,if_pos (Y16 _ h2),List.idxOf_cons,show (x == p)=false from beq_eq_false_iff_ne.2 (fun e=>h e.symm)]
    simp only [cond_false]
    congr 1; omega
   ·rw [if_neg h2,if_neg (by simp [h,h2])]
theorem Xbh (a:Option Addr) (c:Nat) (l:List (List UInt8)) (hll:l.length≤100000) (p:List UInt8) (B w:World) (I:Im) (As:List Xe) (hE:∀ w,Sat B w I As→Xho w tC 1 a l) (hS:Sat B w I As) :
  Calls Tryz.prog 17 [.slice a l.length c,S p].toArray w (Ret fun v w'=>v=I64 (if p∈l then ((l.idxOf p:Nat):Int) else -1)∧Sat B w' I As) :=
 (Xbi a c l hll p B w I As hE hS).mono fun e w' ⟨v,he,hv,hS⟩=>⟨v,he,by rw [hv,Xgx]; rfl,hS⟩
theorem Xa6 (s v u x:List UInt8) (hs:s.length≤100000) (hx:(X8 x).isSome) (e:s=v ++ (x ++ u)) (h:∀ j,j<v.length→X16 (s.drop j)=0) (B w:World) (I:Im) (hK:Known I) (As:List Xe) (hS:Sat B w I As) :
  Calls Tryz.prog 18 [S s,S x].toArray w (Ret fun r w'=>r=.tuple #[S v,S u,.bool true]∧Sat B w' I As):=by
 obtain ⟨m,hm⟩:=hK.max B w As hS
 have hi:=Xd0 hx e h
 refine (Tryz.strings_Cut ⟨s.toArray⟩ ⟨x.toArray⟩ m w (by show s.length<_; omega) hm).mono fun r w' he=>?_
 obtain ⟨rfl,k,rfl⟩:=he
 refine ⟨_,rfl,?_,X50 hS k⟩
 have hc:Go.Lib.cut s x=(v,u,true):=by
  unfold Go.Lib.cut
  rw [hi,if_pos (by omega),Yh,e,Y2w,← Yy,Y3i,Y3i]
 show Value.tuple #[.string ⟨(Go.Lib.cut s x).1.toArray⟩,.string ⟨(Go.Lib.cut s x).2.1.toArray⟩,.bool (Go.Lib.cut s x).2.2]=_
 rw [hc]
theorem Xe3 {x:List UInt8} (hx:(X8 x).isSome):X8o (((X8 x).getD (0,0)).1:Nat)=tag x:=by
 obtain ⟨⟨k,d⟩,hk⟩:=Y1t.1 hx
 obtain ⟨_,_,_,_,h1,h6⟩:=Sc.shape hk
 unfold X8o tag
 rw [hk]
 show (if ((k:Nat):Int)<1∨6<((k:Nat):Int) then [] else pre ((k:Nat):Int).toNat)=pre k
 rw [if_neg (by omega),Yh]
theorem Xej {x:List UInt8} (hx:(X8 x).isSome):(tag x).length≤6:=by
 obtain ⟨⟨k,d⟩,hk⟩:=Y1t.1 hx
 obtain ⟨_,_,_,_,h1,h6⟩:=Sc.shape hk
 unfold tag
 rw [hk]
 exact X9q h6
theorem X4r (x:List UInt8) (hx:(X8 x).isSome) (B w:World) (I:Im) (hP:PreAt I) (As:List Xe) (hS:Sat B w I As):Calls Tryz.prog 20 [I64 (((X8 x).getD (0,0)).1:Nat)].toArray w (Ret fun v w'=>v=S (tag x)∧Sat B w' I As) :=
 (Xbj (((X8 x).getD (0,0)).1:Nat) B w I hP As hS).mono fun e w' ⟨v,he,hv,hS⟩=>⟨v,he,by rw [hv,Xe3 hx],hS⟩
theorem Xex (l:List (List UInt8)) (la:Option Addr) (lc:Nat) (hll:l.length≤1000) (hlx:∀ x∈l,x.length≤300) (B w:World) (I:Im) (hK:Known I) (hP:PreAt I) (hT:RS I la 1 l.length (l.map S)) (As:List Xe) (hS:Sat B w I As) :
  Calls Tryz.prog 8 [.slice la l.length lc].toArray w (Ret fun v w'=>Sat B w' I (Vec 9 1 v (X2m [] l).length ((X2m [] l).map S)::As)):=by
 refine calls Tryz.func8 rfl Tryz.ntmps8 rfl (.seq (.q 1 rfl (.seq (.q 2 rfl (.seq (.seq (.region (.run 3 rfl ⟨⟨_,Xw⟩,trivial⟩ (.nil (.block ?_))))))))))
 replace hS:=(hS.vecNil 9 1).vecNil 9 1
 refine .loop (σ:=List (List UInt8)×Value×Value×List (List UInt8)×Nat) (fun ⟨seen0,sv0,ov,outs,i⟩=>[(3,sv0),(4,ov),(17,.slice la l.length lc),(18,I64 (l.length:Nat)),(19,I64 (i:Nat))]) (fun ⟨seen0,sv0,ov,outs,i⟩ w=>i≤l.length∧outs ++ X2m seen0 (l.drop i)=X2m [] l∧outs.length=i∧seen0.length≤16*i∧Sat B w I (Vec 9 1 sv0 seen0.length (seen0.map S)::Vec 9 1 ov outs.length (outs.map S)::As)) (fun ⟨seen0,sv0,ov,outs,i⟩=>l.length - i) ([],.slice none 0 0,.slice none 0 0,[],0) ⟨rfl,rfl,rfl,rfl,rfl,trivial⟩ ⟨Y14 _,rfl,rfl,Y14 _,hS⟩ ?_
 rintro ⟨seen0,sv0,ov,outs,i⟩ w ⟨hi,hout,hol,hsl0,hS⟩
 change WC _ _ _ _ [(3,sv0),(4,ov),(17,.slice la l.length lc),(18,I64 (l.length:Nat)),(19,I64 (i:Nat))] w
 refine .seq (.q 1 rfl (.seq ?_))
 refine WC.cond rfl (fun hb20=>?_) (fun hb20=>?_)
 ·
  have hc20:=hb20; try simp only [Yf] at hc20
  refine .skip (.seq (.block (.seq ?_)))
  obtain ⟨q,rfl,hq⟩:=hT.2 (by omega)
  obtain ⟨s0,hs0⟩:∃ s0,l[i]?=some s0:=⟨_,Yb (by omega)⟩
  have hqx:((l.map S).drop ((i:Int).toNat*1))[0]?=some (S s0):=by rw [Yp,Yh,Y1x,Yt,Yk,hs0]; rfl
  have hs300:=hlx s0 (Yw hs0)
  have hls:l.drop i=s0::l.drop (i+1):=by rw [Yz (by omega),(Y0.1 hs0).2]
  have hfc0:=X1m _ s0 (Yd _)
  refine .region ?_
  first | refine WL.val (.indexAddr (.of rfl) (.of rfl) (by omega) (by omega) Xw Qs9) rfl ?_ | refine WL.val (.indexAddrI (.of rfl) (.of rfl) (by omega) (by omega) Xw Qs9) rfl ?_
  refine .val (.ldI (v:=S s0) (.of rfl) hS (hq.add _) Qg9 hqx) rfl (.q 1 rfl (.nil (.seq (.region (.allocA (cs:=[_,_]) hS Tryz.zeroValue50 rfl ?_)))))
  clear hS; intro b7 w hS
  refine .nil (.seq (.seq (.t 1 rfl (.call Qf16 rfl (X1 (.of rfl) X6) rfl (Xa7 s0 (by omega) B _ I hK hP _ hS) ?_))))
  clear hS
  rintro v24 w hS
  obtain ⟨fa,fc,rfl,hfc,_⟩:=hS.vecSlice (k:=0) rfl
  refine .run 2 rfl ⟨⟨_,Xw⟩,trivial⟩ (.nil (.block ?_))
  replace hS:=(hS.vecNil 5 1).pick 2 rfl
  try dsimp only [List.eraseIdx] at hS
  refine .loop (σ:=List UInt8×List (List UInt8)×Value×Value×Value×List UInt8×Nat) (fun ⟨u,seen,sv,p,v,buf,j⟩=>[(3,sv),(4,ov),(6,S u),(7,ptr b7 0),(17,.slice (some q) l.length lc),(18,I64 (l.length:Nat)),(19,I64 (i:Nat)),(24,.slice fa (Xk s0).length fc),(25,I64 ((Xk s0).length:Nat)),(26,I64 (j:Nat))]) (fun ⟨u,seen,sv,p,v,buf,j⟩ w=>j≤(Xk s0).length∧Xk u=(Xk s0).drop j∧u.length≤300∧(X11 seen u).1=(X11 seen0 s0).1∧buf ++ (X11 seen u).2=(X11 seen0 s0).2∧seen.length≤16*i+j∧buf.length≤400*j∧(p=.pointer none∨p=ptr b7 0)∧(buf=[]→v=.slice none 0 0)∧Sat B w I (blk b7 [p,v] 50::Vec 5 1 v buf.length (bcs buf)::Vec 9 1 (.slice fa (Xk s0).length fc) (Xk s0).length ((Xk s0).map S)::Vec 9 1 sv seen.length (seen.map S)::Vec 9 1 ov outs.length (outs.map S)::As)) (fun ⟨u,seen,sv,p,v,buf,j⟩=>(Xk s0).length - j) (s0,seen0,sv0,.pointer none,.slice none 0 0,[],0) ⟨rfl,rfl,rfl,rfl,rfl,rfl,rfl,rfl,rfl,rfl,trivial⟩ ⟨Y14 _,rfl,by omega,rfl,rfl,by omega,Y14 _,.inl rfl,fun _=>rfl,hS⟩ ?_
  rintro ⟨u,seen,sv,p,v,buf,j⟩ w ⟨hj,hfu,hul0,hm1,hm2,hsl,hbl,hp,hpv,hS⟩
  change WC _ _ _ _ [(3,sv),(4,ov),(6,S u),(7,ptr b7 0),(17,.slice (some q) l.length lc),(18,I64 (l.length:Nat)),(19,I64 (i:Nat)),(24,.slice fa (Xk s0).length fc),(25,I64 ((Xk s0).length:Nat)),(26,I64 (j:Nat))] w
  refine .seq (.q 1 rfl (.seq ?_))
  refine WC.cond rfl (fun hb27=>?_) (fun hb27=>?_)
  ·
   have hc27:=hb27; try simp only [Yf] at hc27
   refine .skip (.seq (.block (.seq ?_)))
   obtain ⟨x,hx⟩:∃ x,(Xk s0)[j]?=some x:=⟨_,Yb (by omega)⟩
   obtain ⟨q2,hq2,hqv⟩:=X4o (cells:=tC) (s:=1) (fun _=>rfl) hS (k:=2) (by rw [X6t]; rfl) j x hx
   subst hq2
   have hxn:=X22 _ s0 (Yd _) x (Yw hx)
   have hxl:=X8i hxn
   rw [show (Xk s0).drop j=x::(Xk s0).drop (j+1) by rw [Yz (by omega),(Y0.1 hx).2]] at hfu
   obtain ⟨v1,u1,hu,hfu,hno,hmk⟩:=X41 _ seen u x _ (Yd _) hfu
   have hul:=congrArg List.length hu
   rw [Y2,Y2] at hul
   have htl:=Xej hxn
   obtain ⟨sa,sc,rfl,hsc,_⟩:=hS.vecSlice (k:=3) rfl
   refine .region ?_
   first | refine WL.val (.indexAddr (.of rfl) (.of rfl) (by omega) (by omega) Xw Qs9) rfl ?_ | refine WL.val (.indexAddrI (.of rfl) (.of rfl) (by omega) (by omega) Xw Qs9) rfl ?_
   refine .val (.ld1 (v:=S x) (.of rfl) (hqv 0 _ rfl) Qg9) rfl (.q 1 rfl (.nil (.seq (.t 2 rfl ?_))))
   refine WL.call Qf17 rfl (X1 (.of rfl) (X1 (.of rfl) X6)) rfl (Xbh sa sc seen (by omega) x B _ I _ (fun w h=>X4o (cells:=tC) (s:=1) (fun _=>rfl) h (k:=3) (by rw [X6t]; rfl)) hS) ?_
   clear hS
   rintro _ w ⟨rfl,hS⟩
   refine .q 1 rfl (.nil (.seq (.seq (.region ?_))))
   by_cases hxs:x∈seen
   ·
    rw [if_pos hxs]
    refine .val (.move (.of rfl)) rfl (.q 1 rfl (.nil ?_))
    refine WC.condF (by show some (Value.bool (decide (((List.idxOf x seen:Nat):Int)<0)))=_; rw [decide_eq_false (by omega)]) ?_
    refine .skip (.seq (.t 2 rfl (.call Qf18 rfl (X1 (.of rfl) (X1 (.of rfl) X6)) rfl (Xa6 u v1 u1 x (by omega) hxn hu hno B _ I hK _ hS) ?_)))
    clear hS
    rintro _ w ⟨rfl,hS⟩
    refine .q 7 rfl (.nil (.seq (.t 1 rfl (.call Qf19 rfl (X1 (.of rfl) X6) rfl (X94 x (by omega) B _ I hK hP _ hS) ?_))))
    clear hS
    rintro _ w ⟨rfl,hS⟩
    refine .q 7 rfl (.nil (.seq (.t 2 rfl (.call Qf20 rfl (X1 (.of rfl) X6) rfl (X4r x hxn B _ I hP _ hS) ?_))))
    clear hS
    rintro _ w ⟨rfl,hS⟩
    refine WL.run 3 rfl ⟨by (try simp only [Y2,Y3,Ye]); omega,by (try simp only [Y2,Y3,Ye]); omega,trivial⟩ ?_
    refine WL.call Qf21 rfl (X1 (.of rfl) X6) rfl (Xa9 (seen.idxOf x) (by have:=Y2b hxs; omega) B _ I hK _ hS) ?_
    clear hS
    rintro _ w ⟨rfl,hS⟩
    have hdl:=Y1z (Y3r (Go.Lib.decDigits_length (seen.idxOf x))) (Go.Lib.nDigits_le20 _ (by have:=Y2b hxs; omega))
    refine WL.run 1 rfl ⟨by (try simp only [Y2,Y3,Ye]); omega,trivial⟩ ?_
    refine WL.call Xhh rfl (X1 (.of rfl) (X1 (.of rfl) X6)) rfl (X1o b7 p v buf _ hp B _ I _ ((hS.pick 1 rfl).pick 1 rfl) (by simp only [Y2,Y3,Ye]; omega)) ?_
    clear hS
    rintro _ w ⟨rfl,v2,hS⟩
    try dsimp only [List.eraseIdx] at hS
    refine .nil (.q 2 rfl (.region (.run 2 rfl ⟨⟨by omega,by omega⟩,trivial⟩ (.nil ?_))))
    have hgr:grow seen x=seen:=by unfold grow; rw [if_pos hxs]
    have hsg:Xbz seen x=tag x ++ 35::Go.Lib.decDigits (seen.idxOf x):=by unfold Xbz; rfl
    rw [hgr,hsg] at hmk
    refine ⟨(u1,seen,.slice sa seen.length sc,ptr b7 0,v2,buf ++ (((v1 ++ tag x) ++ [35]) ++ Go.Lib.decDigits (seen.idxOf x)),j+1),⟨rfl,rfl,rfl,rfl,rfl,rfl,rfl,rfl,rfl,rfl,trivial⟩,⟨by (try dsimp only); omega,?_,?_,?_,?_,?_,?_,.inr rfl,?_,?_⟩,by (try dsimp only); omega⟩
    ·exact hfu
    ·(try dsimp only); omega
    ·(try dsimp only); rw [← hm1,hmk]
    ·(try dsimp only); rw [← hm2,hmk]; simp [Y7]
    ·(try dsimp only); (try rw [Y2]); (try simp only [Y3,Ye]); omega
    ·(try dsimp only); simp only [Y2,Y3,Ye]; omega
    ·intro h; simp at h
    ·(try dsimp only); 
     exact (((((hS.pick 4 rfl).pick 4 rfl).pick 4 rfl).pick 4 rfl).pick 4 rfl)
   rw [if_neg hxs]
   refine .val (.move (.of rfl)) rfl (.q 1 rfl (.nil (.condT (rfl) (.seq (.region (.run 3 rfl ⟨⟨_,Xw⟩,trivial⟩ (.nil (.t 2 rfl (.buildSlice (cs:=[_]) hS (X10 (.of rfl) X18) Xw Qs9 Qz9 rfl rfl rfl rfl ?_)))))))))
   clear hS; intro b39 w hS
   first | refine WL.append (size:=1) (bytes:=16) hS (.of rfl) (.of rfl) (k:=0) rfl Xw Xn rfl rfl rfl rfl rfl rfl rfl ⟨by omega,by unfold maxLen; omega⟩ rfl ?_ | refine WL.append (size:=1) (bytes:=16) hS (.of rfl) (.of rfl) (k:=1) rfl Xw Xn rfl rfl rfl rfl rfl rfl rfl ⟨by omega,by unfold maxLen; omega⟩ rfl ?_ | refine WL.append (size:=1) (bytes:=16) hS (.of rfl) (.of rfl) (k:=2) rfl Xw Xn rfl rfl rfl rfl rfl rfl rfl ⟨by omega,by unfold maxLen; omega⟩ rfl ?_ | refine WL.append (size:=1) (bytes:=16) hS (.of rfl) (.of rfl) (k:=3) rfl Xw Xn rfl rfl rfl rfl rfl rfl rfl ⟨by omega,by unfold maxLen; omega⟩ rfl ?_ | refine WL.append (size:=1) (bytes:=16) hS (.of rfl) (.of rfl) (k:=4) rfl Xw Xn rfl rfl rfl rfl rfl rfl rfl ⟨by omega,by unfold maxLen; omega⟩ rfl ?_
   clear hS; intro v40 w hS; try dsimp only [List.set] at hS
   first | obtain ⟨a40,c40,rfl,hcap40,_⟩:=hS.vecSlice (k:=0) (v:=v40) rfl | obtain ⟨a40,c40,rfl,hcap40,_⟩:=hS.vecSlice (k:=1) (v:=v40) rfl | obtain ⟨a40,c40,rfl,hcap40,_⟩:=hS.vecSlice (k:=2) (v:=v40) rfl | obtain ⟨a40,c40,rfl,hcap40,_⟩:=hS.vecSlice (k:=3) (v:=v40) rfl | obtain ⟨a40,c40,rfl,hcap40,_⟩:=hS.vecSlice (k:=4) (v:=v40) rfl
   refine .q 1 rfl (.nil (.seq (.t 2 rfl (.call Qf18 rfl (X1 (.of rfl) (X1 (.of rfl) X6)) rfl (Xa6 u v1 u1 x (by omega) hxn hu hno B _ I hK _ hS) ?_))))
   clear hS
   rintro _ w ⟨rfl,hS⟩
   refine .q 7 rfl (.nil (.seq (.t 1 rfl (.call Qf19 rfl (X1 (.of rfl) X6) rfl (X94 x (by omega) B _ I hK hP _ hS) ?_))))
   clear hS
   rintro _ w ⟨rfl,hS⟩
   refine .q 7 rfl (.nil (.seq (.t 2 rfl (.call Qf20 rfl (X1 (.of rfl) X6) rfl (X4r x hxn B _ I hP _ hS) ?_))))
   clear hS
   rintro _ w ⟨rfl,hS⟩
   refine WL.run 3 rfl ⟨by (try simp only [Y2,Y3,Ye]); omega,by (try simp only [Y2,Y3,Ye]); omega,trivial⟩ ?_
   refine .call Qf21 rfl (X1 (.of rfl) X6) rfl (Xa9 seen.length (by omega) B _ I hK _ hS) ?_
   clear hS
   rintro _ w ⟨rfl,hS⟩
   have hdl:=Y1z (Y3r (Go.Lib.decDigits_length seen.length)) (Go.Lib.nDigits_le20 _ (by omega))
   refine WL.run 1 rfl ⟨by (try simp only [Y2,Y3,Ye]); omega,trivial⟩ ?_
   refine WL.call Xhh rfl (X1 (.of rfl) (X1 (.of rfl) X6)) rfl (X1o b7 p v buf _ hp B _ I _ ((hS.pick 1 rfl).pick 1 rfl) (by simp only [Y2,Y3,Ye]; omega)) ?_
   clear hS
   rintro _ w ⟨rfl,v2,hS⟩
   try dsimp only [List.eraseIdx] at hS
   refine .nil (.q 2 rfl (.region (.run 2 rfl ⟨⟨by omega,by omega⟩,trivial⟩ (.nil ?_))))
   have hgr:grow seen x=seen ++ [x]:=by unfold grow; rw [if_neg hxs]
   have hsg:Xbz seen x=tag x ++ 35::Go.Lib.decDigits (seen.length):=by unfold Xbz; rw [List.idxOf_eq_length hxs]
   rw [hgr,hsg] at hmk
   refine ⟨(u1,seen ++ [x],.slice a40 (seen.length+1) c40,ptr b7 0,v2,buf ++ (((v1 ++ tag x) ++ [35]) ++ Go.Lib.decDigits (seen.length)),j+1),⟨rfl,rfl,rfl,rfl,rfl,rfl,rfl,rfl,rfl,rfl,trivial⟩,⟨by (try dsimp only); omega,?_,?_,?_,?_,?_,?_,.inr rfl,?_,?_⟩,by (try dsimp only); omega⟩
   ·exact hfu
   ·(try dsimp only); omega
   ·(try dsimp only); rw [← hm1,hmk]
   ·(try dsimp only); rw [← hm2,hmk]; simp [Y7]
   ·(try dsimp only); (try rw [Y2]); (try simp only [Y3,Ye]); omega
   ·(try dsimp only); simp only [Y2,Y3,Ye]; omega
   ·intro h; simp at h
   ·(try dsimp only); rw [Y18,show (seen ++ [x]).length=seen.length+1 by simp]
    exact (((((hS.pick 4 rfl).pick 4 rfl).pick 4 rfl).pick 4 rfl).pick 4 rfl)
  have hc27:=hb27; try simp only [Yf] at hc27
  refine .exit (.t 1 rfl (.call Qf15 rfl (X1 (.of rfl) X6) rfl (X6i b7 p v buf hpv B _ I _ ((hS.pick 1 rfl).pick 1 rfl)) ?_))
  clear hS
  rintro _ w ⟨rfl,hS⟩
  try dsimp only [List.eraseIdx] at hS
  refine WL.run 2 rfl ⟨by (try simp only [Y2,Y3,Ye]); omega,trivial⟩ ?_
  refine .buildSlice (cs:=[_]) hS (X10 (.of rfl) X18) Xw Qs9 Qz9 rfl rfl rfl rfl ?_
  clear hS; intro b69 w hS
  first | refine WL.append (size:=1) (bytes:=16) hS (.of rfl) (.of rfl) (k:=0) rfl Xw Xn rfl rfl rfl rfl rfl rfl rfl ⟨by omega,by unfold maxLen; omega⟩ rfl ?_ | refine WL.append (size:=1) (bytes:=16) hS (.of rfl) (.of rfl) (k:=1) rfl Xw Xn rfl rfl rfl rfl rfl rfl rfl ⟨by omega,by unfold maxLen; omega⟩ rfl ?_ | refine WL.append (size:=1) (bytes:=16) hS (.of rfl) (.of rfl) (k:=2) rfl Xw Xn rfl rfl rfl rfl rfl rfl rfl ⟨by omega,by unfold maxLen; omega⟩ rfl ?_
  clear hS; intro v70 w hS; try dsimp only [List.set] at hS
  first | obtain ⟨a70,c70,rfl,hcap70,_⟩:=hS.vecSlice (k:=0) (v:=v70) rfl | obtain ⟨a70,c70,rfl,hcap70,_⟩:=hS.vecSlice (k:=1) (v:=v70) rfl | obtain ⟨a70,c70,rfl,hcap70,_⟩:=hS.vecSlice (k:=2) (v:=v70) rfl
  refine .q 1 rfl (.nil (.region (.run 2 rfl ⟨⟨by omega,by omega⟩,trivial⟩ (.nil ?_))))
  rw [show j=(Xk s0).length by omega,Y1r] at hfu
  have hn:=X5n _ seen u (Yd _) hfu
  rw [hn] at hm1 hm2
  refine ⟨(seen,sv,.slice a70 (outs.length+1) c70,outs ++ [buf ++ u],i+1),⟨rfl,rfl,rfl,rfl,rfl,trivial⟩,⟨by (try dsimp only); omega,?_,?_,?_,?_⟩,by (try dsimp only); omega⟩
  ·(try dsimp only); rw [Y7,← hout,hls]
   show outs ++ ([buf ++ u] ++ _)=outs ++ ((X11 seen0 s0).2::X2m (X11 seen0 s0).1 (l.drop (i+1)))
   rw [← hm1,← hm2]; rfl
  ·(try dsimp only); rw [Y2]; simp only [Y3,Ye]; omega
  ·(try dsimp only); omega
  ·(try dsimp only); rw [Y2,Y18]
   exact (((hS.pick 2 rfl).pick 2 rfl)).drop (k:=2) rfl
 have hc20:=hb20; try simp only [Yf] at hc20
 refine .exit (.seq (.q 2 rfl (.ret (X38 Tryz.results8 rfl ?_))))
 rw [show i=l.length by omega,Y1r] at hout
 rw [show X2m seen0 []=[] by cases seen0 <;> rfl,Y1d] at hout
 rw [← hout]
 exact ⟨_,rfl,hS.drop (k:=0) rfl⟩
theorem X2a {B w:World} {I:Im} {As:List Xe} {k cap:Nat} {q:Addr} {l:List (List UInt8)} (hS:Sat B w I As) (hk:As[k]?=some (Vec 9 1 (.slice (some q) l.length cap) l.length (l.map S))) {i:Nat} {x:List UInt8} (hx:l[i]?=some x):w.cell? (q.add (i*1))=some (S x):=by
 obtain ⟨q2,e,h⟩:=X4o (cells:=tC) (s:=1) (fun _=>rfl) hS (k:=k) (by rw [X6t]; exact hk) i x hx
 cases e
 exact h 0 _ rfl
theorem Xgn {B w:World} {I:Im} {As:List Xe} {k cap n:Nat} {sa:Option Addr} {xs:List Value} (hS:Sat B w I As) (hk:As[k]?=some (Vec 9 1 (.slice sa n cap) n xs)):∃ q3,0<n→sa=some q3:=by
 rcases Y3d n with h | h
 ·exact ⟨⟨0,0,none⟩,fun h2=>absurd h2 (by omega)⟩
 ·obtain ⟨b,c,r,hv,_⟩:=hS.vecOpen hk h
  injection hv with e
  exact ⟨_,fun _=>e⟩
theorem Xcs {B w:World} {I:Im} {As:List Xe} {k cap:Nat} {q:Addr} {sa:Option Addr} {l:List (List UInt8)} (hS:Sat B w I As) (hk:As[k]?=some (Vec 9 1 (.slice sa l.length cap) l.length (l.map S))) (hq:sa=some q) {i:Nat} {x:List UInt8} (hx:l[i]?=some x):w.cell? (q.add (i*1))=some (S x):=by
 subst hq; exact X2a hS hk hx
theorem Ex.ixV {n:Nat} {L:Env} {w:World} {d:Option Nat} {ty t e:TypeId} {pos:String} {af:Array Edge} {gg:Option (Nat×Bool)} {x y:Operand} {sa:Option Addr} {q3:Addr} {m c:Nat} {k:Int} (hx:Ev n L x (.slice sa m c)) (hy:Ev n L y (I64 k)) (h0:0≤k) (h1:k<m) (hq:sa=some q3) (hu:Tryz.prog.underlying t=some (.slice e)) (hs:∀ w,(Go.sizeOf e).run Tryz.prog w=.ok 1 w) :
  Ex Tryz.prog n L w ⟨d,.indexAddr t x y,ty,pos,af,gg⟩ (.pointer (some (q3.add (k.toNat*1)))) w:=by
 subst hq; exact .indexAddrI hx hy h0 h1 hu hs
theorem X7a {l:List (List UInt8)} {k:Nat} (h:k<l.length):l[k]?=some (l.getD k []):=by
 rw [Y8,Yb h]; rfl
theorem X37 (x:List UInt8) (hx:(X8 x).isSome) (B w:World) (I:Im) (As:List Xe) (hS:Sat B w I As):Calls Tryz.prog 23 [I64 (((X8 x).getD (0,0)).1:Nat)].toArray w (Ret fun v w'=>v=S (tag x)∧Sat B w' I As) :=
 (X3r (((X8 x).getD (0,0)).1:Nat) B w I As hS).mono fun e w' ⟨v,he,hv,hS⟩=>⟨v,he,by rw [hv,Xe3 hx],hS⟩
theorem X9t (l:List (List UInt8)) (la:Option Addr) (lc:Nat) (hll:l.length≤100) (hlx:∀ x∈l,x.length≤300) (B w:World) (I:Im) (hT:RS I la 1 l.length (l.map S)) (As:List Xe) (hS:Sat B w I As) :
  Calls Tryz.prog 9 [.slice la l.length lc].toArray w (Ret fun v w'=>Sat B w' I (Vec 9 1 v (X2m [] l).length ((X2m [] l).map S)::As)):=by
 refine calls Tryz.func9 rfl Tryz.ntmps9 rfl (.seq (.q 1 rfl (.seq (.q 1 rfl (.seq (.q 1 rfl (.seq (.seq (.q 1 rfl (.block ?_))))))))))
 replace hS:=(hS.vecNil 9 1).vecNil 9 1
 refine .loop (σ:=List (List UInt8)×Value×Value×List (List UInt8)×Nat) (fun ⟨seen0,sv0,ov,outs,i⟩=>[(0,.slice la l.length lc),(3,sv0),(4,ov),(5,I64 (i:Nat))]) (fun ⟨seen0,sv0,ov,outs,i⟩ w=>i≤l.length∧outs ++ X2m seen0 (l.drop i)=X2m [] l∧outs.length=i∧seen0.length≤301*i∧Sat B w I (Vec 9 1 sv0 seen0.length (seen0.map S)::Vec 9 1 ov outs.length (outs.map S)::As)) (fun ⟨seen0,sv0,ov,outs,i⟩=>l.length - i) ([],.slice none 0 0,.slice none 0 0,[],0) ⟨rfl,rfl,rfl,rfl,trivial⟩ ⟨Y14 _,rfl,rfl,Y14 _,hS⟩ ?_
 rintro ⟨seen0,sv0,ov,outs,i⟩ w ⟨hi,hout,hol,hsl0,hS⟩
 change WC _ _ _ _ [(0,.slice la l.length lc),(3,sv0),(4,ov),(5,I64 (i:Nat))] w
 refine .seq (.seq (.region (.run 4 rfl ⟨⟨_,Xw⟩,trivial⟩ (.nil ?_))))
 refine WC.cond rfl (fun hb18=>?_) (fun hb18=>?_)
 ·
  have hc18:=hb18; try simp only [Yf] at hc18
  refine .skip (.seq (.block (.seq ?_)))
  obtain ⟨q,rfl,hq⟩:=hT.2 (by omega)
  obtain ⟨s0,hs0⟩:∃ s0,l[i]?=some s0:=⟨_,Yb (by omega)⟩
  have hqx:((l.map S).drop ((i:Int).toNat*1))[0]?=some (S s0):=by rw [Yp,Yh,Y1x,Yt,Yk,hs0]; rfl
  have hs300:=hlx s0 (Yw hs0)
  have hls:l.drop i=s0::l.drop (i+1):=by rw [Yz (by omega),(Y0.1 hs0).2]
  refine .t 2 rfl ?_
  first | refine WL.val (.indexAddr (.of rfl) (.of rfl) (by omega) (by omega) Xw Qs9) rfl ?_ | refine WL.val (.indexAddrI (.of rfl) (.of rfl) (by omega) (by omega) Xw Qs9) rfl ?_
  refine .val (.ldI (v:=S s0) (.of rfl) hS (hq.add _) Qg9 hqx) rfl (.q 1 rfl (.nil (.seq (.q 1 rfl (.seq (.q 1 rfl (.seq (.block (.loop (σ:=List (List UInt8)×Value×List UInt8×Nat) (fun ⟨seen,sv,t,a⟩=>[(0,.slice (some q) l.length lc),(3,sv),(4,ov),(5,I64 (i:Nat)),(6,S s0),(7,S t),(8,I64 (a:Nat))]) (fun ⟨seen,sv,t,a⟩ w=>a≤s0.length∧(X11 seen (s0.drop a)).1=(X11 seen0 s0).1∧t ++ (X11 seen (s0.drop a)).2=(X11 seen0 s0).2∧seen.length≤301*i+a∧t.length≤40*a∧Sat B w I (Vec 9 1 sv seen.length (seen.map S)::Vec 9 1 ov outs.length (outs.map S)::As)) (fun ⟨seen,sv,t,a⟩=>s0.length - a) (seen0,sv0,[],0) ⟨rfl,rfl,rfl,rfl,rfl,rfl,rfl,trivial⟩ ⟨Y14 _,rfl,rfl,by omega,Y14 _,hS⟩ ?_)))))))))
  rintro ⟨seen,sv,t,a⟩ w ⟨ha,hm1,hm2,hsl,htb,hS⟩
  change WC _ _ _ _ [(0,.slice (some q) l.length lc),(3,sv),(4,ov),(5,I64 (i:Nat)),(6,S s0),(7,S t),(8,I64 (a:Nat))] w
  refine .seq (.seq (.region (.run 4 rfl ⟨Qu9,trivial⟩ (.nil ?_))))
  refine WC.cond rfl (fun hb28=>?_) (fun hb28=>?_)
  ·
   have hc28:=hb28; try simp only [Yf] at hc28
   refine .skip (.block (.seq ?_))
   have hda:(s0.drop a).length=s0.length - a:=Y6
   refine .t 2 rfl (.val (.subFrom (.of rfl) (.of rfl) (by omega) (by omega) Qu9) rfl (.call Tryz.func12 rfl (X1 (.of rfl) X6) rfl (X5v (s0.drop a) (by omega) B _ I _ hS) ?_))
   clear hS
   rintro v32 w hS
   obtain ⟨fa,fc,rfl,hfc,_⟩:=hS.vecSlice (k:=0) rfl
   refine .q 1 rfl (.nil (.seq (.seq (.region (.run 3 rfl ⟨⟨_,Xw⟩,trivial⟩ (.nil ?_))))))
   refine WC.cond rfl (fun hb35=>?_) (fun hb35=>?_)
   ·
    have hc35:=hb35; try simp only [Yf] at hc35
    refine .seq ?_
    have hF:Xk (s0.drop a)=[]:=Yc (by omega)
    refine .t 3 rfl (.val (.subFrom (.of rfl) (.of rfl) (by omega) (by omega) Qu9) rfl ?_)
    have l9:(List.drop (a:Int).toNat s0).length≤300:=by rw [Y6]; omega
    refine WL.run 2 rfl ⟨by (try simp only [Y2,Y3,Ye]); omega,trivial⟩ ?_
    refine .nil (.exit (.t 2 rfl (.buildSlice (cs:=[_]) hS (X10 (.of rfl) X18) Xw Qs9 Qz9 rfl rfl rfl rfl ?_)))
    clear hS; intro b111 w hS
    first | refine WL.append (size:=1) (bytes:=16) hS (.of rfl) (.of rfl) (k:=0) rfl Xw Xn rfl rfl rfl rfl rfl rfl rfl ⟨by omega,by unfold maxLen; omega⟩ rfl ?_ | refine WL.append (size:=1) (bytes:=16) hS (.of rfl) (.of rfl) (k:=1) rfl Xw Xn rfl rfl rfl rfl rfl rfl rfl ⟨by omega,by unfold maxLen; omega⟩ rfl ?_ | refine WL.append (size:=1) (bytes:=16) hS (.of rfl) (.of rfl) (k:=2) rfl Xw Xn rfl rfl rfl rfl rfl rfl rfl ⟨by omega,by unfold maxLen; omega⟩ rfl ?_
    clear hS; intro v112 w hS; try dsimp only [List.set] at hS
    first | obtain ⟨a112,Xf7,rfl,hcap112,_⟩:=hS.vecSlice (k:=0) (v:=v112) rfl | obtain ⟨a112,Xf7,rfl,hcap112,_⟩:=hS.vecSlice (k:=1) (v:=v112) rfl | obtain ⟨a112,Xf7,rfl,hcap112,_⟩:=hS.vecSlice (k:=2) (v:=v112) rfl
    refine .q 1 rfl (.nil (.region (.run 3 rfl ⟨⟨by omega,by omega⟩,trivial⟩ (.nil ?_))))
    have hn:=X5n _ seen (s0.drop a) (Yd _) hF
    rw [hn] at hm1 hm2
    refine ⟨(seen,sv,.slice a112 (outs.length+1) Xf7,outs ++ [t ++ s0.drop a],i+1),⟨rfl,rfl,rfl,rfl,trivial⟩,⟨by (try dsimp only); omega,?_,?_,?_,?_⟩,by (try dsimp only); omega⟩
    ·(try dsimp only); rw [Y7,← hout,hls]
     show outs ++ ([t ++ s0.drop a] ++ _)=outs ++ ((X11 seen0 s0).2::X2m (X11 seen0 s0).1 (l.drop (i+1)))
     rw [← hm1,← hm2]; rfl
    ·(try dsimp only); rw [Y2]; simp only [Y3,Ye]; omega
    ·(try dsimp only); omega
    ·(try dsimp only); rw [Y18,show (outs ++ [t ++ s0.drop a]).length=outs.length+1 by simp]
     exact hS.drop (k:=0) rfl
   have hc35:=hb35; try simp only [Yf] at hc35
   refine .skip (.seq ?_)
   obtain ⟨x,L,hF⟩:=List.exists_cons_of_length_pos (l:=Xk (s0.drop a)) (by omega)
   have hx:=(show (Xk (s0.drop a))[0]?=some x by rw [hF]; rfl)
   obtain ⟨q2,hq2,_⟩:=X4o (cells:=tC) (s:=1) (fun _=>rfl) hS (k:=0) (by rw [X6t]; rfl) 0 x hx
   subst hq2
   have hxn:=X22 _ (s0.drop a) (Yd _) x (by rw [hF]; simp)
   have hxl:=X8i hxn
   obtain ⟨v1,u1,hu,hfu,hno,hmk⟩:=X41 _ seen (s0.drop a) x L (Yd _) hF
   have hul:=congrArg List.length hu
   rw [Y2,Y2] at hul
   have htl:=Xej hxn
   have hff:=X9c hF
   obtain ⟨sa,sc,rfl,hsc,_⟩:=hS.vecSlice (k:=1) rfl
   obtain ⟨q3,hsq⟩:=Xgn hS (k:=1) rfl
   have e14:List.take (((a:Int)+(x.length:Int)).toNat - (a:Int).toNat) (List.drop (a:Int).toNat s0)=(s0.drop a).take x.length:=by rw [show ((a:Int)+(x.length:Int)).toNat - (a:Int).toNat=x.length by omega]; rfl
   refine .t 1 rfl ?_
   first | refine WL.val (.indexAddr (.of rfl) (.of rfl) (by omega) (by omega) Xw Qs9) rfl ?_ | refine WL.val (.indexAddrI (.of rfl) (.of rfl) (by omega) (by omega) Xw Qs9) rfl ?_
   refine .val (.ld1 (v:=S x) (.of rfl) (X2a hS (k:=0) rfl hx) Qg9) rfl (.run 2 rfl ⟨Qu9,trivial⟩ (.nil (.seq (.seq (.quiet (by kernel_rfl) (by kernel_rfl) hS (.val (fun w hS=>(.move (.of rfl))) rfl (.val (fun w hS=>(.move (.of rfl))) rfl (.val (fun w hS=>(.move (.of rfl))) rfl (.val (fun w hS=>(.move (.of rfl))) rfl (.val (fun w hS=>(.add (.of rfl) (.of rfl) ⟨by omega,by omega⟩)) rfl (.val (fun w hS=>(.sub3 (.of rfl) (.of rfl) (.of rfl) (by omega) (by omega) (by omega) Qu9)) rfl (.val (fun w hS=>(.move (.of rfl))) rfl ?_))))))))))))
   refine WQ.val (fun w hS=>(by first | exact .indexAddr (.of rfl) (.of rfl) (by omega) (by omega) Xw Qs9 | exact .indexAddrI (.of rfl) (.of rfl) (by omega) (by omega) Xw Qs9)) rfl ?_
   refine .val (fun w hS=>.ld1 (v:=S x) (.of rfl) (X2a hS (k:=0) rfl hx) Qg9) rfl (.val (fun w hS=>(.nes (.of rfl) (.of rfl))) rfl (.nil ?_))
   clear hS; intro w hS
   refine WC.cond rfl (fun hb54=>?_) (fun hb54=>?_)
   ·
    have hc54:=hb54; try simp only [Yf] at hc54
    refine .seq ?_
    have hh:X16 (s0.drop a)=0:=Decidable.byContradiction fun h=>hc54 (by rw [e14]; exact hff.1.2 h)
    refine .region (.run 5 rfl ⟨⟨by omega,by omega⟩,trivial⟩ (.val (.sub3 (.of rfl) (.of rfl) (.of rfl) (by omega) (by omega) (by omega) Qu9) rfl ?_))
    have e9:List.take (((a:Int)+1).toNat - (a:Int).toNat) (List.drop (a:Int).toNat s0)=(s0.drop a).take 1:=by rw [show ((a:Int)+1).toNat - (a:Int).toNat=1 by omega]; rfl
    rw [e9]
    have l9:((s0.drop a).take 1).length≤1:=by rw [Yi]; omega
    refine WL.run 2 rfl ⟨by (try simp only [Y2,Y3,Ye]); omega,trivial⟩ ?_
    refine .nil (.seq (.region (.run 3 rfl ⟨⟨by omega,by omega⟩,trivial⟩ (.nil (.exit ?_)))))
    refine ⟨(seen,.slice sa seen.length sc,t ++ (s0.drop a).take 1,a+1),⟨rfl,rfl,rfl,rfl,rfl,rfl,rfl,trivial⟩,⟨by (try dsimp only); omega,?_,?_,by (try dsimp only); omega,?_,hS.drop (k:=0) rfl⟩,by (try dsimp only); omega⟩
    ·(try dsimp only); rw [← hm1,X4l seen hh,Yy]
    ·(try dsimp only); rw [← hm2,X4l seen hh,Yy,Y7]
    ·(try dsimp only); rw [Y2]; omega
   have hc54:=hb54; try simp only [Yf] at hc54
   refine .skip (.seq ?_)
   have hh:X16 (s0.drop a)≠0:=hff.1.1 (by rw [← e14]; exact hc54)
   obtain ⟨hxe,hxl2⟩:=hff.2 hh
   refine .q 1 rfl (.seq (.block (.loop (σ:=Nat) (fun k=>[(0,.slice (some q) l.length lc),(3,.slice sa seen.length sc),(4,ov),(5,I64 (i:Nat)),(6,S s0),(7,S t),(8,I64 (a:Nat)),(9,.slice (some q2) (Xk (s0.drop a)).length fc),(10,I64 (x.length:Nat)),(11,I64 (k:Nat))]) (fun k w=>k≤seen.length∧(∀ (j:Nat) y,j<k→seen[j]?=some y→x≠y)∧Sat B w I (Vec 9 1 (.slice (some q2) (Xk (s0.drop a)).length fc) (Xk (s0.drop a)).length ((Xk (s0.drop a)).map S)::Vec 9 1 (.slice sa seen.length sc) seen.length (seen.map S)::Vec 9 1 ov outs.length (outs.map S)::As)) (fun k=>seen.length - k) 0 ⟨rfl,rfl,rfl,rfl,rfl,rfl,rfl,rfl,rfl,rfl,trivial⟩ ⟨Y14 _,fun _ _ h=>absurd h (by omega),hS⟩ ?_)))
   rintro k w ⟨hk,hkn,hS⟩
   change WC _ _ _ _ [(0,.slice (some q) l.length lc),(3,.slice sa seen.length sc),(4,ov),(5,I64 (i:Nat)),(6,S s0),(7,S t),(8,I64 (a:Nat)),(9,.slice (some q2) (Xk (s0.drop a)).length fc),(10,I64 (x.length:Nat)),(11,I64 (k:Nat))] w
   refine .seq (.seq (.quiet (by kernel_rfl) (by kernel_rfl) hS (.val (fun w hS=>(.move (.of rfl))) rfl (.val (fun w hS=>(.move (.of rfl))) rfl (.val (fun w hS=>(.lenSlice (.of rfl) Xw)) rfl (.val (fun w hS=>(.lss (.of rfl) (.of rfl))) rfl (.val (fun w hS=>(.move (.of rfl))) rfl (.gval rfl rfl rfl (fun hg1 w hS=>(.move (.of rfl))) rfl (.gval rfl rfl rfl (fun hg1 w hS=>(.move (.of rfl))) rfl ?_)))))))))
   refine WQ.gval rfl rfl rfl (fun hg1 w hS=>Ex.ixV (q3:=q3) (.gd hg1 rfl) (.gd hg1 rfl) (by omega) (by simp only [decide_eq_true_eq] at hg1; omega) (hsq (by simp only [decide_eq_true_eq] at hg1; omega)) Xw Qs9) rfl ?_
   refine WQ.gval rfl rfl rfl (fun hg1 w hS=>.ld1 (v:=S (seen.getD k [])) (.gd hg1 rfl) (Xcs hS (k:=1) rfl (hsq (by simp only [decide_eq_true_eq] at hg1; omega)) (X7a (by simp only [decide_eq_true_eq] at hg1; omega))) Qg9) rfl ?_
   refine .gval rfl rfl rfl (fun hg1 w hS=>(.move (.of rfl))) rfl ?_
   refine WQ.gval rfl rfl rfl (fun hg1 w hS=>(by first | exact .indexAddr (.gd hg1 rfl) (.of rfl) (by (try simp only [Yf] at hg1); omega) (by (try simp only [Yf] at hg1); omega) Xw Qs9 | exact .indexAddrI (.gd hg1 rfl) (.of rfl) (by (try simp only [Yf] at hg1); omega) (by (try simp only [Yf] at hg1); omega) Xw Qs9)) rfl ?_
   refine .gval rfl rfl rfl (fun hg1 w hS=>.ld1 (v:=S x) (.gd hg1 rfl) (X2a hS (k:=0) rfl hx) Qg9) rfl (.gval rfl rfl rfl (fun hg1 w hS=>(.nes (.gd hg1 rfl) (.gd hg1 rfl))) rfl (.val (fun w hS=>(.pand (.of rfl) (.of rfl) (.of rfl))) rfl (.nil ?_)))
   clear hS; intro w hS
   refine WC.cond rfl (fun hb77=>?_) (fun hb77=>?_)
   ·
    have hc77:=hb77; try simp only [Yf] at hc77
    refine .skip (.block (.region (.run 3 rfl ⟨⟨by omega,by omega⟩,trivial⟩ (.nil ?_))))
    refine ⟨k+1,⟨rfl,rfl,rfl,rfl,rfl,rfl,rfl,rfl,rfl,rfl,trivial⟩,⟨by omega,fun j y hj hy e=>?_,hS⟩,by omega⟩
    rcases Y1c j k with h1 | h1
    ·exact hkn j y h1 hy e
    ·have ej:j=k:=by omega
     subst ej
     have hkl:=(Y0.1 hy).1
     rw [X7a hkl] at hy
     cases hy
     have h7:=hb77
     rw [← e] at h7
     simp at h7
   have hc77:=hb77; try simp only [Yf] at hc77
   refine .exit (.seq (.seq (.region (.run 4 rfl ⟨⟨_,Xw⟩,trivial⟩ (.nil ?_)))))
   refine WC.cond rfl (fun hb83=>?_) (fun hb83=>?_)
   ·
    have hc83:=hb83; try simp only [Yf] at hc83
    refine .t 2 rfl ?_
    first | refine WL.val (.indexAddr (.of rfl) (.of rfl) (by omega) (by omega) Xw Qs9) rfl ?_ | refine WL.val (.indexAddrI (.of rfl) (.of rfl) (by omega) (by omega) Xw Qs9) rfl ?_
    refine .val (.ld1 (v:=S x) (.of rfl) (X2a hS (k:=0) rfl hx) Qg9) rfl (.buildSlice (cs:=[_]) hS (X10 (.of rfl) X18) Xw Qs9 Qz9 rfl rfl rfl rfl ?_)
    clear hS; intro b88 w hS
    first | refine WL.append (size:=1) (bytes:=16) hS (.of rfl) (.of rfl) (k:=0) rfl Xw Xn rfl rfl rfl rfl rfl rfl rfl ⟨by omega,by unfold maxLen; omega⟩ rfl ?_ | refine WL.append (size:=1) (bytes:=16) hS (.of rfl) (.of rfl) (k:=1) rfl Xw Xn rfl rfl rfl rfl rfl rfl rfl ⟨by omega,by unfold maxLen; omega⟩ rfl ?_ | refine WL.append (size:=1) (bytes:=16) hS (.of rfl) (.of rfl) (k:=2) rfl Xw Xn rfl rfl rfl rfl rfl rfl rfl ⟨by omega,by unfold maxLen; omega⟩ rfl ?_
    clear hS; intro v89 w hS; try dsimp only [List.set] at hS
    first | obtain ⟨a89,c89,rfl,hcap89,_⟩:=hS.vecSlice (k:=0) (v:=v89) rfl | obtain ⟨a89,c89,rfl,hcap89,_⟩:=hS.vecSlice (k:=1) (v:=v89) rfl | obtain ⟨a89,c89,rfl,hcap89,_⟩:=hS.vecSlice (k:=2) (v:=v89) rfl
    refine .q 1 rfl (.nil (.seq (.t 1 rfl ?_)))
    first | refine WL.val (.indexAddr (.of rfl) (.of rfl) (by omega) (by omega) Xw Qs9) rfl ?_ | refine WL.val (.indexAddrI (.of rfl) (.of rfl) (by omega) (by omega) Xw Qs9) rfl ?_
    refine .val (.ld1 (v:=S x) (.of rfl) (X2a hS (k:=0) rfl hx) Qg9) rfl (.call Qf22 rfl (X1 (.of rfl) X6) rfl (X45 x (by omega) B _ I _ hS) ?_)
    clear hS
    rintro _ w ⟨rfl,hS⟩
    refine .q 7 rfl (.nil (.seq (.t 2 rfl (.call Qf23 rfl (X1 (.of rfl) X6) rfl (X37 x hxn B _ I _ hS) ?_))))
    clear hS
    rintro _ w ⟨rfl,hS⟩
    refine WL.run 3 rfl ⟨by (try simp only [Y2,Y3,Ye]); omega,by (try simp only [Y2,Y3,Ye]); omega,trivial⟩ ?_
    refine .call Tryz.func24 rfl (X1 (.of rfl) X6) rfl (X6e k (by omega) B _ I _ hS) ?_
    clear hS
    rintro _ w ⟨rfl,hS⟩
    have hdl:=Y1z (Y3r (Go.Lib.decDigits_length k)) (Go.Lib.nDigits_le20 _ (by omega))
    refine WL.run 2 rfl ⟨by (try simp only [Y2,Y3,Ye]); omega,trivial⟩ ?_
    refine .nil (.region (.run 4 rfl ⟨⟨by omega,by omega⟩,trivial⟩ (.nil ?_)))
    have hxs:x ∉ seen:=fun h=>by
     obtain ⟨j,hj⟩:=Y33 h
     exact hkn j x (by have:=(Y0.1 hj).1; omega) hj rfl
    have hgr:grow seen x=seen ++ [x]:=by unfold grow; rw [if_neg hxs]
    have hsg:Xbz seen x=tag x ++ 35::Go.Lib.decDigits k:=by unfold Xbz; rw [List.idxOf_eq_length hxs,show seen.length=k by omega]
    have hmy:X11 seen (s0.drop a)=((X11 (grow seen x) ((s0.drop a).drop x.length)).1,Xbz seen x ++ (X11 (grow seen x) ((s0.drop a).drop x.length)).2):=by rw [X7g seen hh,← hxe,← hxl2]
    rw [hgr,hsg] at hmy
    refine ⟨(seen ++ [x],.slice a89 (seen.length+1) c89,(((t ++ tag x) ++ [35]) ++ Go.Lib.decDigits k),a+x.length),⟨rfl,rfl,rfl,rfl,rfl,rfl,rfl,trivial⟩,⟨by (try dsimp only); omega,?_,?_,?_,?_,?_⟩,by (try dsimp only); omega⟩
    ·(try dsimp only); rw [← hm1,hmy,Yy]
    ·(try dsimp only); rw [← hm2,hmy,Yy]; simp [Y7]
    ·(try dsimp only); (try rw [Y2]); (try simp only [Y3,Ye]); omega
    ·(try dsimp only); simp only [Y2,Y3,Ye]; omega
    ·(try dsimp only); rw [Y18,show (seen ++ [x]).length=seen.length+1 by simp]
     exact hS.drop (k:=0) rfl
   have hc83:=hb83; try simp only [Yf] at hc83
   refine .skip (.seq (.t 1 rfl ?_))
   first | refine WL.val (.indexAddr (.of rfl) (.of rfl) (by omega) (by omega) Xw Qs9) rfl ?_ | refine WL.val (.indexAddrI (.of rfl) (.of rfl) (by omega) (by omega) Xw Qs9) rfl ?_
   refine .val (.ld1 (v:=S x) (.of rfl) (X2a hS (k:=0) rfl hx) Qg9) rfl (.call Qf22 rfl (X1 (.of rfl) X6) rfl (X45 x (by omega) B _ I _ hS) ?_)
   clear hS
   rintro _ w ⟨rfl,hS⟩
   refine .q 7 rfl (.nil (.seq (.t 2 rfl (.call Qf23 rfl (X1 (.of rfl) X6) rfl (X37 x hxn B _ I _ hS) ?_))))
   clear hS
   rintro _ w ⟨rfl,hS⟩
   refine WL.run 3 rfl ⟨by (try simp only [Y2,Y3,Ye]); omega,by (try simp only [Y2,Y3,Ye]); omega,trivial⟩ ?_
   refine .call Tryz.func24 rfl (X1 (.of rfl) X6) rfl (X6e k (by omega) B _ I _ hS) ?_
   clear hS
   rintro _ w ⟨rfl,hS⟩
   have hdl:=Y1z (Y3r (Go.Lib.decDigits_length k)) (Go.Lib.nDigits_le20 _ (by omega))
   refine WL.run 2 rfl ⟨by (try simp only [Y2,Y3,Ye]); omega,trivial⟩ ?_
   refine .nil (.region (.run 4 rfl ⟨⟨by omega,by omega⟩,trivial⟩ (.nil ?_)))
   have hkl:k<seen.length:=by omega
   have hkx:seen.getD k []=x:=by
    have h7:=hb77
    rw [decide_eq_true (by omega),Y3w] at h7
    simpa using h7
   have hxs:x∈seen:=Yw (by rw [X7a hkl,hkx])
   have hix:seen.idxOf x=k:=by
    have h1:=Y2b hxs
    have h2:seen[seen.idxOf x]?=some x:=by rw [Yb h1,List.getElem_idxOf h1]
    rcases Y2v (seen.idxOf x) k with h | h | h
    ·exact absurd rfl (hkn _ x h h2)
    ·exact h
    ·have h3:=List.not_of_lt_findIdx (p:=(· == x)) (xs:=seen) (i:=k) h
     have h4:seen[k]?=some x:=by rw [X7a hkl,hkx]
     have h5:=(Y0.1 h4).2
     rw [h5] at h3; simp at h3
   have hgr:grow seen x=seen:=by unfold grow; rw [if_pos hxs]
   have hsg:Xbz seen x=tag x ++ 35::Go.Lib.decDigits k:=by unfold Xbz; rw [hix]
   have hmy:X11 seen (s0.drop a)=((X11 (grow seen x) ((s0.drop a).drop x.length)).1,Xbz seen x ++ (X11 (grow seen x) ((s0.drop a).drop x.length)).2):=by rw [X7g seen hh,← hxe,← hxl2]
   rw [hgr,hsg] at hmy
   refine ⟨(seen,.slice sa seen.length sc,(((t ++ tag x) ++ [35]) ++ Go.Lib.decDigits k),a+x.length),⟨rfl,rfl,rfl,rfl,rfl,rfl,rfl,trivial⟩,⟨by (try dsimp only); omega,?_,?_,?_,?_,?_⟩,by (try dsimp only); omega⟩
   ·(try dsimp only); rw [← hm1,hmy,Yy]
   ·(try dsimp only); rw [← hm2,hmy,Yy]; simp [Y7]
   ·(try dsimp only); (try rw [Y2]); (try simp only [Y3,Ye]); omega
   ·(try dsimp only); simp only [Y2,Y3,Ye]; omega
   ·(try dsimp only); 
    exact hS.drop (k:=0) rfl
  have hc28:=hb28; try simp only [Yf] at hc28
  refine .exit (.t 2 rfl (.buildSlice (cs:=[_]) hS (X10 (.of rfl) X18) Xw Qs9 Qz9 rfl rfl rfl rfl ?_))
  clear hS; intro b111 w hS
  first | refine WL.append (size:=1) (bytes:=16) hS (.of rfl) (.of rfl) (k:=0) rfl Xw Xn rfl rfl rfl rfl rfl rfl rfl ⟨by omega,by unfold maxLen; omega⟩ rfl ?_ | refine WL.append (size:=1) (bytes:=16) hS (.of rfl) (.of rfl) (k:=1) rfl Xw Xn rfl rfl rfl rfl rfl rfl rfl ⟨by omega,by unfold maxLen; omega⟩ rfl ?_
  clear hS; intro v112 w hS; try dsimp only [List.set] at hS
  first | obtain ⟨a112,Xf7,rfl,hcap112,_⟩:=hS.vecSlice (k:=0) (v:=v112) rfl | obtain ⟨a112,Xf7,rfl,hcap112,_⟩:=hS.vecSlice (k:=1) (v:=v112) rfl
  refine .q 1 rfl (.nil (.region (.run 3 rfl ⟨⟨by omega,by omega⟩,trivial⟩ (.nil ?_))))
  have hn:X11 seen (s0.drop a)=(seen,[]):=by rw [show a=s0.length by omega,Y1r]; rfl
  rw [hn] at hm1 hm2
  rw [Y1d] at hm2
  refine ⟨(seen,sv,.slice a112 (outs.length+1) Xf7,outs ++ [t],i+1),⟨rfl,rfl,rfl,rfl,trivial⟩,⟨by (try dsimp only); omega,?_,?_,?_,?_⟩,by (try dsimp only); omega⟩
  ·(try dsimp only); rw [Y7,← hout,hls]
   show outs ++ ([t] ++ _)=outs ++ ((X11 seen0 s0).2::X2m (X11 seen0 s0).1 (l.drop (i+1)))
   rw [← hm1,← hm2]; rfl
  ·(try dsimp only); rw [Y2]; simp only [Y3,Ye]; omega
  ·(try dsimp only); omega
  ·(try dsimp only); rw [Y18,show (outs ++ [t]).length=outs.length+1 by simp]
   exact hS
 have hc18:=hb18; try simp only [Yf] at hc18
 refine .exit (.seq (.q 2 rfl (.ret (X38 Tryz.results9 rfl ?_))))
 rw [show i=l.length by omega,Y1r] at hout
 rw [show X2m seen0 []=[] by cases seen0 <;> rfl,Y1d] at hout
 rw [← hout]
 exact ⟨_,rfl,hS.drop (k:=0) rfl⟩
theorem X8j:∀ (l seen:List (List UInt8)),(X2m seen l).length=l.length
 | [],seen=>by cases seen <;> rfl
 | s::l,seen=>by rw [X2m,Y3,Y3,X8j l]
theorem X4s (told:List (List UInt8)) (ta:Option Addr) (tc:Nat) (htm:told.length≤9223372036854775807) (l:List (List UInt8)) (la:Option Addr) (lc:Nat) (hlm:l.length≤9223372036854775807) (s:List UInt8) (B w:World) (I:Im) (hK:K26 I) (hTt:RS I ta 1 told.length (told.map S)) (hTl:RS I la 1 l.length (l.map S)) (As:List Xe) (hS:Sat B w I As) :
  Calls Tryz.prog 3 [S s,.slice ta told.length tc,.slice la l.length lc].toArray w (Ret fun v w'=>v=.bool true∧∃ J,Le I J∧Sat B w' J As):=by
 refine calls Tryz.func3 rfl Tryz.ntmps3 rfl (.seq (.q 1 rfl (.seq (.region (.call Tryz.func4 rfl X6 rfl (X95 B _ I hK _ hS) ?_)))))
 clear hS
 rintro _ w ⟨rfl,hS⟩
 refine .q 1 rfl (.nil (.seq (.seq (.region (.run 4 rfl ⟨Qu9,trivial⟩ (.gval rfl rfl (fun hg1=>(.move (.of rfl))) rfl (.gval rfl rfl (fun hg1=>(.lenSlice (.gd hg1 rfl) Xw)) rfl (.gval rfl rfl (fun hg1=>(.gtr (.gd hg1 rfl) (.of rfl))) rfl (.val (.por (.of rfl) (.of rfl) (.of rfl)) rfl (.q 1 rfl (.gval rfl rfl (fun hg1=>(.move (.of rfl))) rfl (.gval rfl rfl (fun hg1=>(.lenSlice (.gd hg1 rfl) Xw)) rfl (.gval rfl rfl (fun hg1=>(.gtr (.gd hg1 rfl) (.of rfl))) rfl (.val (.por (.of rfl) (.of rfl) (.of rfl)) rfl (.nil ?_)))))))))))))))
 refine WC.cond rfl (fun hb23=>?_) (fun hb23=>?_)
 ·
  have hc23:=hb23; try simp only [Yf] at hc23
  refine .seq (.q 2 rfl (.ret (X38 Qr3 rfl ?_)))
  exact ⟨_,rfl,rfl,I,Le.refl _,hS⟩
 have hc23:=hb23; try simp only [Yf] at hc23
 refine .skip (.seq (.seq (.q 1 rfl (.block (.loop (σ:=Nat) (fun i=>[(0,S s),(1,.slice ta told.length tc),(2,.slice la l.length lc),(7,.bool true),(8,I64 (i:Nat))]) (fun i w=>i≤told.length∧(∀ (j:Nat) x,j<i→told[j]?=some x→x.length≤60)∧Sat B w I As) (fun i=>told.length - i) 0 ⟨rfl,rfl,rfl,rfl,rfl,trivial⟩ ⟨Y14 _,fun _ _ h=>absurd h (by omega),hS⟩ ?_)))))
 rintro i w ⟨hi,hall,hS⟩
 change WC _ _ _ _ [(0,S s),(1,.slice ta told.length tc),(2,.slice la l.length lc),(7,.bool true),(8,I64 (i:Nat))] w
 refine .seq (.seq (.region (.run 4 rfl ⟨⟨_,Xw⟩,trivial⟩ (.nil ?_))))
 refine WC.cond rfl (fun hb28=>?_) (fun hb28=>?_)
 ·
  have hc28:=hb28; try simp only [Yf] at hc28
  refine .skip (.seq (.block (.seq ?_)))
  obtain ⟨q,rfl,hq⟩:=hTt.2 (by omega)
  obtain ⟨x,hx⟩:∃ x,told[i]?=some x:=⟨_,Yb (by omega)⟩
  have hqx:((told.map S).drop ((i:Int).toNat*1))[0]?=some (S x):=by rw [Yp,Yh,Y1x,Yt,Yk,hx]; rfl
  refine .t 2 rfl ?_
  first | refine WL.val (.indexAddr (.of rfl) (.of rfl) (by omega) (by omega) Xw Qs9) rfl ?_ | refine WL.val (.indexAddrI (.of rfl) (.of rfl) (by omega) (by omega) Xw Qs9) rfl ?_
  refine .val (.ldI (v:=S x) (.of rfl) hS (hq.add _) Qg9 hqx) rfl (.run 2 rfl ⟨Qu9,trivial⟩ (.nil ?_))
  refine WC.cond rfl (fun hb36=>?_) (fun hb36=>?_)
  ·
   have hc36:=hb36; try simp only [Yf] at hc36
   refine .seq (.q 2 rfl (.ret (X38 Qr3 rfl ?_)))
   exact ⟨_,rfl,rfl,I,Le.refl _,hS⟩
  have hc36:=hb36; try simp only [Yf] at hc36
  refine .skip (.region (.run 3 rfl ⟨⟨by omega,by omega⟩,trivial⟩ (.nil ?_)))
  refine ⟨i+1,⟨rfl,rfl,rfl,rfl,rfl,trivial⟩,⟨by omega,fun j y hj hy=>?_,hS⟩,by omega⟩
  rcases Y1c j i with h1 | h1
  ·exact hall j y h1 hy
  ·have e:j=i:=by omega
   subst e
   rw [hx] at hy; cases hy
   omega
 have hc28:=hb28; try simp only [Yf] at hc28
 refine .exit (.seq (.seq ?_))
 have ht60:∀ x∈told,x.length≤60:=fun x hx=>by
  obtain ⟨j,hj⟩:=Y33 hx
  exact hall j x (by have:=(Y0.1 hj).1; omega) hj
 clear hall
 refine .q 1 rfl (.block (.loop (σ:=Nat) (fun i=>[(0,S s),(1,.slice ta told.length tc),(2,.slice la l.length lc),(7,.bool true),(9,I64 (i:Nat))]) (fun i w=>i≤l.length∧(∀ (j:Nat) x,j<i→l[j]?=some x→x.length≤300)∧Sat B w I As) (fun i=>l.length - i) 0 ⟨rfl,rfl,rfl,rfl,rfl,trivial⟩ ⟨Y14 _,fun _ _ h=>absurd h (by omega),hS⟩ ?_))
 rintro i w ⟨hi,hall,hS⟩
 change WC _ _ _ _ [(0,S s),(1,.slice ta told.length tc),(2,.slice la l.length lc),(7,.bool true),(9,I64 (i:Nat))] w
 refine .seq (.seq (.region (.run 4 rfl ⟨⟨_,Xw⟩,trivial⟩ (.nil ?_))))
 refine WC.cond rfl (fun hb41=>?_) (fun hb41=>?_)
 ·
  have hc41:=hb41; try simp only [Yf] at hc41
  refine .skip (.seq (.block (.seq ?_)))
  obtain ⟨q,rfl,hq⟩:=hTl.2 (by omega)
  obtain ⟨x,hx⟩:∃ x,l[i]?=some x:=⟨_,Yb (by omega)⟩
  have hqx:((l.map S).drop ((i:Int).toNat*1))[0]?=some (S x):=by rw [Yp,Yh,Y1x,Yt,Yk,hx]; rfl
  refine .t 2 rfl ?_
  first | refine WL.val (.indexAddr (.of rfl) (.of rfl) (by omega) (by omega) Xw Qs9) rfl ?_ | refine WL.val (.indexAddrI (.of rfl) (.of rfl) (by omega) (by omega) Xw Qs9) rfl ?_
  refine .val (.ldI (v:=S x) (.of rfl) hS (hq.add _) Qg9 hqx) rfl (.run 2 rfl ⟨Qu9,trivial⟩ (.nil ?_))
  refine WC.cond rfl (fun hb49=>?_) (fun hb49=>?_)
  ·
   have hc49:=hb49; try simp only [Yf] at hc49
   refine .seq (.q 2 rfl (.ret (X38 Qr3 rfl ?_)))
   exact ⟨_,rfl,rfl,I,Le.refl _,hS⟩
  have hc49:=hb49; try simp only [Yf] at hc49
  refine .skip (.region (.run 3 rfl ⟨⟨by omega,by omega⟩,trivial⟩ (.nil ?_)))
  refine ⟨i+1,⟨rfl,rfl,rfl,rfl,rfl,trivial⟩,⟨by omega,fun j y hj hy=>?_,hS⟩,by omega⟩
  rcases Y1c j i with h1 | h1
  ·exact hall j y h1 hy
  ·have e:j=i:=by omega
   subst e
   rw [hx] at hy; cases hy
   omega
 have hc41:=hb41; try simp only [Yf] at hc41
 refine .exit (.seq ?_)
 have hl300:∀ x∈l,x.length≤300:=fun x hx=>by
  obtain ⟨j,hj⟩:=Y33 hx
  exact hall j x (by have:=(Y0.1 hj).1; omega) hj
 clear hall
 refine .t 2 rfl (.opn rfl rfl rfl (.val (.move (.of rfl)) rfl (.opn rfl rfl rfl (.val (.move (.of rfl)) rfl (.opn rfl rfl rfl (.call Tryz.func5 rfl (X1 (.of rfl) (X1 (.of rfl) X6)) rfl (Xew s told ta tc (by omega) (by omega) ht60 B _ I hTt _ hS) ?_))))))
 clear hS
 rintro _ w ⟨rfl,hS⟩
 refine .opn rfl rfl rfl (.val (.move (.of rfl)) rfl (.opn rfl rfl rfl (.val (.move (.of rfl)) rfl (.opn rfl rfl rfl (.call Tryz.func6 rfl (X1 (.of rfl) (X1 (.of rfl) X6)) rfl (X9s s told ta tc (by omega) (by omega) ht60 B _ I hTt _ hS) ?_)))))
 clear hS
 rintro _ w ⟨rfl,hS⟩
 refine .opn rfl rfl rfl (.val (.eqs (.of rfl) (.of rfl)) rfl ?_)
 rw [beq_self_eq_true]
 refine .val (.pick (.of rfl) (.of rfl) (.of rfl)) rfl (.q 1 rfl (.opn rfl rfl rfl (.val (.move (.of rfl)) rfl (.opn rfl rfl rfl (.call Tryz.func8 rfl (X1 (.of rfl) X6) rfl (Xex l la lc (by omega) hl300 B _ I hK.kn hK.pre hTl _ hS) ?_)))))
 clear hS
 rintro v63 w hS
 obtain ⟨m1a,m1c,rfl,hm1c,_⟩:=hS.vecSlice (k:=0) rfl
 obtain ⟨J1,hJ1,hR1,hT1⟩:=hS.freezeVec (k:=0) rfl
 clear hS
 have hS:=hT1
 clear hT1
 try dsimp only [List.eraseIdx] at hS
 refine .opn rfl rfl rfl (.val (.move (.of rfl)) rfl (.opn rfl rfl rfl (.call Tryz.func9 rfl (X1 (.of rfl) X6) rfl (X9t l la lc (by omega) hl300 B _ J1 (hTl.mono hJ1) _ hS) ?_)))
 clear hS
 rintro v65 w hS
 obtain ⟨m2a,m2c,rfl,hm2c,_⟩:=hS.vecSlice (k:=0) rfl
 obtain ⟨J2,hJ2,hR2,hT2⟩:=hS.freezeVec (k:=0) rfl
 clear hS
 have hS:=hT2
 clear hT2
 try dsimp only [List.eraseIdx] at hS
 refine .opn rfl rfl rfl ?_
 refine WL.call Tryz.func7 rfl (X1 (.of rfl) (X1 (.of rfl) X6)) rfl (Xce m1a m2a m1c m2c (X2m [] l) (X2m [] l) hm1c hm2c (by rw [X8j]; omega) B _ J2 (hR1.mono hJ2) hR2 _ hS) ?_
 clear hS
 rintro _ w ⟨rfl,hS⟩
 rw [decide_eq_true rfl]
 refine .val (.pick (.of rfl) (.of rfl) (.of rfl)) rfl (.q 1 rfl (.nil (.ret (X38 Qr3 rfl ?_))))
 exact ⟨_,rfl,rfl,J2,hJ1.trans hJ2,hS⟩
end Go.Proofs.YtokmddjcdfailaaGreatDoor
namespace Gk
open Go Go.RowKit Go.WideShapes Go.ChangeShapes
section
variable {H:Type} {enc:TypeId×Value→H}
def WitT (enc:TypeId×Value→H) (a:Assume) (C:Checked) (os:Os) (f:FuncId) (fn:Func) (s:ChangeSpec) (conds:List PathCond) (apart:Bool) (X:World→Array Value→Prop):Prop :=
  ∃ (w:World) (tape:Tape) (i:Input),w.os=os∧(w.forCall tape i).Shaped C.prog∧i.vars=[]∧Input.okWide C.prog (w.forCall tape i) .any w.heap.size f i ∧
   ((s.pre enc C.prog fn conds apart (w.forCall tape i).memory i.args∧X (w.forCall tape i).memory i.args)∧sizedMet enc C.prog fn (OpenSpec.ofChange s) apart (w.forCall tape i).memory i.args)∧a.holds C.prog (lone (Frame.enter C.prog f i.args .normal) [] (w.forCall tape i))
theorem X3s {a:Assume} {C:Checked} {os:Os} {f:FuncId} {fn:Func} {s:ChangeSpec} {conds:List PathCond} {apart fresh handsOn again:Bool} {X:World→Array Value→Prop}
  (hX:∀ (w w':World) (args:Array Value),w.heap=w'.heap→X w args→X w' args)
  (own:ownKnob C.prog.godebug=none) (started:os.Started) (noInit:C.prog.inits.idxOf? f=none) (hfn:C.prog.funcs[f]?=some fn)
  (witness:WitT enc a C os f fn s conds apart X)
  (contract:∀ (W:World) (base:Nat) (args:Array Value) (ds gs:List (DataW H)) (before:List MemPlace),
   (∀ (j:Nat) t v,fn.params[j]?=some t→args[j]?=some v→Value.okWide C.prog W .any base t v) →
   DataW.Whole enc C.prog fn.params.toList s.vars apart W args.toList ds gs before→X W args→W.ShapedOpen C.prog →
   Calls C.prog f args W fun e W'=>∃ v,e=.returned v∧s.post enc C.prog fn apart fresh handsOn again W args v W') :
  ReturnsInHanded a C os f .any (fun w args=>(s.pre enc C.prog fn conds apart w args∧X w args)∧sizedMet enc C.prog fn (OpenSpec.ofChange s) apart w args) (s.post enc C.prog fn apart fresh handsOn again):=by
 refine returnsInHanded_of_calls own started noInit witness ?_
 intro w tape i _ hsh _ hok hpre _
 obtain ⟨_,_,_,fn',hfn',_,_,_,_,hval⟩:=hok
 have e:fn'=fn:=Option.some.inj (hfn'.symm.trans hfn)
 subst e
 obtain ⟨⟨⟨ds,gs,before,hw,hc⟩,hx⟩,hz⟩:=hpre
 have hw':=DataW.Whole.of_heap (w':=w.forCall tape i) (by rfl) hw
 refine (contract (w.forCall tape i) w.heap.size i.args ds gs before hval hw' (hX _ _ _ (by rfl) hx) hsh).mono fun e W' ⟨v,he,hp⟩=>?_
 subst he
 exact ChangeSpec.post_blind hp
end
section
variable {P:Program} {W:World}
theorem X1x {name:String} {k:IntKind} {zs:List Int} {g:Nat} {t e:TypeId} {n:Nat}
  (hg:P.globalNamed name=some g) (hty:(P.globals[g]?).map (·.type)=some t) (ht:P.underlying t=some (.array n e)) (he:P.underlying e=some (.int k)) (hce:P.cellsOf e=1) (hct:P.cellsOf t=n)
  (h:Lib.VarReads P W name (Lib.tabData k zs)):Lib.TabIs P W name k zs:=by
 obtain ⟨g',t',cs,fuel,p,hg',ht',hvar,hd⟩:=h
 obtain rfl:=Option.some.inj (hg.symm.trans hg')
 obtain rfl:=Option.some.inj (hty.symm.trans ht')
 unfold Lib.TabIs
 rw [hvar,← Lib.cells_of_tab ht he hce hct hd]
theorem Xei {name:String} {k:IntKind} {zs:List Int} {g:Nat} (hg:P.globalNamed name=some g) (h:Lib.TabIs P W name k zs) (h0:0<zs.length):At (im0 W) (ad g 0) (zs.map fun z=>.int k z):=by
 refine Xae (by rw [Yo]; exact h0) fun j v hj=>?_
 rw [Yk] at hj
 cases hz:zs[j]? with
 | none=>rw [hz] at hj; cases hj
 | some z =>
  rw [hz] at hj
  have hjl:=(Y0.1 hz).1
  have hc:=h.cell hg j hjl
  rw [Xo,Yq,hc,Y8,hz,← hj]
  rfl
variable {B w:World} {As:List Xe}
theorem X80 {b:Nat} {o:Obj} (h:W.heap[b]?=some o) (hS:Sat B w (im0 W) As):w.heap[b]?=some o:=by
 obtain ⟨_,_,hg⟩:=hS
 exact hg.imm b o h
theorem Xja {name:String} {k:IntKind} {zs:List Int} (h:Lib.TabIs P W name k zs) (hS:Sat B w (im0 W) As):Lib.TabIs P w name k zs:=by
 unfold Lib.TabIs World.var? at h ⊢
 cases hg:P.globalNamed name with
 | none=>rw [hg] at h; cases h
 | some g =>
  rw [hg] at h
  simp only [Y24] at h ⊢
  cases hb:W.heap[g]? with
  | none=>rw [hb] at h; cases h
  | some o =>
   rw [X80 hb hS]
   rw [hb] at h
   exact h
theorem Xf9 {a:Addr} {v:Value} (h:W.cell? a=some v) (hS:Sat B w (im0 W) As):w.cell? a=some v:=by
 unfold World.cell? at h ⊢
 cases hb:W.heap[a.block]? with
 | none=>rw [hb] at h; cases h
 | some o=>rw [X80 hb hS]; rw [hb] at h; exact h
end
end Gk
namespace Go.Proofs.YtokmddjcdfailaaGreatDoor
open Gk Pc Xm Tk Sc Go.ChangeMaps Go.ChangeShapes Go.RowKit
theorem Xbp:Rows.laid_matricula_pct_digits (H:=Unit)=Lib.tabData .u8 (HIGH.map fun c=>(c.toNat:Int)):=by kernel_rfl
theorem Xiv:Rows.laid_internal_strconv_uint64pow10 (H:=Unit)=Lib.tabData .u64 Lib.pow10Tab:=by kernel_rfl
def X7r {H:Type} (zs:List (List UInt8)):DataW H:=.agg (zs.map fun z=>.lit (.string z))
theorem Xj0:Rows.laid_matricula_ticket_prefixes (H:=Unit)=X7r PREV:=by kernel_rfl
theorem X68 {H:Type} {enc:TypeId×Value→H} {P:Program} {w:World} {base:Nat} {sp:Nat→Bool} {held:Bool} {fuel:Nat} {t e:TypeId} {n:Nat} {cs:List Value} {zs:List (List UInt8)} {p:List MemPlace}
  (ht:P.underlying t=some (.array n e)) (he:P.underlying e=some .string) (hce:P.cellsOf e=1) (hct:P.cellsOf t=n)
  (h:DataW.trod enc P w base sp held fuel t cs=some (X7r zs,p)):cs=zs.map S:=by
 cases fuel with
 | zero=>simp [DataW.trod] at h
 | succ fuel =>
  simp only [DataW.trod,ht,hce,hct,Y1x] at h
  split at h
  ·rename_i hl
   obtain ⟨xs,hm,hx⟩:=Y13.1 h
   have hxs:xs.map (·.1)=zs.map fun z=>(DataW.lit (.string z):DataW H):=by
    have:=congrArg Prod.fst hx
    simpa [X7r] using this
   have hxl:xs.length=n:=by simpa using Lib.mapM_length hm
   have hzl:zs.length=n:=by
    have:=congrArg List.length hxs
    simp at this
    omega
   apply Y17
   intro i
   by_cases hi:i<n
   ·obtain ⟨b,hb,hf⟩:=Lib.mapM_at hm i i (by simp [hi])
    obtain ⟨z,hc,rfl,_⟩:=DataW.trod_string he hf
    have h1:cs[i]?=some (.string z):=by
     have:=congrArg (·[0]?) hc
     simpa [Y12,Yp] using this
    have h2:(xs.map (·.1))[i]?=some (DataW.lit (.string z.data.toList):DataW H):=by simp [hb]
    rw [hxs] at h2
    simp only [Yk,Y13,DataW.lit.injEq,Lit.string.injEq] at h2
    obtain ⟨z',hz',e'⟩:=h2
    rw [h1,Yk,hz',e']
    rfl
   ·rw [Y15 (by omega),Y15 (by simp; omega)]
  ·cases h
theorem Xix {W : World} (h : Lib.VarReads Tryz.prog W "matricula/ticket.prefixes" Rows.laid_matricula_ticket_prefixes) : PreAt (im0 W) := by
 rw [Xj0] at h
 obtain ⟨g',t',cs,fuel,p,hg',ht',hvar,hd⟩:=h
 obtain rfl := Option.some.inj ((show Tryz.prog.globalNamed "matricula/ticket.prefixes" = some 0 by kernel_rfl).symm.trans hg')
 obtain rfl:=Option.some.inj ((show (Tryz.prog.globals[0]?).map (·.type)=some 79 by kernel_rfl).symm.trans ht')
 have hcs:=X68 Qu79 Qu9 (by kernel_rfl) (by kernel_rfl) hd
 refine Xae (by decide) fun j v hj=>?_
 have h2:=World.var?_cell hg' hvar j
 rw [Xo,Yq]
 rw [← Y2x,hcs,hj] at h2
 exact h2
theorem X25 {W:World} {sp:Nat→Bool} {held:Bool} {fuel:Nat} {cs:List Value} {y:DataW Unit×List MemPlace} {a b:List UInt8} (h:DataW.trod (fun _=>()) Tryz.prog W 0 sp held fuel 98 cs=some y) (hy:y.1=.agg [.lit (.string a),.lit (.string b)]):cs=[S a,S b]:=by
 obtain ⟨xs,n,_,hx,hcl,hxl,hf⟩:=DataW.trod_struct Tryz.underlying98 h
 rw [show Tryz.prog.cellsOf 98=2 from by kernel_rfl] at hcl
 have h0:DataW.trod (fun _=>()) Tryz.prog W 0 sp held n 9 ((cs.drop 0).take (Tryz.prog.cellsOf 9))=xs[0]?:=hf 0 _ rfl
 have h1:DataW.trod (fun _=>()) Tryz.prog W 0 sp held n 9 ((cs.drop 1).take (Tryz.prog.cellsOf 9))=xs[1]?:=hf 1 _ rfl
 rw [show Tryz.prog.cellsOf 9=1 from by kernel_rfl] at h0 h1
 have hxl2:xs.length=2:=hxl
 clear hf hxl h
 obtain ⟨u,v,rfl⟩:∃ u v,cs=[u,v]:=by
  match cs,hcl with
  | [u,v],_=>exact ⟨u,v,rfl⟩
 obtain ⟨x0,x1,rfl⟩:∃ u v,xs=[u,v]:=by
  match xs,hxl2 with
  | [u,v],_=>exact ⟨u,v,rfl⟩
 simp only [Yx,Y1i,List.take_succ_cons,List.take_zero] at h0 h1
 obtain ⟨s0,e0,ex0,_⟩:=DataW.trod_string Qu9 (h0.trans rfl)
 obtain ⟨s1,e1,ex1,_⟩:=DataW.trod_string Qu9 (h1.trans rfl)
 subst hx
 simp only [Yl,Y3a,DataW.agg.injEq,List.cons.injEq,and_true] at hy
 rw [ex0,ex1] at hy
 simp only [DataW.lit.injEq,Lit.string.injEq] at hy
 obtain ⟨rfl,rfl⟩:=hy
 injection e0 with e0; injection e1 with e1
 rw [e0,e1]
theorem X9j {W:World} {sp:Nat→Bool} {held:Bool} {fuel:Nat} {cs:List Value} {p:List MemPlace} (h:DataW.trod (fun _=>()) Tryz.prog W 0 sp held fuel 501 cs=some (Rows.laid_matricula_xml_marks,p)):cs=MKC:=by
 obtain ⟨xs,n,_,hx,hcl,hxl,hf⟩:=DataW.trod_array Tryz.underlying501 h
 rw [show Tryz.prog.cellsOf 501=10 from by kernel_rfl] at hcl
 rw [show Tryz.prog.cellsOf 98=2 from by kernel_rfl] at hf
 have hm:=congrArg Prod.fst hx
 unfold Rows.laid_matricula_xml_marks at hm
 match cs,hcl,xs,hxl with
 | [v0,v1,v2,v3,v4,v5,v6,v7,v8,v9],_,[x0,x1,x2,x3,x4],_ =>
  simp only [Yl,Y3a,DataW.agg.injEq,List.cons.injEq,and_true] at hm
  obtain ⟨m0,m1,m2,m3,m4⟩:=hm
  have f0:=X25 ((hf 0 (by decide)).trans rfl) m0.symm
  have f1:=X25 ((hf 1 (by decide)).trans rfl) m1.symm
  have f2:=X25 ((hf 2 (by decide)).trans rfl) m2.symm
  have f3:=X25 ((hf 3 (by decide)).trans rfl) m3.symm
  have f4:=X25 ((hf 4 (by decide)).trans rfl) m4.symm
  simp at f0 f1 f2 f3 f4
  obtain ⟨rfl,rfl⟩:=f0
  obtain ⟨rfl,rfl⟩:=f1
  obtain ⟨rfl,rfl⟩:=f2
  obtain ⟨rfl,rfl⟩:=f3
  obtain ⟨rfl,rfl⟩:=f4
  rfl
theorem Xfx {W : World} (h : Lib.VarReads Tryz.prog W "matricula/xml.marks" Rows.laid_matricula_xml_marks) : At (im0 W) (ad 7 0) MKC := by
 obtain ⟨g',t',cs,fuel,p,hg',ht',hvar,hd⟩:=h
 obtain rfl := Option.some.inj ((show Tryz.prog.globalNamed "matricula/xml.marks" = some 7 by kernel_rfl).symm.trans hg')
 obtain rfl:=Option.some.inj ((show (Tryz.prog.globals[7]?).map (·.type)=some 501 by kernel_rfl).symm.trans ht')
 have hcs:=X9j hd
 refine Xae (by decide) fun j v hj=>?_
 have h2:=World.var?_cell hg' hvar j
 rw [Xo,Yq]
 rw [← Y2x,hcs,hj] at h2
 exact h2
theorem Xe1:POWC=Lib.pow10Tab.map fun z=>Value.int .u64 z:=by kernel_rfl
def HLV:List Int:=[0,274646895,549293790,820201905,1098587580,1361435347,1640403810,1905808397,2197175160,2460548119,2722870694,2987750089,3280807620,3553878443,3811616794,4084100981]
theorem Xbu:Rows.laid_matricula_crc_halves (H:=Unit)=Lib.tabData .u32 HLV:=by kernel_rfl
theorem X8c:HVS=HLV.map fun z=>Value.int .u32 z:=by kernel_rfl
theorem Xfv {W : World} (h1 : Lib.VarReads Tryz.prog W "matricula/pct.digits" Rows.laid_matricula_pct_digits) (h2 : Lib.VarReads Tryz.prog W "internal/strconv.uint64pow10" Rows.laid_internal_strconv_uint64pow10) (h3 : Lib.VarReads Tryz.prog W "matricula/ticket.prefixes" Rows.laid_matricula_ticket_prefixes) (h4 : Lib.VarReads Tryz.prog W "matricula/xml.marks" Rows.laid_matricula_xml_marks) (h5 : Lib.VarReads Tryz.prog W "matricula/crc.halves" Rows.laid_matricula_crc_halves) (hsh : W.ShapedOpen Tryz.prog) : K26 (im0 W) := by
 rw [Xbp] at h1
 rw [Xiv] at h2
 rw [Xbu] at h5
 have t1:=X1x (g:=3) (by kernel_rfl) (by kernel_rfl) Tryz.underlying445 Qu5 (by kernel_rfl) (by kernel_rfl) h1
 have t2:=X1x (g:=2) (by kernel_rfl) (by kernel_rfl) Xhl Qu40 (by kernel_rfl) (by kernel_rfl) h2
 have t5:=X1x (g:=8) (by kernel_rfl) (by kernel_rfl) Tryz.underlying504 Xcd (by kernel_rfl) (by kernel_rfl) h5
 refine ⟨⟨Xei (g:=3) (by kernel_rfl) t1 (by decide),fun B w As hS=>Xja t2 hS,fun B w As hS=>?_⟩,Xix h3,?_,Xfx h4,?_⟩
 ·obtain ⟨m,hm⟩:=Go.Proofs.cell_of_shapedOpen_int (g:=1) (t:=3) (zero:=#[.int .i64 0]) (k:=.i64) hsh (by decide +kernel) (by kernel_rfl) (by kernel_rfl) (by kernel_rfl) (by kernel_rfl) Qu3
  exact ⟨m,Xf9 hm hS⟩
 ·rw [Xe1]; exact Xei (g:=2) (by kernel_rfl) t2 (by decide)
 ·unfold Xa8; rw [X8c]; exact Xei (g:=8) (by kernel_rfl) t5 (by decide)
theorem Xb5 {t:TypeId} {H:Type} {enc:TypeId×Value→H} {W:World} {spare:Nat→Bool} {held:Bool} {fuel:Nat} {cs:List Value} {x:DataW H×List MemPlace} (ht:Tryz.prog.underlying t=some .string) (h:DataW.trod enc Tryz.prog W 0 spare held fuel t cs=some x):∃ z:List UInt8,cs=tC z∧z.length≤9223372036854775807:=by
 obtain ⟨z,e,_,w⟩:=DataW.trod_string ht h
 subst e
 exact ⟨z.data.toList,rfl,w⟩
theorem X8m {α:Type} {cells:α→List Value} {c:Nat} {fit:α→Prop} {t e:TypeId} {H:Type} {enc:TypeId×Value→H} {W:World} {spare:Nat→Bool} {held:Bool} {fuel:Nat} {cs:List Value} {x:DataW H×List MemPlace} (ht:Tryz.prog.underlying t=some (.slice e)) (hc:Tryz.prog.cellsOf e=c) (hc0:0<c)
  (one:∀ n cs y,DataW.trod enc Tryz.prog W 0 spare held n e cs=some y→∃ z:α,cs=cells z∧fit z) (h:DataW.trod enc Tryz.prog W 0 spare held fuel t cs=some x) :
  ∃ (a:Option Addr) (cap:Nat) (l:List α),cs=[.slice a l.length cap]∧l.length≤cap∧cap≤maxLen∧RS (im0 W) a c l.length (X8r cells l)∧∀ z∈l,fit z:=by
 obtain ⟨a,cap,L,n,rfl,h1,h2,h3,h4,h5⟩:=Xdx ht hc hc0 h
 have key:∀ L:List (List Value),(∀ l∈L,∃ y,DataW.trod enc Tryz.prog W 0 spare held n e l=some y)→∃ l:List α,L=l.map cells∧∀ z∈l,fit z:=by
  intro L
  induction L with
  | nil=>intro _; exact ⟨[],rfl,fun z h=>by simp at h⟩
  | cons c L ih =>
   intro h
   obtain ⟨y,hy⟩:=h c (by simp)
   obtain ⟨z,rfl,hf⟩:=one n c y hy
   obtain ⟨l,rfl,e2⟩:=ih (fun c hc=>h c (by simp [hc]))
   exact ⟨z::l,rfl,fun u hu=>by
    rcases Y19.1 hu with e | hu
    ·subst e; exact hf
    ·exact e2 u hu⟩
 obtain ⟨l,rfl,hfit⟩:=key L h5
 rw [Yo] at h1 h4
 exact ⟨a,cap,l,by rw [Yo],h1,h2,h4,hfit⟩
end Go.Proofs.YtokmddjcdfailaaGreatDoor
namespace Go.Proofs.YtokmddjcdfailaaGreatDoor
open Go
theorem Xdh {P:Program} (h:P.funcs.any Func.goes=false) (f:FuncId):P.goes f=false:=by
 unfold Program.goes
 rw [h,Bool.and_false,Bool.or_false,List.any_eq_false]
 intro g _
 rw [Array.any_eq_false] at h
 cases e:P.funcs[g]? with
 | none=>simp
 | some fn =>
  obtain ⟨hlt,rfl⟩:=Yg.1 e
  simpa using h g hlt
theorem Xf3:Tryz.prog.funcs.any Func.goes=false:=by kernel_rfl
theorem Xid (c:OpenClaim) (h:(match c.start with | .entering=>true | _=>false)=true):false=c.goesBy Tryz.prog:=by
 unfold OpenClaim.goesBy Program.goesAt Program.goesFrom
 cases hs:c.start with
 | entering =>
  cases hf:Tryz.prog.funcNamed c.func with
  | none=>rfl
  | some f=>simp [Option.any,Xdh Xf3 f]
 | _=>rw [hs] at h; cases h
end Go.Proofs.YtokmddjcdfailaaGreatDoor
